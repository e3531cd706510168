/- dump: walks of data, Brief, the reference's Brief -/
import Derived.Test.YtnkdabjahmjdoaaDoorD2
import Derived.Test.YtnkdabjahmjdoaaDoorFu
import Derived.Test.YtnkdabjahmjdoaaDoorBld
import Derived.Test.YtnkdabjahmjdoaaDoorByt
namespace Go.Proofs.YtnkdabjahmjdoaaDoor.Mq
open Go Go.RowKit Go.Proofs

theorem hexT_snoc {s : List UInt8} {k : Nat} {c : UInt8} (h : s[k]? = some c) : hexT (s.take (k + 1)) = hexT (s.take k) ++ [hexDig (c.toNat / 16)] ++ [hexDig (c.toNat % 16)] := by
  unfold hexT
  rw [hexP_take h, hex2]; simp
theorem and15 (c : UInt8) : IntKind.u8.wrap ((BitVec.ofInt IntKind.u8.bits (c.toNat : Int) &&& BitVec.ofInt IntKind.u8.bits 15).toNat : Int) = ((c.toNat % 16 : Nat) : Int) :=
  and_eq (m := c.toNat) (n := 15) rfl rfl (UInt8.toNat_lt c) (by decide) (by
    have e : c.toNat &&& 15 = c.toNat % 16 := Nat.and_two_pow_sub_one_eq_mod c.toNat 4
    rw [e, wrapN8 (by omega) (by omega)])
theorem data_c (w : World) (s : List UInt8) (hs : s.length ≤ 1000000) :
    Calls Tryd.prog 30 [.string (bs s)].toArray w (fun e w' => e = .returned (.string (bs (hexT s))) ∧ Ext [] w w') := by
  refine calls (n := 25) Tryd.func30 rfl Tryd.ntmps30 rfl ?_
  refine CW.sub (H' := SH w [] []) ?_ (Sub.refl _) (fun x hx => SH.start' _ _ hx)
  refine CW.seq (CW.region ?_)
  refine RW.assign rfl rfl ?_
  refine RW.nil (EX.seq (CW.seq (CW.region ?_)))
  refine RW.allocA ag79 rfl (fun g3 hg3 hf3 => ?_)
  refine RW.nil (EX.seq (CW.seq ?_))
  -- mq: region
  refine CW.region ?_
  refine RW.callI (v := .nilIface) (H' := BldH w g3 [61]) rfl caWB rfl (fun w' hw' => writeByte_c w g3 [] 61 w' (BldH.start hg3 hw') (by decide)) ?_
  refine RW.nil (EX.seq (CW.seq (CW.seq (CW.region ?_))))
  refine RW.assign rfl rfl ?_
  refine RW.nil (EX.seq (CW.block ?_))
  -- mq: loop
  refine CW.loop (ι := Nat) (fun i => [(0, .string (bs s)), (3, .pointer (some ⟨g3, 0, none⟩)), (4, .int .i64 (i : Int))]) (fun i => BldH w g3 (hexT (s.take i))) (fun i => i ≤ s.length) (fun i => s.length - i) ?_ ?_
  · exact fun w' hw' => ⟨0, Nat.zero_le _, (by repeat (first | exact Sub.nil | refine Sub.cons (by rfl) ?_)), hw'⟩
  · rintro i hi
    have hl1 := hexP_len (s.take i)
    have hl3 : (s.take i).length = i := by rw [List.length_take]; omega
    have hl4 : (hexT (s.take i)).length = 2 * i + 1 := by unfold hexT; rw [List.length_cons, hl1, hl3]
    refine CW.seq (CW.seq (CW.region ?_))
    refine RW.move rfl rfl ?_
    refine RW.move rfl rfl ?_
    refine RW.lenS Tryd.underlying9 rfl rfl ?_
    refine RW.lss rfl rfl rfl ?_
    refine RW.nil (EX.seq ?_)
    -- mq: cond
    first | refine CW.condD rfl (fun hlt => ?_) (fun hlt => ?_) | refine CW.cond rfl (fun hlt => ?_) (fun hlt => ?_)
    · skip
      obtain ⟨c, hc⟩ : ∃ c, s[i]? = some c := ⟨s[i]'(by omega), List.getElem?_eq_getElem _⟩
      have hc8 := UInt8.toNat_lt c
      have hsn := hexT_snoc hc
      refine CW.skip (EX.seq (CW.seq (CW.block (CW.seq (CW.region ?_)))))
      refine RW.move rfl rfl ?_
      refine RW.move rfl rfl ?_
      refine RW.ixStr (q := i) Tryd.underlying9 rfl rfl rfl (by omega) hc ?_
      refine RW.shrN (r := ((c.toNat / 16 : Nat) : Int)) rfl rfl rfl (by decide) (by rfl) ?_
      refine RW.ixStr (q := c.toNat / 16) Tryd.underlying9 rfl rfl rfl (by omega) (hexL_at (c.toNat / 16) (by omega)) ?_
      refine RW.callI (v := .nilIface) (H' := BldH w g3 (hexT (s.take i) ++ [hexDig (c.toNat / 16)])) rfl caWB rfl (fun w' hw' => writeByte_c w g3 _ _ w' hw' (by omega)) ?_
      refine RW.nil (EX.seq ?_)
      -- mq: region
      refine CW.region ?_
      refine RW.move rfl rfl ?_
      refine RW.move rfl rfl ?_
      refine RW.ixStr (q := i) Tryd.underlying9 rfl rfl rfl (by omega) hc ?_
      refine RW.and_ (r := ((c.toNat % 16 : Nat) : Int)) rfl rfl rfl (and15 c) ?_
      refine RW.ixStr (q := c.toNat % 16) Tryd.underlying9 rfl rfl rfl (by omega) (hexL_at (c.toNat % 16) (by omega)) ?_
      refine RW.callI (v := .nilIface) (H' := BldH w g3 (hexT (s.take (i + 1)))) rfl caWB rfl (fun w' hw' => by rw [hsn]; exact writeByte_c w g3 _ _ w' hw' (by simp; omega)) ?_
      refine RW.nil (EX.bkN (EX.seq (CW.region ?_)))
      refine RW.move rfl rfl ?_
      refine RW.add rfl rfl rfl (wrap64 (by omega) (by omega)) ?_
      refine RW.assign rfl rfl ?_
      refine RW.nil ?_
      -- mq: loopend
      exact EX.lpN (i + 1) (by omega) (by omega) (by repeat (first | exact Sub.nil | refine Sub.cons (by rfl) ?_)) (fun w' hw' => hw')
    · skip
      have his : s.take i = s := List.take_of_length_le (by omega)
      rw [his]
      refine CW.exit (EX.seqE (EX.lpE (EX.bkE (EX.seq (CW.seq (CW.region ?_))))))
      -- mq: op 0: ('Op.call', ('Call.mk', ('Callee.value', ('Operand.func', '50')), ('arr', ('Operand.tmp', '3')), ('arr', '79'))) -> slot 24 ("dump.go:43")
      refine RW.callI (v := .string (bs (hexT s))) (H' := fun w' => Ext [] w w') rfl caBS rfl (fun w' hw' => bldString_c w g3 _ w' hw') ?_
      refine RW.assign rfl rfl ?_
      refine RW.nil (EX.seq (CW.ret ?_))
      refine EX.fin1 Tryd.results30 rfl (fun wz hw => ?_)
      -- mq: done
      exact ⟨rfl, hw⟩
theorem caFU : CaT Tryd.prog 23 := CaT.of Tryd.func23 (by kernel_rfl) (by kernel_rfl)
def dotC (c : UInt8) : UInt8 := if c.toNat < 32 ∨ c.toNat = 127 then 46 else c
theorem SH.byt_u8 {b : World} {S : List Nat} {cs : List Chunk} {w : World} (h : SH b S cs w) {g e : Nat} {L : List UInt8} (hc : Has cs (byt g e (EU8.all L))) {k : Nat} {a : UInt8} (hk : L[k]? = some a) : w.cell? ((⟨g, 0, none⟩ : Addr).add (k * 1)) = some (.int .u8 (a.toNat : Int)) := by
  rw [Addr.add_lit, Nat.zero_add]
  exact h.byt_cell hc (EU8.all_get (j := 0) hk rfl)
def dots (l : List UInt8) (i : Nat) : List UInt8 := (l.take i).map dotC ++ l.drop i
theorem dots_at {l : List UInt8} {i : Nat} {c : UInt8} (h : l[i]? = some c) : (dots l i)[i]? = some c := by
  have hlt := (List.getElem?_eq_some_iff.1 h).1
  unfold dots
  rw [List.getElem?_append_right (by rw [List.length_map, List.length_take]; omega), List.length_map, List.length_take, Nat.min_eq_left (by omega), Nat.sub_self, List.getElem?_drop]
  exact h
theorem dots_set {l : List UInt8} {i : Nat} {c : UInt8} (h : l[i]? = some c) : (dots l i).set i (dotC c) = dots l (i + 1) := by
  have hlt := (List.getElem?_eq_some_iff.1 h).1
  unfold dots
  rw [List.set_append_right _ _ (by rw [List.length_map, List.length_take]; omega), List.length_map, List.length_take, Nat.min_eq_left (by omega), Nat.sub_self, List.take_add_one, h]
  have hd : l.drop i = c :: l.drop (i + 1) := by
    rw [List.drop_eq_getElem_cons hlt, (List.getElem?_eq_some_iff.1 h).2]
  rw [hd]
  simp
theorem dots_len (l : List UInt8) (i : Nat) : (dots l i).length = l.length := by
  unfold dots
  rw [List.length_append, List.length_map, List.length_take, List.length_drop]; omega
theorem set_self {l : List UInt8} {i : Nat} {c : UInt8} (h : l[i]? = some c) : l.set i c = l := by
  obtain ⟨hlt, rfl⟩ := List.getElem?_eq_some_iff.1 h
  exact List.set_getElem_self hlt
def phW (n : Int) : List UInt8 := if 0 ≤ n ∧ n ≤ 4 then phaseW n else [63]
def brief1 (b : BlkV) : List UInt8 := [91] ++ Lib.decDigits b.id ++ [93, 32] ++ phW b.ph
def brief2 (b : BlkV) : List UInt8 := brief1 b ++ (if b.has = true then 32 :: Lib.itoa b.code else [])
def briefF (b : BlkV) : List UInt8 := brief2 b ++ (if b.line = [] then [] else 32 :: b.line.map dotC)
theorem phW_len (n : Int) : (phW n).length ≤ 8 := by unfold phW phaseW; repeat (first | decide | split)
theorem itoa_len {n : Int} (h : In64 n) : (Lib.itoa n).length ≤ 21 := Lib.itoa_length_le n h.1 h.2
theorem brief1_len {b : BlkV} (hb : b.Wf) : (brief1 b).length ≤ 40 := by
  have h1 := dec_len20 hb.id
  have h2 := phW_len b.ph
  simp only [brief1, List.length_append, List.length_cons, List.length_nil]; omega
theorem brief2_len {b : BlkV} (hb : b.Wf) : (brief2 b).length ≤ 70 := by
  have h1 := brief1_len hb
  have h2 := itoa_len hb.code
  unfold brief2
  rw [List.length_append]
  split <;> simp <;> omega
theorem brief_c (w : World) (hg : Gl w) (b : BlkV) (hb : b.Wf) (hl : b.line.length ≤ 1000000) :
    Calls Tryd.prog 12 [.agg b.cells.toArray].toArray w (fun e w' => e = .returned (.string (bs (briefF b))) ∧ Ext [] w w') := by
  have hd := dec_len20 hb.id
  have hp := phW_len b.ph
  have hc := itoa_len hb.code
  have hb1 := brief1_len hb
  have hb2 := brief2_len hb
  refine calls (n := 61) Tryd.func12 rfl Tryd.ntmps12 rfl ?_
  refine CW.sub (H' := SH w [] []) ?_ (Sub.refl _) (fun x hx => SH.start' _ _ hx)
  refine CW.seq (CW.region ?_)
  refine RW.boxA rfl rfl (fun g1 hg1 hf1 => ?_)
  refine RW.assign rfl rfl ?_
  refine RW.nil (EX.seq (CW.seq ?_))
  -- mq: region
  refine CW.region ?_
  refine RW.fieldB fl26x1 rfl rfl ?_
  refine RW.loadB1 sc3 rfl rfl (by first | exact Has.head | exact Has.tail Has.head | exact Has.tail (Has.tail Has.head) | exact Has.tail (Has.tail (Has.tail Has.head)) | exact Has.tail (Has.tail (Has.tail (Has.tail Has.head))) | exact Has.tail (Has.tail (Has.tail (Has.tail (Has.tail Has.head)))) | exact Has.tail (Has.tail (Has.tail (Has.tail (Has.tail (Has.tail Has.head)))))) rfl ?_
  refine RW.call rfl ca11 rfl (fun w' _ => phase_c w' b.ph) ?_
  refine RW.move rfl rfl ?_
  refine RW.extract rfl rfl rfl ?_
  refine RW.extract rfl rfl rfl ?_
  refine RW.assign rfl rfl ?_
  refine RW.assign rfl rfl ?_
  refine RW.nil (EX.seq (CW.seq ?_))
  -- mq: seq
  refine CW.join ([(1, .pointer (some ⟨g1, 0, none⟩)), (3, .string (bs (phW b.ph)))]) (SH w [] [blk g1 b.cells 26]) ?_ ?_
  · skip
    refine CW.seq (CW.region ?_)
    refine RW.move rfl rfl ?_
    refine RW.not_ rfl rfl ?_
    refine RW.nil (EX.seq ?_)
    -- mq: cond
    first | refine CW.condD rfl (fun h1 => ?_) (fun h1 => ?_) | refine CW.cond rfl (fun h1 => ?_) (fun h1 => ?_)
    · skip
      refine CW.region ?_
      refine RW.assign rfl rfl ?_
      refine RW.nil ?_
      -- mq: joinend
      rw [show phW b.ph = [63] from if_neg (of_decide_eq_false (nb_f h1))]
      exact EX.jn (by repeat (first | exact Sub.nil | refine Sub.cons (by rfl) ?_)) (fun _ h => h)
    · skip
      refine CW.skip ?_
      -- mq: joinend
      rw [show phW b.ph = phaseW b.ph from if_pos (of_decide_eq_true (nb_t h1))]
      exact EX.jn (by repeat (first | exact Sub.nil | refine Sub.cons (by rfl) ?_)) (fun _ h => h)
  · skip
    refine EX.seq (CW.seq (CW.region ?_))
    refine RW.fieldB fl26x0 rfl rfl ?_
    refine RW.loadB1 sc22 rfl rfl (by first | exact Has.head | exact Has.tail Has.head | exact Has.tail (Has.tail Has.head) | exact Has.tail (Has.tail (Has.tail Has.head)) | exact Has.tail (Has.tail (Has.tail (Has.tail Has.head))) | exact Has.tail (Has.tail (Has.tail (Has.tail (Has.tail Has.head)))) | exact Has.tail (Has.tail (Has.tail (Has.tail (Has.tail (Has.tail Has.head)))))) rfl ?_
    refine RW.call rfl caFU rfl (fun w' hw' => formatUint_c w' (hg.ext hw'.ext) b.id hb.id) ?_
    refine RW.catS rfl rfl rfl (by first | omega | (simp only [List.length_append, List.length_cons, List.length_nil]; omega)) ?_
    refine RW.catS rfl rfl rfl (by first | omega | (simp only [List.length_append, List.length_cons, List.length_nil]; omega)) ?_
    refine RW.move rfl rfl ?_
    refine RW.catS rfl rfl rfl (by first | omega | (simp only [List.length_append, List.length_cons, List.length_nil]; omega)) ?_
    refine RW.assign rfl rfl ?_
    refine RW.nil (EX.seq (CW.seq ?_))
    -- mq: seq
    refine CW.join ([(1, .pointer (some ⟨g1, 0, none⟩)), (5, .string (bs (brief2 b)))]) (SH w [] [blk g1 b.cells 26]) ?_ ?_
    · skip
      refine CW.seq (CW.region ?_)
      refine RW.fieldB fl26x8 rfl rfl ?_
      refine RW.loadB1 sc4 rfl rfl (by first | exact Has.head | exact Has.tail Has.head | exact Has.tail (Has.tail Has.head) | exact Has.tail (Has.tail (Has.tail Has.head)) | exact Has.tail (Has.tail (Has.tail (Has.tail Has.head))) | exact Has.tail (Has.tail (Has.tail (Has.tail (Has.tail Has.head)))) | exact Has.tail (Has.tail (Has.tail (Has.tail (Has.tail (Has.tail Has.head)))))) rfl ?_
      refine RW.nil (EX.seq ?_)
      -- mq: cond
      first | refine CW.condD rfl (fun h2 => ?_) (fun h2 => ?_) | refine CW.cond rfl (fun h2 => ?_) (fun h2 => ?_)
      · skip
        refine CW.region ?_
        refine RW.move rfl rfl ?_
        refine RW.fieldB fl26x7 rfl rfl ?_
        refine RW.loadB1 sc3 rfl rfl (by first | exact Has.head | exact Has.tail Has.head | exact Has.tail (Has.tail Has.head) | exact Has.tail (Has.tail (Has.tail Has.head)) | exact Has.tail (Has.tail (Has.tail (Has.tail Has.head))) | exact Has.tail (Has.tail (Has.tail (Has.tail (Has.tail Has.head)))) | exact Has.tail (Has.tail (Has.tail (Has.tail (Has.tail (Has.tail Has.head)))))) rfl ?_
        refine RW.call rfl caItoa rfl (fun w' hw' => itoa_c w' (hg.ext hw'.ext) b.code hb.code) ?_
        refine RW.catS rfl rfl rfl (by first | omega | (simp only [List.length_append, List.length_cons, List.length_nil]; omega)) ?_
        refine RW.catS rfl rfl rfl (by first | omega | (simp only [List.length_append, List.length_cons, List.length_nil]; omega)) ?_
        refine RW.assign rfl rfl ?_
        refine RW.nil ?_
        -- mq: joinend
        rw [brief2, if_pos h2]
        exact EX.jn (by repeat (first | exact Sub.nil | refine Sub.cons (by rfl) ?_)) (fun _ h => h)
      · skip
        refine CW.skip ?_
        -- mq: joinend
        rw [brief2, if_neg (by simp [h2]), List.append_nil]
        exact EX.jn (by repeat (first | exact Sub.nil | refine Sub.cons (by rfl) ?_)) (fun _ h => h)
    · skip
      refine EX.seq (CW.seq (CW.seq (CW.region ?_)))
      refine RW.fieldB fl26x11 rfl rfl ?_
      refine RW.loadB1 sc9 rfl rfl (by first | exact Has.head | exact Has.tail Has.head | exact Has.tail (Has.tail Has.head) | exact Has.tail (Has.tail (Has.tail Has.head)) | exact Has.tail (Has.tail (Has.tail (Has.tail Has.head))) | exact Has.tail (Has.tail (Has.tail (Has.tail (Has.tail Has.head)))) | exact Has.tail (Has.tail (Has.tail (Has.tail (Has.tail (Has.tail Has.head)))))) rfl ?_
      refine RW.neqS rfl rfl rfl ?_
      refine RW.nil (EX.seq ?_)
      -- mq: cond
      first | refine CW.condD rfl (fun h3 => ?_) (fun h3 => ?_) | refine CW.cond rfl (fun h3 => ?_) (fun h3 => ?_)
      · skip
        refine CW.seq (CW.region ?_)
        refine RW.fieldB fl26x11 rfl rfl ?_
        refine RW.loadB1 sc9 rfl rfl (by first | exact Has.head | exact Has.tail Has.head | exact Has.tail (Has.tail Has.head) | exact Has.tail (Has.tail (Has.tail Has.head)) | exact Has.tail (Has.tail (Has.tail (Has.tail Has.head))) | exact Has.tail (Has.tail (Has.tail (Has.tail (Has.tail Has.head)))) | exact Has.tail (Has.tail (Has.tail (Has.tail (Has.tail (Has.tail Has.head)))))) rfl ?_
        -- mq: at
        refine RW.strBytes Tryd.underlying9 Tryd.underlying53 Tryd.underlying5 rfl rfl hl (fun gb cb hgb hfb hcb1 hcb2 => ?_)
        refine RW.assign rfl rfl ?_
        refine RW.nil (EX.seq (CW.seq (CW.seq (CW.region ?_))))
        refine RW.move rfl rfl ?_
        refine RW.lenSl Tryd.underlying53 rfl rfl ?_
        refine RW.move rfl rfl ?_
        refine RW.nil (EX.seq (CW.block ?_))
        -- mq: loop
        refine CW.loop (ι := Nat) (fun i => [(1, .pointer (some ⟨g1, 0, none⟩)), (5, .string (bs (brief2 b))), (6, .slice (some ⟨gb, 0, none⟩) b.line.length cb), (38, .slice (some ⟨gb, 0, none⟩) b.line.length cb), (39, .int .i64 (b.line.length : Int)), (40, .int .i64 (i : Int))]) (fun i => SH w [] [byt gb 5 (EU8.all (dots b.line i)), blk g1 b.cells 26]) (fun i => i ≤ b.line.length) (fun i => b.line.length - i) ?_ ?_
        · exact fun w' hw' => ⟨0, Nat.zero_le _, (by repeat (first | exact Sub.nil | refine Sub.cons (by rfl) ?_)), hw'⟩
        · rintro i hi
          refine CW.seq (CW.region ?_)
          refine RW.lss rfl rfl rfl ?_
          refine RW.nil (EX.seq (CW.seq ?_))
          -- mq: cond
          first | refine CW.condD rfl (fun hlt => ?_) (fun hlt => ?_) | refine CW.cond rfl (fun hlt => ?_) (fun hlt => ?_)
          · skip
            obtain ⟨c, hc1⟩ : ∃ c, b.line[i]? = some c := ⟨b.line[i]'(by omega), List.getElem?_eq_getElem _⟩
            have hc8 := UInt8.toNat_lt c
            have hat := dots_at hc1
            have hset := dots_set hc1
            have hdl := dots_len b.line i
            have hsame : ¬ (c.toNat < 32 ∨ c.toNat = 127) → dots b.line i = dots b.line (i + 1) := fun hn => by
              rw [← hset, dotC, if_neg hn, set_self hat]
            have hnew : (c.toNat < 32 ∨ c.toNat = 127) → (EU8.all (dots b.line i)).set i (.int .u8 46) = EU8.all (dots b.line (i + 1)) := fun hn => by
              have := EU8.all_set (j := 0) (a' := 46) (v := .int .u8 46) hat (by decide) rfl
              rw [← hset, dotC, if_pos hn]
              rw [show i * EU8.sz + 0 = i from Nat.mul_one i] at this
              exact this
            refine CW.skip (EX.seq (CW.seq (CW.block (CW.seq (CW.region ?_)))))
            refine RW.move rfl rfl ?_
            refine RW.ixAddr (q := i) sl53 rfl rfl rfl (by first | rfl | assumption) (by omega) (by omega) ?_
            refine RW.load1 sc5 rfl rfl (fun w' hw' => hw'.byt_u8 Has.head hat) ?_
            refine RW.assign rfl rfl ?_
            refine RW.assign rfl rfl ?_
            refine RW.nil (EX.seq (CW.seq (CW.region ?_)))
            refine RW.move rfl rfl ?_
            refine RW.lss rfl rfl rfl ?_
            refine RW.move rfl rfl ?_
            -- mq: guard slot 47
            refine RW.casesB 47 rfl (fun h4 => ?_) (fun h4 => ?_)
            · skip
              have h4p := of_decide_eq_true h4
              refine RW.guardF rfl rfl rfl h4 ?_
              refine RW.guardF rfl rfl rfl h4 ?_
              refine RW.pickB rfl rfl h4 rfl ?_
              refine RW.nil (EX.seq ?_)
              -- mq: cond
              refine CW.condT rfl (rfl) ?_
              refine CW.region ?_
              refine RW.move rfl rfl ?_
              refine RW.move rfl rfl ?_
              refine RW.ixAddr (q := i) sl53 rfl rfl rfl (by first | rfl | assumption) (by omega) (by omega) ?_
              -- mq: at
              refine RW.storeByt (o := i) sc5 rfl rfl Upd.head (by rw [Addr.add_lit]; simp) rfl (by rw [EU8.all_length, hdl]; show i < b.line.length * 1; omega) ?_
              rw [hnew (.inl (by omega))]
              refine RW.nil (EX.bkN (EX.seq (CW.region ?_)))
              refine RW.add rfl rfl rfl (wrap64 (by omega) (by omega)) ?_
              refine RW.move rfl rfl ?_
              refine RW.nil ?_
              -- mq: loopend
              exact EX.lpN (i + 1) (by omega) (by omega) (by repeat (first | exact Sub.nil | refine Sub.cons (by rfl) ?_)) (fun w' hw' => hw')
            · skip
              have h4p := of_decide_eq_false h4
              refine RW.guardT rfl rfl h4 ?_
              refine RW.move rfl rfl ?_
              refine RW.guardT rfl rfl h4 ?_
              refine RW.eqlI rfl rfl rfl ?_
              refine RW.pickC rfl rfl h4 rfl ?_
              refine RW.nil (EX.seq ?_)
              -- mq: cond
              first | refine CW.condD rfl (fun h5 => ?_) (fun h5 => ?_) | refine CW.cond rfl (fun h5 => ?_) (fun h5 => ?_)
              · skip
                refine CW.region ?_
                refine RW.move rfl rfl ?_
                refine RW.move rfl rfl ?_
                refine RW.ixAddr (q := i) sl53 rfl rfl rfl (by first | rfl | assumption) (by omega) (by omega) ?_
                -- mq: at
                refine RW.storeByt (o := i) sc5 rfl rfl Upd.head (by rw [Addr.add_lit]; simp) rfl (by rw [EU8.all_length, hdl]; show i < b.line.length * 1; omega) ?_
                rw [hnew (.inr (by omega))]
                refine RW.nil (EX.bkN (EX.seq (CW.region ?_)))
                refine RW.add rfl rfl rfl (wrap64 (by omega) (by omega)) ?_
                refine RW.move rfl rfl ?_
                refine RW.nil ?_
                -- mq: loopend
                exact EX.lpN (i + 1) (by omega) (by omega) (by repeat (first | exact Sub.nil | refine Sub.cons (by rfl) ?_)) (fun w' hw' => hw')
              · skip
                refine CW.skip (EX.bkN (EX.seq (CW.region ?_)))
                refine RW.add rfl rfl rfl (wrap64 (by omega) (by omega)) ?_
                refine RW.move rfl rfl ?_
                refine RW.nil ?_
                -- mq: loopend
                exact EX.lpN (i + 1) (by omega) (by omega) (by repeat (first | exact Sub.nil | refine Sub.cons (by rfl) ?_)) (fun w' hw' => by rw [hsame (by omega)] at hw'; exact hw')
          · skip
            obtain rfl : i = b.line.length := by omega
            have hdm : dots b.line b.line.length = b.line.map dotC := by unfold dots; rw [List.take_length, List.drop_length, List.append_nil]
            have hml : (b.line.map dotC).length = b.line.length := List.length_map _
            rw [hdm]
            refine CW.exit (EX.seqE (EX.lpE (EX.bkE (EX.seq ?_))))
            -- mq: region
            refine CW.region ?_
            refine RW.move rfl rfl ?_
            refine RW.move rfl rfl ?_
            -- mq: at
            refine RW.bytesStr (s := b.line.map dotC) Tryd.underlying53 Tryd.underlying5 Tryd.underlying9 rfl rfl (fun w' hw' => by have := Rd.of_byt (E := EU8) hw' Has.head (c := cb) (by omega) hcb2; rwa [hml] at this) ?_
            refine RW.catS rfl rfl rfl (by first | omega | (simp only [List.length_append, List.length_cons, List.length_nil]; omega)) ?_
            refine RW.catS rfl rfl rfl (by first | omega | (simp only [List.length_append, List.length_cons, List.length_nil]; omega)) ?_
            refine RW.assign rfl rfl ?_
            refine RW.nil (EX.seq (CW.seq (CW.region ?_)))
            refine RW.move rfl rfl ?_
            refine RW.assign rfl rfl ?_
            refine RW.nil (EX.seq (CW.ret ?_))
            refine EX.fin1 Tryd.results12 rfl (fun wz hw => ?_)
            -- mq: done
            refine ⟨?_, hw.ext⟩
            rw [briefF, if_neg (by simpa using h3)]
            rfl
      · skip
        refine CW.skip (EX.seq (CW.seq (CW.region ?_)))
        refine RW.move rfl rfl ?_
        refine RW.assign rfl rfl ?_
        refine RW.nil (EX.seq (CW.ret ?_))
        refine EX.fin1 Tryd.results12 rfl (fun wz hw => ?_)
        -- mq: done
        exact ⟨by rw [briefF, if_pos (by simpa using h3), List.append_nil], hw.ext⟩
end Go.Proofs.YtnkdabjahmjdoaaDoor.Mq
