/- walk of Text -/
import Derived.Test.YtamchppifbilpaaDoorPmB1
namespace Go.Proofs.YtamchppifbilpaaDoor.Mq
open Go Go.RowKit Go.Proofs

theorem Text_c (w : World) (hg : Gl w) (F : Nat → Prop) (A : Option Addr) (n c : Nat) (gs : List (List Int)) (hr : RdG w F A n c gs) (hn : n ≤ 1000000) (hm : ∀ g ∈ gs, g.length ≤ 1000000) :
    Calls Tryd.prog 6 [.slice A n c].toArray w (fun e w' => e = .returned (.string (bs (textT (cleanF gs)))) ∧ Ext [] w w') := by
  have hcl := cleanF_clean gs
  refine calls (n := 40) Tryd.func6 rfl Tryd.ntmps6 rfl ?_
  refine CW.sub (H' := SH w [] []) ?_ (Sub.refl _) (fun x hx => SH.start' _ _ hx)
  refine CW.seq (CW.region ?_)
  refine RW.assign rfl rfl ?_
  refine RW.nil (EX.seq (CW.seq (CW.region ?_)))
  refine RW.assign rfl rfl ?_
  refine RW.nil (EX.seq (CW.seq (CW.seq ?_)))
  -- mq: region
  refine CW.ownNil 9 1 ?_
  refine CW.region ?_
  refine RW.move rfl rfl ?_
  -- mq: at
  refine RW.callA (R := fun w0 => IsG (cleanF gs) w0) rfl ca11 rfl (fun w' hw' => (Clean_c w' F A n c gs (hr.ext hw'.ext (by simp)) hn hm).mono (fun e w'' h => h.toA)) ?_
  rintro w0 w1 v hw0 he01 hw1 hlt ⟨A1, n1, c1, rfl, hrd1⟩
  have hx0 : Ext [] w w1 := hw0.ext.trans0 he01
  have hn1 := hrd1.len
  have hg1 := hg.ext hx0
  have hf0 : feet [own 9 1 (.slice none 0 0) 0 []] = [] := by simp [feet, own, Value.ownBlock]
  rw [hf0]
  generalize hC : cleanF gs = cl at *
  have hcn := hcl.len
  refine RW.lenSl Tryd.underlying22 rfl rfl ?_
  refine RW.move rfl rfl ?_
  refine RW.nil (EX.seq (CW.block ?_))
  -- mq: loop
  refine CW.loop (ι := Nat × Value) (fun t => [(3, t.2), (11, .slice A1 n1 c1), (12, .int .i64 (n1 : Int)), (13, .int .i64 (t.1 : Int))]) (fun t => SH w1 [] [own 9 1 t.2 t.1 (EStr.all ((cl.take t.1).map groupT))]) (fun t => t.1 ≤ n1) (fun t => n1 - t.1) ?_ ?_
  · exact fun w' hw' => ⟨(0, .slice none 0 0), Nat.zero_le _, (by repeat (first | exact Sub.nil | refine Sub.cons (by rfl) ?_)), hw'⟩
  · rintro ⟨k, v⟩ hk
    dsimp only at hk ⊢
    refine CW.seq (CW.region ?_)
    refine RW.lss rfl rfl rfl ?_
    refine RW.nil (EX.seq (CW.seq ?_))
    -- mq: cond
    first | refine CW.condD rfl (fun hlt2 => ?_) (fun hlt2 => ?_) | refine CW.cond rfl (fun hlt2 => ?_) (fun hlt2 => ?_)
    · skip
      obtain ⟨g, hgk⟩ : ∃ g, cl[k]? = some g := ⟨cl[k]'(by omega), List.getElem?_eq_getElem _⟩
      obtain ⟨ad, B, m, d, hA, _, hcell, hrd⟩ := hrd1.at_ hgk
      obtain ⟨hg0, hg8, hgc⟩ := hcl.each g (List.mem_of_getElem? hgk)
      have hgm := hrd.len
      refine CW.skip (EX.seq (CW.seq (CW.block (CW.seq (CW.region ?_)))))
      refine RW.ixAddr (q := k) sl22 rfl rfl rfl hA (by omega) (by omega) ?_
      refine RW.load1 sc29 rfl rfl (fun w' hw' => hw'.base_cell hcell (by simp)) ?_
      refine RW.assign rfl rfl ?_
      refine RW.nil (EX.seq (CW.seq (CW.region ?_)))
      refine RW.assign rfl rfl ?_
      refine RW.nil (EX.seq (CW.seq (CW.seq ?_)))
      -- mq: region
      refine CW.ownNil 9 1 ?_
      refine CW.region ?_
      refine RW.move rfl rfl ?_
      refine RW.lenSl Tryd.underlying29 rfl rfl ?_
      refine RW.move rfl rfl ?_
      refine RW.nil (EX.seq (CW.block ?_))
      -- mq: loop
      refine CW.loop (ι := Nat × Value) (fun t => [(3, v), (6, t.2), (11, .slice A1 n1 c1), (12, .int .i64 (n1 : Int)), (13, .int .i64 (k : Int)), (17, .slice B m d), (18, .int .i64 (m : Int)), (19, .int .i64 (t.1 : Int))]) (fun t => SH w1 [] [own 9 1 t.2 t.1 (EStr.all ((g.take t.1).map numT)), own 9 1 v k (EStr.all ((cl.take k).map groupT))]) (fun t => t.1 ≤ m) (fun t => m - t.1) ?_ ?_
      · exact fun w' hw' => ⟨(0, .slice none 0 0), Nat.zero_le _, (by repeat (first | exact Sub.nil | refine Sub.cons (by rfl) ?_)), hw'⟩
      · rintro ⟨j, u⟩ hj
        dsimp only at hj ⊢
        refine CW.seq (CW.region ?_)
        refine RW.lss rfl rfl rfl ?_
        refine RW.nil (EX.seq (CW.seq ?_))
        -- mq: cond
        first | refine CW.condD rfl (fun hlt3 => ?_) (fun hlt3 => ?_) | refine CW.cond rfl (fun hlt3 => ?_) (fun hlt3 => ?_)
        · skip
          obtain ⟨x, hx⟩ : ∃ x, g[j]? = some x := ⟨g[j]'(by omega), List.getElem?_eq_getElem _⟩
          have hxc := hgc x (List.mem_of_getElem? hx)
          obtain ⟨bd, hB, _, hcell2⟩ := hrd.at_ hx
          have hb1 := hxc.1
          have hb2 := hxc.2
          refine CW.skip (EX.seq (CW.seq (CW.block (CW.seq (CW.region ?_)))))
          refine RW.ixAddr (q := j) sl29 rfl rfl rfl hB (by omega) (by omega) ?_
          refine RW.load1 sc3 rfl rfl (fun w' hw' => hw'.base_cell (hcell2 0 _ rfl) (by simp)) ?_
          refine RW.assign rfl rfl ?_
          refine RW.nil (EX.seq (CW.seq (CW.region ?_)))
          refine RW.assign rfl rfl ?_
          refine RW.nil (EX.seq (CW.seq ?_))
          -- mq: seq
          refine CW.join ([(3, v), (6, u), (11, .slice A1 n1 c1), (12, .int .i64 (n1 : Int)), (13, .int .i64 (k : Int)), (17, .slice B m d), (18, .int .i64 (m : Int)), (19, .int .i64 (j : Int)), (9, .string (bs (numT x)))]) (SH w1 [] [own 9 1 u j (EStr.all ((g.take j).map numT)), own 9 1 v k (EStr.all ((cl.take k).map groupT))]) ?_ ?_
          · skip
            refine CW.seq (CW.region ?_)
            refine RW.move rfl rfl ?_
            refine RW.neqI rfl rfl rfl ?_
            refine RW.nil (EX.seq ?_)
            -- mq: cond
            first | refine CW.condD rfl (fun h1 => ?_) (fun h1 => ?_) | refine CW.cond rfl (fun h1 => ?_) (fun h1 => ?_)
            · skip
              -- mq: region
              refine CW.region ?_
              refine RW.move rfl rfl ?_
              refine RW.call rfl caItoa rfl (fun w' hw' => itoa_c w' (hg1.ext hw'.ext) x (by omega)) ?_
              refine RW.assign rfl rfl ?_
              refine RW.nil ?_
              -- mq: joinend
              rw [show numT x = Lib.itoa x from if_neg h1]
              exact EX.jn (by repeat (first | exact Sub.nil | refine Sub.cons (by rfl) ?_)) (fun _ h => h)
            · skip
              refine CW.skip ?_
              -- mq: joinend
              rw [show numT x = [] from if_pos (by simpa using h1)]
              exact EX.jn (by repeat (first | exact Sub.nil | refine Sub.cons (by rfl) ?_)) (fun _ h => h)
          · skip
            refine EX.seq (CW.region ?_)
            refine RW.move rfl rfl ?_
            refine RW.move rfl rfl ?_
            refine RW.buildSlc sl32 rfl rfl rfl rfl (fun g29 hg29 hf29 => ?_)
            refine RW.append1 sl32 rfl rfl rfl (by first | exact Rem.head | exact Rem.tail Rem.head | exact Rem.tail (Rem.tail Rem.head) | exact Rem.tail (Rem.tail (Rem.tail Rem.head)) | exact Rem.tail (Rem.tail (Rem.tail (Rem.tail Rem.head))) | exact Rem.tail (Rem.tail (Rem.tail (Rem.tail (Rem.tail Rem.head)))) | exact Rem.tail (Rem.tail (Rem.tail (Rem.tail (Rem.tail (Rem.tail Rem.head)))))) (fun _ => by first | exact Upd.head | exact Upd.tail Upd.head | exact Upd.tail (Upd.tail Upd.head) | exact Upd.tail (Upd.tail (Upd.tail Upd.head)) | exact Upd.tail (Upd.tail (Upd.tail (Upd.tail Upd.head))) | exact Upd.tail (Upd.tail (Upd.tail (Upd.tail (Upd.tail Upd.head)))) | exact Upd.tail (Upd.tail (Upd.tail (Upd.tail (Upd.tail (Upd.tail Upd.head)))))) rfl (by repeat (first | exact Ones.nil | exact Enc.ones _ _ | refine Ones.cons rfl ?_)) (by simp only [maxLen]; omega) (by omega) (fun v30 hv30 => ?_)
            refine RW.assign rfl rfl ?_
            refine RW.nil (EX.bkN (EX.seq (CW.region ?_)))
            refine RW.add rfl rfl rfl (wrap64 (by omega) (by omega)) ?_
            refine RW.move rfl rfl ?_
            refine RW.nil ?_
            -- mq: loopend
            refine EX.lpN (j + 1, v30) (by dsimp only; omega) (by dsimp only; omega) (by repeat (first | exact Sub.nil | refine Sub.cons (by rfl) ?_)) (fun w' hw' => ?_)
            dsimp only
            rw [List.take_add_one, hx, Option.toList_some, List.map_append, List.map_cons, List.map_nil, Enc.all_snoc]
            exact hw'
        · skip
          obtain rfl : j = m := by omega
          rw [show g.take j = g from List.take_of_length_le (by omega)]
          have hgl := groupT_len hg8 hgc
          refine CW.exit (EX.seqE (EX.lpE (EX.bkE (EX.seq ?_))))
          -- mq: region
          refine CW.region ?_
          refine RW.move rfl rfl ?_
          refine RW.move rfl rfl ?_
          refine RW.call rfl caJoin rfl (fun w' hw' => join_c w' _ _ _ (g.map numT) [58] (hw'.has Has.head) (by simp; omega) (by omega) (by show (groupT g).length ≤ _; omega)) ?_
          refine RW.buildSlc sl32 rfl rfl rfl rfl (fun g35 hg35 hf35 => ?_)
          refine RW.append1 sl32 rfl rfl rfl (by first | exact Rem.head | exact Rem.tail Rem.head | exact Rem.tail (Rem.tail Rem.head) | exact Rem.tail (Rem.tail (Rem.tail Rem.head)) | exact Rem.tail (Rem.tail (Rem.tail (Rem.tail Rem.head))) | exact Rem.tail (Rem.tail (Rem.tail (Rem.tail (Rem.tail Rem.head)))) | exact Rem.tail (Rem.tail (Rem.tail (Rem.tail (Rem.tail (Rem.tail Rem.head)))))) (fun _ => by first | exact Upd.head | exact Upd.tail Upd.head | exact Upd.tail (Upd.tail Upd.head) | exact Upd.tail (Upd.tail (Upd.tail Upd.head)) | exact Upd.tail (Upd.tail (Upd.tail (Upd.tail Upd.head))) | exact Upd.tail (Upd.tail (Upd.tail (Upd.tail (Upd.tail Upd.head)))) | exact Upd.tail (Upd.tail (Upd.tail (Upd.tail (Upd.tail (Upd.tail Upd.head)))))) rfl (by repeat (first | exact Ones.nil | exact Enc.ones _ _ | refine Ones.cons rfl ?_)) (by simp only [maxLen]; omega) (by omega) (fun v36 hv36 => ?_)
          refine RW.assign rfl rfl ?_
          refine RW.nil (EX.bkN (EX.seq (CW.region ?_)))
          refine RW.add rfl rfl rfl (wrap64 (by omega) (by omega)) ?_
          refine RW.move rfl rfl ?_
          refine RW.nil ?_
          -- mq: loopend
          refine EX.lpN (k + 1, v36) (by dsimp only; omega) (by dsimp only; omega) (by repeat (first | exact Sub.nil | refine Sub.cons (by rfl) ?_)) (fun w' hw' => ?_)
          dsimp only
          rw [List.take_add_one, hgk, Option.toList_some, List.map_append, List.map_cons, List.map_nil, Enc.all_snoc]
          exact hw'.rem Rem.head
    · skip
      obtain rfl : k = n1 := by omega
      rw [List.take_of_length_le (by omega)]
      have htl := textT_len hcl
      refine CW.exit (EX.seqE (EX.lpE (EX.bkE (EX.seq (CW.seq ?_)))))
      -- mq: region
      refine CW.region ?_
      refine RW.move rfl rfl ?_
      refine RW.call rfl caJoin rfl (fun w' hw' => join_c w' _ _ _ (cl.map groupT) [59] (hw'.has Has.head) (by simp; omega) (by omega) (by show (textT cl).length ≤ _; omega)) ?_
      refine RW.assign rfl rfl ?_
      refine RW.nil (EX.seq (CW.ret ?_))
      refine EX.fin1 Tryd.results6 rfl (fun wz hw => ?_)
      -- mq: done
      exact ⟨rfl, hx0.trans0 hw.ext⟩
end Go.Proofs.YtamchppifbilpaaDoor.Mq
