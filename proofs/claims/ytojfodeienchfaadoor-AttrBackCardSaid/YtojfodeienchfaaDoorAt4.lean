/- attributes: walks of line, sets, clears, palette (printed by gen4.py) -/
import Derived.Test.YtojfodeienchfaaDoorAt3
namespace Go.Proofs.YtojfodeienchfaaDoor.Mq
open Go Go.RowKit Go.Proofs

def setsF (v : Int) : Nat := if v = 1 then 1 else if v = 2 then 2 else if v = 3 then 4 else if v = 5 ∨ v = 6 then 16 else if v = 7 then 32 else if v = 8 then 64 else if v = 9 then 128 else if v = 53 then 512 else 0
theorem sets_c (w : World) (v : Int) : Calls Tryd.prog 35 [.int .i64 v].toArray w (fun e w' => e = .returned (.int .i64 (setsF v : Int)) ∧ Ext [] w w') := by
  refine calls (n := 21) Tryd.func35 rfl Tryd.ntmps35 rfl ?_
  refine CW.sub (H' := SH w [] []) ?_ (Sub.refl _) (fun x hx => SH.start' _ _ hx)
  refine CW.seq (CW.region ?_)
  refine RW.assign rfl rfl ?_
  refine RW.nil (EX.seq (CW.seq (CW.seq (CW.region ?_))))
  refine RW.move rfl rfl ?_
  refine RW.nil (EX.seq (CW.block (CW.seq (CW.region ?_))))
  refine RW.eqlI rfl rfl rfl ?_
  refine RW.assign rfl rfl ?_
  refine RW.nil (EX.seq ?_)
  -- mq: cond
  first | refine CW.condD rfl (fun h0 => ?_) (fun h0 => ?_) | refine CW.cond rfl (fun h0 => ?_) (fun h0 => ?_)
  · skip
    refine CW.seq (CW.region ?_)
    refine RW.assign rfl rfl ?_
    refine RW.nil (EX.seq (CW.ret (EX.bkR (EX.seqR ?_))))
    refine EX.fin1 Tryd.results35 rfl (fun wz hw => ?_)
    -- mq: done
    exact ⟨by rw [setsF, if_pos (show _ by omega)]; rfl, hw.ext⟩
  · skip
    refine CW.seq (CW.region ?_)
    refine RW.eqlI rfl rfl rfl ?_
    refine RW.assign rfl rfl ?_
    refine RW.nil (EX.seq ?_)
    -- mq: cond
    first | refine CW.condD rfl (fun h1 => ?_) (fun h1 => ?_) | refine CW.cond rfl (fun h1 => ?_) (fun h1 => ?_)
    · skip
      refine CW.seq (CW.region ?_)
      refine RW.assign rfl rfl ?_
      refine RW.nil (EX.seq (CW.ret (EX.bkR (EX.seqR ?_))))
      refine EX.fin1 Tryd.results35 rfl (fun wz hw => ?_)
      -- mq: done
      exact ⟨by rw [setsF, if_neg (show ¬ _ by omega), if_pos (show _ by omega)]; rfl, hw.ext⟩
    · skip
      refine CW.seq (CW.region ?_)
      refine RW.eqlI rfl rfl rfl ?_
      refine RW.assign rfl rfl ?_
      refine RW.nil (EX.seq ?_)
      -- mq: cond
      first | refine CW.condD rfl (fun h2 => ?_) (fun h2 => ?_) | refine CW.cond rfl (fun h2 => ?_) (fun h2 => ?_)
      · skip
        refine CW.seq (CW.region ?_)
        refine RW.assign rfl rfl ?_
        refine RW.nil (EX.seq (CW.ret (EX.bkR (EX.seqR ?_))))
        refine EX.fin1 Tryd.results35 rfl (fun wz hw => ?_)
        -- mq: done
        exact ⟨by rw [setsF, if_neg (show ¬ _ by omega), if_neg (show ¬ _ by omega), if_pos (show _ by omega)]; rfl, hw.ext⟩
      · skip
        refine CW.seq (CW.seq (CW.region ?_))
        refine RW.eqlI rfl rfl rfl ?_
        refine RW.assign rfl rfl ?_
        refine RW.nil (EX.seq ?_)
        -- mq: cond
        first | refine CW.condD rfl (fun h3 => ?_) (fun h3 => ?_) | refine CW.cond rfl (fun h3 => ?_) (fun h3 => ?_)
        · skip
          refine CW.skip (EX.seq ?_)
          -- mq: cond
          refine CW.condT rfl ((decide_eq_true h3)) ?_
          refine CW.seq (CW.region ?_)
          refine RW.assign rfl rfl ?_
          refine RW.nil (EX.seq (CW.ret (EX.bkR (EX.seqR ?_))))
          refine EX.fin1 Tryd.results35 rfl (fun wz hw => ?_)
          -- mq: done
          exact ⟨by rw [setsF, if_neg (show ¬ _ by omega), if_neg (show ¬ _ by omega), if_neg (show ¬ _ by omega), if_pos (show _ by omega)]; rfl, hw.ext⟩
        · skip
          refine CW.region ?_
          refine RW.eqlI rfl rfl rfl ?_
          refine RW.assign rfl rfl ?_
          refine RW.nil (EX.seq ?_)
          -- mq: cond
          first | refine CW.condD rfl (fun g3 => ?_) (fun g3 => ?_) | refine CW.cond rfl (fun g3 => ?_) (fun g3 => ?_)
          · skip
            refine CW.seq (CW.region ?_)
            refine RW.assign rfl rfl ?_
            refine RW.nil (EX.seq (CW.ret (EX.bkR (EX.seqR ?_))))
            refine EX.fin1 Tryd.results35 rfl (fun wz hw => ?_)
            -- mq: done
            exact ⟨by rw [setsF, if_neg (show ¬ _ by omega), if_neg (show ¬ _ by omega), if_neg (show ¬ _ by omega), if_pos (show _ by omega)]; rfl, hw.ext⟩
          · skip
            refine CW.seq (CW.region ?_)
            refine RW.eqlI rfl rfl rfl ?_
            refine RW.assign rfl rfl ?_
            refine RW.nil (EX.seq ?_)
            -- mq: cond
            first | refine CW.condD rfl (fun h4 => ?_) (fun h4 => ?_) | refine CW.cond rfl (fun h4 => ?_) (fun h4 => ?_)
            · skip
              refine CW.seq (CW.region ?_)
              refine RW.assign rfl rfl ?_
              refine RW.nil (EX.seq (CW.ret (EX.bkR (EX.seqR ?_))))
              refine EX.fin1 Tryd.results35 rfl (fun wz hw => ?_)
              -- mq: done
              exact ⟨by rw [setsF, if_neg (show ¬ _ by omega), if_neg (show ¬ _ by omega), if_neg (show ¬ _ by omega), if_neg (show ¬ _ by omega), if_pos (show _ by omega)]; rfl, hw.ext⟩
            · skip
              refine CW.seq (CW.region ?_)
              refine RW.eqlI rfl rfl rfl ?_
              refine RW.assign rfl rfl ?_
              refine RW.nil (EX.seq ?_)
              -- mq: cond
              first | refine CW.condD rfl (fun h5 => ?_) (fun h5 => ?_) | refine CW.cond rfl (fun h5 => ?_) (fun h5 => ?_)
              · skip
                refine CW.seq (CW.region ?_)
                refine RW.assign rfl rfl ?_
                refine RW.nil (EX.seq (CW.ret (EX.bkR (EX.seqR ?_))))
                refine EX.fin1 Tryd.results35 rfl (fun wz hw => ?_)
                -- mq: done
                exact ⟨by rw [setsF, if_neg (show ¬ _ by omega), if_neg (show ¬ _ by omega), if_neg (show ¬ _ by omega), if_neg (show ¬ _ by omega), if_neg (show ¬ _ by omega), if_pos (show _ by omega)]; rfl, hw.ext⟩
              · skip
                refine CW.seq (CW.region ?_)
                refine RW.eqlI rfl rfl rfl ?_
                refine RW.assign rfl rfl ?_
                refine RW.nil (EX.seq ?_)
                -- mq: cond
                first | refine CW.condD rfl (fun h6 => ?_) (fun h6 => ?_) | refine CW.cond rfl (fun h6 => ?_) (fun h6 => ?_)
                · skip
                  refine CW.seq (CW.region ?_)
                  refine RW.assign rfl rfl ?_
                  refine RW.nil (EX.seq (CW.ret (EX.bkR (EX.seqR ?_))))
                  refine EX.fin1 Tryd.results35 rfl (fun wz hw => ?_)
                  -- mq: done
                  exact ⟨by rw [setsF, if_neg (show ¬ _ by omega), if_neg (show ¬ _ by omega), if_neg (show ¬ _ by omega), if_neg (show ¬ _ by omega), if_neg (show ¬ _ by omega), if_neg (show ¬ _ by omega), if_pos (show _ by omega)]; rfl, hw.ext⟩
                · skip
                  refine CW.seq (CW.region ?_)
                  refine RW.eqlI rfl rfl rfl ?_
                  refine RW.assign rfl rfl ?_
                  refine RW.nil (EX.seq ?_)
                  -- mq: cond
                  first | refine CW.condD rfl (fun h7 => ?_) (fun h7 => ?_) | refine CW.cond rfl (fun h7 => ?_) (fun h7 => ?_)
                  · skip
                    refine CW.seq (CW.region ?_)
                    refine RW.assign rfl rfl ?_
                    refine RW.nil (EX.seq (CW.ret (EX.bkR (EX.seqR ?_))))
                    refine EX.fin1 Tryd.results35 rfl (fun wz hw => ?_)
                    -- mq: done
                    exact ⟨by rw [setsF, if_neg (show ¬ _ by omega), if_neg (show ¬ _ by omega), if_neg (show ¬ _ by omega), if_neg (show ¬ _ by omega), if_neg (show ¬ _ by omega), if_neg (show ¬ _ by omega), if_neg (show ¬ _ by omega), if_pos (show _ by omega)]; rfl, hw.ext⟩
                  · skip
                    refine CW.skip (EX.bkN (EX.seq (CW.seq (CW.region ?_))))
                    refine RW.assign rfl rfl ?_
                    refine RW.nil (EX.seq (CW.ret ?_))
                    refine EX.fin1 Tryd.results35 rfl (fun wz hw => ?_)
                    -- mq: done
                    exact ⟨by rw [setsF, if_neg (show ¬ _ by omega), if_neg (show ¬ _ by omega), if_neg (show ¬ _ by omega), if_neg (show ¬ _ by omega), if_neg (show ¬ _ by omega), if_neg (show ¬ _ by omega), if_neg (show ¬ _ by omega), if_neg (show ¬ _ by omega)]; rfl, hw.ext⟩
def clearsF (v : Int) : Nat := if v = 22 then 3 else if v = 23 then 4 else if v = 24 then 264 else if v = 25 then 16 else if v = 27 then 32 else if v = 28 then 64 else if v = 29 then 128 else if v = 55 then 512 else 0
theorem clears_c (w : World) (v : Int) : Calls Tryd.prog 36 [.int .i64 v].toArray w (fun e w' => e = .returned (.int .i64 (clearsF v : Int)) ∧ Ext [] w w') := by
  refine calls (n := 20) Tryd.func36 rfl Tryd.ntmps36 rfl ?_
  refine CW.sub (H' := SH w [] []) ?_ (Sub.refl _) (fun x hx => SH.start' _ _ hx)
  refine CW.seq (CW.region ?_)
  refine RW.assign rfl rfl ?_
  refine RW.nil (EX.seq (CW.seq (CW.seq (CW.region ?_))))
  refine RW.move rfl rfl ?_
  refine RW.nil (EX.seq (CW.block (CW.seq (CW.region ?_))))
  refine RW.eqlI rfl rfl rfl ?_
  refine RW.assign rfl rfl ?_
  refine RW.nil (EX.seq ?_)
  -- mq: cond
  first | refine CW.condD rfl (fun h0 => ?_) (fun h0 => ?_) | refine CW.cond rfl (fun h0 => ?_) (fun h0 => ?_)
  · skip
    refine CW.seq (CW.region ?_)
    refine RW.assign rfl rfl ?_
    refine RW.nil (EX.seq (CW.ret (EX.bkR (EX.seqR ?_))))
    refine EX.fin1 Tryd.results36 rfl (fun wz hw => ?_)
    -- mq: done
    exact ⟨by rw [clearsF, if_pos (show _ by omega)]; rfl, hw.ext⟩
  · skip
    refine CW.seq (CW.region ?_)
    refine RW.eqlI rfl rfl rfl ?_
    refine RW.assign rfl rfl ?_
    refine RW.nil (EX.seq ?_)
    -- mq: cond
    first | refine CW.condD rfl (fun h1 => ?_) (fun h1 => ?_) | refine CW.cond rfl (fun h1 => ?_) (fun h1 => ?_)
    · skip
      refine CW.seq (CW.region ?_)
      refine RW.assign rfl rfl ?_
      refine RW.nil (EX.seq (CW.ret (EX.bkR (EX.seqR ?_))))
      refine EX.fin1 Tryd.results36 rfl (fun wz hw => ?_)
      -- mq: done
      exact ⟨by rw [clearsF, if_neg (show ¬ _ by omega), if_pos (show _ by omega)]; rfl, hw.ext⟩
    · skip
      refine CW.seq (CW.region ?_)
      refine RW.eqlI rfl rfl rfl ?_
      refine RW.assign rfl rfl ?_
      refine RW.nil (EX.seq ?_)
      -- mq: cond
      first | refine CW.condD rfl (fun h2 => ?_) (fun h2 => ?_) | refine CW.cond rfl (fun h2 => ?_) (fun h2 => ?_)
      · skip
        refine CW.seq (CW.region ?_)
        refine RW.assign rfl rfl ?_
        refine RW.nil (EX.seq (CW.ret (EX.bkR (EX.seqR ?_))))
        refine EX.fin1 Tryd.results36 rfl (fun wz hw => ?_)
        -- mq: done
        exact ⟨by rw [clearsF, if_neg (show ¬ _ by omega), if_neg (show ¬ _ by omega), if_pos (show _ by omega)]; rfl, hw.ext⟩
      · skip
        refine CW.seq (CW.region ?_)
        refine RW.eqlI rfl rfl rfl ?_
        refine RW.assign rfl rfl ?_
        refine RW.nil (EX.seq ?_)
        -- mq: cond
        first | refine CW.condD rfl (fun h3 => ?_) (fun h3 => ?_) | refine CW.cond rfl (fun h3 => ?_) (fun h3 => ?_)
        · skip
          refine CW.seq (CW.region ?_)
          refine RW.assign rfl rfl ?_
          refine RW.nil (EX.seq (CW.ret (EX.bkR (EX.seqR ?_))))
          refine EX.fin1 Tryd.results36 rfl (fun wz hw => ?_)
          -- mq: done
          exact ⟨by rw [clearsF, if_neg (show ¬ _ by omega), if_neg (show ¬ _ by omega), if_neg (show ¬ _ by omega), if_pos (show _ by omega)]; rfl, hw.ext⟩
        · skip
          refine CW.seq (CW.region ?_)
          refine RW.eqlI rfl rfl rfl ?_
          refine RW.assign rfl rfl ?_
          refine RW.nil (EX.seq ?_)
          -- mq: cond
          first | refine CW.condD rfl (fun h4 => ?_) (fun h4 => ?_) | refine CW.cond rfl (fun h4 => ?_) (fun h4 => ?_)
          · skip
            refine CW.seq (CW.region ?_)
            refine RW.assign rfl rfl ?_
            refine RW.nil (EX.seq (CW.ret (EX.bkR (EX.seqR ?_))))
            refine EX.fin1 Tryd.results36 rfl (fun wz hw => ?_)
            -- mq: done
            exact ⟨by rw [clearsF, if_neg (show ¬ _ by omega), if_neg (show ¬ _ by omega), if_neg (show ¬ _ by omega), if_neg (show ¬ _ by omega), if_pos (show _ by omega)]; rfl, hw.ext⟩
          · skip
            refine CW.seq (CW.region ?_)
            refine RW.eqlI rfl rfl rfl ?_
            refine RW.assign rfl rfl ?_
            refine RW.nil (EX.seq ?_)
            -- mq: cond
            first | refine CW.condD rfl (fun h5 => ?_) (fun h5 => ?_) | refine CW.cond rfl (fun h5 => ?_) (fun h5 => ?_)
            · skip
              refine CW.seq (CW.region ?_)
              refine RW.assign rfl rfl ?_
              refine RW.nil (EX.seq (CW.ret (EX.bkR (EX.seqR ?_))))
              refine EX.fin1 Tryd.results36 rfl (fun wz hw => ?_)
              -- mq: done
              exact ⟨by rw [clearsF, if_neg (show ¬ _ by omega), if_neg (show ¬ _ by omega), if_neg (show ¬ _ by omega), if_neg (show ¬ _ by omega), if_neg (show ¬ _ by omega), if_pos (show _ by omega)]; rfl, hw.ext⟩
            · skip
              refine CW.seq (CW.region ?_)
              refine RW.eqlI rfl rfl rfl ?_
              refine RW.assign rfl rfl ?_
              refine RW.nil (EX.seq ?_)
              -- mq: cond
              first | refine CW.condD rfl (fun h6 => ?_) (fun h6 => ?_) | refine CW.cond rfl (fun h6 => ?_) (fun h6 => ?_)
              · skip
                refine CW.seq (CW.region ?_)
                refine RW.assign rfl rfl ?_
                refine RW.nil (EX.seq (CW.ret (EX.bkR (EX.seqR ?_))))
                refine EX.fin1 Tryd.results36 rfl (fun wz hw => ?_)
                -- mq: done
                exact ⟨by rw [clearsF, if_neg (show ¬ _ by omega), if_neg (show ¬ _ by omega), if_neg (show ¬ _ by omega), if_neg (show ¬ _ by omega), if_neg (show ¬ _ by omega), if_neg (show ¬ _ by omega), if_pos (show _ by omega)]; rfl, hw.ext⟩
              · skip
                refine CW.seq (CW.region ?_)
                refine RW.eqlI rfl rfl rfl ?_
                refine RW.assign rfl rfl ?_
                refine RW.nil (EX.seq ?_)
                -- mq: cond
                first | refine CW.condD rfl (fun h7 => ?_) (fun h7 => ?_) | refine CW.cond rfl (fun h7 => ?_) (fun h7 => ?_)
                · skip
                  refine CW.seq (CW.region ?_)
                  refine RW.assign rfl rfl ?_
                  refine RW.nil (EX.seq (CW.ret (EX.bkR (EX.seqR ?_))))
                  refine EX.fin1 Tryd.results36 rfl (fun wz hw => ?_)
                  -- mq: done
                  exact ⟨by rw [clearsF, if_neg (show ¬ _ by omega), if_neg (show ¬ _ by omega), if_neg (show ¬ _ by omega), if_neg (show ¬ _ by omega), if_neg (show ¬ _ by omega), if_neg (show ¬ _ by omega), if_neg (show ¬ _ by omega), if_pos (show _ by omega)]; rfl, hw.ext⟩
                · skip
                  refine CW.skip (EX.bkN (EX.seq (CW.seq (CW.region ?_))))
                  refine RW.assign rfl rfl ?_
                  refine RW.nil (EX.seq (CW.ret ?_))
                  refine EX.fin1 Tryd.results36 rfl (fun wz hw => ?_)
                  -- mq: done
                  exact ⟨by rw [clearsF, if_neg (show ¬ _ by omega), if_neg (show ¬ _ by omega), if_neg (show ¬ _ by omega), if_neg (show ¬ _ by omega), if_neg (show ¬ _ by omega), if_neg (show ¬ _ by omega), if_neg (show ¬ _ by omega), if_neg (show ¬ _ by omega)]; rfl, hw.ext⟩
def lineF (g : List Int) : Nat := if g[1]? = some 0 then 0 else if g[1]? = some 2 then 256 else 8
theorem line_c (w : World) (F : Nat → Prop) (A : Option Addr) (n c : Nat) (g : List Int) (hr : Rd EInt w F A n c g) (hn : n ≤ 1000000) :
    Calls Tryd.prog 23 [.slice A n c].toArray w (fun e w' => e = .returned (.int .i64 (lineF g : Int)) ∧ Ext [] w w') := by
  have hl := hr.len
  refine calls (n := 23) Tryd.func23 rfl Tryd.ntmps23 rfl ?_
  refine CW.sub (H' := SH w [] []) ?_ (Sub.refl _) (fun x hx => SH.start' _ _ hx)
  refine CW.seq (CW.region ?_)
  refine RW.assign rfl rfl ?_
  refine RW.nil (EX.seq (CW.seq (CW.block (CW.seq (CW.region ?_)))))
  refine RW.move rfl rfl ?_
  refine RW.lenSl Tryd.underlying40 rfl rfl ?_
  refine RW.gtr rfl rfl rfl ?_
  refine RW.move rfl rfl ?_
  -- mq: guard slot 7
  refine RW.casesB 7 rfl (fun h1 => ?_) (fun h1 => ?_)
  · skip
    have h1p := of_decide_eq_true h1
    obtain ⟨x, hx⟩ : ∃ x, g[1]? = some x := ⟨g[1]'(by omega), List.getElem?_eq_getElem _⟩
    obtain ⟨yd, hB, _, hycell⟩ := hr.at_ hx
    refine RW.guardT rfl rfl h1 ?_
    refine RW.move rfl rfl ?_
    refine RW.guardT rfl rfl h1 ?_
    refine RW.ixAddr (q := 1) sl40 rfl rfl rfl hB (by omega) (by omega) ?_
    refine RW.guardT rfl rfl h1 ?_
    refine RW.load1 sc3 rfl rfl (fun w' hw' => hw'.base_cell (hycell 0 _ rfl) (by simp [feet])) ?_
    refine RW.guardT rfl rfl h1 ?_
    refine RW.eqlI rfl rfl rfl ?_
    refine RW.pickB rfl rfl h1 rfl ?_
    refine RW.assign rfl rfl ?_
    refine RW.nil (EX.seq ?_)
    -- mq: cond
    first | refine CW.condD rfl (fun h2 => ?_) (fun h2 => ?_) | refine CW.cond rfl (fun h2 => ?_) (fun h2 => ?_)
    · skip
      refine CW.seq (CW.region ?_)
      refine RW.assign rfl rfl ?_
      refine RW.nil (EX.seq (CW.ret (EX.bkR (EX.seqR ?_))))
      refine EX.fin1 Tryd.results23 rfl (fun wz hw => ?_)
      -- mq: done
      exact ⟨by rw [lineF, hx, if_pos (by rw [h2])]; rfl, hw.ext⟩
    · skip
      refine CW.seq (CW.region ?_)
      refine RW.move rfl rfl ?_
      refine RW.lenSl Tryd.underlying40 rfl rfl ?_
      refine RW.gtr rfl rfl rfl ?_
      refine RW.move rfl rfl ?_
      -- mq: guard slot 17
      refine RW.casesB 17 rfl (fun h3 => ?_) (fun h3 => ?_)
      · skip
        have h3p := of_decide_eq_true h3
        refine RW.guardT rfl rfl h3 ?_
        refine RW.move rfl rfl ?_
        refine RW.guardT rfl rfl h3 ?_
        refine RW.ixAddr (q := 1) sl40 rfl rfl rfl hB (by omega) (by omega) ?_
        refine RW.guardT rfl rfl h3 ?_
        refine RW.load1 sc3 rfl rfl (fun w' hw' => hw'.base_cell (hycell 0 _ rfl) (by simp [feet])) ?_
        refine RW.guardT rfl rfl h3 ?_
        refine RW.eqlI rfl rfl rfl ?_
        refine RW.pickB rfl rfl h3 rfl ?_
        refine RW.assign rfl rfl ?_
        refine RW.nil (EX.seq ?_)
        -- mq: cond
        first | refine CW.condD rfl (fun h4 => ?_) (fun h4 => ?_) | refine CW.cond rfl (fun h4 => ?_) (fun h4 => ?_)
        · skip
          refine CW.seq (CW.region ?_)
          refine RW.assign rfl rfl ?_
          refine RW.nil (EX.seq (CW.ret (EX.bkR (EX.seqR ?_))))
          refine EX.fin1 Tryd.results23 rfl (fun wz hw => ?_)
          -- mq: done
          exact ⟨by rw [lineF, hx, if_neg (by simpa using h2), if_pos (by rw [h4])]; rfl, hw.ext⟩
        · skip
          refine CW.skip (EX.bkN (EX.seq (CW.seq (CW.region ?_))))
          refine RW.assign rfl rfl ?_
          refine RW.nil (EX.seq (CW.ret ?_))
          refine EX.fin1 Tryd.results23 rfl (fun wz hw => ?_)
          -- mq: done
          exact ⟨by rw [lineF, hx, if_neg (by simpa using h2), if_neg (by simpa using h4)]; rfl, hw.ext⟩
      · skip
        have h3p := of_decide_eq_false h3
        omega
  · skip
    have h1p := of_decide_eq_false h1
    have hx : g[1]? = none := List.getElem?_eq_none (by omega)
    refine RW.guardF rfl rfl rfl h1 ?_
    refine RW.guardF rfl rfl rfl h1 ?_
    refine RW.guardF rfl rfl rfl h1 ?_
    refine RW.guardF rfl rfl rfl h1 ?_
    refine RW.pickC rfl rfl h1 rfl ?_
    refine RW.assign rfl rfl ?_
    refine RW.nil (EX.seq ?_)
    -- mq: cond
    refine CW.condF rfl (rfl) ?_
    refine CW.seq (CW.region ?_)
    refine RW.move rfl rfl ?_
    refine RW.lenSl Tryd.underlying40 rfl rfl ?_
    refine RW.gtr rfl rfl rfl ?_
    refine RW.move rfl rfl ?_
    -- mq: guard slot 17
    refine RW.casesB 17 rfl (fun h3 => ?_) (fun h3 => ?_)
    · skip
      have h3p := of_decide_eq_true h3
      omega
    · skip
      have h3p := of_decide_eq_false h3
      refine RW.guardF rfl rfl rfl h3 ?_
      refine RW.guardF rfl rfl rfl h3 ?_
      refine RW.guardF rfl rfl rfl h3 ?_
      refine RW.guardF rfl rfl rfl h3 ?_
      refine RW.pickC rfl rfl h3 rfl ?_
      refine RW.assign rfl rfl ?_
      refine RW.nil (EX.seq ?_)
      -- mq: cond
      refine CW.condF rfl (rfl) ?_
      refine CW.skip (EX.bkN (EX.seq (CW.seq (CW.region ?_))))
      refine RW.assign rfl rfl ?_
      refine RW.nil (EX.seq (CW.ret ?_))
      refine EX.fin1 Tryd.results23 rfl (fun wz hw => ?_)
      -- mq: done
      exact ⟨by rw [lineF, hx, if_neg (by simp), if_neg (by simp)]; rfl, hw.ext⟩
def palK (v low high : Int) (old : Int × Int) : Int × Int := if low ≤ v ∧ v < low + 8 then (1, v - low) else if high ≤ v ∧ v < high + 8 then (1, v - high + 8) else if v = low + 9 then (0, 0) else old
def palV (v low high : Int) : Value := if low ≤ v ∧ v < low + 8 then .tuple #[colV 1 (v - low), .bool true] else if high ≤ v ∧ v < high + 8 then .tuple #[colV 1 (v - high + 8), .bool true] else .tuple #[colV 0 0, .bool (decide (v = low + 9))]
theorem palette_c (w : World) (v low high : Int) (hv : 0 ≤ v ∧ v ≤ 65535) (hl : 0 ≤ low ∧ low ≤ 1000) (hh : 0 ≤ high ∧ high ≤ 1000) :
    Calls Tryd.prog 37 [.int .i64 v, .int .i64 low, .int .i64 high].toArray w (fun e w' => e = .returned (palV v low high) ∧ Ext [] w w') := by
  refine calls (n := 42) Tryd.func37 rfl Tryd.ntmps37 rfl ?_
  refine CW.sub (H' := SH w [] []) ?_ (Sub.refl _) (fun x hx => SH.start' _ _ hx)
  refine CW.seq (CW.region ?_)
  refine RW.allocA ag23 rfl (fun g6 hg6 hf6 => ?_)
  refine RW.assign rfl rfl ?_
  refine RW.nil (EX.seq (CW.seq (CW.block (CW.seq (CW.region ?_)))))
  refine RW.move rfl rfl ?_
  refine RW.move rfl rfl ?_
  refine RW.geq rfl rfl rfl ?_
  refine RW.move rfl rfl ?_
  -- mq: guard slot 12
  refine RW.casesB 12 rfl (fun h1 => ?_) (fun h1 => ?_)
  · skip
    have h1p := of_decide_eq_true h1
    refine RW.guardT rfl rfl h1 ?_
    refine RW.move rfl rfl ?_
    refine RW.guardT rfl rfl h1 ?_
    refine RW.move rfl rfl ?_
    refine RW.guardT rfl rfl h1 ?_
    refine RW.add rfl rfl rfl (wrap64 (by omega) (by omega)) ?_
    refine RW.guardT rfl rfl h1 ?_
    refine RW.lss rfl rfl rfl ?_
    refine RW.pickB rfl rfl h1 rfl ?_
    refine RW.assign rfl rfl ?_
    refine RW.nil (EX.seq ?_)
    -- mq: cond
    first | refine CW.condD rfl (fun h2 => ?_) (fun h2 => ?_) | refine CW.cond rfl (fun h2 => ?_) (fun h2 => ?_)
    · skip
      refine CW.seq (CW.region ?_)
      refine RW.move rfl rfl ?_
      refine RW.move rfl rfl ?_
      refine RW.sub_ rfl rfl rfl (wrap64 (by omega) (by omega)) ?_
      refine RW.buildS bu23 rfl rfl rfl ?_
      refine RW.storeA ag23 rfl rfl (by first | exact Upd.head | exact Upd.tail Upd.head | exact Upd.tail (Upd.tail Upd.head) | exact Upd.tail (Upd.tail (Upd.tail Upd.head)) | exact Upd.tail (Upd.tail (Upd.tail (Upd.tail Upd.head))) | exact Upd.tail (Upd.tail (Upd.tail (Upd.tail (Upd.tail Upd.head)))) | exact Upd.tail (Upd.tail (Upd.tail (Upd.tail (Upd.tail (Upd.tail Upd.head)))))) (by first | rfl | exact Enc.len _ _) (by repeat (first | exact Ones.nil | exact Enc.ones _ _ | refine Ones.cons rfl ?_)) (by first | exact Nat.le_of_ble_eq_true rfl | (simp only [Enc.len]; decide)) ?_
      refine RW.assign rfl rfl ?_
      refine RW.nil (EX.seq (CW.ret (EX.bkR (EX.seqR ?_))))
      refine EX.fin2' Tryd.results37 (RV.cellA ag23 rfl (by first | exact Has.head | exact Has.tail Has.head | exact Has.tail (Has.tail Has.head) | exact Has.tail (Has.tail (Has.tail Has.head)) | exact Has.tail (Has.tail (Has.tail (Has.tail Has.head))) | exact Has.tail (Has.tail (Has.tail (Has.tail (Has.tail Has.head)))) | exact Has.tail (Has.tail (Has.tail (Has.tail (Has.tail (Has.tail Has.head)))))) rfl rfl) (RV.tmp rfl) (fun wz hw => ?_)
      -- mq: done
      exact ⟨by rw [palV, if_pos (by omega)]; rfl, hw.ext⟩
    · skip
      refine CW.seq (CW.region ?_)
      refine RW.move rfl rfl ?_
      refine RW.move rfl rfl ?_
      refine RW.geq rfl rfl rfl ?_
      refine RW.move rfl rfl ?_
      -- mq: guard slot 26
      refine RW.casesB 26 rfl (fun h3 => ?_) (fun h3 => ?_)
      · skip
        have h3p := of_decide_eq_true h3
        refine RW.guardT rfl rfl h3 ?_
        refine RW.move rfl rfl ?_
        refine RW.guardT rfl rfl h3 ?_
        refine RW.move rfl rfl ?_
        refine RW.guardT rfl rfl h3 ?_
        refine RW.add rfl rfl rfl (wrap64 (by omega) (by omega)) ?_
        refine RW.guardT rfl rfl h3 ?_
        refine RW.lss rfl rfl rfl ?_
        refine RW.pickB rfl rfl h3 rfl ?_
        refine RW.assign rfl rfl ?_
        refine RW.nil (EX.seq ?_)
        -- mq: cond
        first | refine CW.condD rfl (fun h4 => ?_) (fun h4 => ?_) | refine CW.cond rfl (fun h4 => ?_) (fun h4 => ?_)
        · skip
          refine CW.seq (CW.region ?_)
          refine RW.move rfl rfl ?_
          refine RW.move rfl rfl ?_
          refine RW.sub_ rfl rfl rfl (wrap64 (by omega) (by omega)) ?_
          refine RW.add rfl rfl rfl (wrap64 (by omega) (by omega)) ?_
          refine RW.buildS bu23 rfl rfl rfl ?_
          refine RW.storeA ag23 rfl rfl (by first | exact Upd.head | exact Upd.tail Upd.head | exact Upd.tail (Upd.tail Upd.head) | exact Upd.tail (Upd.tail (Upd.tail Upd.head)) | exact Upd.tail (Upd.tail (Upd.tail (Upd.tail Upd.head))) | exact Upd.tail (Upd.tail (Upd.tail (Upd.tail (Upd.tail Upd.head)))) | exact Upd.tail (Upd.tail (Upd.tail (Upd.tail (Upd.tail (Upd.tail Upd.head)))))) (by first | rfl | exact Enc.len _ _) (by repeat (first | exact Ones.nil | exact Enc.ones _ _ | refine Ones.cons rfl ?_)) (by first | exact Nat.le_of_ble_eq_true rfl | (simp only [Enc.len]; decide)) ?_
          refine RW.assign rfl rfl ?_
          refine RW.nil (EX.seq (CW.ret (EX.bkR (EX.seqR ?_))))
          refine EX.fin2' Tryd.results37 (RV.cellA ag23 rfl (by first | exact Has.head | exact Has.tail Has.head | exact Has.tail (Has.tail Has.head) | exact Has.tail (Has.tail (Has.tail Has.head)) | exact Has.tail (Has.tail (Has.tail (Has.tail Has.head))) | exact Has.tail (Has.tail (Has.tail (Has.tail (Has.tail Has.head)))) | exact Has.tail (Has.tail (Has.tail (Has.tail (Has.tail (Has.tail Has.head)))))) rfl rfl) (RV.tmp rfl) (fun wz hw => ?_)
          -- mq: done
          exact ⟨by rw [palV, if_neg (by omega), if_pos (by omega)]; rfl, hw.ext⟩
        · skip
          refine CW.skip (EX.bkN (EX.seq (CW.seq (CW.region ?_))))
          refine RW.buildS bu23 rfl rfl rfl ?_
          refine RW.move rfl rfl ?_
          refine RW.move rfl rfl ?_
          refine RW.add rfl rfl rfl (wrap64 (by omega) (by omega)) ?_
          refine RW.eqlI rfl rfl rfl ?_
          refine RW.storeA ag23 rfl rfl (by first | exact Upd.head | exact Upd.tail Upd.head | exact Upd.tail (Upd.tail Upd.head) | exact Upd.tail (Upd.tail (Upd.tail Upd.head)) | exact Upd.tail (Upd.tail (Upd.tail (Upd.tail Upd.head))) | exact Upd.tail (Upd.tail (Upd.tail (Upd.tail (Upd.tail Upd.head)))) | exact Upd.tail (Upd.tail (Upd.tail (Upd.tail (Upd.tail (Upd.tail Upd.head)))))) (by first | rfl | exact Enc.len _ _) (by repeat (first | exact Ones.nil | exact Enc.ones _ _ | refine Ones.cons rfl ?_)) (by first | exact Nat.le_of_ble_eq_true rfl | (simp only [Enc.len]; decide)) ?_
          refine RW.assign rfl rfl ?_
          refine RW.nil (EX.seq (CW.ret ?_))
          refine EX.fin2' Tryd.results37 (RV.cellA ag23 rfl (by first | exact Has.head | exact Has.tail Has.head | exact Has.tail (Has.tail Has.head) | exact Has.tail (Has.tail (Has.tail Has.head)) | exact Has.tail (Has.tail (Has.tail (Has.tail Has.head))) | exact Has.tail (Has.tail (Has.tail (Has.tail (Has.tail Has.head)))) | exact Has.tail (Has.tail (Has.tail (Has.tail (Has.tail (Has.tail Has.head)))))) rfl rfl) (RV.tmp rfl) (fun wz hw => ?_)
          -- mq: done
          exact ⟨by rw [palV, if_neg (by omega), if_neg (by omega)]; rfl, hw.ext⟩
      · skip
        have h3p := of_decide_eq_false h3
        refine RW.guardF rfl rfl rfl h3 ?_
        refine RW.guardF rfl rfl rfl h3 ?_
        refine RW.guardF rfl rfl rfl h3 ?_
        refine RW.guardF rfl rfl rfl h3 ?_
        refine RW.pickC rfl rfl h3 rfl ?_
        refine RW.assign rfl rfl ?_
        refine RW.nil (EX.seq ?_)
        -- mq: cond
        refine CW.condF rfl (rfl) ?_
        refine CW.skip (EX.bkN (EX.seq (CW.seq (CW.region ?_))))
        refine RW.buildS bu23 rfl rfl rfl ?_
        refine RW.move rfl rfl ?_
        refine RW.move rfl rfl ?_
        refine RW.add rfl rfl rfl (wrap64 (by omega) (by omega)) ?_
        refine RW.eqlI rfl rfl rfl ?_
        refine RW.storeA ag23 rfl rfl (by first | exact Upd.head | exact Upd.tail Upd.head | exact Upd.tail (Upd.tail Upd.head) | exact Upd.tail (Upd.tail (Upd.tail Upd.head)) | exact Upd.tail (Upd.tail (Upd.tail (Upd.tail Upd.head))) | exact Upd.tail (Upd.tail (Upd.tail (Upd.tail (Upd.tail Upd.head)))) | exact Upd.tail (Upd.tail (Upd.tail (Upd.tail (Upd.tail (Upd.tail Upd.head)))))) (by first | rfl | exact Enc.len _ _) (by repeat (first | exact Ones.nil | exact Enc.ones _ _ | refine Ones.cons rfl ?_)) (by first | exact Nat.le_of_ble_eq_true rfl | (simp only [Enc.len]; decide)) ?_
        refine RW.assign rfl rfl ?_
        refine RW.nil (EX.seq (CW.ret ?_))
        refine EX.fin2' Tryd.results37 (RV.cellA ag23 rfl (by first | exact Has.head | exact Has.tail Has.head | exact Has.tail (Has.tail Has.head) | exact Has.tail (Has.tail (Has.tail Has.head)) | exact Has.tail (Has.tail (Has.tail (Has.tail Has.head))) | exact Has.tail (Has.tail (Has.tail (Has.tail (Has.tail Has.head)))) | exact Has.tail (Has.tail (Has.tail (Has.tail (Has.tail (Has.tail Has.head)))))) rfl rfl) (RV.tmp rfl) (fun wz hw => ?_)
        -- mq: done
        exact ⟨by rw [palV, if_neg (by omega), if_neg (by omega)]; rfl, hw.ext⟩
  · skip
    have h1p := of_decide_eq_false h1
    refine RW.guardF rfl rfl rfl h1 ?_
    refine RW.guardF rfl rfl rfl h1 ?_
    refine RW.guardF rfl rfl rfl h1 ?_
    refine RW.guardF rfl rfl rfl h1 ?_
    refine RW.pickC rfl rfl h1 rfl ?_
    refine RW.assign rfl rfl ?_
    refine RW.nil (EX.seq ?_)
    -- mq: cond
    refine CW.condF rfl (rfl) ?_
    refine CW.seq (CW.region ?_)
    refine RW.move rfl rfl ?_
    refine RW.move rfl rfl ?_
    refine RW.geq rfl rfl rfl ?_
    refine RW.move rfl rfl ?_
    -- mq: guard slot 26
    refine RW.casesB 26 rfl (fun h3 => ?_) (fun h3 => ?_)
    · skip
      have h3p := of_decide_eq_true h3
      refine RW.guardT rfl rfl h3 ?_
      refine RW.move rfl rfl ?_
      refine RW.guardT rfl rfl h3 ?_
      refine RW.move rfl rfl ?_
      refine RW.guardT rfl rfl h3 ?_
      refine RW.add rfl rfl rfl (wrap64 (by omega) (by omega)) ?_
      refine RW.guardT rfl rfl h3 ?_
      refine RW.lss rfl rfl rfl ?_
      refine RW.pickB rfl rfl h3 rfl ?_
      refine RW.assign rfl rfl ?_
      refine RW.nil (EX.seq ?_)
      -- mq: cond
      first | refine CW.condD rfl (fun h4 => ?_) (fun h4 => ?_) | refine CW.cond rfl (fun h4 => ?_) (fun h4 => ?_)
      · skip
        refine CW.seq (CW.region ?_)
        refine RW.move rfl rfl ?_
        refine RW.move rfl rfl ?_
        refine RW.sub_ rfl rfl rfl (wrap64 (by omega) (by omega)) ?_
        refine RW.add rfl rfl rfl (wrap64 (by omega) (by omega)) ?_
        refine RW.buildS bu23 rfl rfl rfl ?_
        refine RW.storeA ag23 rfl rfl (by first | exact Upd.head | exact Upd.tail Upd.head | exact Upd.tail (Upd.tail Upd.head) | exact Upd.tail (Upd.tail (Upd.tail Upd.head)) | exact Upd.tail (Upd.tail (Upd.tail (Upd.tail Upd.head))) | exact Upd.tail (Upd.tail (Upd.tail (Upd.tail (Upd.tail Upd.head)))) | exact Upd.tail (Upd.tail (Upd.tail (Upd.tail (Upd.tail (Upd.tail Upd.head)))))) (by first | rfl | exact Enc.len _ _) (by repeat (first | exact Ones.nil | exact Enc.ones _ _ | refine Ones.cons rfl ?_)) (by first | exact Nat.le_of_ble_eq_true rfl | (simp only [Enc.len]; decide)) ?_
        refine RW.assign rfl rfl ?_
        refine RW.nil (EX.seq (CW.ret (EX.bkR (EX.seqR ?_))))
        refine EX.fin2' Tryd.results37 (RV.cellA ag23 rfl (by first | exact Has.head | exact Has.tail Has.head | exact Has.tail (Has.tail Has.head) | exact Has.tail (Has.tail (Has.tail Has.head)) | exact Has.tail (Has.tail (Has.tail (Has.tail Has.head))) | exact Has.tail (Has.tail (Has.tail (Has.tail (Has.tail Has.head)))) | exact Has.tail (Has.tail (Has.tail (Has.tail (Has.tail (Has.tail Has.head)))))) rfl rfl) (RV.tmp rfl) (fun wz hw => ?_)
        -- mq: done
        exact ⟨by rw [palV, if_neg (by omega), if_pos (by omega)]; rfl, hw.ext⟩
      · skip
        refine CW.skip (EX.bkN (EX.seq (CW.seq (CW.region ?_))))
        refine RW.buildS bu23 rfl rfl rfl ?_
        refine RW.move rfl rfl ?_
        refine RW.move rfl rfl ?_
        refine RW.add rfl rfl rfl (wrap64 (by omega) (by omega)) ?_
        refine RW.eqlI rfl rfl rfl ?_
        refine RW.storeA ag23 rfl rfl (by first | exact Upd.head | exact Upd.tail Upd.head | exact Upd.tail (Upd.tail Upd.head) | exact Upd.tail (Upd.tail (Upd.tail Upd.head)) | exact Upd.tail (Upd.tail (Upd.tail (Upd.tail Upd.head))) | exact Upd.tail (Upd.tail (Upd.tail (Upd.tail (Upd.tail Upd.head)))) | exact Upd.tail (Upd.tail (Upd.tail (Upd.tail (Upd.tail (Upd.tail Upd.head)))))) (by first | rfl | exact Enc.len _ _) (by repeat (first | exact Ones.nil | exact Enc.ones _ _ | refine Ones.cons rfl ?_)) (by first | exact Nat.le_of_ble_eq_true rfl | (simp only [Enc.len]; decide)) ?_
        refine RW.assign rfl rfl ?_
        refine RW.nil (EX.seq (CW.ret ?_))
        refine EX.fin2' Tryd.results37 (RV.cellA ag23 rfl (by first | exact Has.head | exact Has.tail Has.head | exact Has.tail (Has.tail Has.head) | exact Has.tail (Has.tail (Has.tail Has.head)) | exact Has.tail (Has.tail (Has.tail (Has.tail Has.head))) | exact Has.tail (Has.tail (Has.tail (Has.tail (Has.tail Has.head)))) | exact Has.tail (Has.tail (Has.tail (Has.tail (Has.tail (Has.tail Has.head)))))) rfl rfl) (RV.tmp rfl) (fun wz hw => ?_)
        -- mq: done
        exact ⟨by rw [palV, if_neg (by omega), if_neg (by omega)]; rfl, hw.ext⟩
    · skip
      have h3p := of_decide_eq_false h3
      refine RW.guardF rfl rfl rfl h3 ?_
      refine RW.guardF rfl rfl rfl h3 ?_
      refine RW.guardF rfl rfl rfl h3 ?_
      refine RW.guardF rfl rfl rfl h3 ?_
      refine RW.pickC rfl rfl h3 rfl ?_
      refine RW.assign rfl rfl ?_
      refine RW.nil (EX.seq ?_)
      -- mq: cond
      refine CW.condF rfl (rfl) ?_
      refine CW.skip (EX.bkN (EX.seq (CW.seq (CW.region ?_))))
      refine RW.buildS bu23 rfl rfl rfl ?_
      refine RW.move rfl rfl ?_
      refine RW.move rfl rfl ?_
      refine RW.add rfl rfl rfl (wrap64 (by omega) (by omega)) ?_
      refine RW.eqlI rfl rfl rfl ?_
      refine RW.storeA ag23 rfl rfl (by first | exact Upd.head | exact Upd.tail Upd.head | exact Upd.tail (Upd.tail Upd.head) | exact Upd.tail (Upd.tail (Upd.tail Upd.head)) | exact Upd.tail (Upd.tail (Upd.tail (Upd.tail Upd.head))) | exact Upd.tail (Upd.tail (Upd.tail (Upd.tail (Upd.tail Upd.head)))) | exact Upd.tail (Upd.tail (Upd.tail (Upd.tail (Upd.tail (Upd.tail Upd.head)))))) (by first | rfl | exact Enc.len _ _) (by repeat (first | exact Ones.nil | exact Enc.ones _ _ | refine Ones.cons rfl ?_)) (by first | exact Nat.le_of_ble_eq_true rfl | (simp only [Enc.len]; decide)) ?_
      refine RW.assign rfl rfl ?_
      refine RW.nil (EX.seq (CW.ret ?_))
      refine EX.fin2' Tryd.results37 (RV.cellA ag23 rfl (by first | exact Has.head | exact Has.tail Has.head | exact Has.tail (Has.tail Has.head) | exact Has.tail (Has.tail (Has.tail Has.head)) | exact Has.tail (Has.tail (Has.tail (Has.tail Has.head))) | exact Has.tail (Has.tail (Has.tail (Has.tail (Has.tail Has.head)))) | exact Has.tail (Has.tail (Has.tail (Has.tail (Has.tail (Has.tail Has.head)))))) rfl rfl) (RV.tmp rfl) (fun wz hw => ?_)
      -- mq: done
      exact ⟨by rw [palV, if_neg (by omega), if_neg (by omega)]; rfl, hw.ext⟩
end Go.Proofs.YtojfodeienchfaaDoor.Mq
