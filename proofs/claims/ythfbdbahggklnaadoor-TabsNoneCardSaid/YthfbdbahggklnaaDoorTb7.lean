/- tabs: awake; TabsHas, TabsNone -/
import Derived.Test.YthfbdbahggklnaaDoorTb6
namespace Go.Proofs.YthfbdbahggklnaaDoor.Mq
open Go Go.RowKit Go.Proofs

section
variable {w : World} {g n : Nat} {bs : List Bool} {i : SI}
theorem has_n (ho : Okk bs i) (hl : bs.length = n) (h : (stp g n i).pred w) (x : Int) (hx64 : -9223372036854775808 ≤ x ∧ x ≤ 9223372036854775807) : Calls Tryd.prog 12 [ptr g, .int .i64 x].toArray w (fun e w' => e = .returned (.bool (hasB bs x)) ∧ Ext [] w w') := by
  subst hl; exact has_c w g bs i ho (RdS.of h ho.len) x hx64
theorem cols_n (ho : Okk bs i) (h : (stp g n i).pred w) : Calls Tryd.prog 10 [ptr g].toArray w (fun e w' => e = .returned (.int .i64 (n : Int)) ∧ Ext [] w w') := cols_c w g n i (RdS.of h ho.len)
theorem next_n (hg : Gt w) (ho : Okk bs i) (hl : bs.length = n) (h : (stp g n i).pred w) (hp : 0 < n) (x k : Int) : Calls Tryd.prog 22 [ptr g, .int .i64 x, .int .i64 k].toArray w (fun e w' => e = .returned (.int .i64 (timesB (afterB bs) n x k : Int)) ∧ Ext [] w w') := by
  subst hl; exact next_c w hg g bs i ho (RdS.of h ho.len) hp x k
theorem ahead_n (ho : Okk bs i) (hl : bs.length = n) (h : (stp g n i).pred w) (hp : 0 < n) (x k : Int) : Calls Tryd.prog 23 [ptr g, .int .i64 x, .int .i64 k].toArray w (fun e w' => e = .returned (.int .i64 (timesB (beforeB bs) n x k : Int)) ∧ Ext [] w w') := by
  subst hl; exact ahead_c w g bs i ho (RdS.of h ho.len) hp x k
theorem list_n (ho : Okk bs i) (hl : bs.length = n) (h : (stp g n i).pred w) : Calls Tryd.prog 20 [ptr g].toArray w (RetSl EInt w (listB bs)) := by
  subst hl; exact list_c w g bs i ho (RdS.of h ho.len)
theorem set_n (ho : Okk bs i) (hl : bs.length = n) (h : (stp g n i).pred w) (hn : (stp g n i).foot.Nodup) (x : Int) (hx64 : -9223372036854775808 ≤ x ∧ x ≤ 9223372036854775807) : Calls Tryd.prog 11 [ptr g, .int .i64 x].toArray w (RetS g n i (withB bs x true) w) := by
  subst hl; exact set_c w g bs i ho h hn x hx64
theorem clear_n (ho : Okk bs i) (hl : bs.length = n) (h : (stp g n i).pred w) (hn : (stp g n i).foot.Nodup) (x : Int) (hx64 : -9223372036854775808 ≤ x ∧ x ≤ 9223372036854775807) : Calls Tryd.prog 13 [ptr g, .int .i64 x].toArray w (RetS g n i (withB bs x false) w) := by
  subst hl; exact clear_c w g bs i ho h hn x hx64
theorem none_n (ho : Okk bs i) (hl : bs.length = n) (h : (stp g n i).pred w) (hn : (stp g n i).foot.Nodup) (hp : 0 < n) : Calls Tryd.prog 16 [ptr g].toArray w (RetS g n i (List.replicate n false) w) := by
  subst hl; exact none_c w g bs i ho h hn hp
theorem size_n (ho : Okk bs i) (hl : bs.length = n) (h : (stp g n i).pred w) (hn : (stp g n i).foot.Nodup) (k : Nat) (h2 : 2 ≤ k ∧ k ≤ 1000) :
    Calls Tryd.prog 17 [ptr g, .int .i64 (k : Int)].toArray w (RetU (fun _ => Value.int .i64 0) (stp g n i) (fun j => stp g k j) (fun j => Okk (sizeB bs k) j) w) := by
  subst hl; exact size_c w g bs i ho h hn k h2
end
theorem awake_c (w : World) (hg : Gt w) : Calls Tryd.prog 8 [].toArray w (fun e w' => e = .returned (.bool true) ∧ Ext [] w w') := by
  have hl20 : (sizeB [] 20).length = 20 := sizeB_len _ _
  have hls : listB (sizeB [] 20) = [0, 8, 16] := by decide
  refine calls (n := 30) Tryd.func8 rfl Tryd.ntmps8 rfl ?_
  refine CW.sub (H' := SH w [] []) ?_ (Sub.refl _) (fun x hx => SH.start' _ _ hx)
  refine CW.seq (CW.region ?_)
  refine RW.assign rfl rfl ?_
  refine RW.nil (EX.seq (CW.seq (CW.region ?_)))
  -- mq: op 0: ('Op.call', ('Call.mk', ('Callee.value', ('Operand.func', '9')), ('arr', ('Operand.const', ('Value.int', 'IntKind.i64', '20'))), ('arr', '3'))) -> slot 4 ("law.go:13")
  refine RW.callNew rfl ca9 rfl (fun w' _ => new_c w' 20 (by decide)) (fun s hs => ?_)
  obtain ⟨g, i⟩ := s
  dsimp only at hs ⊢
  refine RW.move rfl rfl ?_
  refine RW.extract rfl rfl rfl ?_
  refine RW.extract rfl rfl rfl ?_
  refine RW.assign rfl rfl ?_
  refine RW.assign rfl rfl ?_
  refine RW.nil (EX.seq (CW.seq (CW.region ?_)))
  refine RW.move rfl rfl ?_
  refine RW.eqlI rfl rfl rfl ?_
  refine RW.move rfl rfl ?_
  refine RW.guardT rfl rfl rfl ?_
  refine RW.move rfl rfl ?_
  refine RW.guardT rfl rfl rfl ?_
  -- mq: op 4: ('Op.call', ('Call.mk', ('Callee.value', ('Operand.func', '20')), ('arr', ('Operand.tmp', '10')), ('arr', '25'))) -> slot 11 ("law.go:14")
  refine RW.callK rfl ca20 rfl (fun w' hw' => list_n hs hl20 (hw'.has Has.head)) (fun w3 w4 A4 n4 c4 hw3 he34 hw4 hlt4 hrd4 => ?_)
  rw [hls] at hrd4
  have h3 := hrd4.len
  have hgx : ∀ w', SH w4 (feet [stp g 20 i]) [stp g 20 i] w' → Gt w' := fun w' hw' => hg.ext (hw'.unbase (hw3.ext.trans0 he34) hw3.cov).ext
  refine RW.guardT rfl rfl rfl ?_
  refine RW.buildSlc sl42 rfl rfl rfl rfl (fun g12 hg12 hf12 => ?_)
  refine RW.guardT rfl rfl rfl ?_
  refine RW.call (v := .bool true) rfl ca19 rfl (fun w' hw' => Ints_c w' _ _ _ _ _ _ _ _ [0, 8, 16] (hrd4.ext hw'.ext (fun k hk hk2 => by have := hlt4 k hk2; omega)) (Rd.of_blk (E := EInt) hw' Has.head rfl (by decide)) (by rw [← h3]; decide)) ?_
  refine RW.pickB rfl rfl rfl rfl ?_
  refine RW.move rfl rfl ?_
  refine RW.guardT rfl rfl rfl ?_
  refine RW.move rfl rfl ?_
  refine RW.guardT rfl rfl rfl ?_
  refine RW.call (v := .int .i64 8) rfl ca22 rfl (fun w' hw' => next_n (hgx _ (hw'.rem Rem.head)) hs hl20 (hw'.has (Has.tail Has.head)) (by decide) 3 1) ?_
  refine RW.guardT rfl rfl rfl ?_
  refine RW.eqlI rfl rfl rfl ?_
  refine RW.pickB rfl rfl rfl rfl ?_
  refine RW.move rfl rfl ?_
  refine RW.guardT rfl rfl rfl ?_
  refine RW.move rfl rfl ?_
  refine RW.guardT rfl rfl rfl ?_
  refine RW.call (v := .int .i64 16) rfl ca22 rfl (fun w' hw' => next_n (hgx _ (hw'.rem Rem.head)) hs hl20 (hw'.has (Has.tail Has.head)) (by decide) 3 2) ?_
  refine RW.guardT rfl rfl rfl ?_
  refine RW.eqlI rfl rfl rfl ?_
  refine RW.pickB rfl rfl rfl rfl ?_
  refine RW.move rfl rfl ?_
  refine RW.guardT rfl rfl rfl ?_
  refine RW.move rfl rfl ?_
  refine RW.guardT rfl rfl rfl ?_
  refine RW.call (v := .int .i64 19) rfl ca22 rfl (fun w' hw' => next_n (hgx _ (hw'.rem Rem.head)) hs hl20 (hw'.has (Has.tail Has.head)) (by decide) 3 3) ?_
  refine RW.guardT rfl rfl rfl ?_
  refine RW.eqlI rfl rfl rfl ?_
  refine RW.pickB rfl rfl rfl rfl ?_
  refine RW.assign rfl rfl ?_
  refine RW.nil (EX.seq (CW.ret ?_))
  refine EX.fin1 Tryd.results8 rfl (fun wz hw => ?_)
  -- mq: done
  exact ⟨rfl, ((hw.rem Rem.head).rem Rem.head |>.unbase (hw3.ext.trans0 he34) (fun k hk hlt => hw3.cov k hk hlt)).ext⟩
end Go.Proofs.YthfbdbahggklnaaDoor.Mq
