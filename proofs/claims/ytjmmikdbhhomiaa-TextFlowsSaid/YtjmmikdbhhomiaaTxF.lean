/- text: Of -/
import Derived.Test.YtjmmikdbhhomiaaTxE
namespace Go.Proofs.Ytjmmikdbhhomiaa.Mq
open Go Go.RowKit Go.Proofs

theorem Of_c (w : World) (F : Nat → Prop) (A : Option Addr) (n c : Nat) (rows : List RowL) (hr : RdRows w F A n c rows) (fr to : PosV) (hn : n ≤ 100000) (hfr : 0 ≤ fr.row) (hfr2 : fr.row ≤ 1000000) (hto : 0 ≤ to.col) (hto2 : to.row ≤ 1000000)
    (hmore : ∀ row ∈ rows, ∀ x ∈ row.1, x.more.length ≤ 1000000) (hlen : (ofF rows fr to).length ≤ 140737488355328) :
    Calls Try.prog 9 [.slice A n c, .agg fr.enc.toArray, .agg to.enc.toArray].toArray w (fun e w' => e = .returned (.string (bs (ofF rows fr to))) ∧ Ext [] w w') := by
  refine calls (n := 14) Try.func9 rfl Try.ntmps9 rfl ?_
  refine CW.sub (H' := SH w [] []) ?_ (Sub.refl _) (fun x hx => SH.start' _ _ hx)
  refine CW.seq (CW.region ?_)
  refine RW.boxA rfl rfl (fun g4 hg4 hf4 => ?_)
  refine RW.boxA rfl rfl (fun g5 hg5 hf5 => ?_)
  refine RW.assign rfl rfl ?_
  refine RW.nil (EX.seq (CW.seq (CW.region ?_)))
  refine RW.allocA ag61 rfl (fun g7 hg7 hf7 => ?_)
  refine RW.nil (EX.seq (CW.seq ?_))
  -- mq: region
  refine CW.region ?_
  refine RW.move rfl rfl ?_
  refine RW.loadBA ag44 rfl rfl (by first | exact Has.head | exact Has.tail Has.head | exact Has.tail (Has.tail Has.head) | exact Has.tail (Has.tail (Has.tail Has.head)) | exact Has.tail (Has.tail (Has.tail (Has.tail Has.head))) | exact Has.tail (Has.tail (Has.tail (Has.tail (Has.tail Has.head)))) | exact Has.tail (Has.tail (Has.tail (Has.tail (Has.tail (Has.tail Has.head)))))) rfl rfl ?_
  refine RW.loadBA ag44 rfl rfl (by first | exact Has.head | exact Has.tail Has.head | exact Has.tail (Has.tail Has.head) | exact Has.tail (Has.tail (Has.tail Has.head)) | exact Has.tail (Has.tail (Has.tail (Has.tail Has.head))) | exact Has.tail (Has.tail (Has.tail (Has.tail (Has.tail Has.head)))) | exact Has.tail (Has.tail (Has.tail (Has.tail (Has.tail (Has.tail Has.head)))))) rfl rfl ?_
  refine RW.makeFunc (us := []) (vs := [.pointer (some ⟨g7, 0, none⟩)]) rfl rfl rfl ?_
  refine RW.callW (first := []) (cap := []) (fun _ _ w7 => BlK w g7 (ofF rows fr to) w7) rfl rfl ca22 rfl (fun w' hw' => (walk_c w F A n c rows hr fr to g7 hn hfr hfr2 hto hto2 hmore hlen w' (BlK.start hg7 ((hw'.rem (Rem.tail Rem.head)).rem (Rem.tail Rem.head)))).mono fun e w2 ⟨v, he, h1, _⟩ => ⟨v, he, h1⟩) (fun w6 v w7 hw6 hb7 => ?_)
  refine RW.nil (EX.seq (CW.seq ?_))
  -- mq: region
  refine CW.sub (H' := SH w7 [] []) ?_ (Sub.refl _) (fun x hx => SH.start' _ _ hx)
  refine CW.region ?_
  -- mq: at
  refine RW.callW (first := []) (cap := []) (fun _ v w9 => v = .string (bs (ofF rows fr to)) ∧ Ext [] w w9) rfl rfl caBS rfl (fun w' hw' => (bldString_k w g7 _ w' (hb7.ext hw'.ext)).mono fun e w2 ⟨he, h1⟩ => ⟨_, he, rfl, h1⟩) (fun w8 v w9 hw8 ⟨hv, hx9⟩ => ?_)
  subst hv
  refine RW.assign rfl rfl ?_
  refine RW.nil (EX.seq (CW.ret ?_))
  refine EX.fin1 Try.results9 rfl (fun wz hw => ?_)
  -- mq: done
  exact ⟨rfl, by subst hw; exact hx9⟩
end Go.Proofs.Ytjmmikdbhhomiaa.Mq
