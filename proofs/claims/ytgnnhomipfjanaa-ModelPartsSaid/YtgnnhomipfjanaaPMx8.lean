/- Functions with the same answers as the Go functions named, and that the Go code comes to just these; written by a program of this work, out of the kit's print. -/
import Derived.Test.YtgnnhomipfjanaaPMx0
namespace Go.Proofs.Ytgnnhomipfjanaa.PM
open Go.RowKit Go.Proofs.YtgnnhomipfjanaaW.PrintWords Go.Proofs.YtgnnhomipfjanaaW.PrintLast Go.Proofs.YtgnnhomipfjanaaW.PrintMore
attribute [local go_sem] Go.Lib.run_max_strs max2_int min2_int max_two min_two max_three min_three max_four min_four   -- for this text's walks alone
set_option linter.unusedVariables false
set_option linter.unusedSimpArgs false

/-! ### key_Whole: function 35 -/
def key_Whole.f  : Option (ByteArray × ByteArray × Bool) := some ((⟨#[]⟩ : ByteArray), (⟨#[]⟩ : ByteArray), true)
set_option maxHeartbeats 8000000 in
set_option maxRecDepth 100000 in
theorem key_Whole.calls  (r1 : ByteArray) (r2 : ByteArray) (r3 : Bool) (w : World) (h : key_Whole.f  = some (r1, r2, r3)) :
    Calls Try.prog 35 #[] w fun e w' => e = .returned (.agg #[.string r1, .string r2, .bool r3]) ∧ Below w.heap.size w w' := by
  have hu44 := Try.underlying44
  have HB := Aside0.mk (Below.refl w.heap.size w)
  have H : (some ((⟨#[]⟩ : ByteArray), (⟨#[]⟩ : ByteArray), true)) = some (r1, r2, r3) := h
  clear h
  simp only [Option.some.injEq, Prod.mk.injEq] at H
  obtain ⟨rfl, rfl, rfl⟩ := H
  go_enter Try.func35, Try.ntmps35
  go_wp2_with (first | ((with_reducible refine gate_dst (N := 0) rfl ?_); refine box_event ?hg (N := 0) ?hd (cs := #[.string (⟨#[]⟩ : ByteArray), .string (⟨#[]⟩ : ByteArray), .bool false]) (t := 44) ?hr ?_; (case hd => rfl); (case hg => rfl); (case hr => first | (go_simp; done) | (go_simp; rfl)); intro gb295 hg w1 hbox hb; have n0_ := Aside0.mk (below_step (by repeat (first | (with_reducible first | exact HB.out | apply below_alloc | apply pw_below_drewN | apply below_drew1) | exact HB.out)) hb); have n1_ := Aside0.mk (hbox); have n2_ := Aside0.mk ((by rw [hg]; exact (below_size (by repeat (first | (with_reducible first | exact HB.out | apply below_alloc | apply pw_below_drewN | apply below_drew1) | exact HB.out))) : w.heap.size ≤ gb295)); have n3_ := Aside0.mk ((by rw [hg]; exact (below_size (by repeat (first | (with_reducible first | exact HB.out | apply below_alloc | apply pw_below_drewN | apply below_drew1) | exact HB.out))) : w.heap.size ≤ gb295)); clear HB; have HB := n0_; have BK295 := n1_; have GW295 := n2_; have GE295 := n3_; clear n0_ n1_ n2_ n3_; clear hb hbox hg; have hcz2_0 : w1.cell? ⟨gb295, 0, none⟩ = some (.string (⟨#[]⟩ : ByteArray)) := (blk_cell BK295.out 0).trans rfl; have hcz2_1 : w1.cell? ⟨gb295, 1, none⟩ = some (.string (⟨#[]⟩ : ByteArray)) := (blk_cell BK295.out 1).trans rfl; have hcz2_2 : w1.cell? ⟨gb295, 2, none⟩ = some (.bool false) := (blk_cell BK295.out 2).trans rfl; have hfz2_0 := blk_frozen BK295.out 0; have hfz2_1 := blk_frozen BK295.out 1; have hfz2_2 := blk_frozen BK295.out 2))
  refine bodyPost_ret (results_cell_row rfl _ _ gb295 44 #[.string (⟨#[]⟩ : ByteArray), .string (⟨#[]⟩ : ByteArray), .bool true] (0, 0) _ rfl (by (with_reducible repeat (first | refine blk_drewN ?_ _ | refine blk_drew ?_ | refine blk_alloc ?_ _)); refine blk_put (cs := #[.string (⟨#[]⟩ : ByteArray), .string (⟨#[]⟩ : ByteArray), .bool false]) ?_ 2 _ rfl; (with_reducible repeat (first | refine blk_drewN ?_ _ | refine blk_drew ?_ | refine blk_alloc ?_ _)); refine blk_put (cs := #[.string (⟨#[]⟩ : ByteArray), .string (⟨#[]⟩ : ByteArray), .bool false]) ?_ 1 _ rfl; (with_reducible repeat (first | refine blk_drewN ?_ _ | refine blk_drew ?_ | refine blk_alloc ?_ _)); refine blk_put (cs := #[.string (⟨#[]⟩ : ByteArray), .string (⟨#[]⟩ : ByteArray), .bool false]) ?_ 0 _ rfl; (with_reducible repeat (first | refine blk_drewN ?_ _ | refine blk_drew ?_ | refine blk_alloc ?_ _)); exact BK295.out) Try.underlying44 rfl (by kernel_rfl)) rfl ?_
  exact ⟨by first | rfl | (simp [errW_none, errW_some] <;> rfl) | (simp [*, errW_none, errW_some] <;> rfl), by repeat (first | (with_reducible first | exact HB.out | apply below_alloc | apply pw_below_drewN | apply below_drew1 | refine below_set ?_ GE295.out) | exact HB.out)⟩

end Go.Proofs.Ytgnnhomipfjanaa.PM
