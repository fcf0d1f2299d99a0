/- rundlelaw26.ScriptSame: whatever the step and the field, the law answers true. -/
import Derived.Test.YtlkbeddlmbghkaaDoorScA
import Derived.Test.YtlkbeddlmbghkaaDoorScM
import Derived.Test.YtlkbeddlmbghkaaDoorScL
namespace Go.Proofs.YtlkbeddlmbghkaaDoor.PR
open Go Go.Proofs Go.RowKit Go.Proofs.YtlkbeddlmbghkaaDoorW.PrintWords Go.Proofs.YtlkbeddlmbghkaaDoorW.PrintLast Go.Proofs.YtlkbeddlmbghkaaDoorW.PrintMore
attribute [local go_sem] Wd.one Wd.run_store
set_option linter.unusedVariables false
set_option linter.unusedSimpArgs false
set_option maxRecDepth 100000

theorem put_C {W : World} {base r i : Nat} {u : Value} {B : Option Addr} {d : Nat} {L : List S53} (h : k53.R 53 W base (fun _ => True) (.slice B L.length d) L) (hr : r < base) : Kd.C k53 (W.setCell ⟨r, i, none⟩ u) B L.length L ∧ L.length ≤ d := by
  have h2 : k53.R 53 (W.setCell ⟨r, i, none⟩ u) base (fun _ => True) (.slice B L.length d) L := Kd.R_mono (Kd.R_far (p := ⟨r, i, none⟩) (Kd.R_bound h) (fun k hk => by have := hk.2.1; show k ≠ r; omega) u) (fun _ _ => trivial)
  obtain ⟨B', d', e, hd, hC⟩ := Kd.R_reads h2
  cases e
  exact ⟨hC, hd⟩
theorem wrap_ne (v : Int) : wrap64 (v + 1) ≠ v := by
  unfold wrap64
  omega
theorem app_ne (s : ByteArray) : s ++ ⟨#[120]⟩ ≠ s := by
  intro h
  have := congrArg ByteArray.size h
  rw [ByteArray.size_append] at this
  have e : (⟨#[120]⟩ : ByteArray).size = 1 := rfl
  omega
theorem not_ne (b : Bool) : (!b) ≠ b := by cases b <;> decide
theorem snoc_ne (l : List S53) : l ++ [z53] ≠ l := by
  intro h
  have := congrArg List.length h
  rw [List.length_append, List.length_singleton] at this
  omega

set_option maxHeartbeats 16000000 in
theorem same_law (x : S48) (A : Option Addr) (c : Nat) (n : Nat) (hn : n < 256) (w : World) (hk : KAt w) (h3 : 3 < w.heap.size) (hA : Kd.C k53 w A x.f3.f3.length x.f3.f3) (hc : x.f3.f3.length ≤ c) :
    Calls Tryd.prog 6 #[.agg #[.int .i64 x.f0, .int .i64 x.f1, .int .i64 x.f2, .int .i64 x.f3.f0, .string x.f3.f1, .string x.f3.f2, .slice A x.f3.f3.length c, .string x.f3.f4, .string x.f3.f5, .bool x.f3.f6, .int .i64 x.f3.f7, .int .i64 x.f3.f8, .int .i64 x.f3.f9, .int .i64 x.f3.f10], .int .u8 (n : Int)] w fun e w' => e = .returned (.bool true) ∧ Below w.heap.size w w' := by
  have hu48 := Tryd.underlying48
  have hu46 := Tryd.underlying46
  have hu53 := Tryd.underlying53
  have HN := Aside0.mk hn
  have HK := Aside0.mk hk
  have H3 := Aside0.mk h3
  have HA := Aside0.mk hA
  have HC := Aside0.mk hc
  clear hn hk h3 hA hc
  go_enter Tryd.func6, Tryd.ntmps6
  go_upto_region 1 with (fail)
  have PB := blk_new w (.cells #[.int .i64 x.f0, .int .i64 x.f1, .int .i64 x.f2, .int .i64 x.f3.f0, .string x.f3.f1, .string x.f3.f2, .slice A x.f3.f3.length c, .string x.f3.f4, .string x.f3.f5, .bool x.f3.f6, .int .i64 x.f3.f7, .int .i64 x.f3.f8, .int .i64 x.f3.f9, .int .i64 x.f3.f10] 48)
  have HB : Below w.heap.size w (w.alloc (.cells #[.int .i64 x.f0, .int .i64 x.f1, .int .i64 x.f2, .int .i64 x.f3.f0, .string x.f3.f1, .string x.f3.f2, .slice A x.f3.f3.length c, .string x.f3.f4, .string x.f3.f5, .bool x.f3.f6, .int .i64 x.f3.f7, .int .i64 x.f3.f8, .int .i64 x.f3.f9, .int .i64 x.f3.f10] 48)) := (Below.refl _ _).alloc (Nat.le_refl _) _
  have hlt : w.heap.size < (w.alloc (.cells #[.int .i64 x.f0, .int .i64 x.f1, .int .i64 x.f2, .int .i64 x.f3.f0, .string x.f3.f1, .string x.f3.f2, .slice A x.f3.f3.length c, .string x.f3.f4, .string x.f3.f5, .bool x.f3.f6, .int .i64 x.f3.f7, .int .i64 x.f3.f8, .int .i64 x.f3.f9, .int .i64 x.f3.f10] 48)).heap.size := by rw [World.size_alloc]; omega
  change Code.wp _ _ _ _ (w.alloc (.cells #[.int .i64 x.f0, .int .i64 x.f1, .int .i64 x.f2, .int .i64 x.f3.f0, .string x.f3.f1, .string x.f3.f2, .slice A x.f3.f3.length c, .string x.f3.f4, .string x.f3.f5, .bool x.f3.f6, .int .i64 x.f3.f7, .int .i64 x.f3.f8, .int .i64 x.f3.f9, .int .i64 x.f3.f10] 48))
  generalize (w.alloc (.cells #[.int .i64 x.f0, .int .i64 x.f1, .int .i64 x.f2, .int .i64 x.f3.f0, .string x.f3.f1, .string x.f3.f2, .slice A x.f3.f3.length c, .string x.f3.f4, .string x.f3.f5, .bool x.f3.f6, .int .i64 x.f3.f7, .int .i64 x.f3.f8, .int .i64 x.f3.f9, .int .i64 x.f3.f10] 48)) = w0 at *
  have P0 := Aside0.mk PB
  have HB0 := Aside0.mk HB
  have HL0 := Aside0.mk hlt
  clear PB HB hlt
  go_cut [12] (fun v12 wx => ∃ b, v12 = .bool b ∧ (b = false → Short x) ∧ Below w0.heap.size w0 wx)
  case first =>
    go_wp2_with (fail)
    refine (awake_at w0 (HK.out.mono H3.out HB0.out) (Nat.lt_trans H3.out HL0.out)).mono ?_
    rintro e w1 ⟨rfl, hb1⟩
    have P1 := Aside0.mk (blk_below P0.out hb1)
    have HB1 := Aside0.mk hb1
    clear hb1
    have q0 : w1.cell? ⟨w.heap.size, 0, none⟩ = some (.int .i64 x.f0) := (blk_cell P1.out 0).trans rfl
    have q1 : w1.cell? ⟨w.heap.size, 1, none⟩ = some (.int .i64 x.f1) := (blk_cell P1.out 1).trans rfl
    have q2 : w1.cell? ⟨w.heap.size, 2, none⟩ = some (.int .i64 x.f2) := (blk_cell P1.out 2).trans rfl
    have q3 : w1.cell? ⟨w.heap.size, 3, none⟩ = some (.int .i64 x.f3.f0) := (blk_cell P1.out 3).trans rfl
    have q4 : w1.cell? ⟨w.heap.size, 4, none⟩ = some (.string x.f3.f1) := (blk_cell P1.out 4).trans rfl
    have q5 : w1.cell? ⟨w.heap.size, 5, none⟩ = some (.string x.f3.f2) := (blk_cell P1.out 5).trans rfl
    have q6 : w1.cell? ⟨w.heap.size, 6, none⟩ = some (.slice A x.f3.f3.length c) := (blk_cell P1.out 6).trans rfl
    have q7 : w1.cell? ⟨w.heap.size, 7, none⟩ = some (.string x.f3.f4) := (blk_cell P1.out 7).trans rfl
    have q8 : w1.cell? ⟨w.heap.size, 8, none⟩ = some (.string x.f3.f5) := (blk_cell P1.out 8).trans rfl
    have q9 : w1.cell? ⟨w.heap.size, 9, none⟩ = some (.bool x.f3.f6) := (blk_cell P1.out 9).trans rfl
    have q10 : w1.cell? ⟨w.heap.size, 10, none⟩ = some (.int .i64 x.f3.f7) := (blk_cell P1.out 10).trans rfl
    have q11 : w1.cell? ⟨w.heap.size, 11, none⟩ = some (.int .i64 x.f3.f8) := (blk_cell P1.out 11).trans rfl
    have q12 : w1.cell? ⟨w.heap.size, 12, none⟩ = some (.int .i64 x.f3.f9) := (blk_cell P1.out 12).trans rfl
    have q13 : w1.cell? ⟨w.heap.size, 13, none⟩ = some (.int .i64 x.f3.f10) := (blk_cell P1.out 13).trans rfl
    go_wp2_with (fail)
    have HBx := (HB0.out.trans (HB1.out.mono HB0.out.size)).trans (((Below.refl w1.heap.size w1).alloc (Nat.le_refl _) (.cells #[.int .i64 x.f0, .int .i64 x.f1, .int .i64 x.f2, .int .i64 x.f3.f0, .string x.f3.f1, .string x.f3.f2, .slice A x.f3.f3.length c, .string x.f3.f4, .string x.f3.f5, .bool x.f3.f6, .int .i64 x.f3.f7, .int .i64 x.f3.f8, .int .i64 x.f3.f9, .int .i64 x.f3.f10] 48)).mono (Nat.le_trans HB0.out.size HB1.out.size))
    have HAx := Kd.C_below HA.out HBx
    have HBx' := Aside0.mk HBx
    have hs1 := HB1.out.size
    refine (long_at x A c (w1.alloc (.cells #[.int .i64 x.f0, .int .i64 x.f1, .int .i64 x.f2, .int .i64 x.f3.f0, .string x.f3.f1, .string x.f3.f2, .slice A x.f3.f3.length c, .string x.f3.f4, .string x.f3.f5, .bool x.f3.f6, .int .i64 x.f3.f7, .int .i64 x.f3.f8, .int .i64 x.f3.f9, .int .i64 x.f3.f10] 48)) w1.heap.size HC.out HAx (blk_new _ _)).mono ?_
    rintro e w2 ⟨b, rfl, hl, hb2⟩
    clear HBx HAx
    go_wp2_with (fail)
    go_meet
    exact ⟨b, rfl, hl, HB1.out.trans ((((Below.refl w1.heap.size w1).alloc (Nat.le_refl _) (.cells #[.int .i64 x.f0, .int .i64 x.f1, .int .i64 x.f2, .int .i64 x.f3.f0, .string x.f3.f1, .string x.f3.f2, .slice A x.f3.f3.length c, .string x.f3.f4, .string x.f3.f5, .bool x.f3.f6, .int .i64 x.f3.f7, .int .i64 x.f3.f8, .int .i64 x.f3.f9, .int .i64 x.f3.f10] 48)).trans (hb2.mono (by rw [World.size_alloc]; omega))).mono hs1)⟩
  case rest =>
    rename_i hKK
    obtain ⟨b, rfl, hl, hb⟩ := hcut
    refine hKK _ _ ?_
    clear hKK
    have PC := Aside0.mk (blk_below P0.out hb)
    have HBC := Aside0.mk (HB0.out.trans (hb.mono HB0.out.size))
    have hlc : w.heap.size < wc.heap.size := Nat.lt_of_lt_of_le HL0.out hb.size
    clear hb P0 HB0 HL0
    cases b with
    | true =>
      clear hl
      go_wp2_with (fail)
      refine (awake_at wc (HK.out.mono H3.out HBC.out) (Nat.lt_trans H3.out hlc)).mono ?_
      rintro e w1 ⟨rfl, hb1⟩
      go_wp2_with (fail)
      go_ret
      exact ⟨rfl, HBC.out.trans (hb1.mono (Nat.le_of_lt hlc))⟩
    | false =>
      have HX := Aside0.mk (hl rfl).1
      have HS := Aside0.mk (hl rfl)
      have HLC := Aside0.mk hlc
      clear hl hlc
      have q0 : wc.cell? ⟨w.heap.size, 0, none⟩ = some (.int .i64 x.f0) := (blk_cell PC.out 0).trans rfl
      have q1 : wc.cell? ⟨w.heap.size, 1, none⟩ = some (.int .i64 x.f1) := (blk_cell PC.out 1).trans rfl
      have q2 : wc.cell? ⟨w.heap.size, 2, none⟩ = some (.int .i64 x.f2) := (blk_cell PC.out 2).trans rfl
      have q3 : wc.cell? ⟨w.heap.size, 3, none⟩ = some (.int .i64 x.f3.f0) := (blk_cell PC.out 3).trans rfl
      have q4 : wc.cell? ⟨w.heap.size, 4, none⟩ = some (.string x.f3.f1) := (blk_cell PC.out 4).trans rfl
      have q5 : wc.cell? ⟨w.heap.size, 5, none⟩ = some (.string x.f3.f2) := (blk_cell PC.out 5).trans rfl
      have q6 : wc.cell? ⟨w.heap.size, 6, none⟩ = some (.slice A x.f3.f3.length c) := (blk_cell PC.out 6).trans rfl
      have q7 : wc.cell? ⟨w.heap.size, 7, none⟩ = some (.string x.f3.f4) := (blk_cell PC.out 7).trans rfl
      have q8 : wc.cell? ⟨w.heap.size, 8, none⟩ = some (.string x.f3.f5) := (blk_cell PC.out 8).trans rfl
      have q9 : wc.cell? ⟨w.heap.size, 9, none⟩ = some (.bool x.f3.f6) := (blk_cell PC.out 9).trans rfl
      have q10 : wc.cell? ⟨w.heap.size, 10, none⟩ = some (.int .i64 x.f3.f7) := (blk_cell PC.out 10).trans rfl
      have q11 : wc.cell? ⟨w.heap.size, 11, none⟩ = some (.int .i64 x.f3.f8) := (blk_cell PC.out 11).trans rfl
      have q12 : wc.cell? ⟨w.heap.size, 12, none⟩ = some (.int .i64 x.f3.f9) := (blk_cell PC.out 12).trans rfl
      have q13 : wc.cell? ⟨w.heap.size, 13, none⟩ = some (.int .i64 x.f3.f10) := (blk_cell PC.out 13).trans rfl
      go_upto_region 4 with (fail)
      clear q0 q1 q2 q3 q4 q5 q6 q7 q8 q9 q10 q11 q12 q13
      have Y4 := blk_new wc (.cells #[.int .i64 x.f0, .int .i64 x.f1, .int .i64 x.f2, .int .i64 x.f3.f0, .string x.f3.f1, .string x.f3.f2, .slice A x.f3.f3.length c, .string x.f3.f4, .string x.f3.f5, .bool x.f3.f6, .int .i64 x.f3.f7, .int .i64 x.f3.f8, .int .i64 x.f3.f9, .int .i64 x.f3.f10] 48)
      have hb4 : Below wc.heap.size wc (wc.alloc (.cells #[.int .i64 x.f0, .int .i64 x.f1, .int .i64 x.f2, .int .i64 x.f3.f0, .string x.f3.f1, .string x.f3.f2, .slice A x.f3.f3.length c, .string x.f3.f4, .string x.f3.f5, .bool x.f3.f6, .int .i64 x.f3.f7, .int .i64 x.f3.f8, .int .i64 x.f3.f9, .int .i64 x.f3.f10] 48)) := (Below.refl _ _).alloc (Nat.le_refl _) _
      have hs4 : wc.heap.size < (wc.alloc (.cells #[.int .i64 x.f0, .int .i64 x.f1, .int .i64 x.f2, .int .i64 x.f3.f0, .string x.f3.f1, .string x.f3.f2, .slice A x.f3.f3.length c, .string x.f3.f4, .string x.f3.f5, .bool x.f3.f6, .int .i64 x.f3.f7, .int .i64 x.f3.f8, .int .i64 x.f3.f9, .int .i64 x.f3.f10] 48)).heap.size := by rw [World.size_alloc]; omega
      change Code.wp _ _ _ _ (wc.alloc (.cells #[.int .i64 x.f0, .int .i64 x.f1, .int .i64 x.f2, .int .i64 x.f3.f0, .string x.f3.f1, .string x.f3.f2, .slice A x.f3.f3.length c, .string x.f3.f4, .string x.f3.f5, .bool x.f3.f6, .int .i64 x.f3.f7, .int .i64 x.f3.f8, .int .i64 x.f3.f9, .int .i64 x.f3.f10] 48))
      generalize (wc.alloc (.cells #[.int .i64 x.f0, .int .i64 x.f1, .int .i64 x.f2, .int .i64 x.f3.f0, .string x.f3.f1, .string x.f3.f2, .slice A x.f3.f3.length c, .string x.f3.f4, .string x.f3.f5, .bool x.f3.f6, .int .i64 x.f3.f7, .int .i64 x.f3.f8, .int .i64 x.f3.f9, .int .i64 x.f3.f10] 48)) = w4 at *
      obtain ⟨r, hr⟩ : ∃ r, r = wc.heap.size := ⟨_, rfl⟩
      rw [← hr] at Y4 hs4
      rw [← hr]
      have RW : Aside0 (w.heap.size < r) := ⟨by rw [hr]; exact HLC.out⟩
      have R4 := Aside0.mk hs4
      have Y4A := Aside0.mk Y4
      have X4 := Aside0.mk (blk_below PC.out hb4)
      have HB4 := Aside0.mk (HBC.out.trans (hb4.mono (Nat.le_of_lt HLC.out)))
      clear hb4 PC HBC hr HLC hs4 Y4
      go_upto_region 5 with (first
        | ((with_reducible refine gate_dst (N := 15) rfl ?_); refine Kd.R_lit k53 w4.heap.size 53 ?hg (N := 15) ?hd (w0 := w4) (xs := ([] : List S53)) (inner := []) (ok := fun _ => True) (okp := fun _ => True) ?hr ?hp (fun _ hk => hk) trivial (Below.refl _ _) (Nat.le_refl _) (by simp) ?_; (case hd => rfl); (case hg => rfl); (case hr => first | (go_simp; done) | (go_simp; rfl)); (case hp => exact (Reps.none _ _)); intro v1 w5 ho5 hb5 hg5_ hn5_; have O5 := Aside0.mk ho5; have B5 := Aside0.mk hb5; have q6 : w5.cell? ⟨w.heap.size, 6, none⟩ = some (.slice A x.f3.f3.length c) := (blk_cell (blk_below X4.out hb5) 6).trans rfl; clear ho5 hb5 hg5_ hn5_)
        | ((with_reducible refine gate_dst (N := 19) rfl ?_); refine Kd.R_append_rows k53 (w0 := w4) w4.heap.size rfl (.tmp 15) (.tmp 18) 44 53 (.agg #[(.string ⟨#[]⟩), (.string ⟨#[]⟩), (.bool false)]) 40 rfl Tryd.underlying44 info53 rfl (by decide) (by omega) v1 [] x.f3.f3 _ _ _ (fun _ => True) (fun _ => False) rfl rfl ?aO ?aR (fun _ _ h => h) (fun _ h => h.elim) ?aF ?aB ?aS ?aL ?_; (case aR => exact Kd.C_below HA.out (HB4.out.trans (B5.out.mono (Nat.le_of_lt (Nat.lt_trans RW.out R4.out))))); (case aB => exact B5.out); (case aF => exact fun _ _ => trivial); (case aO => exact O5.out); (case aS => exact B5.out.size); (case aL => have := HX.out; rw [List.length_nil]; omega); intro v2 w6 ho6 hb6 hg6_ hn6_; rw [List.nil_append] at ho6; obtain ⟨B, d, ev2⟩ := Kd.R_slice ho6; subst ev2; have O6 := Aside0.mk ho6; have B6 := Aside0.mk hb6; have rf6 : w6.frozen? ⟨r, 6, none⟩ = false := blk_frozen (blk_below Y4A.out hb6) 6; have r6 : w6.cell? ⟨r, 6, none⟩ = some (.slice A x.f3.f3.length c) := (blk_cell (blk_below Y4A.out hb6) 6).trans rfl; clear ho6 hb6 hg6_ hn6_ q6))
      clear r6 rf6
      have Y7 := Aside0.mk (blk_put (blk_below Y4A.out B6.out) 6 (.slice B x.f3.f3.length d) (cs' := #[.int .i64 x.f0, .int .i64 x.f1, .int .i64 x.f2, .int .i64 x.f3.f0, .string x.f3.f1, .string x.f3.f2, .slice B x.f3.f3.length d, .string x.f3.f4, .string x.f3.f5, .bool x.f3.f6, .int .i64 x.f3.f7, .int .i64 x.f3.f8, .int .i64 x.f3.f9, .int .i64 x.f3.f10]) rfl)
      have X7 := Aside0.mk ((Below.heap_setCell w6 ⟨r, 6, none⟩ (.slice B x.f3.f3.length d) w.heap.size (Nat.ne_of_lt RW.out)).trans (blk_below X4.out B6.out))
      have O7 := Aside0.mk (Kd.R_mono (Kd.R_far (p := ⟨r, 6, none⟩) (Kd.R_bound O6.out) (fun k hk => by have := hk.2.1; have := R4.out; show k ≠ r; omega) (.slice B x.f3.f3.length d)) (fun k (hk : _) => trivial) : k53.R 53 _ w4.heap.size (fun _ => True) _ _)
      have hB7 : Below w.heap.size w (w6.setCell ⟨r, 6, none⟩ (.slice B x.f3.f3.length d)) := (HB4.out.trans (B6.out.mono (Nat.le_of_lt (Nat.lt_trans RW.out R4.out)))).setCell (Nat.le_of_lt RW.out) _
      have hs7 : w4.heap.size ≤ (w6.setCell ⟨r, 6, none⟩ (.slice B x.f3.f3.length d)).heap.size := Nat.le_trans B6.out.size ((Below.refl 0 w6).setCell (Nat.zero_le _) _).size
      change Code.wp _ _ _ _ (w6.setCell ⟨r, 6, none⟩ (.slice B x.f3.f3.length d))
      generalize (w6.setCell ⟨r, 6, none⟩ (.slice B x.f3.f3.length d)) = w7 at *
      have B7 := Aside0.mk hB7
      have S7 := Aside0.mk hs7
      clear hB7 hs7 X4 Y4A O5 O6 B5 B6 HB4
      have q0 : w7.cell? ⟨w.heap.size, 0, none⟩ = some (.int .i64 x.f0) := (blk_cell X7.out 0).trans rfl
      have q1 : w7.cell? ⟨w.heap.size, 1, none⟩ = some (.int .i64 x.f1) := (blk_cell X7.out 1).trans rfl
      have q2 : w7.cell? ⟨w.heap.size, 2, none⟩ = some (.int .i64 x.f2) := (blk_cell X7.out 2).trans rfl
      have q3 : w7.cell? ⟨w.heap.size, 3, none⟩ = some (.int .i64 x.f3.f0) := (blk_cell X7.out 3).trans rfl
      have q4 : w7.cell? ⟨w.heap.size, 4, none⟩ = some (.string x.f3.f1) := (blk_cell X7.out 4).trans rfl
      have q5 : w7.cell? ⟨w.heap.size, 5, none⟩ = some (.string x.f3.f2) := (blk_cell X7.out 5).trans rfl
      have q6 : w7.cell? ⟨w.heap.size, 6, none⟩ = some (.slice A x.f3.f3.length c) := (blk_cell X7.out 6).trans rfl
      have q7 : w7.cell? ⟨w.heap.size, 7, none⟩ = some (.string x.f3.f4) := (blk_cell X7.out 7).trans rfl
      have q8 : w7.cell? ⟨w.heap.size, 8, none⟩ = some (.string x.f3.f5) := (blk_cell X7.out 8).trans rfl
      have q9 : w7.cell? ⟨w.heap.size, 9, none⟩ = some (.bool x.f3.f6) := (blk_cell X7.out 9).trans rfl
      have q10 : w7.cell? ⟨w.heap.size, 10, none⟩ = some (.int .i64 x.f3.f7) := (blk_cell X7.out 10).trans rfl
      have q11 : w7.cell? ⟨w.heap.size, 11, none⟩ = some (.int .i64 x.f3.f8) := (blk_cell X7.out 11).trans rfl
      have q12 : w7.cell? ⟨w.heap.size, 12, none⟩ = some (.int .i64 x.f3.f9) := (blk_cell X7.out 12).trans rfl
      have q13 : w7.cell? ⟨w.heap.size, 13, none⟩ = some (.int .i64 x.f3.f10) := (blk_cell X7.out 13).trans rfl
      have r0 : w7.cell? ⟨r, 0, none⟩ = some (.int .i64 x.f0) := (blk_cell Y7.out 0).trans rfl
      have r1 : w7.cell? ⟨r, 1, none⟩ = some (.int .i64 x.f1) := (blk_cell Y7.out 1).trans rfl
      have r2 : w7.cell? ⟨r, 2, none⟩ = some (.int .i64 x.f2) := (blk_cell Y7.out 2).trans rfl
      have r3 : w7.cell? ⟨r, 3, none⟩ = some (.int .i64 x.f3.f0) := (blk_cell Y7.out 3).trans rfl
      have r4 : w7.cell? ⟨r, 4, none⟩ = some (.string x.f3.f1) := (blk_cell Y7.out 4).trans rfl
      have r5 : w7.cell? ⟨r, 5, none⟩ = some (.string x.f3.f2) := (blk_cell Y7.out 5).trans rfl
      have r6 : w7.cell? ⟨r, 6, none⟩ = some (.slice B x.f3.f3.length d) := (blk_cell Y7.out 6).trans rfl
      have r7 : w7.cell? ⟨r, 7, none⟩ = some (.string x.f3.f4) := (blk_cell Y7.out 7).trans rfl
      have r8 : w7.cell? ⟨r, 8, none⟩ = some (.string x.f3.f5) := (blk_cell Y7.out 8).trans rfl
      have r9 : w7.cell? ⟨r, 9, none⟩ = some (.bool x.f3.f6) := (blk_cell Y7.out 9).trans rfl
      have r10 : w7.cell? ⟨r, 10, none⟩ = some (.int .i64 x.f3.f7) := (blk_cell Y7.out 10).trans rfl
      have r11 : w7.cell? ⟨r, 11, none⟩ = some (.int .i64 x.f3.f8) := (blk_cell Y7.out 11).trans rfl
      have r12 : w7.cell? ⟨r, 12, none⟩ = some (.int .i64 x.f3.f9) := (blk_cell Y7.out 12).trans rfl
      have r13 : w7.cell? ⟨r, 13, none⟩ = some (.int .i64 x.f3.f10) := (blk_cell Y7.out 13).trans rfl
      go_wp2_with (fail)
      obtain ⟨B', d', e', hd', hC'⟩ := Kd.R_reads O7.out
      cases e'
      have HD := Aside0.mk hd'
      refine (same_at x x A B c d w7 (Kd.C_below HA.out B7.out) hC' HC.out hd' (by have := HX.out; omega)).mono ?_
      rintro e w8 ⟨b, rfl, hbi, hb8⟩
      obtain rfl : b = true := hbi.2 rfl
      clear hC' hd' hbi
      have X8 := Aside0.mk (blk_below X7.out hb8)
      have Y8 := Aside0.mk (blk_below Y7.out hb8)
      have O8 := Aside0.mk (Kd.R_below O7.out hb8)
      have S8 := Aside0.mk (Nat.le_trans S7.out hb8.size)
      have B8 := Aside0.mk (B7.out.trans (hb8.mono B7.out.size))
      clear hb8 X7 Y7 O7 B7 S7
      clear q0 q1 q2 q3 q4 q5 q6 q7 q8 q9 q10 q11 q12 q13
      clear r0 r1 r2 r3 r4 r5 r6 r7 r8 r9 r10 r11 r12 r13
      have q0 : w8.cell? ⟨w.heap.size, 0, none⟩ = some (.int .i64 x.f0) := (blk_cell X8.out 0).trans rfl
      have q1 : w8.cell? ⟨w.heap.size, 1, none⟩ = some (.int .i64 x.f1) := (blk_cell X8.out 1).trans rfl
      have q2 : w8.cell? ⟨w.heap.size, 2, none⟩ = some (.int .i64 x.f2) := (blk_cell X8.out 2).trans rfl
      have q3 : w8.cell? ⟨w.heap.size, 3, none⟩ = some (.int .i64 x.f3.f0) := (blk_cell X8.out 3).trans rfl
      have q4 : w8.cell? ⟨w.heap.size, 4, none⟩ = some (.string x.f3.f1) := (blk_cell X8.out 4).trans rfl
      have q5 : w8.cell? ⟨w.heap.size, 5, none⟩ = some (.string x.f3.f2) := (blk_cell X8.out 5).trans rfl
      have q6 : w8.cell? ⟨w.heap.size, 6, none⟩ = some (.slice A x.f3.f3.length c) := (blk_cell X8.out 6).trans rfl
      have q7 : w8.cell? ⟨w.heap.size, 7, none⟩ = some (.string x.f3.f4) := (blk_cell X8.out 7).trans rfl
      have q8 : w8.cell? ⟨w.heap.size, 8, none⟩ = some (.string x.f3.f5) := (blk_cell X8.out 8).trans rfl
      have q9 : w8.cell? ⟨w.heap.size, 9, none⟩ = some (.bool x.f3.f6) := (blk_cell X8.out 9).trans rfl
      have q10 : w8.cell? ⟨w.heap.size, 10, none⟩ = some (.int .i64 x.f3.f7) := (blk_cell X8.out 10).trans rfl
      have q11 : w8.cell? ⟨w.heap.size, 11, none⟩ = some (.int .i64 x.f3.f8) := (blk_cell X8.out 11).trans rfl
      have q12 : w8.cell? ⟨w.heap.size, 12, none⟩ = some (.int .i64 x.f3.f9) := (blk_cell X8.out 12).trans rfl
      have q13 : w8.cell? ⟨w.heap.size, 13, none⟩ = some (.int .i64 x.f3.f10) := (blk_cell X8.out 13).trans rfl
      have r0 : w8.cell? ⟨r, 0, none⟩ = some (.int .i64 x.f0) := (blk_cell Y8.out 0).trans rfl
      have r1 : w8.cell? ⟨r, 1, none⟩ = some (.int .i64 x.f1) := (blk_cell Y8.out 1).trans rfl
      have r2 : w8.cell? ⟨r, 2, none⟩ = some (.int .i64 x.f2) := (blk_cell Y8.out 2).trans rfl
      have r3 : w8.cell? ⟨r, 3, none⟩ = some (.int .i64 x.f3.f0) := (blk_cell Y8.out 3).trans rfl
      have r4 : w8.cell? ⟨r, 4, none⟩ = some (.string x.f3.f1) := (blk_cell Y8.out 4).trans rfl
      have r5 : w8.cell? ⟨r, 5, none⟩ = some (.string x.f3.f2) := (blk_cell Y8.out 5).trans rfl
      have r6 : w8.cell? ⟨r, 6, none⟩ = some (.slice B x.f3.f3.length d) := (blk_cell Y8.out 6).trans rfl
      have r7 : w8.cell? ⟨r, 7, none⟩ = some (.string x.f3.f4) := (blk_cell Y8.out 7).trans rfl
      have r8 : w8.cell? ⟨r, 8, none⟩ = some (.string x.f3.f5) := (blk_cell Y8.out 8).trans rfl
      have r9 : w8.cell? ⟨r, 9, none⟩ = some (.bool x.f3.f6) := (blk_cell Y8.out 9).trans rfl
      have r10 : w8.cell? ⟨r, 10, none⟩ = some (.int .i64 x.f3.f7) := (blk_cell Y8.out 10).trans rfl
      have r11 : w8.cell? ⟨r, 11, none⟩ = some (.int .i64 x.f3.f8) := (blk_cell Y8.out 11).trans rfl
      have r12 : w8.cell? ⟨r, 12, none⟩ = some (.int .i64 x.f3.f9) := (blk_cell Y8.out 12).trans rfl
      have r13 : w8.cell? ⟨r, 13, none⟩ = some (.int .i64 x.f3.f10) := (blk_cell Y8.out 13).trans rfl
      go_wp2_with (fail)
      obtain ⟨B', d', e', hd', hC'⟩ := Kd.R_reads O8.out
      cases e'
      refine (same_at x x B A d c w8 hC' (Kd.C_below HA.out B8.out) hd' HC.out (by have := HX.out; omega)).mono ?_
      rintro e w9 ⟨b, rfl, hbi, hb9⟩
      obtain rfl : b = true := hbi.2 rfl
      clear hC' hd' hbi
      have X9 := Aside0.mk (blk_below X8.out hb9)
      have Y9 := Aside0.mk (blk_below Y8.out hb9)
      have O9 := Aside0.mk (Kd.R_below O8.out hb9)
      have S9 := Aside0.mk (Nat.le_trans S8.out hb9.size)
      have B9 := Aside0.mk (B8.out.trans (hb9.mono B8.out.size))
      clear hb9 X8 Y8 O8 B8 S8
      clear q0 q1 q2 q3 q4 q5 q6 q7 q8 q9 q10 q11 q12 q13
      clear r0 r1 r2 r3 r4 r5 r6 r7 r8 r9 r10 r11 r12 r13
      dsimp only
      iterate 15 (first | go_values | go_skip | go_guarded | go_step | go_upon)
      go_cut [33] (fun v33 wx => ∃ (y2 : S48) (B2 : Option Addr) (d2 : Nat), Aside0 (wx.heap[w.heap.size]? = some (.cells #[.int .i64 x.f0, .int .i64 x.f1, .int .i64 x.f2, .int .i64 x.f3.f0, .string x.f3.f1, .string x.f3.f2, .slice A x.f3.f3.length c, .string x.f3.f4, .string x.f3.f5, .bool x.f3.f6, .int .i64 x.f3.f7, .int .i64 x.f3.f8, .int .i64 x.f3.f9, .int .i64 x.f3.f10] 48 (0, 0))) ∧ Aside0 (wx.heap[r]? = some (.cells #[.int .i64 y2.f0, .int .i64 y2.f1, .int .i64 y2.f2, .int .i64 y2.f3.f0, .string y2.f3.f1, .string y2.f3.f2, .slice B2 y2.f3.f3.length d2, .string y2.f3.f4, .string y2.f3.f5, .bool y2.f3.f6, .int .i64 y2.f3.f7, .int .i64 y2.f3.f8, .int .i64 y2.f3.f9, .int .i64 y2.f3.f10] 48 (0, 0))) ∧ Aside0 (Kd.C k53 wx B2 y2.f3.f3.length y2.f3.f3) ∧ Aside0 (y2.f3.f3.length ≤ d2) ∧ Aside0 (y2 ≠ x) ∧ Aside0 (y2.f3.f3.length ≤ 1000000) ∧ Aside0 (Below w.heap.size w wx))
      case first =>
        go_upto_region 9 with (fail)
        obtain ⟨m, hm⟩ : ∃ m : Int, m = (n : Int) % 14 := ⟨_, rfl⟩
        rw [← hm]
        have hm2 : m = 0 ∨ m = 1 ∨ m = 2 ∨ m = 3 ∨ m = 4 ∨ m = 5 ∨ m = 6 ∨ m = 7 ∨ m = 8 ∨ m = 9 ∨ m = 10 ∨ m = 11 ∨ m = 12 ∨ m = 13 := by omega
        clear hm
        rcases hm2 with h | h | h | h | h | h | h | h | h | h | h | h | h | h <;> subst h
        · have rr : w9.cell? ⟨r, 0, none⟩ = some (.int .i64 x.f0) := (blk_cell Y9.out 0).trans rfl
          have rf : w9.frozen? ⟨r, 0, none⟩ = false := blk_frozen Y9.out 0
          go_wp2_with (fail)
          go_meet
          exact ⟨{ x with f0 := wrap64 (x.f0 + 1) }, B, d, ⟨(Below.heap_setCell w9 ⟨r, 0, none⟩ _ w.heap.size (Nat.ne_of_lt RW.out)).trans X9.out⟩, ⟨blk_put Y9.out 0 _ rfl⟩, ⟨(put_C O9.out R4.out).1⟩, HD, ⟨fun h => wrap_ne _ (congrArg (fun z : S48 => z.f0) h)⟩, ⟨by have := HX.out; show x.f3.f3.length ≤ 1000000; omega⟩, ⟨B9.out.setCell (Nat.le_of_lt RW.out) _⟩⟩
        · have rr : w9.cell? ⟨r, 1, none⟩ = some (.int .i64 x.f1) := (blk_cell Y9.out 1).trans rfl
          have rf : w9.frozen? ⟨r, 1, none⟩ = false := blk_frozen Y9.out 1
          go_wp2_with (fail)
          go_meet
          exact ⟨{ x with f1 := wrap64 (x.f1 + 1) }, B, d, ⟨(Below.heap_setCell w9 ⟨r, 1, none⟩ _ w.heap.size (Nat.ne_of_lt RW.out)).trans X9.out⟩, ⟨blk_put Y9.out 1 _ rfl⟩, ⟨(put_C O9.out R4.out).1⟩, HD, ⟨fun h => wrap_ne _ (congrArg (fun z : S48 => z.f1) h)⟩, ⟨by have := HX.out; show x.f3.f3.length ≤ 1000000; omega⟩, ⟨B9.out.setCell (Nat.le_of_lt RW.out) _⟩⟩
        · have rr : w9.cell? ⟨r, 2, none⟩ = some (.int .i64 x.f2) := (blk_cell Y9.out 2).trans rfl
          have rf : w9.frozen? ⟨r, 2, none⟩ = false := blk_frozen Y9.out 2
          go_wp2_with (fail)
          go_meet
          exact ⟨{ x with f2 := wrap64 (x.f2 + 1) }, B, d, ⟨(Below.heap_setCell w9 ⟨r, 2, none⟩ _ w.heap.size (Nat.ne_of_lt RW.out)).trans X9.out⟩, ⟨blk_put Y9.out 2 _ rfl⟩, ⟨(put_C O9.out R4.out).1⟩, HD, ⟨fun h => wrap_ne _ (congrArg (fun z : S48 => z.f2) h)⟩, ⟨by have := HX.out; show x.f3.f3.length ≤ 1000000; omega⟩, ⟨B9.out.setCell (Nat.le_of_lt RW.out) _⟩⟩
        · have rr : w9.cell? ⟨r, 3, none⟩ = some (.int .i64 x.f3.f0) := (blk_cell Y9.out 3).trans rfl
          have rf : w9.frozen? ⟨r, 3, none⟩ = false := blk_frozen Y9.out 3
          go_wp2_with (fail)
          go_meet
          exact ⟨{ x with f3 := { x.f3 with f0 := wrap64 (x.f3.f0 + 1) } }, B, d, ⟨(Below.heap_setCell w9 ⟨r, 3, none⟩ _ w.heap.size (Nat.ne_of_lt RW.out)).trans X9.out⟩, ⟨blk_put Y9.out 3 _ rfl⟩, ⟨(put_C O9.out R4.out).1⟩, HD, ⟨fun h => wrap_ne _ (congrArg (fun z : S48 => z.f3.f0) h)⟩, ⟨by have := HX.out; show x.f3.f3.length ≤ 1000000; omega⟩, ⟨B9.out.setCell (Nat.le_of_lt RW.out) _⟩⟩
        · have rr : w9.cell? ⟨r, 4, none⟩ = some (.string x.f3.f1) := (blk_cell Y9.out 4).trans rfl
          have rf : w9.frozen? ⟨r, 4, none⟩ = false := blk_frozen Y9.out 4
          have hz : x.f3.f1.size ≤ 30000 := HS.out.2.1
          go_wp2_with (fail)
          go_meet
          exact ⟨{ x with f3 := { x.f3 with f1 := x.f3.f1 ++ ⟨#[120]⟩ } }, B, d, ⟨(Below.heap_setCell w9 ⟨r, 4, none⟩ _ w.heap.size (Nat.ne_of_lt RW.out)).trans X9.out⟩, ⟨blk_put Y9.out 4 _ rfl⟩, ⟨(put_C O9.out R4.out).1⟩, HD, ⟨fun h => app_ne _ (congrArg (fun z : S48 => z.f3.f1) h)⟩, ⟨by have := HX.out; show x.f3.f3.length ≤ 1000000; omega⟩, ⟨B9.out.setCell (Nat.le_of_lt RW.out) _⟩⟩
        · have rr : w9.cell? ⟨r, 5, none⟩ = some (.string x.f3.f2) := (blk_cell Y9.out 5).trans rfl
          have rf : w9.frozen? ⟨r, 5, none⟩ = false := blk_frozen Y9.out 5
          have hz : x.f3.f2.size ≤ 30000 := HS.out.2.2.1
          go_wp2_with (fail)
          go_meet
          exact ⟨{ x with f3 := { x.f3 with f2 := x.f3.f2 ++ ⟨#[120]⟩ } }, B, d, ⟨(Below.heap_setCell w9 ⟨r, 5, none⟩ _ w.heap.size (Nat.ne_of_lt RW.out)).trans X9.out⟩, ⟨blk_put Y9.out 5 _ rfl⟩, ⟨(put_C O9.out R4.out).1⟩, HD, ⟨fun h => app_ne _ (congrArg (fun z : S48 => z.f3.f2) h)⟩, ⟨by have := HX.out; show x.f3.f3.length ≤ 1000000; omega⟩, ⟨B9.out.setCell (Nat.le_of_lt RW.out) _⟩⟩
        · have rr : w9.cell? ⟨r, 6, none⟩ = some (.slice B x.f3.f3.length d) := (blk_cell Y9.out 6).trans rfl
          go_wp2_with ((with_reducible refine gate_builtin (b := .append) (xs := #[.tmp 86, .tmp 88]) rfl ?_); at_builtin; refine Kd.R_append k53 (w0 := w9) w4.heap.size rfl (.tmp 86) (.tmp 88) 44 53 (.agg #[(.string ⟨#[]⟩), (.string ⟨#[]⟩), (.bool false)]) 40 rfl Tryd.underlying44 info53 rfl (by decide) (by omega) (.slice B x.f3.f3.length d) x.f3.f3 z53 [.string ⟨#[]⟩, .string ⟨#[]⟩, .bool false] (fun _ => True) (fun _ => False) rfl rfl ?aP (fun _ h => h.elim) (fun _ _ => trivial) O9.out (Below.refl _ _) ?aS ?aL ?_; (case aP => exact k53_mkM _ _ _ z53); (case aS => exact S9.out); (case aL => have := HX.out; omega); intro v1 w10 ho hb hg hat; obtain ⟨B', d', ev⟩ := Kd.R_slice ho; subst ev; have OA := Aside0.mk ho; have BA := Aside0.mk hb; have YA := Aside0.mk ((hb.block r R4.out).trans Y9.out); have ra : w10.cell? ⟨r, 6, none⟩ = some (.slice B x.f3.f3.length d) := (blk_cell YA.out 6).trans rfl; have rfa : w10.frozen? ⟨r, 6, none⟩ = false := blk_frozen YA.out 6; clear ho hb hg hat)
          go_meet
          exact ⟨{ x with f3 := { x.f3 with f3 := x.f3.f3 ++ [z53] } }, B', d', ⟨(Below.heap_setCell w10 ⟨r, 6, none⟩ _ w.heap.size (Nat.ne_of_lt RW.out)).trans ((BA.out.block w.heap.size (Nat.lt_trans RW.out R4.out)).trans X9.out)⟩, ⟨blk_put YA.out 6 _ (by simp only [List.length_append, List.length_singleton]; rfl)⟩, ⟨(put_C OA.out R4.out).1⟩, ⟨(put_C (i := 0) (u := .bool false) OA.out R4.out).2⟩, ⟨fun h => snoc_ne _ (congrArg (fun z : S48 => z.f3.f3) h)⟩, ⟨by have := HX.out; show (x.f3.f3 ++ [z53]).length ≤ 1000000; rw [List.length_append, List.length_singleton]; omega⟩, ⟨(B9.out.trans (BA.out.mono (Nat.le_of_lt (Nat.lt_trans RW.out R4.out)))).setCell (Nat.le_of_lt RW.out) _⟩⟩
        · have rr : w9.cell? ⟨r, 7, none⟩ = some (.string x.f3.f4) := (blk_cell Y9.out 7).trans rfl
          have rf : w9.frozen? ⟨r, 7, none⟩ = false := blk_frozen Y9.out 7
          have hz : x.f3.f4.size ≤ 30000 := HS.out.2.2.2.1
          go_wp2_with (fail)
          go_meet
          exact ⟨{ x with f3 := { x.f3 with f4 := x.f3.f4 ++ ⟨#[120]⟩ } }, B, d, ⟨(Below.heap_setCell w9 ⟨r, 7, none⟩ _ w.heap.size (Nat.ne_of_lt RW.out)).trans X9.out⟩, ⟨blk_put Y9.out 7 _ rfl⟩, ⟨(put_C O9.out R4.out).1⟩, HD, ⟨fun h => app_ne _ (congrArg (fun z : S48 => z.f3.f4) h)⟩, ⟨by have := HX.out; show x.f3.f3.length ≤ 1000000; omega⟩, ⟨B9.out.setCell (Nat.le_of_lt RW.out) _⟩⟩
        · have rr : w9.cell? ⟨r, 8, none⟩ = some (.string x.f3.f5) := (blk_cell Y9.out 8).trans rfl
          have rf : w9.frozen? ⟨r, 8, none⟩ = false := blk_frozen Y9.out 8
          have hz : x.f3.f5.size ≤ 30000 := HS.out.2.2.2.2
          go_wp2_with (fail)
          go_meet
          exact ⟨{ x with f3 := { x.f3 with f5 := x.f3.f5 ++ ⟨#[120]⟩ } }, B, d, ⟨(Below.heap_setCell w9 ⟨r, 8, none⟩ _ w.heap.size (Nat.ne_of_lt RW.out)).trans X9.out⟩, ⟨blk_put Y9.out 8 _ rfl⟩, ⟨(put_C O9.out R4.out).1⟩, HD, ⟨fun h => app_ne _ (congrArg (fun z : S48 => z.f3.f5) h)⟩, ⟨by have := HX.out; show x.f3.f3.length ≤ 1000000; omega⟩, ⟨B9.out.setCell (Nat.le_of_lt RW.out) _⟩⟩
        · have rr : w9.cell? ⟨r, 9, none⟩ = some (.bool x.f3.f6) := (blk_cell Y9.out 9).trans rfl
          have rf : w9.frozen? ⟨r, 9, none⟩ = false := blk_frozen Y9.out 9
          go_wp2_with (fail)
          go_meet
          exact ⟨{ x with f3 := { x.f3 with f6 := !x.f3.f6 } }, B, d, ⟨(Below.heap_setCell w9 ⟨r, 9, none⟩ _ w.heap.size (Nat.ne_of_lt RW.out)).trans X9.out⟩, ⟨blk_put Y9.out 9 _ rfl⟩, ⟨(put_C O9.out R4.out).1⟩, HD, ⟨fun h => not_ne _ (congrArg (fun z : S48 => z.f3.f6) h)⟩, ⟨by have := HX.out; show x.f3.f3.length ≤ 1000000; omega⟩, ⟨B9.out.setCell (Nat.le_of_lt RW.out) _⟩⟩
        · have rr : w9.cell? ⟨r, 10, none⟩ = some (.int .i64 x.f3.f7) := (blk_cell Y9.out 10).trans rfl
          have rf : w9.frozen? ⟨r, 10, none⟩ = false := blk_frozen Y9.out 10
          go_wp2_with (fail)
          go_meet
          exact ⟨{ x with f3 := { x.f3 with f7 := wrap64 (x.f3.f7 + 1) } }, B, d, ⟨(Below.heap_setCell w9 ⟨r, 10, none⟩ _ w.heap.size (Nat.ne_of_lt RW.out)).trans X9.out⟩, ⟨blk_put Y9.out 10 _ rfl⟩, ⟨(put_C O9.out R4.out).1⟩, HD, ⟨fun h => wrap_ne _ (congrArg (fun z : S48 => z.f3.f7) h)⟩, ⟨by have := HX.out; show x.f3.f3.length ≤ 1000000; omega⟩, ⟨B9.out.setCell (Nat.le_of_lt RW.out) _⟩⟩
        · have rr : w9.cell? ⟨r, 11, none⟩ = some (.int .i64 x.f3.f8) := (blk_cell Y9.out 11).trans rfl
          have rf : w9.frozen? ⟨r, 11, none⟩ = false := blk_frozen Y9.out 11
          go_wp2_with (fail)
          go_meet
          exact ⟨{ x with f3 := { x.f3 with f8 := wrap64 (x.f3.f8 + 1) } }, B, d, ⟨(Below.heap_setCell w9 ⟨r, 11, none⟩ _ w.heap.size (Nat.ne_of_lt RW.out)).trans X9.out⟩, ⟨blk_put Y9.out 11 _ rfl⟩, ⟨(put_C O9.out R4.out).1⟩, HD, ⟨fun h => wrap_ne _ (congrArg (fun z : S48 => z.f3.f8) h)⟩, ⟨by have := HX.out; show x.f3.f3.length ≤ 1000000; omega⟩, ⟨B9.out.setCell (Nat.le_of_lt RW.out) _⟩⟩
        · have rr : w9.cell? ⟨r, 12, none⟩ = some (.int .i64 x.f3.f9) := (blk_cell Y9.out 12).trans rfl
          have rf : w9.frozen? ⟨r, 12, none⟩ = false := blk_frozen Y9.out 12
          go_wp2_with (fail)
          go_meet
          exact ⟨{ x with f3 := { x.f3 with f9 := wrap64 (x.f3.f9 + 1) } }, B, d, ⟨(Below.heap_setCell w9 ⟨r, 12, none⟩ _ w.heap.size (Nat.ne_of_lt RW.out)).trans X9.out⟩, ⟨blk_put Y9.out 12 _ rfl⟩, ⟨(put_C O9.out R4.out).1⟩, HD, ⟨fun h => wrap_ne _ (congrArg (fun z : S48 => z.f3.f9) h)⟩, ⟨by have := HX.out; show x.f3.f3.length ≤ 1000000; omega⟩, ⟨B9.out.setCell (Nat.le_of_lt RW.out) _⟩⟩
        · have rr : w9.cell? ⟨r, 13, none⟩ = some (.int .i64 x.f3.f10) := (blk_cell Y9.out 13).trans rfl
          have rf : w9.frozen? ⟨r, 13, none⟩ = false := blk_frozen Y9.out 13
          go_wp2_with (fail)
          go_meet
          exact ⟨{ x with f3 := { x.f3 with f10 := wrap64 (x.f3.f10 + 1) } }, B, d, ⟨(Below.heap_setCell w9 ⟨r, 13, none⟩ _ w.heap.size (Nat.ne_of_lt RW.out)).trans X9.out⟩, ⟨blk_put Y9.out 13 _ rfl⟩, ⟨(put_C O9.out R4.out).1⟩, HD, ⟨fun h => wrap_ne _ (congrArg (fun z : S48 => z.f3.f10) h)⟩, ⟨by have := HX.out; show x.f3.f3.length ≤ 1000000; omega⟩, ⟨B9.out.setCell (Nat.le_of_lt RW.out) _⟩⟩
      case rest =>
       as_aux_lemma =>
        rename_i hKK
        obtain ⟨y2, B2, d2, X10, Y10, C10, D10, N10, L10, B10⟩ := hcut
        refine hKK _ _ ?_
        clear hKK
        have q0 : wc.cell? ⟨w.heap.size, 0, none⟩ = some (.int .i64 x.f0) := (blk_cell X10.out 0).trans rfl
        have q1 : wc.cell? ⟨w.heap.size, 1, none⟩ = some (.int .i64 x.f1) := (blk_cell X10.out 1).trans rfl
        have q2 : wc.cell? ⟨w.heap.size, 2, none⟩ = some (.int .i64 x.f2) := (blk_cell X10.out 2).trans rfl
        have q3 : wc.cell? ⟨w.heap.size, 3, none⟩ = some (.int .i64 x.f3.f0) := (blk_cell X10.out 3).trans rfl
        have q4 : wc.cell? ⟨w.heap.size, 4, none⟩ = some (.string x.f3.f1) := (blk_cell X10.out 4).trans rfl
        have q5 : wc.cell? ⟨w.heap.size, 5, none⟩ = some (.string x.f3.f2) := (blk_cell X10.out 5).trans rfl
        have q6 : wc.cell? ⟨w.heap.size, 6, none⟩ = some (.slice A x.f3.f3.length c) := (blk_cell X10.out 6).trans rfl
        have q7 : wc.cell? ⟨w.heap.size, 7, none⟩ = some (.string x.f3.f4) := (blk_cell X10.out 7).trans rfl
        have q8 : wc.cell? ⟨w.heap.size, 8, none⟩ = some (.string x.f3.f5) := (blk_cell X10.out 8).trans rfl
        have q9 : wc.cell? ⟨w.heap.size, 9, none⟩ = some (.bool x.f3.f6) := (blk_cell X10.out 9).trans rfl
        have q10 : wc.cell? ⟨w.heap.size, 10, none⟩ = some (.int .i64 x.f3.f7) := (blk_cell X10.out 10).trans rfl
        have q11 : wc.cell? ⟨w.heap.size, 11, none⟩ = some (.int .i64 x.f3.f8) := (blk_cell X10.out 11).trans rfl
        have q12 : wc.cell? ⟨w.heap.size, 12, none⟩ = some (.int .i64 x.f3.f9) := (blk_cell X10.out 12).trans rfl
        have q13 : wc.cell? ⟨w.heap.size, 13, none⟩ = some (.int .i64 x.f3.f10) := (blk_cell X10.out 13).trans rfl
        have r0 : wc.cell? ⟨r, 0, none⟩ = some (.int .i64 y2.f0) := (blk_cell Y10.out 0).trans rfl
        have r1 : wc.cell? ⟨r, 1, none⟩ = some (.int .i64 y2.f1) := (blk_cell Y10.out 1).trans rfl
        have r2 : wc.cell? ⟨r, 2, none⟩ = some (.int .i64 y2.f2) := (blk_cell Y10.out 2).trans rfl
        have r3 : wc.cell? ⟨r, 3, none⟩ = some (.int .i64 y2.f3.f0) := (blk_cell Y10.out 3).trans rfl
        have r4 : wc.cell? ⟨r, 4, none⟩ = some (.string y2.f3.f1) := (blk_cell Y10.out 4).trans rfl
        have r5 : wc.cell? ⟨r, 5, none⟩ = some (.string y2.f3.f2) := (blk_cell Y10.out 5).trans rfl
        have r6 : wc.cell? ⟨r, 6, none⟩ = some (.slice B2 y2.f3.f3.length d2) := (blk_cell Y10.out 6).trans rfl
        have r7 : wc.cell? ⟨r, 7, none⟩ = some (.string y2.f3.f4) := (blk_cell Y10.out 7).trans rfl
        have r8 : wc.cell? ⟨r, 8, none⟩ = some (.string y2.f3.f5) := (blk_cell Y10.out 8).trans rfl
        have r9 : wc.cell? ⟨r, 9, none⟩ = some (.bool y2.f3.f6) := (blk_cell Y10.out 9).trans rfl
        have r10 : wc.cell? ⟨r, 10, none⟩ = some (.int .i64 y2.f3.f7) := (blk_cell Y10.out 10).trans rfl
        have r11 : wc.cell? ⟨r, 11, none⟩ = some (.int .i64 y2.f3.f8) := (blk_cell Y10.out 11).trans rfl
        have r12 : wc.cell? ⟨r, 12, none⟩ = some (.int .i64 y2.f3.f9) := (blk_cell Y10.out 12).trans rfl
        have r13 : wc.cell? ⟨r, 13, none⟩ = some (.int .i64 y2.f3.f10) := (blk_cell Y10.out 13).trans rfl
        go_wp2_with (fail)
        refine (same_at x y2 A B2 c d2 wc (Kd.C_below HA.out B10.out) C10.out HC.out D10.out (by have := HX.out; omega)).mono ?_
        rintro e w8 ⟨b, rfl, hbi, hb8⟩
        obtain rfl : b = false := by
          cases b with
          | false => rfl
          | true => exact absurd (hbi.1 rfl).symm N10.out
        clear hbi
        have X11 := Aside0.mk (blk_below X10.out hb8)
        have Y11 := Aside0.mk (blk_below Y10.out hb8)
        have C11 := Aside0.mk (Kd.C_below C10.out hb8)
        have B11 := Aside0.mk (B10.out.trans (hb8.mono B10.out.size))
        clear hb8 X10 Y10 C10 B10
        clear q0 q1 q2 q3 q4 q5 q6 q7 q8 q9 q10 q11 q12 q13
        clear r0 r1 r2 r3 r4 r5 r6 r7 r8 r9 r10 r11 r12 r13
        have q0 : w8.cell? ⟨w.heap.size, 0, none⟩ = some (.int .i64 x.f0) := (blk_cell X11.out 0).trans rfl
        have q1 : w8.cell? ⟨w.heap.size, 1, none⟩ = some (.int .i64 x.f1) := (blk_cell X11.out 1).trans rfl
        have q2 : w8.cell? ⟨w.heap.size, 2, none⟩ = some (.int .i64 x.f2) := (blk_cell X11.out 2).trans rfl
        have q3 : w8.cell? ⟨w.heap.size, 3, none⟩ = some (.int .i64 x.f3.f0) := (blk_cell X11.out 3).trans rfl
        have q4 : w8.cell? ⟨w.heap.size, 4, none⟩ = some (.string x.f3.f1) := (blk_cell X11.out 4).trans rfl
        have q5 : w8.cell? ⟨w.heap.size, 5, none⟩ = some (.string x.f3.f2) := (blk_cell X11.out 5).trans rfl
        have q6 : w8.cell? ⟨w.heap.size, 6, none⟩ = some (.slice A x.f3.f3.length c) := (blk_cell X11.out 6).trans rfl
        have q7 : w8.cell? ⟨w.heap.size, 7, none⟩ = some (.string x.f3.f4) := (blk_cell X11.out 7).trans rfl
        have q8 : w8.cell? ⟨w.heap.size, 8, none⟩ = some (.string x.f3.f5) := (blk_cell X11.out 8).trans rfl
        have q9 : w8.cell? ⟨w.heap.size, 9, none⟩ = some (.bool x.f3.f6) := (blk_cell X11.out 9).trans rfl
        have q10 : w8.cell? ⟨w.heap.size, 10, none⟩ = some (.int .i64 x.f3.f7) := (blk_cell X11.out 10).trans rfl
        have q11 : w8.cell? ⟨w.heap.size, 11, none⟩ = some (.int .i64 x.f3.f8) := (blk_cell X11.out 11).trans rfl
        have q12 : w8.cell? ⟨w.heap.size, 12, none⟩ = some (.int .i64 x.f3.f9) := (blk_cell X11.out 12).trans rfl
        have q13 : w8.cell? ⟨w.heap.size, 13, none⟩ = some (.int .i64 x.f3.f10) := (blk_cell X11.out 13).trans rfl
        have r0 : w8.cell? ⟨r, 0, none⟩ = some (.int .i64 y2.f0) := (blk_cell Y11.out 0).trans rfl
        have r1 : w8.cell? ⟨r, 1, none⟩ = some (.int .i64 y2.f1) := (blk_cell Y11.out 1).trans rfl
        have r2 : w8.cell? ⟨r, 2, none⟩ = some (.int .i64 y2.f2) := (blk_cell Y11.out 2).trans rfl
        have r3 : w8.cell? ⟨r, 3, none⟩ = some (.int .i64 y2.f3.f0) := (blk_cell Y11.out 3).trans rfl
        have r4 : w8.cell? ⟨r, 4, none⟩ = some (.string y2.f3.f1) := (blk_cell Y11.out 4).trans rfl
        have r5 : w8.cell? ⟨r, 5, none⟩ = some (.string y2.f3.f2) := (blk_cell Y11.out 5).trans rfl
        have r6 : w8.cell? ⟨r, 6, none⟩ = some (.slice B2 y2.f3.f3.length d2) := (blk_cell Y11.out 6).trans rfl
        have r7 : w8.cell? ⟨r, 7, none⟩ = some (.string y2.f3.f4) := (blk_cell Y11.out 7).trans rfl
        have r8 : w8.cell? ⟨r, 8, none⟩ = some (.string y2.f3.f5) := (blk_cell Y11.out 8).trans rfl
        have r9 : w8.cell? ⟨r, 9, none⟩ = some (.bool y2.f3.f6) := (blk_cell Y11.out 9).trans rfl
        have r10 : w8.cell? ⟨r, 10, none⟩ = some (.int .i64 y2.f3.f7) := (blk_cell Y11.out 10).trans rfl
        have r11 : w8.cell? ⟨r, 11, none⟩ = some (.int .i64 y2.f3.f8) := (blk_cell Y11.out 11).trans rfl
        have r12 : w8.cell? ⟨r, 12, none⟩ = some (.int .i64 y2.f3.f9) := (blk_cell Y11.out 12).trans rfl
        have r13 : w8.cell? ⟨r, 13, none⟩ = some (.int .i64 y2.f3.f10) := (blk_cell Y11.out 13).trans rfl
        go_wp2_with (fail)
        refine (same_at y2 x B2 A d2 c w8 C11.out (Kd.C_below HA.out B11.out) D10.out HC.out L10.out).mono ?_
        rintro e w9 ⟨b, rfl, hbi, hb9⟩
        obtain rfl : b = false := by
          cases b with
          | false => rfl
          | true => exact absurd (hbi.1 rfl) N10.out
        go_wp2_with (fail)
        go_ret
        exact ⟨rfl, B11.out.trans (hb9.mono B11.out.size)⟩
end Go.Proofs.YtlkbeddlmbghkaaDoor.PR
