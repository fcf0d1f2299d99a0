/- rundlelaw26's awake: the document's examples are read. -/
import Derived.Test.YtlkbeddlmbghkaaGreatDoorScP
namespace Go.Proofs.YtlkbeddlmbghkaaGreatDoor.PR
open Go Go.Proofs Go.RowKit Go.Proofs.YtlkbeddlmbghkaaGreatDoorW.PrintWords Go.Proofs.YtlkbeddlmbghkaaGreatDoorW.PrintLast Go.Proofs.YtlkbeddlmbghkaaGreatDoorW.PrintMore
attribute [local go_sem] Wd.one Wd.run_store
set_option linter.unusedVariables false
set_option linter.unusedSimpArgs false
set_option maxRecDepth 100000

def t1 : ByteArray := ⟨#[114, 117, 110, 32, 48, 32, 112, 117, 116, 32, 34, 97, 34, 32, 34, 120, 34, 32, 48, 32, 51, 10, 97, 108, 108]⟩
def t2 : ByteArray := ⟨#[10, 115, 116, 101, 112, 32, 48, 32, 48]⟩
def ls1 : List S39 := [⟨1, [⟨.name ⟨#[114, 117, 110]⟩⟩, ⟨.num 0⟩, ⟨.name ⟨#[112, 117, 116]⟩⟩, ⟨.text ⟨#[97]⟩⟩, ⟨.text ⟨#[120]⟩⟩, ⟨.num 0⟩, ⟨.num 3⟩]⟩, ⟨2, [⟨.name ⟨#[97, 108, 108]⟩⟩]⟩]
def ls2 : List S39 := [⟨2, [⟨.name ⟨#[115, 116, 101, 112]⟩⟩, ⟨.num 0⟩, ⟨.num 0⟩]⟩]
def x1 : S58 := ⟨2, 0, 0, { z52 with f0 := 2, f1 := ⟨#[97]⟩, f2 := ⟨#[120]⟩, f9 := 0, f10 := 3 }⟩
def x2 : S58 := ⟨4, 0, 0, z52⟩
theorem ex1 : lex_Lines.f 40 t1 = some (ls1, 0, 0) := by kernel_rfl
theorem ex2 : lex_Lines.f 40 t2 = some (ls2, 0, 0) := by kernel_rfl
theorem pl1 : parseL ls1 [] = ([x1, x2], 0, 0) := by kernel_rfl
theorem pl2 : parseL ls2 [] = ([], 2, 7) := by kernel_rfl
theorem ls1_len : ∀ l ∈ ls1, l.f1.length ≤ 1000000 := by decide
theorem ls2_len : ∀ l ∈ ls2, l.f1.length ≤ 1000000 := by decide

set_option maxHeartbeats 4000000 in
theorem awake_at (w : World) (hk : KAt w) (h3 : 0 < w.heap.size) :
  Calls Tryz.prog 15 #[] w fun e w' => e = .returned (.bool true) ∧ Below w.heap.size w w' := by
 have hu48 := Tryz.underlying58
 have hu46 := Tryz.underlying52
 have HK := Aside0.mk hk
 have H3 := Aside0.mk h3
 clear hk h3
 go_enter Tryz.func15, Tryz.ntmps15
 go_wp2_with (fail)
 refine (parse_at 40 t1 ls1 0 0 ex1 (by decide) ls1_len w HK.out H3.out).mono ?_
 rintro e w1 ⟨hb, v, out, n, f, rfl, ho, hr⟩
 rw [if_pos rfl, pl1] at ho
 obtain ⟨h1, h2⟩ := Prod.mk.inj ho
 obtain ⟨h2, h3⟩ := Prod.mk.inj h2
 subst h1 h2 h3
 obtain ⟨A, c, rfl, hc, hC⟩ := Kd.R_reads hr
 have HB1 := Aside0.mk hb
 have HC1 := Aside0.mk hC
 clear hb hr hC ho
 go_wp2_with (fail)
 refine (parse_at 40 t2 ls2 0 0 ex2 (by decide) ls2_len w1 (HK.out.mono H3.out HB1.out) (Nat.lt_of_lt_of_le H3.out HB1.out.size)).mono ?_
 rintro e w2 ⟨hb, v, out, n, f, rfl, ho, hr⟩
 rw [if_pos rfl, pl2] at ho
 obtain ⟨h1, h2⟩ := Prod.mk.inj ho
 obtain ⟨h2, h3⟩ := Prod.mk.inj h2
 subst h1 h2 h3
 have HB2 := Aside0.mk hb
 have CC := Aside0.mk (Kd.C_below HC1.out hb)
 clear hb ho
 obtain ⟨A2, c2, rfl, _, _⟩ := Kd.R_reads hr
 clear hr
 obtain ⟨ad, A6, c6, ea, q0, q1, q2, q3, q4, q5, q6, q7, q8, q9, q10, q11, q12, q13, _, _⟩ := at_T58 CC.out 0 (by decide) (by decide)
 subst ea
 obtain ⟨ad', A7, c7, ea, r0, r1, r2, r3, r4, r5, r6, r7, r8, r9, r10, r11, r12, r13, _, _⟩ := at_T58 CC.out 1 (by decide) (by decide)
 obtain rfl := Option.some.inj ea
 rw [show rd_T58 [x1, x2] 0 = x1 from rfl, show ((0 : Int).toNat * 14) = 0 from rfl, Addr.add_zero'] at q0 q3 q5 q13
 rw [show rd_T58 [x1, x2] 1 = x2 from rfl, show ((1 : Int).toNat * 14) = 14 from rfl] at r0
 simp only [x1, x2, z52] at q0 q3 q5 q13 r0
 have r0' : w2.cell? ⟨ad.block, ad.off + 14, none⟩ = some (.int .i64 4) := by simpa [Addr.add] using r0
 clear r0
 clear q1 q2 q4 q6 q7 q8 q9 q10 q11 q12 r1 r2 r3 r4 r5 r6 r7 r8 r9 r10 r11 r12 r13 ea
 go_wp2_with (fail)
 go_ret
 exact ⟨rfl, HB1.out.trans (HB2.out.mono HB1.out.size)⟩
end Go.Proofs.YtlkbeddlmbghkaaGreatDoor.PR
