/- runes.Right, lex.Number, lex.Name: what ranges over a text come to. -/
import Derived.Test.YtlkbeddlmbghkaaGreatDoorPRx0
import Derived.Test.YtlkbeddlmbghkaaGreatDoorShelfA
import Derived.Test.YtlkbeddlmbghkaaGreatDoorClsL
import Derived.Test.YtlkbeddlmbghkaaGreatDoorLx0
import Derived.WalkKit
import Derived.BigCall
import Derived.Lib.OthersKept
namespace Go.Proofs.YtlkbeddlmbghkaaGreatDoor.PR
open Go Go.Proofs Go.RowKit Go.Shelf Go.Proofs.YtlkbeddlmbghkaaGreatDoorW.PrintWords Go.Proofs.YtlkbeddlmbghkaaGreatDoorW.PrintLast Go.Proofs.YtlkbeddlmbghkaaGreatDoorW.PrintMore
set_option linter.unusedVariables false
set_option linter.unusedSimpArgs false
set_option maxRecDepth 100000

/-- The first place from a place on at which no rune stands; -1. -/
def rightFrom (s : ByteArray) : Nat → Nat → Int
 | 0, _ => -1
 | k + 1, p => if p < s.size then (if wholeB s p (Utf8.decode s p).1 then rightFrom s k (p + (Utf8.decode s p).2) else p) else -1
def rightP (s : ByteArray) : Int := rightFrom s (s.size + 1) 0
def runes_Right.f (s : ByteArray) : Option Int := if s.size ≤ 140737488351232 then some (rightP s) else none

theorem width_pos (s : ByteArray) (pos : Nat) (h : pos < s.size) : 1 ≤ (Utf8.decode s pos).2 := by
 by_cases ha : (s[pos]'h).toNat < 128
 ·
  rw [decode_ascii s pos h ha]
  exact Nat.le_refl _
 ·
  exact (decode_high s pos h (by omega)).2

theorem rightFrom_end (s : ByteArray) (k p : Nat) (h : ¬ p < s.size) : rightFrom s k p = -1 := by
 cases k with
 | zero => rfl
 | succ k => simp [rightFrom, h]

set_option maxHeartbeats 4000000 in
theorem runes_Right.calls (s : ByteArray) (r : Int) (w : World) (h : runes_Right.f s = some r) :
  Calls Tryz.prog 109 #[.string s] w fun e w' => e = .returned (.int .i64 r) ∧ Below w.heap.size w w' := by
 unfold runes_Right.f at h
 by_cases hs : s.size ≤ 140737488351232
 case neg => rw [if_neg hs] at h; cases h
 rw [if_pos hs] at h
 obtain rfl := Option.some.inj h
 clear h
 go_enter Tryz.func109, Tryz.ntmps109
 go_wp2
 go_loopw [] (fun wr => ∃ (pos fuel : Nat), wr.heap[w.heap.size]? = some (.stringIter s pos) ∧ Below w.heap.size w wr ∧ Aside0 (rightFrom s fuel pos = rightP s) ∧ s.size + 1 ≤ pos + fuel) (fun wr => s.size - wr.iterPos w.heap.size)
 case atStart => exact ⟨0, s.size + 1, World.iter_heap w s 0, (Below.refl _ w).alloc (Nat.le_refl _) _, ⟨rfl⟩, by omega⟩
 case round =>
  obtain ⟨pos, fuel, hit, hbw, hacc, hfu⟩ := hrel
  have hsz : w.heap.size < wr.heap.size := (Array.getElem?_eq_some_iff.1 hit).1
  by_cases hp : pos < s.size
  ·
   have hnx : ∀ ty, (Instr.next (.pointer (some ⟨w.heap.size, 0, none⟩)) true ty).run Tryz.prog wr = _ := fun ty => Lib.run_next_any_at wr w.heap.size s pos ty hit hp
   have hwd := width_pos s pos hp
   have hd1 := decode_le s pos
   have hit2 := Lib.iterAt_heap wr w.heap.size s pos (pos + (Utf8.decode s pos).2) hit
   have hbw2 := Lib.below_iterAt hbw (k := w.heap.size) (Nat.le_refl _) s (pos + (Utf8.decode s pos).2)
   obtain ⟨f, rfl⟩ : ∃ f, fuel = f + 1 := ⟨fuel - 1, by omega⟩
   have hstep : rightFrom s (f + 1) pos = if wholeB s pos (Utf8.decode s pos).1 then rightFrom s f (pos + (Utf8.decode s pos).2) else pos := by simp [rightFrom, hp]
   by_cases hw : wholeB s pos (Utf8.decode s pos).1 = true
   ·
    have HS := Aside0.mk (hstep.trans (if_pos hw))
    have HW := Aside0.mk hw
    clear hstep hw
    go_wp2_with (go_at_call 75; refine (whole_calls s pos _ _ hs (by omega)).mono ?_; rw [HW.out]; rintro e w' ⟨rfl, rfl⟩)
    go_roundw
    case rel => exact ⟨pos + (Utf8.decode s pos).2, f, hit2, hbw2, ⟨HS.out.symm.trans hacc.out⟩, by omega⟩
    case measure =>
     simp only [World.iterPos, hit2, hit]
     omega
   ·
    have hw' : wholeB s pos (Utf8.decode s pos).1 = false := by simpa using hw
    have HS := Aside0.mk (hstep.trans (if_neg hw))
    have HW := Aside0.mk hw'
    clear hstep hw hw'
    go_wp2_with (go_at_call 75; refine (whole_calls s pos _ _ hs (by omega)).mono ?_; rw [HW.out]; rintro e w' ⟨rfl, rfl⟩)
    go_ret
    exact ⟨ret_i (HS.out.symm.trans hacc.out), hbw2⟩
  ·
   have hnx : ∀ ty, (Instr.next (.pointer (some ⟨w.heap.size, 0, none⟩)) true ty).run Tryz.prog wr = _ := fun ty => Lib.run_next_end_at wr w.heap.size s pos ty hit hp
   have HE := Aside0.mk ((rightFrom_end s fuel pos hp).symm.trans hacc.out)
   go_wp2
   go_ret
   exact ⟨ret_i HE.out, hbw⟩

/-! ### numbers and names -/
open Go.Proofs.YtlkbeddlmbghkaaGreatDoor.Lx

theorem below_bytes {w w' : World} {e : Nat} (h : w' = w ∨ ∃ t, w' = Lib.bytesWorld w e t) : Below w.heap.size w w' := by
 rcases h with rfl | ⟨t, rfl⟩
 ·
  exact Below.refl _ _
 ·
  exact Lib.bytesWorld_below _ _ _

theorem cls_dig {c : UInt8} (h : isDig c = true) : clsP (c.toNat : Int) = 2 := by
 have h2 : 48 ≤ c.toNat ∧ c.toNat ≤ 57 := by simpa [isDig] using h
 unfold clsP
 rw [if_neg (by omega), if_pos (by omega)]
theorem cls_nodig {r : Int} (h : ¬ (48 ≤ r ∧ r ≤ 57)) : clsP r ≠ 2 := by
 unfold clsP
 repeat' split
 all_goals first | omega | decide

theorem decode_dig (s : ByteArray) (p : Nat) (h : p < s.size) (hd : isDig (s[p]'h) = true) : Utf8.decode s p = ((s[p]'h).toNat, 1) := by
 have h2 : 48 ≤ (s[p]'h).toNat ∧ (s[p]'h).toNat ≤ 57 := by simpa [isDig] using hd
 exact decode_ascii s p h (by omega)
theorem decode_nodig (s : ByteArray) (p : Nat) (h : p < s.size) (hd : isDig (s[p]'h) = false) : clsP ((Utf8.decode s p).1 : Int) ≠ 2 := by
 by_cases ha : (s[p]'h).toNat < 128
 ·
  rw [decode_ascii s p h ha]
  refine cls_nodig fun hh => ?_
  have : isDig (s[p]'h) = true := by simp only [isDig, Bool.and_eq_true, decide_eq_true_eq]; exact ⟨by omega, by omega⟩
  rw [this] at hd
  cases hd
 ·
  have := (decode_high s p h (by omega)).1
  exact cls_nodig (by omega)

theorem take_snoc (s : ByteArray) (k : Nat) (h : k < s.size) : s.data.toList.take (k + 1) = s.data.toList.take k ++ [s[k]] := by
 rw [List.take_succ_eq_append_getElem (by simpa using h)]; rfl
theorem all_at (s : ByteArray) (k : Nat) (h : k < s.size) (f : UInt8 → Bool) (ha : s.data.toList.all f = true) : f (s[k]'h) = true :=
 List.all_eq_true.1 ha _ (by rw [show s[k]'h = s.data.toList[k]'(by simpa using h) from rfl]; exact List.getElem_mem _)

def lex_Number.f (s : ByteArray) : Option (Int × Bool) := some (numV s.data.toList, isNum s.data.toList)

theorem ret_ib {k : IntKind} {a b : Int} {c d : Bool} (h : a = b) (h2 : c = d) : Ending.returned (.tuple #[.int k a, .bool c]) = .returned (.tuple #[.int k b, .bool d]) := by rw [h, h2]

theorem num_no {s : List UInt8} (h : isNum s = false) : numV s = 0 := by unfold numV; rw [h]; rfl

set_option maxHeartbeats 4000000 in
theorem lex_Number.calls (s : ByteArray) (r1 : Int) (r2 : Bool) (w : World) (h : lex_Number.f s = some (r1, r2)) :
  Calls Tryz.prog 59 #[.string s] w fun e w' => e = .returned (.tuple #[.int .i64 r1, .bool r2]) ∧ Below w.heap.size w w' := by
 obtain ⟨rfl, rfl⟩ := Prod.mk.inj (Option.some.inj h)
 clear h
 obtain ⟨D, hD⟩ : ∃ D : ByteArray, D = ⟨(Lib.trimPrefix s.data.toList [45]).toArray⟩ := ⟨_, rfl⟩
 have k1 := Tryz.strings_TrimPrefix s ⟨#[45]⟩ w
 have k2 : Calls Tryz.prog 77 #[.string s, .string ⟨#[45]⟩] w fun e w' => e = .returned (.string D) ∧ w' = w := by rw [hD]; exact k1
 have hl : D.data.toList = unsign s.data.toList := by rw [hD, trim_eq]
 have hn : D.size = (unsign s.data.toList).length := by rw [Lib.size_eq, hl]
 have K := Aside0.mk k2
 clear k1 k2 hD
 have hsz0 : s.data.toList.length = s.size := (Lib.size_eq s).symm
 by_cases hz : D.size = 0
 ·
  have hno : isNum s.data.toList = false := by unfold isNum; rw [← hn, hz]; rfl
  have HN := Aside0.mk hno
  have h0 : ((D.size : Int) == 0) = true := by rw [hz]; rfl
  clear hno hz hn hl hsz0
  go_enter Tryz.func59, Tryz.ntmps59
  go_wp2_with (go_at_call 77; refine K.out.mono ?_; rintro e w' ⟨rfl, rfl⟩)
  go_ret2
  exact ⟨ret_ib (num_no HN.out).symm HN.out.symm, Below.refl _ _⟩
 by_cases hb : 15 < D.size
 ·
  have hno : isNum s.data.toList = false := by unfold isNum; rw [← hn]; simp; intro _ h2; omega
  have HN := Aside0.mk hno
  have h0 : ((D.size : Int) == 0) = false := by rw [beq_eq_false_iff_ne]; omega
  have h1 : decide ((15 : Int) < (D.size : Int)) = true := by simp; omega
  clear hno hz hn hl hsz0 hb
  go_enter Tryz.func59, Tryz.ntmps59
  go_wp2_with (go_at_call 77; refine K.out.mono ?_; rintro e w' ⟨rfl, rfl⟩)
  go_ret2
  exact ⟨ret_ib (num_no HN.out).symm HN.out.symm, Below.refl _ _⟩
 have h0 : ((D.size : Int) == 0) = false := by rw [beq_eq_false_iff_ne]; omega
 have h1 : decide ((15 : Int) < (D.size : Int)) = false := by simp; omega
 have hpos : 0 < D.size := by omega
 have hle : D.size ≤ 15 := by omega
 have HL := Aside0.mk hl
 have HN := Aside0.mk hn
 have HZ := Aside0.mk hsz0
 clear hl hn hz hb hsz0
 go_enter Tryz.func59, Tryz.ntmps59
 go_wp2_with (go_at_call 77; refine K.out.mono ?_; rintro e w' ⟨rfl, rfl⟩)
 rename World => w
 go_loopw [6] (fun _ wr => ∃ (pos : Nat), pos ≤ D.size ∧ wr.heap[w.heap.size]? = some (.stringIter D pos) ∧ Below w.heap.size w wr ∧ Aside0 ((D.data.toList.take pos).all isDig = true)) (fun _ wr => D.size - wr.iterPos w.heap.size)
 case atStart => exact ⟨0, Nat.zero_le _, World.iter_heap w D 0, (Below.refl _ w).alloc (Nat.le_refl _) _, ⟨rfl⟩⟩
 case round =>
  obtain ⟨pos, hple, hit, hbw, hall⟩ := hrel
  have hsz : w.heap.size < wr.heap.size := (Array.getElem?_eq_some_iff.1 hit).1
  by_cases hp : pos < D.size
  ·
   have hnx : ∀ ty, (Instr.next (.pointer (some ⟨w.heap.size, 0, none⟩)) true ty).run Tryz.prog wr = _ := fun ty => Lib.run_next_any_at wr w.heap.size D pos ty hit hp
   have hit2 := Lib.iterAt_heap wr w.heap.size D pos (pos + (Utf8.decode D pos).2) hit
   have hbw2 := Lib.below_iterAt hbw (k := w.heap.size) (Nat.le_refl _) D (pos + (Utf8.decode D pos).2)
   by_cases hd : isDig (D[pos]'hp) = true
   ·
    have hdec := decode_dig D pos hp hd
    have hc : runes_Class.f ((Utf8.decode D pos).1 : Int) = some 2 := by rw [hdec]; unfold runes_Class.f; rw [cls_dig hd]
    have hw1 : (Utf8.decode D pos).2 = 1 := by rw [hdec]
    have HC := Aside0.mk hc
    have HW := Aside0.mk hw1
    have HA := Aside0.mk (show (D.data.toList.take (pos + 1)).all isDig = true by rw [take_snoc D pos hp, List.all_append, hall.out]; simp [hd])
    clear hc hw1 hdec hd
    go_wp2_with (go_at_call 73; refine (runes_Class.calls _ 2 _ HC.out).mono ?_; rintro e w' ⟨rfl, nd, rfl⟩)
    go_roundw
    case rel =>
     rw [HW.out] at hit2 hbw2 ⊢
     exact ⟨pos + 1, by omega, hit2, pw_below_drewN hbw2 _, HA⟩
    case measure =>
     have e1 : World.iterPos (World.drewN (wr.iterAt w.heap.size D (pos + (Utf8.decode D pos).2)) nd) w.heap.size = pos + 1 := by
      show (match (wr.iterAt w.heap.size D (pos + (Utf8.decode D pos).2)).heap[w.heap.size]? with | some (.stringIter _ p) => p | _ => 0) = pos + 1
      rw [hit2, HW.out]
     have e2 : World.iterPos wr w.heap.size = pos := by unfold World.iterPos; rw [hit]
     rw [e1, e2]
     omega
   ·
    have hd' : isDig (D[pos]'hp) = false := by simpa using hd
    obtain ⟨c, hc⟩ : ∃ c, runes_Class.f ((Utf8.decode D pos).1 : Int) = some c := ⟨_, rfl⟩
    have hcn : (c != 2) = true := by
     have := decode_nodig D pos hp hd'
     rw [bne_iff_ne]
     intro e
     rw [e] at hc
     exact this (Option.some.inj hc)
    have hno : isNum s.data.toList = false := by
     cases hq : isNum s.data.toList with
     | false => rfl
     | true =>
      unfold isNum at hq
      simp only [Bool.and_eq_true] at hq
      have := hq.2
      rw [← HL.out] at this
      have := all_at D pos hp _ this
      rw [hd'] at this
      cases this
    have HC := Aside0.mk hc
    have HNo := Aside0.mk hno
    clear hc hd hd' hno
    go_wp2_with (go_at_call 73; refine (runes_Class.calls _ c _ HC.out).mono ?_; rintro e w' ⟨rfl, nd, rfl⟩)
    go_ret2
    exact ⟨ret_ib (num_no HNo.out).symm HNo.out.symm, pw_below_drewN hbw2 _⟩
  ·
   have hnx : ∀ ty, (Instr.next (.pointer (some ⟨w.heap.size, 0, none⟩)) true ty).run Tryz.prog wr = _ := fun ty => Lib.run_next_end_at wr w.heap.size D pos ty hit hp
   have hall2 : (unsign s.data.toList).all isDig = true := by
    have := hall.out
    rw [List.take_of_length_le (by rw [← Lib.size_eq]; omega), HL.out] at this
    exact this
   have hx5 : ∀ h : 0 < D.size, ((D[0]'h).toNat : Int) = bt D 0 := bt_at D 0
   have hh : ((unsign s.data.toList).head? == some 48) = (bt D 0 == 48) := by
    rw [← HL.out, ← hx5 hpos, show D[0]'hpos = D.data.toList[0]'(by rw [← Lib.size_eq]; exact hpos) from rfl, List.head?_eq_getElem?, List.getElem?_eq_getElem (by rw [← Lib.size_eq]; exact hpos)]
    rw [Bool.eq_iff_iff]
    simp only [beq_iff_eq, Option.some.injEq]
    exact ⟨fun e => by rw [e]; rfl, fun e => UInt8.toNat_inj.1 (by have h48 : (48 : UInt8).toNat = 48 := rfl; omega)⟩
   have hin : isNum s.data.toList = !(bt D 0 == 48 && decide (1 < s.size)) := by
    unfold isNum
    rw [hall2, hh, ← HN.out, HZ.out, decide_eq_true (show 1 ≤ D.size by omega), decide_eq_true hle]
    simp
   have qi5 : (0 < (D.size : Int)) = True := eq_true (by omega)
   have q5 : (0 < D.size) = True := eq_true hpos
   clear hh hall2
   by_cases hbad : bt D 0 = 48 ∧ 1 < s.size
   ·
    have hno : isNum s.data.toList = false := by rw [hin, hbad.1, decide_eq_true hbad.2]; rfl
    have HNo := Aside0.mk hno
    have b1 : (bt D 0 == 48) = true := by rw [hbad.1]; rfl
    have b2 : decide ((1 : Int) < (s.size : Int)) = true := by simp; omega
    clear hno hin hbad hpos
    go_wp2
    go_ret2
    exact ⟨ret_ib (num_no HNo.out).symm HNo.out.symm, hbw⟩
   ·
    have hyes : isNum s.data.toList = true := by
     rw [hin]
     by_cases h4 : bt D 0 = 48
     ·
      rw [decide_eq_false (show ¬ 1 < s.size from fun h => hbad ⟨h4, h⟩)]; simp
     ·
      rw [beq_eq_false_iff_ne.2 h4]; rfl
    have hpar := parse_num _ hyes
    have hv : numV s.data.toList = numVal s.data.toList := by unfold numV; rw [hyes]; rfl
    have hs16 : s.size ≤ 16 := by
     have : s.data.toList.length ≤ (unsign s.data.toList).length + 1 := by
      unfold unsign
      split <;> simp <;> omega
     have h6 := HN.out
     have h7 := HZ.out
     omega
    have HP := Aside0.mk hpar
    have HV := Aside0.mk hv
    have HY := Aside0.mk hyes
    clear hpar hv hyes hin
    by_cases h4 : bt D 0 = 48
    ·
     have b1 : (bt D 0 == 48) = true := by rw [h4]; rfl
     have b2 : decide ((1 : Int) < (s.size : Int)) = false := by simp; by_cases h : 1 < s.size; exact absurd ⟨h4, h⟩ hbad; omega
     clear hbad h4 hpos
     go_wp2_with (go_at_call 78; refine (Tryz.strconv_ParseInt_10_at64_ok s (by omega) _ HP.out _).mono ?_; rintro e w' ⟨rfl, hw⟩; have HB := Aside0.mk (below_bytes hw); clear hw)
     go_quiet (fail)
     go_wp2
     go_ret2
     exact ⟨ret_ib HV.out.symm HY.out.symm, pw_below_drewN (hbw.trans (HB.out.mono hbw.size)) _⟩
    ·
     have b1 : (bt D 0 == 48) = false := beq_eq_false_iff_ne.2 h4
     clear hbad h4 hpos
     go_wp2_with (go_at_call 78; refine (Tryz.strconv_ParseInt_10_at64_ok s (by omega) _ HP.out _).mono ?_; rintro e w' ⟨rfl, hw⟩; have HB := Aside0.mk (below_bytes hw); clear hw)
     go_quiet (fail)
     go_wp2
     go_ret2
     exact ⟨ret_ib HV.out.symm HY.out.symm, pw_below_drewN (hbw.trans (HB.out.mono hbw.size)) _⟩

def lex_Name.f (s : ByteArray) : Option Bool := some (isName s.data.toList)

theorem cls_let {c : UInt8} (h : isLet c = true) : clsP (c.toNat : Int) = 1 := by
 have h2 : 97 ≤ c.toNat ∧ c.toNat ≤ 122 := by simpa [isLet] using h
 unfold clsP
 rw [if_pos (by omega)]
theorem cls_nolet {r : Int} (h : ¬ (97 ≤ r ∧ r ≤ 122)) : clsP r ≠ 1 := by
 unfold clsP
 repeat' split
 all_goals first | omega | decide
theorem decode_let (s : ByteArray) (p : Nat) (h : p < s.size) (hd : isLet (s[p]'h) = true) : Utf8.decode s p = ((s[p]'h).toNat, 1) := by
 have h2 : 97 ≤ (s[p]'h).toNat ∧ (s[p]'h).toNat ≤ 122 := by simpa [isLet] using hd
 exact decode_ascii s p h (by omega)
theorem decode_nolet (s : ByteArray) (p : Nat) (h : p < s.size) (hd : isLet (s[p]'h) = false) : clsP ((Utf8.decode s p).1 : Int) ≠ 1 := by
 by_cases ha : (s[p]'h).toNat < 128
 ·
  rw [decode_ascii s p h ha]
  refine cls_nolet fun hh => ?_
  have : isLet (s[p]'h) = true := by simp only [isLet, Bool.and_eq_true, decide_eq_true_eq]; exact ⟨by omega, by omega⟩
  rw [this] at hd
  cases hd
 ·
  have := (decode_high s p h (by omega)).1
  exact cls_nolet (by omega)
theorem take_empty (s : ByteArray) (p : Nat) (h : p < s.size) : (s.data.toList.take p).isEmpty = decide (p = 0) := by
 rw [Bool.eq_iff_iff, List.isEmpty_iff, decide_eq_true_eq, ← List.length_eq_zero_iff, List.length_take, ← Lib.size_eq]
 omega

set_option maxHeartbeats 4000000 in
theorem lex_Name.calls (s : ByteArray) (r : Bool) (w : World) (h : lex_Name.f s = some r) :
  Calls Tryz.prog 60 #[.string s] w fun e w' => e = .returned (.bool r) ∧ Below w.heap.size w w' := by
 obtain rfl := Option.some.inj h
 clear h
 have hn : s.data.toList.length = s.size := (Lib.size_eq s).symm
 by_cases hz : s.size = 0
 ·
  have hno : isName s.data.toList = false := by unfold isName; rw [hn, hz]; rfl
  have HN := Aside0.mk hno
  have h0 : ((s.size : Int) == 0) = true := by rw [hz]; rfl
  clear hno hz hn
  go_enter Tryz.func60, Tryz.ntmps60
  go_wp2
  go_ret
  exact ⟨ret_b HN.out.symm, Below.refl _ _⟩
 by_cases hb : 20 < s.size
 ·
  have hno : isName s.data.toList = false := by unfold isName; rw [hn]; simp; intro _ h2; omega
  have HN := Aside0.mk hno
  have h0 : ((s.size : Int) == 0) = false := by rw [beq_eq_false_iff_ne]; omega
  have h1 : decide ((20 : Int) < (s.size : Int)) = true := by simp; omega
  clear hno hz hn hb
  go_enter Tryz.func60, Tryz.ntmps60
  go_wp2
  go_ret
  exact ⟨ret_b HN.out.symm, Below.refl _ _⟩
 have h0 : ((s.size : Int) == 0) = false := by rw [beq_eq_false_iff_ne]; omega
 have h1 : decide ((20 : Int) < (s.size : Int)) = false := by simp; omega
 have hin : isName s.data.toList = nameAll s.data.toList := by
  unfold isName
  rw [hn, decide_eq_true (show 1 ≤ s.size by omega), decide_eq_true (show s.size ≤ 20 by omega)]
  simp
 have HN := Aside0.mk hin
 clear hin hn hz hb
 go_enter Tryz.func60, Tryz.ntmps60
 go_wp2
 go_loopw [3, 4, 5] (fun _ _ _ wr => ∃ (pos : Nat), pos ≤ s.size ∧ wr.heap[w.heap.size]? = some (.stringIter s pos) ∧ Below w.heap.size w wr ∧ Aside0 (nameAll (s.data.toList.take pos) = true)) (fun _ _ _ wr => s.size - wr.iterPos w.heap.size)
 case atStart => exact ⟨0, Nat.zero_le _, World.iter_heap w s 0, (Below.refl _ w).alloc (Nat.le_refl _) _, ⟨rfl⟩⟩
 case round =>
  obtain ⟨pos, hple, hit, hbw, hall⟩ := hrel
  have hsz : w.heap.size < wr.heap.size := (Array.getElem?_eq_some_iff.1 hit).1
  by_cases hp : pos < s.size
  ·
   have hnx : ∀ ty, (Instr.next (.pointer (some ⟨w.heap.size, 0, none⟩)) true ty).run Tryz.prog wr = _ := fun ty => Lib.run_next_any_at wr w.heap.size s pos ty hit hp
   have hit2 := Lib.iterAt_heap wr w.heap.size s pos (pos + (Utf8.decode s pos).2) hit
   have hbw2 := Lib.below_iterAt hbw (k := w.heap.size) (Nat.le_refl _) s (pos + (Utf8.decode s pos).2)
   have hsn : nameAll (s.data.toList.take (pos + 1)) = (isLet s[pos] || (isDig s[pos] && !decide (pos = 0))) := by
    rw [take_snoc s pos hp, nameAll_snoc, hall.out, take_empty s pos hp]; simp
   by_cases hok : isLet s[pos] = true ∨ (isDig s[pos] = true ∧ pos ≠ 0)
   ·
    have hdw : Utf8.decode s pos = ((s[pos]'hp).toNat, 1) := by
     rcases hok with h | h
     ·
      exact decode_let s pos hp h
     ·
      exact decode_dig s pos hp h.1
    have HW := Aside0.mk (show (Utf8.decode s pos).2 = 1 by rw [hdw])
    have HA := Aside0.mk (show nameAll (s.data.toList.take (pos + 1)) = true by rw [hsn]; rcases hok with h | h; simp [h]; simp [h.1, h.2])
    have hme : ∀ nd, World.iterPos (World.drewN (wr.iterAt w.heap.size s (pos + (Utf8.decode s pos).2)) nd) w.heap.size < s.size + 1 ∧ s.size - World.iterPos (World.drewN (wr.iterAt w.heap.size s (pos + (Utf8.decode s pos).2)) nd) w.heap.size < s.size - World.iterPos wr w.heap.size := by
     intro nd
     have e1 : World.iterPos (World.drewN (wr.iterAt w.heap.size s (pos + (Utf8.decode s pos).2)) nd) w.heap.size = pos + 1 := by
      show (match (wr.iterAt w.heap.size s (pos + (Utf8.decode s pos).2)).heap[w.heap.size]? with | some (.stringIter _ p) => p | _ => 0) = pos + 1
      rw [hit2, HW.out]
     have e2 : World.iterPos wr w.heap.size = pos := by unfold World.iterPos; rw [hit]
     rw [e1, e2]
     omega
    have HM := Aside0.mk hme
    clear hme
    by_cases hl : isLet s[pos] = true
    ·
     have HC := Aside0.mk (show runes_Class.f ((Utf8.decode s pos).1 : Int) = some 1 by rw [hdw]; unfold runes_Class.f; rw [cls_let hl])
     clear hsn hok hdw hl
     go_wp2_with (go_at_call 73; refine (runes_Class.calls _ 1 _ HC.out).mono ?_; rintro e w' ⟨rfl, nd, rfl⟩)
     go_roundw
     case rel =>
      rw [HW.out] at hit2 hbw2 ⊢
      exact ⟨pos + 1, by omega, hit2, pw_below_drewN hbw2 _, HA⟩
     case measure => exact (HM.out nd).2
    ·
     have hd : isDig s[pos] = true ∧ pos ≠ 0 := by rcases hok with h | h; exact absurd h hl; exact h
     have HC := Aside0.mk (show runes_Class.f ((Utf8.decode s pos).1 : Int) = some 2 by rw [hdw]; unfold runes_Class.f; rw [cls_dig hd.1])
     have hp0 : ((pos : Int) == 0) = false := by rw [beq_eq_false_iff_ne]; omega
     clear hsn hok hdw hl hd
     go_wp2_with (go_at_call 73; refine (runes_Class.calls _ 2 _ HC.out).mono ?_; rintro e w' ⟨rfl, nd, rfl⟩)
     go_roundw
     case rel =>
      rw [HW.out] at hit2 hbw2 ⊢
      exact ⟨pos + 1, by omega, hit2, pw_below_drewN hbw2 _, HA⟩
     case measure => exact (HM.out nd).2
   ·
    have hl : isLet s[pos] = false := by cases h : isLet s[pos] with | false => rfl | true => exact absurd (Or.inl h) hok
    have hno : nameAll s.data.toList = false := by
     cases hq : nameAll s.data.toList with
     | false => rfl
     | true =>
      have := nameAll_take _ (pos + 1) hq
      rw [hsn, hl] at this
      simp at this
      exact absurd (Or.inr this) hok
    obtain ⟨c, hc⟩ : ∃ c, runes_Class.f ((Utf8.decode s pos).1 : Int) = some c := ⟨_, rfl⟩
    have hc1 : (c != 1) = true := by
     rw [bne_iff_ne]; intro e; rw [e] at hc
     exact decode_nolet s pos hp hl (Option.some.inj hc)
    have HC := Aside0.mk hc
    have HNo := Aside0.mk hno
    by_cases hd : isDig s[pos] = true
    ·
     have hp0 : pos = 0 := by by_cases h : pos = 0; exact h; exact absurd (Or.inr ⟨hd, h⟩) hok
     have hp1 : ((pos : Int) == 0) = true := by rw [hp0]; rfl
     have hc2 : (c != 2) = false := by
      have : runes_Class.f ((Utf8.decode s pos).1 : Int) = some 2 := by rw [decode_dig s pos hp hd]; unfold runes_Class.f; rw [cls_dig hd]
      rw [Option.some.inj (hc.symm.trans this)]; rfl
     clear hsn hok hl hno hc hd hp0
     go_wp2_with (go_at_call 73; refine (runes_Class.calls _ c _ HC.out).mono ?_; rintro e w' ⟨rfl, nd, rfl⟩)
     go_ret
     exact ⟨ret_b (HN.out.trans HNo.out).symm, pw_below_drewN hbw2 _⟩
    ·
     have hc2 : (c != 2) = true := by
      rw [bne_iff_ne]; intro e; rw [e] at hc
      exact decode_nodig s pos hp (by simpa using hd) (Option.some.inj hc)
     clear hsn hok hl hno hc hd
     go_wp2_with (go_at_call 73; refine (runes_Class.calls _ c _ HC.out).mono ?_; rintro e w' ⟨rfl, nd, rfl⟩)
     go_ret
     exact ⟨ret_b (HN.out.trans HNo.out).symm, pw_below_drewN hbw2 _⟩
  ·
   have hnx : ∀ ty, (Instr.next (.pointer (some ⟨w.heap.size, 0, none⟩)) true ty).run Tryz.prog wr = _ := fun ty => Lib.run_next_end_at wr w.heap.size s pos ty hit hp
   have HE := Aside0.mk (show nameAll s.data.toList = true by have := hall.out; rw [List.take_of_length_le (by rw [← Lib.size_eq]; omega)] at this; exact this)
   go_wp2
   go_ret
   exact ⟨ret_b (HN.out.trans HE.out).symm, hbw⟩
end Go.Proofs.YtlkbeddlmbghkaaGreatDoor.PR
