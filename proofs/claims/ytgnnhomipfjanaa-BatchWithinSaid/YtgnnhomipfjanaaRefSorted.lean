/- rundleref04.Less and rundleref09.Sorted, in the print's own form. -/
import Derived.Test.YtgnnhomipfjanaaPAx0
import Derived.Test.YtgnnhomipfjanaaLess
import Derived.Deep.RegionLaw
import Derived.Deep.RegionHeld3
import Derived.Deep.DeepCutAuto
import Derived.Deep.CutBlock
namespace Go.Proofs.Ytgnnhomipfjanaa.PA
open Go Go.Proofs Go.RowKit Go.Proofs.YtgnnhomipfjanaaW.PrintWords Go.Proofs.YtgnnhomipfjanaaW.PrintLast Go.Proofs.YtgnnhomipfjanaaW.PrintMore

def rundleref04_Less.f (a0 : ByteArray) (a1 : ByteArray) : Option (Bool) := if a0.size ≤ 9223372036854775807 ∧ a1.size ≤ 9223372036854775807 then some (Srt.ltB a0 a1) else none

theorem rundleref04_Less.calls (a0 : ByteArray) (a1 : ByteArray) (r : Bool) (w : World) (h : rundleref04_Less.f a0 a1 = some r) :
    Calls Try.prog 46 #[.string a0, .string a1] w fun e w' => e = .returned (.bool r) ∧ Drawn0 w w' := by
  unfold rundleref04_Less.f at h
  by_cases hc : a0.size ≤ 9223372036854775807 ∧ a1.size ≤ 9223372036854775807
  · rw [if_pos hc] at h
    obtain rfl := Option.some.inj h
    exact Srt.Less_calls a0 a1 w hc.1 hc.2
  · rw [if_neg hc] at h; cases h

/-- Where an entry belongs, among entries in order: sought from the end. -/
def insK (x : S94) (out : List S94) : Nat → Nat
  | 0 => 0
  | k + 1 => if Srt.ltB x.f0 (out.getD k z94).f0 then insK x out k else k + 1
def insE (out : List S94) (x : S94) : List S94 := out.take (insK x out out.length) ++ [x] ++ out.drop (insK x out out.length)
def rsE (l : List S94) : List S94 := l.foldl insE []
def shortK (l : List S94) : Bool := l.all fun x => decide (x.f0.size ≤ 9223372036854775807)

theorem insK_le (x : S94) (out : List S94) : ∀ k, insK x out k ≤ k
  | 0 => Nat.le_refl _
  | k + 1 => by rw [insK]; split; have := insK_le x out k; omega; exact Nat.le_refl _
theorem insE_length (out : List S94) (x : S94) : (insE out x).length = out.length + 1 := by
  unfold insE
  have := insK_le x out out.length
  simp; omega
theorem foldl_insE_length : ∀ (l acc : List S94), (l.foldl insE acc).length = acc.length + l.length
  | [], acc => by simp
  | x :: l, acc => by rw [List.foldl_cons, foldl_insE_length l, insE_length, List.length_cons]; omega
theorem rsE_length (l : List S94) : (rsE l).length = l.length := by unfold rsE; rw [foldl_insE_length]; simp
theorem rsE_take (l : List S94) (i : Nat) (h : i < l.length) : rsE (l.take (i + 1)) = insE (rsE (l.take i)) (l.getD i z94) := by
  unfold rsE
  rw [List.take_succ_eq_append_getElem h, List.foldl_append]
  simp [h]

theorem getD_mem {l : List S94} {k : Nat} (h : k < l.length) : l.getD k z94 ∈ l := by
  rw [List.getD_eq_getElem?_getD, List.getElem?_eq_getElem h]; exact List.getElem_mem h
theorem mem_insE {out : List S94} {x y : S94} (h : y ∈ insE out x) : y = x ∨ y ∈ out := by
  unfold insE at h
  rw [List.mem_append, List.mem_append] at h
  rcases h with (h | h) | h
  · exact .inr (List.mem_of_mem_take h)
  · exact .inl (List.mem_singleton.1 h)
  · exact .inr (List.mem_of_mem_drop h)
theorem mem_foldl_insE : ∀ (l acc : List S94) (y : S94), y ∈ l.foldl insE acc → y ∈ l ∨ y ∈ acc
  | [], acc, y, h => .inr h
  | x :: l, acc, y, h => by
    rcases mem_foldl_insE l _ y h with h | h
    · exact .inl (List.mem_cons_of_mem _ h)
    · rcases mem_insE h with rfl | h
      · exact .inl List.mem_cons_self
      · exact .inr h
theorem mem_rsE {l : List S94} {y : S94} (h : y ∈ rsE l) : y ∈ l := (mem_foldl_insE l [] y h).resolve_right (by simp)
theorem mem_rsE_take {l : List S94} {i : Nat} {y : S94} (h : y ∈ rsE (l.take i)) : y ∈ l := List.mem_of_mem_take (mem_rsE h)
theorem short_at {l : List S94} (h : shortK l = true) (x : S94) (hx : x ∈ l) : x.f0.size ≤ 9223372036854775807 := by
  have := List.all_eq_true.1 h x hx
  exact of_decide_eq_true this

theorem hp1 (w : World) (o : Obj) : (w.alloc o).heap[w.heap.size]? = some o := by show (w.heap.push o)[w.heap.size]? = some o; simp
theorem hp2 (w : World) (o o2 : Obj) : ((w.alloc o).alloc o2).heap[w.heap.size]? = some o := by show ((w.heap.push o).push o2)[w.heap.size]? = some o; simp [Array.getElem?_push]
theorem hp3 (w : World) (o o2 : Obj) : ((w.alloc o).alloc o2).heap[w.heap.size + 1]? = some o2 := by show ((w.heap.push o).push o2)[w.heap.size + 1]? = some o2; rw [Array.getElem?_push]; simp
theorem C_take' {W : World} {A : Option Addr} {xs : List S94} {m : Nat} (h : Kd.C k94 W A xs.length xs) (hm : m ≤ xs.length) : Kd.C k94 W A m (xs.take m) := by
  have q := Kd.C_take h hm
  rw [List.length_take, Nat.min_eq_left hm] at q
  exact q
theorem C_drop' {W : World} {A : Option Addr} {xs : List S94} {m c : Nat} (h : Kd.C k94 W A xs.length xs) (hm : m ≤ xs.length) (hc : xs.length ≤ c) : Kd.C k94 W (if c = m then A else A.map (·.add (m * 3))) (xs.length - m) (xs.drop m) := by
  have q := Kd.C_drop h hm hc
  rw [List.length_drop] at q
  exact q

theorem R_empty {W : World} {g base : Nat} {ok : Nat → Prop} (hg : W.heap[g]? = some (.cells #[] 94 (0, 0))) (hb : base ≤ g) (hok : ok g) : Kd.R k94 94 W base ok (.slice (some ⟨g, 0, none⟩) 0 0) [] :=
  ⟨fun k hk => by
    have : g = k := by simpa [Value.ownBlock] using hk
    exact this ▸ hok, [], ⟨rfl, .inr ⟨g, 0, #[], rfl, hb, hg, Nat.le_refl _, Nat.zero_le _, rfl, rfl⟩⟩, Reps.none _ _⟩
theorem C_one {W : World} {g : Nat} {X : S94} (hg : W.heap[g]? = some (.cells #[.string X.f0, .string X.f1, .bool X.f2] 94 (0, 0))) : Kd.C k94 W (some ⟨g, 0, none⟩) 1 [X] := by
  have h : Kd.R k94 94 W g (fun _ => True) (.slice (some ⟨g, 0, none⟩) [X].length 1) [X] :=
    ⟨fun _ _ => trivial, [.string X.f0, .string X.f1, .bool X.f2], ⟨rfl, .inr ⟨g, 1, _, rfl, Nat.le_refl _, hg, Nat.le_refl _, by simp [maxLen], rfl, rfl⟩⟩, by
      have := (Reps.none (k94.M W g (fun k => True ∧ some k ≠ Value.ownBlock (.slice (some ⟨g, 0, none⟩) [X].length 1))) 3).snoc (k94_mkM W g _ X) rfl
      exact this⟩
  obtain ⟨A, c, e, _, hC⟩ := Kd.R_reads h
  injection e with e1 e2 e3
  subst e1
  exact hC

def rundleref09_Sorted.f (l0 : List (S94)) : Option (List (S94)) := if l0.length < 3518437208883 ∧ shortK l0 = true then some (rsE l0) else none

set_option maxHeartbeats 8000000 in
set_option maxRecDepth 100000 in
theorem rundleref09_Sorted.calls (A0 : Option Addr) (c0 : Nat) (l0 : List (S94)) (r : List (S94)) (w : World) (hr0 : Kd.C k94 w A0 l0.length l0) (_hc0 : l0.length ≤ c0) (h : rundleref09_Sorted.f l0 = some r) :
    Calls Try.prog 19 #[.slice A0 l0.length c0] w fun e w' => ∃ v0_ : Value, e = .returned (v0_) ∧ Kd.R k94 94 w' w.heap.size (fun _ => True) v0_ r ∧ Below w.heap.size w w' := by
  unfold rundleref09_Sorted.f at h
  by_cases hl : l0.length < 3518437208883 ∧ shortK l0 = true
  · rw [if_pos hl] at h
    obtain rfl := Option.some.inj h
    clear h
    have HR0 := Aside0.mk hr0
    have LM := Aside0.mk hl.1
    have HSK := Aside0.mk hl.2
    clear hr0 hl
    have HB := Aside0.mk (Below.refl w.heap.size w)
    go_enter Try.func19, Try.ntmps19
    go_wp2_with fail
    go_loopg [3, 4, 5] l0.length (fun kq v3 v4 _ w' => ∃ (i : Nat) (x3 : List S94), v4 = .int .i64 i ∧ i ≤ l0.length ∧ l0.length - i ≤ kq ∧ Aside0 (x3 = rsE (l0.take i)) ∧ Aside0 (Kd.R k94 94 w' w.heap.size (fun _ => True) v3 x3) ∧ Aside0 (Below w.heap.size w w'))
    case atStart => exact ⟨0, [], rfl, by omega, by omega, ⟨rfl⟩, ⟨Kd.R_nil _ _ _ _ _⟩, HB⟩
    case round =>
      obtain ⟨i, x3, rfl, hi, hk, HX, HO, HB⟩ := hrel
      obtain ⟨wo, rfl⟩ : ∃ wo : World, wo = wr := ⟨_, rfl⟩
      by_cases hlt : i < l0.length
      · have z1 : (i : Int) < (l0.length : Int) := by omega
        have hx3 : x3.length = i := by rw [HX.out, rsE_length, List.length_take]; omega
        have hx3a : x3.length ≤ i := by omega
        have hx3b : i ≤ x3.length := by omega
        clear hx3
        obtain ⟨A, c, hv, hc3, hC3⟩ := Kd.R_reads HO.out
        subst hv
        have HC3 := Aside0.mk hC3
        have HCc := Aside0.mk hc3
        clear hC3 hc3
        go_upto_block 2 with (fail)
        go_cut [5] (fun v5 wc => ∃ kk : Nat, v5 = .int .i64 kk ∧ kk ≤ x3.length ∧ Drawn0 wo wc ∧ Aside0 (insK (l0.getD i z94) x3 x3.length = kk))
        case first =>
          go_wp2_with fail
          go_loopg [5] x3.length (fun kq2 v5 w2 => ∃ (k : Nat), v5 = .int .i64 k ∧ k ≤ x3.length ∧ k ≤ kq2 ∧ Drawn0 wo w2 ∧ Aside0 (insK (l0.getD i z94) x3 k = insK (l0.getD i z94) x3 x3.length))
          case atStart => exact ⟨x3.length, rfl, by omega, by omega, Drawn0.refl _, ⟨rfl⟩⟩
          case round =>
            obtain ⟨k, rfl, hkx, hk2, HD, HI⟩ := hrel
            by_cases hk0 : 0 < k
            · obtain ⟨k, rfl⟩ : ∃ k', k = k' + 1 := ⟨k - 1, by omega⟩
              have em : ((k + 1 : Nat) : Int) = (k : Int) + 1 := by omega
              rw [em]
              clear em
              have z2 : (0 : Int) < (k : Int) + 1 := by omega
              have d2 : decide ((k : Int) + 1 > 0) = true := decide_eq_true z2
              have rk : IntKind.i64.wrap (k : Int) = (k : Int) := by have := LM.out; rw [IntKind.wrap_i64]; omega
              have hkl : k < x3.length := by omega
              have p1 : (0 : Int) ≤ (i : Int) := by omega
              obtain ⟨ad1, e1, ha0, ha1, ha2⟩ := at_T94 HR0.out i p1 z1
              subst e1
              have hxo := (HB.out.cell (World.block_lt_of_cell? w _ ha0)).trans ha0
              have hxa := (HD.below.cell (World.block_lt_of_cell? wo _ hxo)).trans hxo
              have q1 : (0 : Int) ≤ (k : Int) := by omega
              have q2 : (k : Int) < (x3.length : Int) := by omega
              obtain ⟨ad2, e2, hbo, hb1, hb2⟩ := at_T94 HC3.out k q1 q2
              subst e2
              have hb0 := (HD.below.cell (World.block_lt_of_cell? wo _ hbo)).trans hbo
              clear ha0 ha1 ha2 hb1 hb2 hxo hbo
              have ex : rd_T94 l0 (i : Int) = l0.getD i z94 := rfl
              have ey : rd_T94 x3 (k : Int) = x3.getD k z94 := rfl
              rw [ex, Int.toNat_natCast] at hxa
              rw [ey, Int.toNat_natCast] at hb0
              have hsx : (l0.getD i z94).f0.size ≤ 9223372036854775807 := short_at HSK.out _ (getD_mem (by omega))
              have hsy : (x3.getD k z94).f0.size ≤ 9223372036854775807 := short_at HSK.out _ (mem_rsE_take (by rw [← HX.out]; exact getD_mem hkl))
              have HI2 := HI.out
              rw [insK] at HI2
              generalize hX : l0.getD i z94 = X at *
              generalize hY : x3.getD k z94 = Y at *
              have hc := fun wx => Srt.Less_quiet X.f0 Y.f0 wx hsx hsy
              cases hL : Srt.ltB X.f0 Y.f0 with
              | true =>
                rw [if_pos hL] at HI2
                rw [hL] at hc
                have HI3 := Aside0.mk HI2
                have HX2 := Lib.hid hX
                have HY2 := Lib.hid hY
                clear HI2 HI hL hX hY ex ey hsx hsy
                go_wp2_with fail
                go_quiet ((go_at_call 46; exact Calls.quiet_of (hc _)))
                go_wp2_with fail
                go_roundg k
                case measure => omega
                case rel => exact ⟨k, by go_num, by omega, by omega, HD.step _, HI3⟩
              | false =>
                rw [if_neg (by rw [hL]; simp)] at HI2
                rw [hL] at hc
                have HI3 := Aside0.mk HI2
                have HX2 := Lib.hid hX
                have HY2 := Lib.hid hY
                clear HI2 HI hL hX hY ex ey hsx hsy
                go_wp2_with fail
                go_quiet ((go_at_call 46; exact Calls.quiet_of (hc _)))
                go_wp2_with fail
                go_meet
                case rel => exact ⟨k + 1, by go_num, by omega, HD.step _, ⟨HI3.out.symm⟩⟩
            · obtain rfl : k = 0 := by omega
              have z2 : ¬ (0 : Int) < ((0 : Nat) : Int) := by omega
              have d2 : decide (((0 : Nat) : Int) > 0) = false := by simp
              go_wp2_with fail
              go_quiet (fail)
              go_wp2_with fail
              go_meet
              case rel => exact ⟨0, rfl, by omega, HD.step _, ⟨HI.out.symm⟩⟩
        case rest =>
          obtain ⟨kk, rfl, hkk, HD, HI⟩ := hcut
          have HBc := Aside0.mk (below_then HB.out HB.out.size HD.below)
          have HOc := Aside0.mk (Kd.R_below HO.out HD.below)
          have HCc2 := Aside0.mk (Kd.C_below HC3.out HD.below)
          clear HB HO HC3
          have hkz : (kk : Int) ≤ (x3.length : Int) := by omega
          have hk0 : (0 : Int) ≤ (kk : Int) := by omega
          have p1 : (0 : Int) ≤ (i : Int) := by omega
          obtain ⟨ad1, e1, ha0, ha1, ha2⟩ := at_T94 HR0.out i p1 z1
          subst e1
          rw [Int.toNat_natCast] at ha0 ha1 ha2
          have hx0 := (HBc.out.cell (World.block_lt_of_cell? w _ ha0)).trans ha0
          have hx1 := (HBc.out.cell (World.block_lt_of_cell? w _ ha1)).trans ha1
          have hx2 := (HBc.out.cell (World.block_lt_of_cell? w _ ha2)).trans ha2
          have ex : rd_T94 l0 (i : Int) = l0.getD i z94 := rfl
          rw [ex] at hx0 hx1 hx2
          clear ha0 ha1 ha2 ex
          have hkc : kk ≤ c := by have := HCc.out; omega
          have hxc : x3.length ≤ c := HCc.out
          have hn0 := World.new_ne wc _ hx0
          have hn1 := World.new_ne wc _ hx1
          have hn2 := World.new_ne wc _ hx2
          generalize hXe : l0.getD i z94 = X at *
          have HXe := Lib.hid hXe
          clear hXe
          go_wp2_with fail
          go_region_held3 (fun w' => w'.cell? (ad1.add (i * 3)) = some (.string X.f0) ∧ w'.cell? ⟨(ad1.add (i * 3)).block, (ad1.add (i * 3)).off + 1, none⟩ = some (.string X.f1) ∧ w'.cell? ⟨(ad1.add (i * 3)).block, (ad1.add (i * 3)).off + 2, none⟩ = some (.bool X.f2)) (go_keep)
            ((first | (refine Kd.R_append_rows_step k94 (w0 := wc) wc.heap.size (by rfl) (.tmp 32) (.tmp 35) 22 94 (.agg #[(.string ⟨#[]⟩), (.string ⟨#[]⟩), (.bool false)]) 40 rfl Try.underlying22 info94 rfl (by decide) (by omega) _ [] (x3.take kk) _ _ _ (fun k => wc.heap.size ≤ k) (fun _ => False) rfl rfl ?aO ?aR (fun _ _ h => h) (fun _ h => h.elim) (fun _ h => Nat.le_trans (below_size (by repeat (first | (with_reducible first | exact Below.refl _ _ | assumption | apply below_alloc | apply below_drew1 | apply pw_below_drewN) | exact Below.refl _ _))) h) (by repeat (first | (with_reducible first | exact Below.refl _ _ | assumption | apply below_alloc | apply below_drew1 | apply pw_below_drewN) | exact Below.refl _ _)) (below_size (by repeat (first | (with_reducible first | exact Below.refl _ _ | assumption | apply below_alloc | apply below_drew1 | apply pw_below_drewN) | exact Below.refl _ _))) ?aL ?_; (case aO => exact R_empty (by first | exact hp1 _ _ | exact hp2 _ _ _ | exact hp3 _ _ _) (by simp) (by simp)); (case aR => exact C_take' (Kd.C_below HCc2.out (by repeat (first | (with_reducible first | exact Below.refl _ _ | assumption | apply below_alloc | apply below_drew1 | apply pw_below_drewN) | exact Below.refl _ _))) hkk); (case aL => have := LM.out; simp; omega); intro v1 w1 ho hb hg hat; have k0 := (hb.cell (World.block_lt_of_cell? wc _ hx0)).trans hx0; have k1 := (hb.cell (World.block_lt_of_cell? wc _ hx1)).trans hx1; have k2 := (hb.cell (World.block_lt_of_cell? wc _ hx2)).trans hx2) | (refine Kd.R_append_rows_step k94 (w0 := wc) wc.heap.size (by rfl) (.tmp 36) (.tmp 41) 22 94 (.agg #[(.string ⟨#[]⟩), (.string ⟨#[]⟩), (.bool false)]) 40 rfl Try.underlying22 info94 rfl (by decide) (by omega) v1 ([] ++ x3.take kk) [X] _ _ _ (fun k => wc.heap.size ≤ k) (fun _ => False) rfl rfl ?bO ?bR (fun _ _ h => h) (fun _ h => h.elim) (fun _ h => Nat.le_trans (below_size (by repeat (first | (with_reducible first | exact Below.refl _ _ | assumption | apply below_alloc | apply below_drew1 | apply pw_below_drewN) | exact Below.refl _ _))) h) (by repeat (first | (with_reducible first | exact Below.refl _ _ | assumption | apply below_alloc | apply below_drew1 | apply pw_below_drewN) | exact Below.refl _ _)) (below_size (by repeat (first | (with_reducible first | exact Below.refl _ _ | assumption | apply below_alloc | apply below_drew1 | apply pw_below_drewN) | exact Below.refl _ _))) ?bL ?_; (case bO => first | exact ho | exact Kd.R_alloc ho _ | exact Kd.R_drew (Kd.R_alloc ho _)); (case bR => first | exact C_one (hp1 _ _) | exact C_one ((hg.block _ (by simp <;> omega) (by first | exact fun e => Nat.succ_ne_self _ (Option.some.inj e) | exact fun e => Nat.succ_ne_self _ (Option.some.inj e).symm)).trans (by first | exact hp1 _ _ | exact hp2 _ _ _ | exact hp3 _ _ _))); (case bL => have := LM.out; simp; omega); intro v2 w2 ho2 hb2 hg2 hat2; have k0 := (hb2.cell (World.block_lt_of_cell? wc _ hx0)).trans hx0; have k1 := (hb2.cell (World.block_lt_of_cell? wc _ hx1)).trans hx1; have k2 := (hb2.cell (World.block_lt_of_cell? wc _ hx2)).trans hx2) | (refine Kd.R_append_rows_step k94 (w0 := wc) wc.heap.size (by rfl) (.tmp 42) (.tmp 45) 22 94 (.agg #[(.string ⟨#[]⟩), (.string ⟨#[]⟩), (.bool false)]) 40 rfl Try.underlying22 info94 rfl (by decide) (by omega) v2 (([] ++ x3.take kk) ++ [X]) (x3.drop kk) _ _ _ (fun k => wc.heap.size ≤ k) (fun _ => False) rfl rfl ?cO ?cR (fun _ _ h => h) (fun _ h => h.elim) (fun _ h => Nat.le_trans (below_size (by repeat (first | (with_reducible first | exact Below.refl _ _ | assumption | apply below_alloc | apply below_drew1 | apply pw_below_drewN) | exact Below.refl _ _))) h) (by repeat (first | (with_reducible first | exact Below.refl _ _ | assumption | apply below_alloc | apply below_drew1 | apply pw_below_drewN) | exact Below.refl _ _)) (below_size (by repeat (first | (with_reducible first | exact Below.refl _ _ | assumption | apply below_alloc | apply below_drew1 | apply pw_below_drewN) | exact Below.refl _ _))) ?cL ?_; (case cO => exact ho2); (case cR => exact C_drop' (Kd.C_below HCc2.out hb2) hkk hxc); (case cL => have := LM.out; simp; omega); intro v3 w3 ho3 hb3 hg3 hat3; have k0 := (hb3.cell (World.block_lt_of_cell? wc _ hx0)).trans hx0; have k1 := (hb3.cell (World.block_lt_of_cell? wc _ hx1)).trans hx1; have k2 := (hb3.cell (World.block_lt_of_cell? wc _ hx2)).trans hx2)))
          all_goals
            have HN : Kd.R k94 94 w3 w.heap.size (fun _ => True) v3 (insE x3 X) := by
              have q := Kd.R_mono (Kd.R_lower ho3 HBc.out.size) (ok' := fun _ => True) (fun _ _ => trivial)
              unfold insE
              rw [HI.out]
              exact q
            have HNa := Aside0.mk HN
            have HBn := Aside0.mk (below_then HBc.out HBc.out.size hb3)
            clear HN
            have hlm := LM.out
            generalize (if c = kk then A else A.map (fun x => x.add (kk * 3))) = Ax
            go_wp2_with fail
            go_roundg (l0.length - (i + 1))
            case measure => omega
            case rel => exact ⟨i + 1, insE x3 X, by go_num, by omega, by omega, ⟨by rw [rsE_take l0 i hlt, HXe.out, ← HX.out]⟩, HNa, HBn⟩
      · have z1 : ¬ (i : Int) < (l0.length : Int) := by omega
        obtain rfl : i = l0.length := by omega
        go_wp2
        go_ret
        exact ⟨_, rfl, by have := HO.out; rw [HX.out, List.take_length] at this; exact this, HB.out⟩
  · rw [if_neg hl] at h; cases h
end Go.Proofs.Ytgnnhomipfjanaa.PA
