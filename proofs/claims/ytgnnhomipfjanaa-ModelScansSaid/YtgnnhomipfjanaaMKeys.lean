/- model.Keys, in the print's own form: all keys that were changed up to a version, rising. -/
import Derived.Maps.Own
import Derived.Maps.OwnOps
import Derived.Maps.OwnSet
import Derived.Maps.RangeWalk
import Derived.Sort.KeysCollected
import Derived.Sort.OwnSorted
import Derived.Deep.DeepCutAuto
import Derived.Deep.CutBlock
import Derived.Test.YtgnnhomipfjanaaMSort
import Derived.Test.YtgnnhomipfjanaaMAdd
namespace Go.Proofs.Ytgnnhomipfjanaa.PM
open Go Go.Proofs Go.RowKit Go.Maps Go.WideMaps Go.Sort Go.Proofs.YtgnnhomipfjanaaW.PrintWords Go.Proofs.YtgnnhomipfjanaaW.PrintLast Go.Proofs.YtgnnhomipfjanaaW.PrintMore

/-- The keys of changes, as they come. -/
def entK (es : List S37) : List (List UInt8) := es.map fun x => x.f0.data.toList
def seenK (ms : List S112) : List (List UInt8) := ms.flatMap fun c => entK c.f1
def uptoV (ms : List S112) (v : Int) : List S112 := ms.takeWhile fun c => decide (c.f0 ≤ v)
def dd {α : Type} [DecidableEq α] : List α → List α
  | [] => []
  | x :: t => if x ∈ dd t then dd t else x :: dd t
theorem mem_dd {α : Type} [DecidableEq α] (x : α) : ∀ l : List α, x ∈ dd l ↔ x ∈ l
  | [] => Iff.rfl
  | y :: t => by
    unfold dd
    by_cases h : y ∈ dd t
    · rw [if_pos h, mem_dd x t, List.mem_cons]
      exact ⟨.inr, fun h' => h'.elim (fun e => e ▸ (mem_dd y t).1 h) id⟩
    · rw [if_neg h, List.mem_cons, List.mem_cons, mem_dd x t]
theorem nodup_dd {α : Type} [DecidableEq α] : ∀ l : List α, (dd l).Nodup
  | [] => List.nodup_nil
  | y :: t => by
    unfold dd
    by_cases h : y ∈ dd t
    · rw [if_pos h]; exact nodup_dd t
    · rw [if_neg h]; exact List.nodup_cons.2 ⟨h, nodup_dd t⟩
/-- All keys that were changed up to a version, rising. -/
def keysB (ms : List S112) (v : Int) : List (List UInt8) := (dd (seenK (uptoV ms v))).mergeSort leB
def keysE (ms : List S112) (v : Int) : List ByteArray := (keysB ms v).map fun b => ⟨b.toArray⟩

/-- The map holds just these keys. -/
def Fill (w : World) (ks : List (List UInt8)) (wr : World) : Prop := ∃ (nn : Nat) (D : DataW Unit), wr.ownsMap Try.prog 9 (plainElem Try.prog 3) (w.heap.size + 1) nn D ∧ nn ≤ ks.length ∧ (∀ x : List UInt8, Maps.has D (.string x) = true ↔ x ∈ ks) ∧ Below w.heap.size w wr
theorem law9 : Keyed Try.prog 9 := string_keyed Try.underlying9
theorem zero3 (w : World) : (zeroValue 3).run Try.prog w = .ok (.int .i64 0) w := by kernel_rfl

theorem Fill.below {w wr : World} {ks : List (List UInt8)} (h : Fill w ks wr) : Below w.heap.size w wr := by
  obtain ⟨_, _, _, _, _, hB⟩ := h
  exact hB
theorem Fill.alloc {w wr : World} {ks : List (List UInt8)} (h : Fill w ks wr) (o : Obj) : Fill w ks (wr.alloc o) := by
  obtain ⟨nn, D, h1, h2, h3, h4⟩ := h
  exact ⟨nn, D, h1.alloc o, h2, h3, h4.alloc h4.size o⟩
theorem fill_start (w : World) (o : Obj) : Fill w (seenK (List.take 0 ([] : List S112))) ((w.alloc o).alloc (.map #[] 0)) := by
  refine ⟨0, .map [], ?_, Nat.zero_le _, fun x => by simp [seenK, Maps.has], bel2 w _ _⟩
  have := World.ownsMap_made (H := Unit) (w.alloc o) Try.prog 9 (plainElem Try.prog 3)
  rwa [World.size_alloc] at this
def KeysOk (l0 : List S112) : Prop := (seenK l0).length < 1000000000000 ∧ l0.length < 1000000000000 ∧ ∀ c ∈ l0, ∀ x ∈ c.f1, x.f0.size ≤ 9223372036854775807

theorem rd112_get (l : List S112) {j : Nat} (h : j < l.length) : rd_T112 l (j : Int) = l[j] := by unfold rd_T112; simp [h]
theorem ent_le {l0 : List S112} (h : KeysOk l0) {j : Nat} (hj : j < l0.length) {X : S112} (hX : rd_T112 l0 (j : Int) = X) : X.f1.length < 1000000000000 := by
  rw [rd112_get l0 hj] at hX
  have e : l0 = l0.take j ++ (X :: l0.drop (j + 1)) := by rw [← hX, ← List.drop_eq_getElem_cons hj, List.take_append_drop]
  have h1 := h.1
  rw [e] at h1
  simp [seenK, entK] at h1
  omega
theorem fill_le {l0 : List S112} (h : KeysOk l0) {j : Nat} (hj : j < l0.length) {X : S112} (hX : rd_T112 l0 (j : Int) = X) {q : Nat} (hq : q ≤ X.f1.length) : (seenK (l0.take j) ++ entK (X.f1.take q)).length < 1000000000000 := by
  rw [rd112_get l0 hj] at hX
  have e : l0 = l0.take j ++ (X :: l0.drop (j + 1)) := by rw [← hX, ← List.drop_eq_getElem_cons hj, List.take_append_drop]
  have h1 := h.1
  rw [e] at h1
  simp [seenK, entK] at h1 ⊢
  omega
theorem key_le {l0 : List S112} (h : KeysOk l0) {j : Nat} (hj : j < l0.length) {X : S112} (hX : rd_T112 l0 (j : Int) = X) {q : Nat} (hq : q < X.f1.length) {Y : S37} (hY : rd_T37 X.f1 (q : Int) = Y) : Y.f0.size ≤ maxLen := by
  rw [rd112_get l0 hj] at hX
  subst hX
  have hY2 : rd_T37 l0[j].f1 (q : Int) = l0[j].f1[q] := by unfold rd_T37; simp [hq]
  rw [hY2] at hY
  have := h.2.2 _ (List.getElem_mem hj) _ (List.getElem_mem hq)
  rw [hY] at this
  unfold maxLen; omega
theorem upto_stop {l0 : List S112} {a1 : Int} {j : Nat} (hA : ∀ c ∈ l0.take j, c.f0 ≤ a1) (hj : j < l0.length) {X : S112} (hX : rd_T112 l0 (j : Int) = X) (hv : a1 < X.f0) : uptoV l0 a1 = l0.take j := by
  rw [rd112_get l0 hj] at hX
  have e : l0 = l0.take j ++ (X :: l0.drop (j + 1)) := by rw [← hX, ← List.drop_eq_getElem_cons hj, List.take_append_drop]
  unfold uptoV
  conv => lhs; rw [e]
  rw [List.takeWhile_append_of_pos (by intro c hc; exact decide_eq_true (hA c hc)), List.takeWhile_cons_of_neg (by simp; omega), List.append_nil]
theorem upto_len (l0 : List S112) (a1 : Int) : (seenK (uptoV l0 a1)).length ≤ (seenK l0).length := by
  obtain ⟨t, ht⟩ : ∃ t, uptoV l0 a1 ++ t = l0 := ⟨l0.dropWhile (fun c => decide (c.f0 ≤ a1)), List.takeWhile_append_dropWhile⟩
  conv => rhs; rw [← ht]
  simp [seenK]
theorem upto_all {l0 : List S112} {a1 : Int} (hA : ∀ c ∈ l0.take l0.length, c.f0 ≤ a1) : uptoV l0 a1 = l0 := by
  unfold uptoV
  rw [List.take_length] at hA
  have := List.takeWhile_append_of_pos (p := fun c : S112 => decide (c.f0 ≤ a1)) (l₁ := l0) (l₂ := []) (fun c hc => decide_eq_true (hA c hc))
  simpa using this

theorem fill_put {w wr w1 : World} {ks : List (List UInt8)} {nn : Nat} {D : DataW Unit} {k : List UInt8} {d : DataW Unit} {o : Obj} (h1 : wr.ownsMap Try.prog 9 (plainElem Try.prog 3) (w.heap.size + 1) nn D) (h2 : nn ≤ ks.length) (h3 : ∀ x : List UInt8, Maps.has D (.string x) = true ↔ x ∈ ks) (h4 : Below w.heap.size w wr)
    (hown1 : w1.ownsMap Try.prog 9 (plainElem Try.prog 3) (w.heap.size + 1) (nn + 1) (D.put (.string k) d)) (hg : (wr.alloc o).grownBy w1 (some (w.heap.size + 1))) : Fill w (ks ++ [k]) w1 := by
  refine ⟨nn + 1, _, hown1, by rw [List.length_append]; simp; omega, fun x => ?_, (h4.alloc h4.size o).grown hg (by have := h4.size; simp; omega) (fun j hj => by cases hj; omega)⟩
  rw [List.mem_append, List.mem_singleton]
  by_cases e : x = k
  · subst e
    rw [has_put_same h1.isMap (by first | exact trivial | exact ⟨_, rfl⟩ | simp [WideAt.IsKeyLit])]
    simp
  · rw [has_put_other (by simpa using e), h3 x]
    simp [e]
theorem ent_snoc {l : List S37} {q : Nat} (hq : q < l.length) {Y : S37} (hY : rd_T37 l (q : Int) = Y) : entK (l.take (q + 1)) = entK (l.take q) ++ [Y.f0.data.toList] := by
  have hY2 : rd_T37 l (q : Int) = l[q] := by unfold rd_T37; simp [hq]
  rw [hY2] at hY
  rw [List.take_succ_eq_append_getElem hq, hY]
  simp [entK]
theorem seen_snoc {l : List S112} {j : Nat} (hj : j < l.length) {X : S112} (hX : rd_T112 l (j : Int) = X) : seenK (l.take (j + 1)) = seenK (l.take j) ++ entK X.f1 := by
  rw [rd112_get l hj] at hX
  rw [List.take_succ_eq_append_getElem hj, hX]
  simp [seenK]
theorem all_snoc {l : List S112} {a1 : Int} {j : Nat} (h : ∀ c ∈ l.take j, c.f0 ≤ a1) (hj : j < l.length) {X : S112} (hX : rd_T112 l (j : Int) = X) (hv : ¬ a1 < X.f0) : ∀ c ∈ l.take (j + 1), c.f0 ≤ a1 := by
  rw [rd112_get l hj] at hX
  rw [List.take_succ_eq_append_getElem hj, hX]
  intro c hc
  rcases List.mem_append.1 hc with h' | h'
  · exact h c h'
  · rw [List.mem_singleton.1 h']; omega

theorem info9s : (Try.prog.info? 9).map (fun i => (i.zero, i.size, i.bytes)) = some (some (.string ⟨#[]⟩), 1, 16) := by kernel_rfl
/-- What was collected, sorted, in the print's own form. -/
theorem keys_done {l0 : List S112} {a1 : Int} {D : DataW Unit} {nn : Nat} {wr : World} {b : Nat} {ss : List (List UInt8)} (_hown : wr.ownsMap Try.prog 9 (plainElem Try.prog 3) b nn D) (hm : ∀ x : List UInt8, Maps.has D (.string x) = true ↔ x ∈ seenK (uptoV l0 a1)) {left : Lit → Bool} (hC : Collected D left ss) (hl : ∀ kl, left kl = false) :
    ss.mergeSort (fun x y => decide (x ≤ y)) = keysB l0 a1 := by
  unfold keysB
  refine mergeSort_of_perm ((List.perm_ext_iff_of_nodup hC.1 (nodup_dd _)).2 fun x => ?_)
  rw [hC.2 x, hl, mem_dd, ← hm x]
  simp
theorem keys_R {W : World} {base : Nat} {v : Value} {n : Nat} {ks : List (List UInt8)} (h : W.ownsRow base 9 1 v n (ks.map encStr)) (hn : n = ks.length) : Kd.R Kd.string 9 W base (fun _ => True) v (ks.map fun b => (⟨b.toArray⟩ : ByteArray)) := by
  subst hn
  refine ⟨fun _ _ => trivial, ks.map encStr, ?_, ?_, fun j p hj => ?_⟩
  · rw [List.length_map]; exact h
  · show _ = _ * 1
    simp
  · rw [List.getElem?_map] at hj
    obtain ⟨b, hb, rfl⟩ := Option.map_eq_some_iff.1 hj
    have hjl : j < ks.length := (List.getElem?_eq_some_iff.1 hb).1
    show ((ks.map encStr).drop (j * 1)).take 1 = [.string ⟨b.toArray⟩]
    rw [Nat.mul_one, List.drop_eq_getElem_cons (by simpa using hjl)]
    have : ks[j] = b := by have := (List.getElem?_eq_some_iff.1 hb).2; exact this
    simp [encStr, this]

set_option maxRecDepth 100000 in
set_option maxHeartbeats 4000000 in
theorem keys_calls (A : Option Addr) (c : Nat) (l0 : List S112) (a1 : Int) (w : World) (hr0 : Kd.C k112 w A l0.length l0) (hk : KeysOk l0) :
    Calls Try.prog 31 #[.agg #[.slice A l0.length c], .int .i64 a1] w fun e w' => ∃ v, e = .returned v ∧ Kd.R Kd.string 9 w' w.heap.size (fun _ => True) v (keysE l0 a1) ∧ Below w.heap.size w w' := by
  have HR0 := Aside0.mk hr0
  have HK := Aside0.mk hk
  clear hr0 hk
  have hu57 := Try.underlying57
  have hu112 := Try.underlying112
  have hu37 := Try.underlying37
  have hmm := @run_makeMap Try.prog
  go_enter Try.func31, Try.ntmps31
  go_upto_block 0 with (fail)
  go_cut [16] (fun v16 wc => Aside0 (Fill w (seenK (uptoV l0 a1)) wc))
  case first =>
    go_wp2
    go_loopw [16] (fun i wr => ∃ j : Nat, i = .int .i64 j ∧ j ≤ l0.length ∧ Aside0 (∀ c ∈ l0.take j, c.f0 ≤ a1) ∧ Aside0 (Fill w (seenK (l0.take j)) wr)) (fun i _ => l0.length - (intOf i).toNat)
    case atStart => exact ⟨0, rfl, Nat.zero_le _, ⟨by simp⟩, ⟨fill_start w _⟩⟩
    case round =>
      obtain ⟨j, rfl, hj, HA, HF⟩ := hrel
      have hlm : (l0.length : Int) ≤ 1000000000000 := by have := HK.out.2.1; omega
      by_cases hjl : j < l0.length
      · obtain ⟨ad, A1, c1, e, hx0, hx1, hlc, hC1⟩ := at_T112 HR0.out (j : Int) (by omega) (by omega)
        subst e
        simp only [Int.toNat_natCast] at hx0 hx1
        replace hx0 := (HF.out.below.cell (World.block_lt_of_cell? w _ hx0)).trans hx0
        replace hx1 := (HF.out.below.cell (World.block_lt_of_cell? w _ hx1)).trans hx1
        generalize hXe : rd_T112 l0 (j : Int) = X at hx0 hx1 hlc hC1
        have HX := Aside0.mk hXe
        have HC1 := Aside0.mk hC1
        clear hXe hC1 hlc
        have hxm : (X.f1.length : Int) ≤ 1000000000000 := by have := ent_le HK.out hjl HX.out; omega
        by_cases hv : a1 < X.f0
        · have HV := Aside0.mk hv
          go_wp2
          go_meet
          case rel => exact ⟨by rw [upto_stop HA.out hjl HX.out HV.out]; exact HF.out.alloc _⟩
        · have HV := Aside0.mk hv
          go_wp2
          go_loopw [27] (fun i wr' => ∃ q : Nat, i = .int .i64 q ∧ q ≤ X.f1.length ∧ Aside0 (Fill w (seenK (l0.take j) ++ entK (X.f1.take q)) wr')) (fun i _ => X.f1.length - (intOf i).toNat)
          case atStart => exact ⟨0, rfl, Nat.zero_le _, ⟨by rw [List.take_zero]; simpa [entK] using HF.out.alloc _⟩⟩
          case round =>
            obtain ⟨q, rfl, hq, HG⟩ := hrel
            clear hx0 hx1
            by_cases hql : q < X.f1.length
            · obtain ⟨ad2, e, hy0, hy1, hy2⟩ := at_T37 HC1.out (q : Int) (by omega) (by omega)
              subst e
              simp only [Int.toNat_natCast] at hy0 hy1 hy2
              replace hy0 := (HG.out.below.cell (World.block_lt_of_cell? w _ hy0)).trans hy0
              replace hy1 := (HG.out.below.cell (World.block_lt_of_cell? w _ hy1)).trans hy1
              replace hy2 := (HG.out.below.cell (World.block_lt_of_cell? w _ hy2)).trans hy2
              generalize hYe : rd_T37 X.f1 (q : Int) = Y at hy0 hy1 hy2
              have HY := Aside0.mk hYe
              clear hYe
              obtain ⟨nn, D, hown, hnn, hmem, hB⟩ := HG.out
              have HM := Aside0.mk hmem
              have HB := Aside0.mk hB
              have HN := Aside0.mk hnn
              have HO := Aside0.mk hown
              have hkey : keyOf Try.prog 9 (.string Y.f0) = some (.string Y.f0.data.toList) := keyOf_string_mk Try.underlying9 (key_le HK.out hjl HX.out hql HY.out)
              have hnm : nn < maxLen := by have := fill_le HK.out hjl HX.out hq; unfold maxLen; omega
              have HKY := Aside0.mk hkey
              have HNM := Aside0.mk hnm
              clear hmem hB hnn hown hkey hnm
              go_wp2_with (first
                | (at_lookup; refine wpList_lookup_own_int _ rfl _ _ 110 rfl 9 3 .i64 law9 Try.underlying110 Try.underlying3 (zero3 _) (w.heap.size + 1) nn _ rfl (HO.out.alloc _) _ _ rfl HKY.out ?_; intro cc hat hwc)
                | (at_mapUpdate; refine wpList_mapUpdate_own _ rfl _ _ _ 110 rfl 9 3 law9 Try.underlying110 _ (w.heap.size + 1) nn _ rfl (HO.out.alloc _) HNM.out _ _ _ rfl rfl HKY.out _ [] (plainElem_int Try.underlying3 (wrap64_wf _)) ?_; intro w1 hown1 hgrow1)
                | go_in)
              go_roundw
              case rel => exact ⟨q + 1, by first | rfl | simp, by omega, ⟨by rw [ent_snoc hql HY.out, ← List.append_assoc]; exact fill_put HO.out HN.out HM.out HB.out hown1 hgrow1⟩⟩
              case measure => simp [intOf]; omega
            · obtain rfl : q = X.f1.length := by omega
              go_wp2
              go_roundw
              case rel => exact ⟨j + 1, by first | rfl | simp, by omega, ⟨all_snoc HA.out hjl HX.out (by have := HV.out; omega)⟩, ⟨by rw [seen_snoc hjl HX.out]; have := HG.out; rwa [List.take_length] at this⟩⟩
              case measure => simp [intOf]; omega
      · obtain rfl : j = l0.length := by omega
        go_wp2
        go_meet
        case rel => exact ⟨by rw [upto_all HA.out]; have := HF.out; rwa [List.take_length] at this⟩
  case rest =>
    obtain ⟨i0, hi, hz0, hz1, hz2⟩ := info_parts info9s
    obtain ⟨nn, D, hown, hnn, hmem, hB⟩ := hcut.out
    have HM := Aside0.mk hmem
    have HB := Aside0.mk hB
    have HN := Aside0.mk hnn
    have HO := Aside0.mk hown
    have hsz := hown.size_le
    have HS := Aside0.mk hsz
    clear hcut hmem hB hnn hsz hown
    go_wp2_with (first
      | (at_range; refine wpList_range_own _ rfl _ 110 rfl 9 3 law9 Try.underlying110 _ (w.heap.size + 1) nn _ rfl HO.out ?_; intro w0 hrg0 hg0 hs0)
      | go_in)
    go_frame
    have HG0 := Aside0.mk hg0
    clear hg0 hs0
    have hbl := Aside0.mk HO.out.lt
    go_loopw [10] (fun v wr => ∃ (left : Lit → Bool) (cnt : Nat) (ss : List (List UInt8)), wr.ranges Try.prog 9 (plainElem Try.prog 3) (w.heap.size + 1) wc.heap.size nn D left cnt ∧ ss.length + cnt ≤ Maps.size D ∧
        wr.ownsRow (w.heap.size + 2) 9 1 v ss.length (ss.map encStr) ∧ Collected D left ss ∧ Below w.heap.size w wr ∧ w.heap.size + 2 ≤ wr.heap.size)
      (fun _ wr => wr.rangeLeft (w.heap.size + 1) wc.heap.size)
    case atStart =>
      exact ⟨_, _, [], hrg0, by simp, World.ownsRow_nil _ _ _ _, Collected.start D, HB.out.grown HG0.out HB.out.size (fun j hj => by cases hj), by have := HG0.out.size; have := hbl.out; omega⟩
    case round =>
      obtain ⟨left, cnt, ss, hrg, hcs, hrow, hC, hnx, hw2⟩ := hrel
      have HRG := Aside0.mk hrg
      have HROW := Aside0.mk hrow
      have HC := Aside0.mk hC
      have HNX := Aside0.mk hnx
      have HCS := Aside0.mk hcs
      have HW2 := Aside0.mk hw2
      have hlim : ss.length + cnt < 1000000000000 := by have := HK.out.1; have := HS.out; have := HN.out; have := upto_len l0 a1; omega
      have HLIM := Aside0.mk hlim
      clear hrg hrow hC hnx hcs hw2 hlim hrg0
      go_wp2_with (first
        | (at_next; refine wpList_next_ranges _ rfl _ rfl 9 law9 (plainElem Try.prog 3) encStr (Value.int .i64) (fun key kl hk => by obtain ⟨x, hx, _⟩ := Maps.keyOf_str Try.underlying9 hk; exact ⟨x, hx⟩) (fun v y hv => by obtain ⟨c, rfl, _⟩ := plainElem_int_inv Try.underlying3 hv; exact ⟨c, rfl⟩) (w.heap.size + 1) wc.heap.size nn _ _ _ rfl HRG.out ?_ ?_)
        | go_in)
      · intro hc0 hl0
        have HL0 := Aside0.mk hl0
        clear hl0 hc0
        rcases HROW.out.2 with ⟨rfl, hn0⟩ | ⟨g, cap, cur, rfl, hbase, hb, h1, h2, h3, h4⟩
        · have hss : ss = [] := List.length_eq_zero_iff.1 hn0
          subst hss
          go_wp2_with (go_at_call 51; refine (sort_strs_none none 0 _).mono ?_; rintro e w' ⟨rfl, rfl⟩)
          go_ret
          have e := keys_done HRG.out.owns HM.out HC.out HL0.out
          have e2 : keysE l0 a1 = [] := by
            unfold keysE
            rw [← e]
            simp
          exact ⟨_, rfl, by rw [e2]; exact Kd.R_nil _ _ _ _ _, HNX.out⟩
        · have hH : Holds encStr wr g 0 ss.toArray := holds_of_block hb (by simpa using h4)
          have hgl : g < wr.heap.size := (Array.getElem?_eq_some_iff.1 hb).1
          have HQ := Aside0.mk (sort_strs g 0 cap ss wr hH hgl (by have := HLIM.out; omega))
          have HF := Aside0.mk (And.intro hbase (And.intro hb (And.intro h1 (And.intro h2 h3))))
          clear hH hgl hbase hb h1 h2 h3 h4
          go_wp2_with (go_at_call 51; refine HQ.out.mono ?_; rintro e w' ⟨rfl, nn2, os, rfl⟩)
          go_ret
          obtain ⟨hbase, hb, h1, h2, h3⟩ := HF.out
          have e := keys_done HRG.out.owns HM.out HC.out HL0.out
          have hl : ss.length = (keysB l0 a1).length := by rw [← e, List.length_mergeSort]
          refine ⟨_, rfl, ?_, HNX.out.grown (grownBy_sorted _) HNX.out.size (fun j hj => by cases hj; omega)⟩
          have := ownsRow_sorted (w := wr) (n := nn2) (os := os) (ss := ss) (ts := ss.mergeSort fun x y => decide (x ≤ y)) (List.length_mergeSort _) hbase hb h1 h2 h3
          have h5 : World.ownsRow _ w.heap.size 9 1 _ _ _ := own_weaken this (by omega)
          rw [e] at h5 ⊢
          exact keys_R h5 hl
      · intro x c kl yd yp w2 cnt2 hkey hlk hv hat hrg2 hlt hg2 hs2 hen
        obtain ⟨x', ex, rfl, _⟩ := Maps.keyOf_str Try.underlying9 hkey
        obtain rfl : x = x' := encStr_inj ex
        have hrow2 := HROW.out.kept hg2 (Or.inr (row_ne_iter HROW.out HRG.out).symm)
        have HROW2 := Aside0.mk hrow2
        have HRG2 := Aside0.mk hrg2
        have HG2 := Aside0.mk hg2
        have HLK := Aside0.mk hlk
        have HAT := Aside0.mk hat
        have HLT := Aside0.mk hlt
        clear hs2 hrow2 hrg2 hg2 hlk hat hlt hkey hv
        go_wp2_with (first
          | (at_builtin; refine wpList_append_own _ rfl _ _ 66 rfl (w.heap.size + 2) 9 i0 (.string ⟨#[]⟩) 1 16 Try.underlying66 hi hz0 hz1 hz2 rfl (by decide) _ _ _ rfl (HROW2.out.alloc _) ⟨w2.heap.size, 0, none⟩ 1 1 [encStr x] rfl rfl (cell_one_new _ _ _) (by simp [Value.oneCell', encStr]) (by have := HLIM.out; unfold maxLen; omega) (by have := HLIM.out; omega) (by have := HG2.out.size; have := HW2.out; simp; omega) ?_; intro v' w3 hown' hg3 hnil3; go_frame)
          | go_in)
        have hrg3 := (HRG2.out.alloc _).kept hg3 (row_ne_low HROW2.out (by omega)) (row_ne_iter HROW2.out HRG2.out)
        go_roundw
        case rel =>
          have hsz2 := HG2.out.size
          have hwz := HW2.out
          refine ⟨_, cnt2, ss ++ [x], hrg3, by have := HCS.out; have := HLT.out; simp; omega, by simpa using hown', HC.out.step HLK.out HAT.out, ?_, by have := hg3.size; simp at this; omega⟩
          exact ((HNX.out.grown HG2.out HNX.out.size (fun j hj => by cases hj; have := hbl.out; omega)).alloc (by have := HNX.out.size; omega) _).grown hg3 (by have := HNX.out.size; simp; omega) (fun j hj => by have := (HROW2.out.lt j hj).1; omega)
        case measure => rw [hrg3.left_eq, HRG.out.left_eq]; exact HLT.out

instance (l : List S112) : Decidable (KeysOk l) := by unfold KeysOk; exact inferInstance
def model_Keys.f (l0 : List S112) (a1 : Int) : Option (List ByteArray) := if KeysOk l0 then some (keysE l0 a1) else none

theorem model_Keys.calls (A : Option Addr) (c : Nat) (l0 : List S112) (a1 : Int) (r : List ByteArray) (w : World) (hr0 : Kd.C k112 w A l0.length l0) (_hc0 : l0.length ≤ c) (h : model_Keys.f l0 a1 = some r) :
    Calls Try.prog 31 #[.agg #[.slice A l0.length c], .int .i64 a1] w fun e w' => ∃ v0_ : Value, e = .returned (v0_) ∧ Kd.R Kd.string 9 w' w.heap.size (fun _ => True) v0_ r ∧ Below w.heap.size w w' := by
  unfold model_Keys.f at h
  by_cases hk : KeysOk l0
  · rw [if_pos hk] at h
    obtain rfl := Option.some.inj h
    exact keys_calls A c l0 a1 w hr0 hk
  · rw [if_neg hk] at h; cases h
end Go.Proofs.Ytgnnhomipfjanaa.PM
