/- ModelScans, over lists alone: the keys and the pairs are the document's. -/
import Derived.Test.YtgnnhomipfjanaaMScansW
import Derived.Test.YtgnnhomipfjanaaMScan
namespace Go.Proofs.Ytgnnhomipfjanaa.PM
open Go Go.Proofs Go.RowKit Go.Proofs.YtgnnhomipfjanaaW.PrintWords Go.Proofs.YtgnnhomipfjanaaW.PrintLast Go.Proofs.YtgnnhomipfjanaaW.PrintMore

/-- A key put where it belongs, once. -/
def insK (x : ByteArray) : List ByteArray → List ByteArray
  | [] => [x]
  | y :: t => if Srt.ltB y x = true then y :: insK x t else if y.toList = x.toList then y :: t else x :: y :: t
def refK (ws : List S109) : List ByteArray := ws.foldl (fun o c => insK c.f1 o) []
theorem sc_rd (l : List ByteArray) (i : Nat) (h : i < l.length) : rdOf ByteArray.empty l (i : Int) = l[i] := by unfold rdOf; simp [h]
theorem sc_rd109 (l : List S109) (i : Nat) (h : i < l.length) : rd_T109 l (i : Int) = l[i] := by unfold rd_T109; simp [h]
theorem sc_wr (n : Nat) (h : n < 1000000000000) : wrap64 ((n : Int) + 1) = ((n + 1 : Nat) : Int) := by unfold wrap64; omega
theorem insK_pre (x : ByteArray) : ∀ (pre rest : List ByteArray), (∀ y ∈ pre, Srt.ltB y x = true) → insK x (pre ++ rest) = pre ++ insK x rest
  | [], rest, _ => rfl
  | y :: t, rest, h => by
    rw [List.cons_append, insK, if_pos (h y (by simp)), insK_pre x t rest (fun z hz => h z (by simp [hz]))]
    rfl
theorem insK_len (x : ByteArray) : ∀ l : List ByteArray, (insK x l).length ≤ l.length + 1
  | [] => by simp [insK]
  | y :: t => by
    rw [insK]
    split
    · have := insK_len x t; simp only [List.length_cons]; omega
    · split <;> simp
theorem mem_insK (x z : ByteArray) : ∀ l : List ByteArray, z ∈ insK x l ↔ z = x ∨ z ∈ l
  | [] => by simp [insK]
  | y :: t => by
    rw [insK]
    split
    · rw [List.mem_cons, mem_insK x z t, List.mem_cons]
      constructor
      · rintro (h | h | h)
        · exact .inr (.inl h)
        · exact .inl h
        · exact .inr (.inr h)
      · rintro (h | h | h)
        · exact .inr (.inl h)
        · exact .inl h
        · exact .inr (.inr h)
    · split
      · rename_i e
        have := toList_inj e
        rw [this]
        simp
      · simp
/-- One key after the other, as the code looks for its place. -/
theorem keys_in (ws : List S109) (hw : ws.length < 1000000) (out : List ByteArray) (ho : out.length < 1000000) (i : Nat) (hi : i < ws.length) (r : List ByteArray)
    (next : Ev (fun k => rundleref19_Keys.l0 k ws (insK ws[i].f1 out) ((i + 1 : Nat) : Int)) r) :
    ∀ (d p : Nat), out.length - p = d → p ≤ out.length → (∀ y ∈ out.take p, Srt.ltB y ws[i].f1 = true) → Ev (fun k => rundleref19_Keys.l1 k ws out (i : Int) (p : Int)) r
  | 0, p, hd, hp, hpre => by
    have hpl : p = out.length := by omega
    have e : insK ws[i].f1 out = out ++ [ws[i].f1] := by
      have := insK_pre ws[i].f1 out [] (by rw [hpl, List.take_length] at hpre; exact hpre)
      rw [List.append_nil] at this
      rw [this]; rfl
    refine Ev.step (fun k => ?_) next
    simp only [rundleref19_Keys.l1]
    rw [if_neg (by omega)]
    have ep : ((p : Nat) : Int).toNat = out.length := by omega
    simp only [Option.bind_some, ep, List.take_length, List.drop_length, List.nil_append, List.append_nil, List.length_nil]
    rw [if_pos (by omega), if_pos (by omega), if_pos (by omega), if_pos (by omega), if_pos (by omega), if_pos (by omega), if_pos (by simp only [List.length_append, List.length_singleton]; omega), sc_rd109 ws i hi, sc_wr i (by omega), e]
  | d + 1, p, hd, hp, hpre => by
    have hpo : p < out.length := by omega
    have ed : out.drop p = out[p] :: out.drop (p + 1) := List.drop_eq_getElem_cons hpo
    have esp : insK ws[i].f1 out = out.take p ++ insK ws[i].f1 (out.drop p) := by
      have := insK_pre ws[i].f1 (out.take p) (out.drop p) hpre
      rw [List.take_append_drop] at this
      exact this
    cases hb : Srt.ltB out[p] ws[i].f1 with
    | true =>
      refine Ev.step (fun k => ?_) (keys_in ws hw out ho i hi r next d (p + 1) (by omega) (by omega) (fun y hy => ?_))
      · simp only [rundleref19_Keys.l1]
        rw [if_pos (by omega), if_pos (by omega), if_pos (by omega), if_pos (by omega), sc_rd out p hpo, sc_rd109 ws i hi, if_pos (show Op.bytesLess out[p].toList ws[i].f1.toList = true from hb), sc_wr p (by omega)]
      · rw [List.take_succ_eq_append_getElem hpo, List.mem_append, List.mem_singleton] at hy
        rcases hy with hy | rfl
        · exact hpre y hy
        · exact hb
    | false =>
      have hb' : ¬ Op.bytesLess out[p].toList ws[i].f1.toList = true := by
        intro h
        have : Srt.ltB out[p] ws[i].f1 = true := h
        rw [hb] at this; cases this
      by_cases heq : out[p].toList = ws[i].f1.toList
      · have e : insK ws[i].f1 out = out := by
          rw [esp, ed, insK, hb, if_neg (by simp), if_pos heq, ← ed, List.take_append_drop]
        rw [e] at next
        refine Ev.step (fun k => ?_) next
        simp only [rundleref19_Keys.l1]
        rw [if_pos (by omega), if_pos (by omega), if_pos (by omega), if_pos (by omega), sc_rd out p hpo, sc_rd109 ws i hi, if_neg hb', if_pos heq, sc_wr i (by omega)]
      · have e : insK ws[i].f1 out = out.take p ++ [ws[i].f1] ++ out.drop p := by
          rw [esp, ed, insK, hb, if_neg (by simp), if_neg heq, List.append_assoc]; rfl
        refine Ev.step (fun k => ?_) next
        simp only [rundleref19_Keys.l1]
        rw [if_pos (by omega), if_pos (by omega), if_pos (by omega), if_pos (by omega), sc_rd out p hpo, sc_rd109 ws i hi, if_neg hb', if_neg heq]
        have ep : ((p : Nat) : Int).toNat = p := by omega
        have hlt : (out.take p).length = p := by rw [List.length_take]; omega
        simp only [Option.bind_some, ep, List.nil_append, List.length_nil]
        rw [if_pos (by omega), if_pos (by omega), if_pos (by omega)]
        rw [if_pos (by simp only [List.length_append, List.length_singleton, List.length_drop]; omega), sc_wr i (by omega), e]
theorem keys_loop (ws : List S109) (hw : ws.length < 1000000) : ∀ (d i : Nat) (out : List ByteArray), ws.length - i = d → i ≤ ws.length → out.length ≤ i → Ev (fun k => rundleref19_Keys.l0 k ws out (i : Int)) ((ws.drop i).foldl (fun o c => insK c.f1 o) out)
  | 0, i, out, hd, hi, _ => by
    rw [List.drop_eq_nil_of_le (by omega)]
    exact Ev.step (f := fun _ => some out) (fun k => by simp only [rundleref19_Keys.l0]; rw [if_neg (by omega)]) (Ev.now _)
  | d + 1, i, out, hd, hi, ho => by
    have hil : i < ws.length := by omega
    rw [List.drop_eq_getElem_cons hil, List.foldl_cons]
    refine Ev.step (fun k => ?_) (keys_in ws hw out (by omega) i hil _ (keys_loop ws hw d (i + 1) (insK ws[i].f1 out) (by omega) (by omega) (by have := insK_len ws[i].f1 out; omega)) _ 0 rfl (Nat.zero_le _) (fun y hy => by simp at hy))
    simp only [rundleref19_Keys.l0]
    rw [if_pos (by omega)]
    rfl
theorem refK_says (ws : List S109) (hw : ws.length < 1000000) : Ev (fun k => rundleref19_Keys.f k ws) (refK ws) := keys_loop ws hw _ 0 [] rfl (Nat.zero_le _) (Nat.le_refl _)
theorem keys24_loop (ws : List S109) (hw : ws.length < 1000000) (v : Int) : ∀ (d i : Nat) (own : List S109), ws.length - i = d → i ≤ ws.length → own.length ≤ i → Ev (fun k => rundleref24_Keys.l0 k ws v own (i : Int)) (refK (own ++ (ws.drop i).filter (fun c => decide (c.f0 ≤ v))))
  | 0, i, own, hd, hi, ho => by
    rw [List.drop_eq_nil_of_le (by omega), List.filter_nil, List.append_nil]
    refine Ev.step (f := fun k => rundleref19_Keys.f k own) (fun k => ?_) (refK_says own (by omega))
    simp only [rundleref24_Keys.l0]
    rw [if_neg (by omega)]
    cases rundleref19_Keys.f k own <;> rfl
  | d + 1, i, own, hd, hi, ho => by
    have hil : i < ws.length := by omega
    rw [List.drop_eq_getElem_cons hil]
    by_cases hv : ws[i].f0 ≤ v
    · rw [List.filter_cons_of_pos (by simpa using hv)]
      have h := keys24_loop ws hw v d (i + 1) (own ++ [ws[i]]) (by omega) (by omega) (by simp; omega)
      rw [List.append_assoc] at h
      refine Ev.step (fun k => ?_) h
      simp only [rundleref24_Keys.l0]
      rw [if_pos (by omega), if_pos (by omega), sc_rd109 ws i hil, if_pos hv, if_pos (by omega), sc_wr i (by omega)]
    · rw [List.filter_cons_of_neg (by simpa using hv)]
      refine Ev.step (fun k => ?_) (keys24_loop ws hw v d (i + 1) own (by omega) (by omega) (by omega))
      simp only [rundleref24_Keys.l0]
      rw [if_pos (by omega), if_pos (by omega), sc_rd109 ws i hil, if_neg hv, sc_wr i (by omega)]
theorem keys24_says (ws : List S109) (hw : ws.length < 1000000) (v : Int) : Ev (fun k => rundleref24_Keys.f k ws v) (refK (ws.filter (fun c => decide (c.f0 ≤ v)))) := keys24_loop ws hw v _ 0 [] rfl (Nat.zero_le _) (Nat.le_refl _)

/-! ### The same keys, in the same order. -/
abbrev Rise (l : List ByteArray) : Prop := l.Pairwise fun a b => Srt.ltB a b = true
theorem lt_trans {a b c : ByteArray} (h1 : Srt.ltB a b = true) (h2 : Srt.ltB b c = true) : Srt.ltB a c = true := Srt.bl_trans _ _ _ h1 h2
theorem lt_irr (a : ByteArray) : Srt.ltB a a = false := Srt.bl_irrefl _
theorem lt_tot {a b : ByteArray} (h1 : Srt.ltB a b = false) (h2 : a ≠ b) : Srt.ltB b a = true := by
  cases h : Srt.ltB b a with
  | true => rfl
  | false => exact absurd (toList_inj (Srt.bl_total _ _ h1 h)) h2
theorem rise_eq : ∀ (l m : List ByteArray), Rise l → Rise m → (∀ x, x ∈ l ↔ x ∈ m) → l = m
  | [], [], _, _, _ => rfl
  | [], b :: m, _, _, h => by have := (h b).2 (by simp); cases this
  | a :: l, [], _, _, h => by have := (h a).1 (by simp); cases this
  | a :: l, b :: m, hl, hm, h => by
    have hl' := List.pairwise_cons.1 hl
    have hm' := List.pairwise_cons.1 hm
    have e : a = b := by
      rcases List.mem_cons.1 ((h a).1 (by simp)) with e | ha
      · exact e
      · rcases List.mem_cons.1 ((h b).2 (by simp)) with e | hb
        · exact e.symm
        · have h1 := hm'.1 a ha
          have h2 := hl'.1 b hb
          have := lt_trans h1 h2
          rw [lt_irr] at this
          cases this
    subst e
    rw [rise_eq l m hl'.2 hm'.2 (fun x => ?_)]
    constructor
    · intro hx
      rcases List.mem_cons.1 ((h x).1 (by simp [hx])) with e | hx'
      · have := hl'.1 x hx
        rw [e, lt_irr] at this
        cases this
      · exact hx'
    · intro hx
      rcases List.mem_cons.1 ((h x).2 (by simp [hx])) with e | hx'
      · have := hm'.1 x hx
        rw [e, lt_irr] at this
        cases this
      · exact hx'
theorem insK_rise (x : ByteArray) : ∀ l, Rise l → Rise (insK x l)
  | [], _ => by simp [insK, Rise]
  | y :: t, h => by
    have h' := List.pairwise_cons.1 h
    rw [insK]
    cases hb : Srt.ltB y x with
    | true =>
      rw [if_pos rfl]
      refine List.pairwise_cons.2 ⟨fun z hz => ?_, insK_rise x t h'.2⟩
      rcases (mem_insK x z t).1 hz with e | hz
      · rw [e]; exact hb
      · exact h'.1 z hz
    | false =>
      rw [if_neg (by simp)]
      split
      · exact h
      · rename_i e
        have hxy : Srt.ltB x y = true := lt_tot hb (fun h => e (by rw [h]))
        refine List.pairwise_cons.2 ⟨fun z hz => ?_, h⟩
        rcases List.mem_cons.1 hz with e | hz
        · rw [e]; exact hxy
        · exact lt_trans hxy (h'.1 z hz)
theorem refK_fold : ∀ (ws : List S109) (o : List ByteArray), Rise o → Rise (ws.foldl (fun o c => insK c.f1 o) o) ∧ ∀ z, z ∈ ws.foldl (fun o c => insK c.f1 o) o ↔ z ∈ o ∨ ∃ c ∈ ws, c.f1 = z
  | [], o, h => ⟨h, fun z => by simp⟩
  | c :: t, o, h => by
    obtain ⟨h1, h2⟩ := refK_fold t (insK c.f1 o) (insK_rise _ _ h)
    refine ⟨h1, fun z => ?_⟩
    rw [List.foldl_cons, h2 z, mem_insK]
    constructor
    · rintro ((h | h) | ⟨d, hd, h⟩)
      · exact .inr ⟨c, by simp, h.symm⟩
      · exact .inl h
      · exact .inr ⟨d, by simp [hd], h⟩
    · rintro (h | ⟨d, hd, h⟩)
      · exact .inl (.inr h)
      · rcases List.mem_cons.1 hd with rfl | hd
        · exact .inl (.inl h.symm)
        · exact .inr ⟨d, hd, h⟩
theorem refK_rise (ws : List S109) : Rise (refK ws) := (refK_fold ws [] List.Pairwise.nil).1
theorem mem_refK (ws : List S109) (z : ByteArray) : z ∈ refK ws ↔ ∃ c ∈ ws, c.f1 = z := by
  have := (refK_fold ws [] List.Pairwise.nil).2 z
  unfold refK
  rw [this]
  simp
theorem refK_len (ws : List S109) : (refK ws).length ≤ ws.length := by
  have : ∀ (ws : List S109) (o : List ByteArray), (ws.foldl (fun o c => insK c.f1 o) o).length ≤ o.length + ws.length := by
    intro ws
    induction ws with
    | nil => intro o; simp
    | cons c t ih =>
      intro o
      have h1 := ih (insK c.f1 o)
      have h2 := insK_len c.f1 o
      rw [List.foldl_cons, List.length_cons]
      omega
  have h := this ws []
  simpa [refK] using h
theorem ks_rise (ms : List S112) (v : Int) : Rise (keysE ms v) := by
  have tr : ∀ a b c : List UInt8, leB a b = true → leB b c = true → leB a c = true := fun a b c h1 h2 => by simp only [leB, decide_eq_true_eq] at *; exact List.le_trans h1 h2
  have tt : ∀ a b : List UInt8, (leB a b || leB b a) = true := fun a b => by simp only [leB, Bool.or_eq_true, decide_eq_true_eq]; exact List.le_total a b
  have h1 := List.pairwise_mergeSort tr tt (dd (seenK (uptoV ms v)))
  have h2 : (keysB ms v).Nodup := (List.mergeSort_perm _ _).nodup_iff.2 (nodup_dd _)
  unfold Rise keysE
  rw [List.pairwise_map]
  refine (h1.and h2).imp fun {a b} h => ?_
  have e : Srt.ltB (⟨b.toArray⟩ : ByteArray) ⟨a.toArray⟩ = false := by
    have hle : a ≤ b := by simpa [leB] using h.1
    cases hx : Srt.ltB (⟨b.toArray⟩ : ByteArray) ⟨a.toArray⟩ with
    | false => rfl
    | true =>
      unfold Srt.ltB at hx
      rw [Go.Proofs.bytesLess_eq, Go.Lib.toList_data, Go.Lib.toList_data, decide_eq_true_iff] at hx
      exact absurd hle (by simpa using hx)
  refine lt_tot e (fun hne => h.2 ?_)
  have := congrArg (fun x : ByteArray => x.data.toList) hne
  simpa using this.symm
theorem mem_ks (ms : List S112) (v : Int) (z : ByteArray) : z ∈ keysE ms v ↔ ∃ c ∈ uptoV ms v, ∃ x ∈ c.f1, x.f0 = z := by
  unfold keysE
  rw [List.mem_map]
  constructor
  · rintro ⟨b, hb, rfl⟩
    have h1 : b ∈ seenK (uptoV ms v) := (mem_dd b _).1 (List.mem_mergeSort.1 hb)
    obtain ⟨c, hc, hx⟩ := List.mem_flatMap.1 h1
    obtain ⟨x, hx2, hxe⟩ := List.mem_map.1 (show b ∈ c.f1.map (fun x => x.f0.data.toList) from hx)
    exact ⟨c, hc, x, hx2, by rw [← hxe]⟩
  · rintro ⟨c, hc, x, hx, rfl⟩
    exact ⟨x.f0.data.toList, List.mem_mergeSort.2 ((mem_dd _ _).2 (List.mem_flatMap.2 ⟨c, hc, List.mem_map.2 ⟨x, hx, rfl⟩⟩)), rfl⟩

theorem layC_rise : ∀ (l : List S78) (last : Int), (∀ c ∈ layC last l, last < c.f0) ∧ (layC last l).Pairwise (fun a b => a.f0 < b.f0)
  | [], last => ⟨fun c hc => by simp [layC] at hc, by simp [layC]⟩
  | u :: t, last => by
    rw [layC]
    split
    · rename_i h
      obtain ⟨h1, h2⟩ := layC_rise t u.f0
      refine ⟨fun c hc => ?_, List.pairwise_cons.2 ⟨h1, h2⟩⟩
      rcases List.mem_cons.1 hc with rfl | hc
      · exact h.1
      · have := h1 c hc; omega
    · exact layC_rise t last
theorem upto_filter (v : Int) : ∀ ms : List S112, ms.Pairwise (fun a b => a.f0 < b.f0) → uptoV ms v = ms.filter (fun c => decide (c.f0 ≤ v))
  | [], _ => rfl
  | c :: t, h => by
    have h' := List.pairwise_cons.1 h
    unfold uptoV
    by_cases hc : c.f0 ≤ v
    · rw [List.takeWhile_cons_of_pos (by simpa using hc), List.filter_cons_of_pos (by simpa using hc)]
      have := upto_filter v t h'.2
      unfold uptoV at this
      rw [this]
    · rw [List.takeWhile_cons_of_neg (by simpa using hc), List.filter_cons_of_neg (by simpa using hc)]
      refine (List.filter_eq_nil_iff.2 (fun d hd => ?_)).symm
      have := h'.1 d hd
      simp
      omega
/-- The keys up to a version are the document's. -/
theorem keys_same (l : List S78) (v : Int) : keysE (msOf (layC 0 l)) v = refK ((wsOf (layC 0 l)).filter (fun c => decide (c.f0 ≤ v))) := by
  have hr : (msOf (layC 0 l)).Pairwise (fun a b => a.f0 < b.f0) := by
    unfold msOf
    rw [List.pairwise_map]
    exact (layC_rise l 0).2
  refine rise_eq _ _ (ks_rise _ _) (refK_rise _) (fun z => ?_)
  rw [mem_ks, upto_filter v _ hr, mem_refK]
  unfold msOf wsOf entW
  constructor
  · rintro ⟨c, hc, x, hx, rfl⟩
    obtain ⟨hc1, hc2⟩ := List.mem_filter.1 hc
    obtain ⟨u, hu, rfl⟩ := List.mem_map.1 hc1
    have hx' : x ∈ u.f1 := ((sortE_same u.f1).mem swoE x).2 hx
    exact ⟨⟨u.f0, x.f0, x.f1, x.f2⟩, List.mem_filter.2 ⟨List.mem_flatMap.2 ⟨u, hu, List.mem_map.2 ⟨x, hx', rfl⟩⟩, hc2⟩, rfl⟩
  · rintro ⟨c, hc, rfl⟩
    obtain ⟨hc1, hc2⟩ := List.mem_filter.1 hc
    obtain ⟨u, hu, hcu⟩ := List.mem_flatMap.1 hc1
    obtain ⟨x, hx, rfl⟩ := List.mem_map.1 hcu
    exact ⟨⟨u.f0, sortE u.f1⟩, List.mem_filter.2 ⟨List.mem_map.2 ⟨u, hu, rfl⟩, hc2⟩, x, ((sortE_same u.f1).mem swoE x).1 hx, rfl⟩

/-! ### The same pairs. -/
theorem refL_full (g : ByteArray → ByteArray × Int) (lo hi : ByteArray) (all : Bool) (lim : Int) : ∀ (ks : List ByteArray) (acc : List S74), lim ≤ (acc.length : Int) → refL g lo hi all lim ks acc = acc
  | [], acc, _ => rfl
  | k :: t, acc, h => by
    rw [refL, if_pos (by unfold skipE; rw [decide_eq_true h]; simp), refL_full g lo hi all lim t acc h]
theorem refL_filter (g : ByteArray → ByteArray × Int) (lo hi : ByteArray) (all : Bool) (lim : Int) (P : ByteArray → Bool) (hP : ∀ k, P k = false → (g k).2 ≠ 1) : ∀ (ks : List ByteArray) (acc : List S74), refL g lo hi all lim ks acc = refL g lo hi all lim (ks.filter P) acc
  | [], acc => rfl
  | k :: t, acc => by
    cases hk : P k with
    | true =>
      rw [List.filter_cons_of_pos (by rw [hk]), refL, refL]
      rw [refL_filter g lo hi all lim P hP t acc, refL_filter g lo hi all lim P hP t (acc ++ [(⟨k, (g k).1⟩ : S74)])]
    | false =>
      rw [List.filter_cons_of_neg (by rw [hk]; simp), refL, if_neg (hP k hk), refL_filter g lo hi all lim P hP t acc]
      split <;> rfl
theorem scan_refL (ms : List S112) (v : Int) (lo hi : ByteArray) (all : Bool) (lim : Int) (g : ByteArray → ByteArray × Int) (hg : ∀ k, (getE ms v k).1 = (g k).1 ∧ (getE ms v k).2 = ((g k).2 == 1)) :
    ∀ (ks : List ByteArray) (acc : List S74), scanL ms v lo hi all lim ks acc = refL g lo hi all lim ks acc
  | [], acc => rfl
  | k :: t, acc => by
    by_cases hl : lim ≤ (acc.length : Int)
    · rw [refL_full g lo hi all lim (k :: t) acc hl, scanL, if_pos hl]
    · have hs : skipE lo hi all lim acc.length k = !hasE lo hi all k := by
        unfold skipE hasE
        rw [decide_eq_false hl]
        cases Srt.ltB k lo <;> cases all <;> cases Srt.ltB k hi <;> rfl
      rw [scanL, if_neg hl, refL, hs, (hg k).2, (hg k).1, scan_refL ms v lo hi all lim g hg t acc, scan_refL ms v lo hi all lim g hg t (acc ++ [(⟨k, (g k).1⟩ : S74)])]
      by_cases h1 : (g k).2 = 1
      · rw [if_pos h1, h1]
        cases hasE lo hi all k <;> simp
      · rw [if_neg h1]
        have : ((g k).2 == 1) = false := beq_eq_false_iff_ne.2 h1
        rw [this]
        cases hasE lo hi all k <;> simp
theorem get_none {ms : List S112} {v : Int} {k : ByteArray} (h : (getE ms v k).2 = true) : ∃ c ∈ ms, c.f0 ≤ v ∧ ∃ x ∈ c.f1, x.f0 = k := by
  unfold getE entryE at h
  cases he : ms.reverse.findSome? (hitE v k) with
  | none => rw [he] at h; cases h
  | some e =>
    obtain ⟨c, hc, hx⟩ := List.exists_of_findSome?_eq_some he
    unfold hitE at hx
    split at hx
    · cases hx
    · rename_i hv
      refine ⟨c, List.mem_reverse.1 hc, by omega, e, List.mem_of_find?_eq_some hx, ?_⟩
      have := List.find?_some hx
      exact toList_inj (by simpa using this)
theorem pairs_same (l : List S78) (v : Int) (lo hi : ByteArray) (all : Bool) (lim : Int) : refL (fun k => refGetE (wsOf (layC 0 l)) v k) lo hi all lim (refK (wsOf (layC 0 l))) [] = scanE (msOf (layC 0 l)) v lo hi all lim := by
  classical
  have hgr := get_ref (layC 0 l) (fun c hc => (layC_good l 0 c hc).1.2.2.2) v
  have hr : (msOf (layC 0 l)).Pairwise (fun a b => a.f0 < b.f0) := by
    unfold msOf
    rw [List.pairwise_map]
    exact (layC_rise l 0).2
  unfold scanE
  rw [scan_refL _ v lo hi all lim _ (fun k => hgr k)]
  have hmem : ∀ z, z ∈ keysE (msOf (layC 0 l)) v ↔ ∃ c ∈ msOf (layC 0 l), c.f0 ≤ v ∧ ∃ x ∈ c.f1, x.f0 = z := fun z => by
    rw [mem_ks, upto_filter v _ hr]
    constructor
    · rintro ⟨c, hc, h⟩
      obtain ⟨h1, h2⟩ := List.mem_filter.1 hc
      exact ⟨c, h1, by simpa using h2, h⟩
    · rintro ⟨c, hc, h1, h⟩
      exact ⟨c, List.mem_filter.2 ⟨hc, by simpa using h1⟩, h⟩
  rw [refL_filter _ lo hi all lim (fun k => decide (k ∈ keysE (msOf (layC 0 l)) v)) (fun k hk h1 => ?_)]
  · congr 1
    refine rise_eq _ _ ((refK_rise _).filter _) (ks_rise _ _) (fun z => ?_)
    rw [List.mem_filter, decide_eq_true_iff]
    refine ⟨fun h => h.2, fun h => ⟨?_, h⟩⟩
    rw [keys_same, mem_refK] at h
    obtain ⟨c, hc, e⟩ := h
    exact (mem_refK _ _).2 ⟨c, (List.mem_filter.1 hc).1, e⟩
  · have h2 : (getE (msOf (layC 0 l)) v k).2 = true := by rw [(hgr k).2, h1]; rfl
    have := (hmem k).2 (get_none h2)
    rw [decide_eq_false_iff_not] at hk
    exact hk this

set_option maxHeartbeats 4000000 in
set_option maxRecDepth 100000 in
/-- More than is looked at: the example again. -/
theorem scans_long (K : Nat) (A0 : Option Addr) (c0 : Nat) (l0 : List S78) (a1 : Int) (lo hi : ByteArray) (all : Bool) (lim : Int) (w : World)
    (hr0 : Kd.C k78 w A0 l0.length l0) (hc0 : l0.length ≤ c0) (hlg : rundlelaw24_long.f K l0 = some true) :
    Calls Try.prog 8 #[.slice A0 l0.length c0, .int .i64 a1, .agg #[.string lo, .string hi, .bool all], .int .i64 lim] w fun e w' => e = .returned (.bool true) ∧ Below w.heap.size w w' := by
  have HR0 := Aside0.mk hr0
  have HC0 := Aside0.mk hc0
  have LG := Aside0.mk hlg
  clear hr0 hc0 hlg
  have hu44 := Try.underlying44
  have HB0 := Aside0.mk (below_alloc (Below.refl w.heap.size w) (.cells #[.string lo, .string hi, .bool all] 44))
  go_enter Try.func8, Try.ntmps8
  go_upto_region 2 with (first
    | (go_at_call 26; with_reducible refine (rundlelaw24_awake.calls true _ awake_says).mono ?_; rintro e w1 ⟨rfl, hb⟩; have HB1 := Aside0.mk hb; clear hb)
    | (go_at_call 27; with_reducible refine (rundlelaw24_long.calls K A0 c0 l0 true _ ?s1 HC0.out LG.out).mono ?_; (case s1 => exact Kd.C_below HR0.out (HB0.out.trans (HB1.out.mono (by simp [World.size_alloc])))); rintro e w2 ⟨rfl, hb⟩; have HB2 := Aside0.mk hb; clear hb))
  have HB2w := Aside0.mk (HB0.out.trans ((HB1.out.mono (by simp [World.size_alloc])).trans (HB2.out.mono (by have := HB1.out.size; simp only [World.size_alloc] at this; omega))))
  clear HB0 HB1 HB2
  go_wp2_with (go_at_call 26; with_reducible refine (rundlelaw24_awake.calls true _ awake_says).mono ?_; rintro e w3 ⟨rfl, hb⟩; have HB3 := Aside0.mk hb; clear hb)
  go_ret
  exact ⟨rfl, HB2w.out.trans (HB3.out.mono HB2w.out.size)⟩

theorem ModelScans_calls (A0 : Option Addr) (c0 : Nat) (l0 : List S78) (a1 : Int) (lo hi : ByteArray) (all : Bool) (lim : Int) (w : World) (hr0 : Kd.C k78 w A0 l0.length l0) (hc0 : l0.length ≤ c0) :
    Calls Try.prog 8 #[.slice A0 l0.length c0, .int .i64 a1, .agg #[.string lo, .string hi, .bool all], .int .i64 lim] w fun e w' => e = .returned (.bool true) ∧ Below w.heap.size w w' := by
  obtain ⟨b, ⟨K0, h0⟩, hs⟩ := long_says l0
  cases hb : b with
  | true => exact scans_long K0 A0 c0 l0 a1 lo hi all lim w hr0 hc0 ((h0 K0 (Nat.le_refl _)).trans (by rw [hb]))
  | false =>
    have hS := hs hb
    have hcl := layC_len hS
    have hok := ok_ms (layC 0 l0) (layC_small hS) (by omega)
    have hws := (small_ws hS).1
    obtain ⟨K1, h1⟩ := lay_says l0 hS
    obtain ⟨K2, h2⟩ := scan_says (msOf (layC 0 l0)) hok a1 lo hi all lim
    obtain ⟨K3, h3⟩ := keys24_says (wsOf (layC 0 l0)) (by omega) a1
    obtain ⟨K4, h4⟩ := refK_says (wsOf (layC 0 l0)) (by omega)
    have hlen := scan_len (msOf (layC 0 l0)) hok a1 lo hi all lim
    have hkl : (keysE (msOf (layC 0 l0)) a1).length < 1000000000000 := Nat.lt_of_le_of_lt (keysE_length _ a1) hok.1
    have hrk := refK_len (wsOf (layC 0 l0))
    have hget : ∃ K5, ∀ k ∈ refK (wsOf (layC 0 l0)), ∀ n, K5 ≤ n → rundleref19_Get.f n (wsOf (layC 0 l0)) a1 k = some (refGetE (wsOf (layC 0 l0)) a1 k) := by
      generalize refK (wsOf (layC 0 l0)) = L
      induction L with
      | nil => exact ⟨0, fun k hk => by cases hk⟩
      | cons k t ih =>
        obtain ⟨K5, h5⟩ := ih
        obtain ⟨K6, h6⟩ := refGet_says (wsOf (layC 0 l0)) a1 k (by omega)
        refine ⟨K5 + K6, fun z hz n hn => ?_⟩
        rcases List.mem_cons.1 hz with rfl | hz
        · exact h6 n (by omega)
        · exact h5 z hz n (by omega)
    obtain ⟨K5, h5⟩ := hget
    rw [keys_same l0 a1] at hkl
    refine scans_walk (K0 + K1 + K2 + K3 + K4 + K5) A0 c0 l0 a1 lo hi all lim w hr0 hc0 awake_says ((h0 _ (by omega)).trans (by rw [hb])) (msOf (layC 0 l0)) (wsOf (layC 0 l0)) (h1 _ (by omega)) _ _ _ ?_ (h3 _ (by omega)) (h2 _ (by omega)) (h4 _ (by omega)) (by omega) _ (fun k hk => h5 k hk _ (by omega)) (pairs_same l0 a1 lo hi all lim) hkl hlen
    unfold model_Keys.f
    rw [if_pos hok, keys_same l0 a1]
end Go.Proofs.Ytgnnhomipfjanaa.PM
