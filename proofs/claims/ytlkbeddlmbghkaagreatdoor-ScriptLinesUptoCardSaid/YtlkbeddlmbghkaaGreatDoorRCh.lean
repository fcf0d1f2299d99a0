/- rundleref26.Call: the call of a line's words. -/
import Derived.Test.YtlkbeddlmbghkaaGreatDoorRSp
import Derived.Test.YtlkbeddlmbghkaaGreatDoorRCs
import Derived.Test.YtlkbeddlmbghkaaGreatDoorScK
import Derived.Test.YtlkbeddlmbghkaaGreatDoorScRe
import Derived.Test.YtlkbeddlmbghkaaGreatDoorPRx5
import Derived.Deep.RegionWith
namespace Go.Proofs.YtlkbeddlmbghkaaGreatDoor.PR
open Go Go.Proofs Go.RowKit Go.Proofs.YtlkbeddlmbghkaaGreatDoorW.PrintWords Go.Proofs.YtlkbeddlmbghkaaGreatDoorW.PrintLast Go.Proofs.YtlkbeddlmbghkaaGreatDoorW.PrintMore
set_option linter.unusedVariables false
set_option linter.unusedSimpArgs false
set_option maxRecDepth 100000

/-! ### Form and Kind -/
theorem rdW (l : List S46) (i : Nat) (h : i < l.length) : rd_T46 l (i : Int) = l[i] := by
 unfold rd_T46
 rw [Int.toNat_natCast, List.getD_eq_getElem?_getD, List.getElem?_eq_getElem h]
 rfl
theorem bt_nat (s : ByteArray) (i : Nat) (h : i < s.data.toList.length) : bt s (i : Int) = ((s.data.toList[i]'h).toNat : Int) := by
 have h2 : i < s.size := by rw [Lib.size_eq]; exact h
 have h3 := bt_at s (i : Int)
 unfold bt
 rw [dif_pos (show ((i : Int).toNat < s.size) by simpa using h2)]
 rfl
theorem form_loop (l : List S46) (s : ByteArray) (hs : s.size ≤ 100) (hl : s.size ≤ l.length) : ∀ (m i : Nat), i + m = s.size → rundleref26_Form.l0 (m + 1) l s (i : Int) = some (formR (s.data.toList.drop i) (l.drop i))
 | 0, i, hi => by
  rw [rundleref26_Form.l0, if_neg (by omega)]
  rw [List.drop_eq_nil_of_le (by have := Lib.size_eq s; omega)]
  rfl
 | m + 1, i, hi => by
  have hsz := Lib.size_eq s
  have h0 : i < s.data.toList.length := by omega
  have h1 : i < l.length := by omega
  have hw : wrap64 ((i : Int) + 1) = ((i + 1 : Nat) : Int) := by unfold wrap64; omega
  have ih := form_loop l s hs hl m (i + 1) (by omega)
  have hb : bt s (i : Int) = ((s.data.toList[i]'h0).toNat : Int) := bt_nat s i (by omega)
  rw [rundleref26_Form.l0, if_pos (by omega), if_pos (by omega), hb, hw, ih, rdW l i h1]
  rw [List.drop_eq_getElem_cons h0, List.drop_eq_getElem_cons h1]
  generalize s.data.toList[i] = b
  rw [if_pos (show (i : Int) < (l.length : Int) by omega)]
  clear ih
  generalize l[i] = a
  generalize l.drop (i + 1) = q
  generalize s.data.toList.drop (i + 1) = fs
  by_cases e1 : b = 110
  ·
   subst e1
   by_cases hf : a.f0 = 1 <;> simp [formR, hf]
  ·
   have n1 : ((b.toNat : Int) = 110) = False := eq_false (fun h => e1 (UInt8.toNat_inj.1 (by show b.toNat = 110; omega)))
   by_cases e2 : b = 116
   ·
    subst e2
    by_cases hf : a.f0 = 3 <;> simp [formR, hf, h1]
   ·
    have n2 : ((b.toNat : Int) = 116) = False := eq_false (fun h => e2 (UInt8.toNat_inj.1 (by show b.toNat = 116; omega)))
    simp [formR, n1, n2, e1, e2]
theorem form_f (l : List S46) (s : ByteArray) (hs : s.size ≤ 100) : rundleref26_Form.f (s.size + 1) l s = some (formR s.data.toList l) := by
 unfold rundleref26_Form.f
 by_cases h : (l.length : Int) < (s.size : Int)
 ·
  rw [if_pos h]
  have hlen : ∀ (fs : List UInt8) (ws : List S46), ws.length < fs.length → formR fs ws = false := by
   intro fs
   induction fs with
   | nil => intro ws h; exact absurd h (by simp)
   | cons f fs ih =>
    intro ws h
    cases ws with
    | nil => rfl
    | cons a ws => simp only [formR, ih ws (by simpa using h), Bool.and_false]
  rw [hlen _ _ (by have := Lib.size_eq s; omega)]
 ·
  rw [if_neg h]
  have := form_loop l s hs (by omega) s.size 0 (by omega)
  simpa using this
def kindsT : List ByteArray := [(⟨#[103, 101, 116]⟩ : ByteArray), (⟨#[112, 117, 116]⟩ : ByteArray), (⟨#[114, 101, 109, 111, 118, 101]⟩ : ByteArray), (⟨#[98, 97, 116, 99, 104]⟩ : ByteArray), (⟨#[115, 99, 97, 110]⟩ : ByteArray), (⟨#[111, 112, 101, 110]⟩ : ByteArray), (⟨#[115, 110, 97, 112, 103, 101, 116]⟩ : ByteArray), (⟨#[115, 110, 97, 112, 115, 99, 97, 110]⟩ : ByteArray), (⟨#[99, 108, 111, 115, 101]⟩ : ByteArray), (⟨#[99, 111, 108, 108, 101, 99, 116]⟩ : ByteArray)]
theorem kind_at (s : ByteArray) (i m : Nat) (nm : List UInt8) (hi : i < 10) (hr : (rdOf ByteArray.empty kindsT (i : Int)).toList = nm) :
  rundleref26_Kind.l0 (m + 1) s kindsT (i : Int) = if s.toList = nm then some ((i : Int) + 1) else rundleref26_Kind.l0 m s kindsT ((i + 1 : Nat) : Int) := by
 have hw : wrap64 ((i : Int) + 1) = ((i + 1 : Nat) : Int) := by unfold wrap64; omega
 rw [rundleref26_Kind.l0, if_pos (by show (i : Int) < (10 : Int); omega), if_pos (by omega), hr, hw]
 by_cases h : nm = s.toList
 ·
  rw [if_pos h, if_pos h.symm]; congr 1
 ·
  rw [if_neg h, if_neg (fun e => h e.symm)]
theorem kind_f (s : ByteArray) : rundleref26_Kind.f 11 s = some (kindS s) := by
 have e10 : rundleref26_Kind.l0 1 s kindsT ((10 : Nat) : Int) = some 0 := by rw [rundleref26_Kind.l0, if_neg (by show ¬ ((10 : Nat) : Int) < (10 : Int); omega)]
 have e9 := kind_at s 9 1 [99, 111, 108, 108, 101, 99, 116] (by omega) (by kernel_rfl)
 rw [show 9 + 1 = 10 from rfl, e10] at e9
 have e8 := kind_at s 8 2 [99, 108, 111, 115, 101] (by omega) (by kernel_rfl)
 rw [show 8 + 1 = 9 from rfl, e9] at e8
 have e7 := kind_at s 7 3 [115, 110, 97, 112, 115, 99, 97, 110] (by omega) (by kernel_rfl)
 rw [show 7 + 1 = 8 from rfl, e8] at e7
 have e6 := kind_at s 6 4 [115, 110, 97, 112, 103, 101, 116] (by omega) (by kernel_rfl)
 rw [show 6 + 1 = 7 from rfl, e7] at e6
 have e5 := kind_at s 5 5 [111, 112, 101, 110] (by omega) (by kernel_rfl)
 rw [show 5 + 1 = 6 from rfl, e6] at e5
 have e4 := kind_at s 4 6 [115, 99, 97, 110] (by omega) (by kernel_rfl)
 rw [show 4 + 1 = 5 from rfl, e5] at e4
 have e3 := kind_at s 3 7 [98, 97, 116, 99, 104] (by omega) (by kernel_rfl)
 rw [show 3 + 1 = 4 from rfl, e4] at e3
 have e2 := kind_at s 2 8 [114, 101, 109, 111, 118, 101] (by omega) (by kernel_rfl)
 rw [show 2 + 1 = 3 from rfl, e3] at e2
 have e1 := kind_at s 1 9 [112, 117, 116] (by omega) (by kernel_rfl)
 rw [show 1 + 1 = 2 from rfl, e2] at e1
 have e0 := kind_at s 0 10 [103, 101, 116] (by omega) (by kernel_rfl)
 rw [show 0 + 1 = 1 from rfl, e1] at e0
 refine Eq.trans (show rundleref26_Kind.f 11 s = rundleref26_Kind.l0 (10 + 1) s kindsT ((0 : Nat) : Int) from rfl) (e0.trans ?_)
 clear e0 e1 e2 e3 e4 e5 e6 e7 e8 e9 e10
 unfold kindS
 by_cases h0 : s.toList = []
 ·
  rw [if_pos h0, h0]; rfl
 rw [if_neg h0]
 by_cases h1 : s.toList = [103, 101, 116]
 ·
  rw [if_pos h1, if_pos h1]; rfl
 simp only [if_neg h1]
 by_cases h2 : s.toList = [112, 117, 116]
 ·
  rw [if_pos h2, if_pos h2]; rfl
 simp only [if_neg h2]
 by_cases h3 : s.toList = [114, 101, 109, 111, 118, 101]
 ·
  rw [if_pos h3, if_pos h3]; rfl
 simp only [if_neg h3]
 by_cases h4 : s.toList = [98, 97, 116, 99, 104]
 ·
  rw [if_pos h4, if_pos h4]; rfl
 rw [if_neg h4, if_neg h4]
 by_cases h5 : s.toList = [115, 99, 97, 110]
 ·
  rw [if_pos h5, if_pos h5]; rfl
 rw [if_neg h5, if_neg h5]
 by_cases h6 : s.toList = [111, 112, 101, 110]
 ·
  rw [if_pos h6, if_pos h6]; rfl
 rw [if_neg h6, if_neg h6]
 by_cases h7 : s.toList = [115, 110, 97, 112, 103, 101, 116]
 ·
  rw [if_pos h7, if_pos h7]; rfl
 rw [if_neg h7, if_neg h7]
 by_cases h8 : s.toList = [115, 110, 97, 112, 115, 99, 97, 110]
 ·
  rw [if_pos h8, if_pos h8]; rfl
 rw [if_neg h8, if_neg h8]
 by_cases h9 : s.toList = [99, 108, 111, 115, 101]
 ·
  rw [if_pos h9, if_pos h9]; rfl
 rw [if_neg h9, if_neg h9]
 by_cases h10 : s.toList = [99, 111, 108, 108, 101, 99, 116]
 ·
  rw [if_pos h10, if_pos h10]; rfl
 rw [if_neg h10, if_neg h10]

/-! ### the walk's state: the call in its block, the result's block untouched -/
def CS (w : World) (x : S52) (v : Value) (W : World) : Prop :=
 W.heap[w.heap.size + 1]? = some (.cells (callV x v) 52 (0, 0)) ∧ W.heap[w.heap.size]? = some (.cells (callV zC (.slice none 0 0)) 52 (0, 0)) ∧ Below w.heap.size w W
theorem CS.put {w W : World} {x x' : S52} {v v' : Value} (h : CS w x v W) (i : Nat) (u : Value) (e : (callV x v).setIfInBounds i u = callV x' v') : CS w x' v' (W.setCell ⟨w.heap.size + 1, i, none⟩ u) :=
 ⟨blk_put h.1 i u e, (Below.heap_setCell W ⟨w.heap.size + 1, i, none⟩ u w.heap.size (by show w.heap.size ≠ w.heap.size + 1; omega)).trans h.2.1, h.2.2.setCell (Nat.le_succ _) u⟩
theorem CS.drew {w W : World} {x : S52} {v : Value} (h : CS w x v W) : CS w x v W.drew := ⟨h.1, h.2.1, h.2.2.drew⟩
theorem CS.fr {w W W' : World} {x : S52} {v : Value} (h : CS w x v W) (hb : Below W.heap.size W W') : CS w x v W' :=
 ⟨blk_below h.1 hb, blk_below h.2.1 hb, h.2.2.trans (hb.mono h.2.2.size)⟩
theorem cells11 {W : World} {g : Nat} {t : TypeId} {a0 a1 a2 a3 a4 a5 a6 a7 a8 a9 a10 : Value} (h : W.heap[g]? = some (.cells #[a0, a1, a2, a3, a4, a5, a6, a7, a8, a9, a10] t (0, 0))) : W.cell? ⟨g, 0, none⟩ = some a0 ∧ W.cell? ⟨g, 1, none⟩ = some a1 ∧ W.cell? ⟨g, 2, none⟩ = some a2 ∧ W.cell? ⟨g, 3, none⟩ = some a3 ∧ W.cell? ⟨g, 4, none⟩ = some a4 ∧ W.cell? ⟨g, 5, none⟩ = some a5 ∧ W.cell? ⟨g, 6, none⟩ = some a6 ∧ W.cell? ⟨g, 7, none⟩ = some a7 ∧ W.cell? ⟨g, 8, none⟩ = some a8 ∧ W.cell? ⟨g, 9, none⟩ = some a9 ∧ W.cell? ⟨g, 10, none⟩ = some a10 :=
 ⟨(blk_cell h 0).trans rfl, (blk_cell h 1).trans rfl, (blk_cell h 2).trans rfl, (blk_cell h 3).trans rfl, (blk_cell h 4).trans rfl, (blk_cell h 5).trans rfl, (blk_cell h 6).trans rfl, (blk_cell h 7).trans rfl, (blk_cell h 8).trans rfl, (blk_cell h 9).trans rfl, (blk_cell h 10).trans rfl⟩
theorem cells11f {W : World} {g : Nat} {t : TypeId} {a0 a1 a2 a3 a4 a5 a6 a7 a8 a9 a10 : Value} (h : W.heap[g]? = some (.cells #[a0, a1, a2, a3, a4, a5, a6, a7, a8, a9, a10] t (0, 0))) : W.cell? ⟨g, 0, none⟩ = some a0 ∧ W.frozen? ⟨g, 0, none⟩ = false ∧ W.cell? ⟨g, 1, none⟩ = some a1 ∧ W.frozen? ⟨g, 1, none⟩ = false ∧ W.cell? ⟨g, 2, none⟩ = some a2 ∧ W.frozen? ⟨g, 2, none⟩ = false ∧ W.cell? ⟨g, 3, none⟩ = some a3 ∧ W.frozen? ⟨g, 3, none⟩ = false ∧ W.cell? ⟨g, 4, none⟩ = some a4 ∧ W.frozen? ⟨g, 4, none⟩ = false ∧ W.cell? ⟨g, 5, none⟩ = some a5 ∧ W.frozen? ⟨g, 5, none⟩ = false ∧ W.cell? ⟨g, 6, none⟩ = some a6 ∧ W.frozen? ⟨g, 6, none⟩ = false ∧ W.cell? ⟨g, 7, none⟩ = some a7 ∧ W.frozen? ⟨g, 7, none⟩ = false ∧ W.cell? ⟨g, 8, none⟩ = some a8 ∧ W.frozen? ⟨g, 8, none⟩ = false ∧ W.cell? ⟨g, 9, none⟩ = some a9 ∧ W.frozen? ⟨g, 9, none⟩ = false ∧ W.cell? ⟨g, 10, none⟩ = some a10 ∧ W.frozen? ⟨g, 10, none⟩ = false :=
 ⟨(blk_cell h 0).trans rfl, blk_frozen h 0, (blk_cell h 1).trans rfl, blk_frozen h 1, (blk_cell h 2).trans rfl, blk_frozen h 2, (blk_cell h 3).trans rfl, blk_frozen h 3, (blk_cell h 4).trans rfl, blk_frozen h 4, (blk_cell h 5).trans rfl, blk_frozen h 5, (blk_cell h 6).trans rfl, blk_frozen h 6, (blk_cell h 7).trans rfl, blk_frozen h 7, (blk_cell h 8).trans rfl, blk_frozen h 8, (blk_cell h 9).trans rfl, blk_frozen h 9, (blk_cell h 10).trans rfl, blk_frozen h 10⟩
theorem fillC (w W : World) (x : S52) (v : Value) (h : CS w x v W) (r : k93.R 93 W (w.heap.size + 2) (fun _ => True) v x.f3) :
  (World.setCell (World.setCell (World.setCell (World.setCell (World.setCell (World.setCell (World.setCell (World.setCell (World.setCell (World.setCell (World.setCell W ⟨w.heap.size, 0, none⟩ (.int .i64 x.f0)) ⟨w.heap.size, 1, none⟩ (.string x.f1)) ⟨w.heap.size, 2, none⟩ (.string x.f2)) ⟨w.heap.size, 3, none⟩ (v)) ⟨w.heap.size, 4, none⟩ (.string x.f4)) ⟨w.heap.size, 5, none⟩ (.string x.f5)) ⟨w.heap.size, 6, none⟩ (.bool x.f6)) ⟨w.heap.size, 7, none⟩ (.int .i64 x.f7)) ⟨w.heap.size, 8, none⟩ (.int .i64 x.f8)) ⟨w.heap.size, 9, none⟩ (.int .i64 x.f9)) ⟨w.heap.size, 10, none⟩ (.int .i64 x.f10)).heap[w.heap.size]? = some (.cells (callV x v) 52 (0, 0)) ∧ Below w.heap.size w (World.setCell (World.setCell (World.setCell (World.setCell (World.setCell (World.setCell (World.setCell (World.setCell (World.setCell (World.setCell (World.setCell W ⟨w.heap.size, 0, none⟩ (.int .i64 x.f0)) ⟨w.heap.size, 1, none⟩ (.string x.f1)) ⟨w.heap.size, 2, none⟩ (.string x.f2)) ⟨w.heap.size, 3, none⟩ (v)) ⟨w.heap.size, 4, none⟩ (.string x.f4)) ⟨w.heap.size, 5, none⟩ (.string x.f5)) ⟨w.heap.size, 6, none⟩ (.bool x.f6)) ⟨w.heap.size, 7, none⟩ (.int .i64 x.f7)) ⟨w.heap.size, 8, none⟩ (.int .i64 x.f8)) ⟨w.heap.size, 9, none⟩ (.int .i64 x.f9)) ⟨w.heap.size, 10, none⟩ (.int .i64 x.f10)) ∧ k93.R 93 (World.setCell (World.setCell (World.setCell (World.setCell (World.setCell (World.setCell (World.setCell (World.setCell (World.setCell (World.setCell (World.setCell W ⟨w.heap.size, 0, none⟩ (.int .i64 x.f0)) ⟨w.heap.size, 1, none⟩ (.string x.f1)) ⟨w.heap.size, 2, none⟩ (.string x.f2)) ⟨w.heap.size, 3, none⟩ (v)) ⟨w.heap.size, 4, none⟩ (.string x.f4)) ⟨w.heap.size, 5, none⟩ (.string x.f5)) ⟨w.heap.size, 6, none⟩ (.bool x.f6)) ⟨w.heap.size, 7, none⟩ (.int .i64 x.f7)) ⟨w.heap.size, 8, none⟩ (.int .i64 x.f8)) ⟨w.heap.size, 9, none⟩ (.int .i64 x.f9)) ⟨w.heap.size, 10, none⟩ (.int .i64 x.f10)) w.heap.size (fun _ => True) v x.f3 := by
 have b := h.2.2
 have g := h.2.1
 clear h
 have g := blk_put g 0 (.int .i64 x.f0) (cs' := #[.int .i64 x.f0, .string ⟨#[]⟩, .string ⟨#[]⟩, .slice none 0 0, .string ⟨#[]⟩, .string ⟨#[]⟩, .bool false, .int .i64 0, .int .i64 0, .int .i64 0, .int .i64 0]) rfl
 have b := b.setCell (p := ⟨w.heap.size, 0, none⟩) (Nat.le_refl _) (.int .i64 x.f0)
 have r := Kd.R_mono (Kd.R_far (p := ⟨w.heap.size, 0, none⟩) (Kd.R_bound r) (fun k hk => by have := hk.2.1; show k ≠ w.heap.size; omega) (.int .i64 x.f0)) (ok' := fun _ => True) (fun _ _ => trivial)
 have g := blk_put g 1 (.string x.f1) (cs' := #[.int .i64 x.f0, .string x.f1, .string ⟨#[]⟩, .slice none 0 0, .string ⟨#[]⟩, .string ⟨#[]⟩, .bool false, .int .i64 0, .int .i64 0, .int .i64 0, .int .i64 0]) rfl
 have b := b.setCell (p := ⟨w.heap.size, 1, none⟩) (Nat.le_refl _) (.string x.f1)
 have r := Kd.R_mono (Kd.R_far (p := ⟨w.heap.size, 1, none⟩) (Kd.R_bound r) (fun k hk => by have := hk.2.1; show k ≠ w.heap.size; omega) (.string x.f1)) (ok' := fun _ => True) (fun _ _ => trivial)
 have g := blk_put g 2 (.string x.f2) (cs' := #[.int .i64 x.f0, .string x.f1, .string x.f2, .slice none 0 0, .string ⟨#[]⟩, .string ⟨#[]⟩, .bool false, .int .i64 0, .int .i64 0, .int .i64 0, .int .i64 0]) rfl
 have b := b.setCell (p := ⟨w.heap.size, 2, none⟩) (Nat.le_refl _) (.string x.f2)
 have r := Kd.R_mono (Kd.R_far (p := ⟨w.heap.size, 2, none⟩) (Kd.R_bound r) (fun k hk => by have := hk.2.1; show k ≠ w.heap.size; omega) (.string x.f2)) (ok' := fun _ => True) (fun _ _ => trivial)
 have g := blk_put g 3 (v) (cs' := #[.int .i64 x.f0, .string x.f1, .string x.f2, v, .string ⟨#[]⟩, .string ⟨#[]⟩, .bool false, .int .i64 0, .int .i64 0, .int .i64 0, .int .i64 0]) rfl
 have b := b.setCell (p := ⟨w.heap.size, 3, none⟩) (Nat.le_refl _) (v)
 have r := Kd.R_mono (Kd.R_far (p := ⟨w.heap.size, 3, none⟩) (Kd.R_bound r) (fun k hk => by have := hk.2.1; show k ≠ w.heap.size; omega) (v)) (ok' := fun _ => True) (fun _ _ => trivial)
 have g := blk_put g 4 (.string x.f4) (cs' := #[.int .i64 x.f0, .string x.f1, .string x.f2, v, .string x.f4, .string ⟨#[]⟩, .bool false, .int .i64 0, .int .i64 0, .int .i64 0, .int .i64 0]) rfl
 have b := b.setCell (p := ⟨w.heap.size, 4, none⟩) (Nat.le_refl _) (.string x.f4)
 have r := Kd.R_mono (Kd.R_far (p := ⟨w.heap.size, 4, none⟩) (Kd.R_bound r) (fun k hk => by have := hk.2.1; show k ≠ w.heap.size; omega) (.string x.f4)) (ok' := fun _ => True) (fun _ _ => trivial)
 have g := blk_put g 5 (.string x.f5) (cs' := #[.int .i64 x.f0, .string x.f1, .string x.f2, v, .string x.f4, .string x.f5, .bool false, .int .i64 0, .int .i64 0, .int .i64 0, .int .i64 0]) rfl
 have b := b.setCell (p := ⟨w.heap.size, 5, none⟩) (Nat.le_refl _) (.string x.f5)
 have r := Kd.R_mono (Kd.R_far (p := ⟨w.heap.size, 5, none⟩) (Kd.R_bound r) (fun k hk => by have := hk.2.1; show k ≠ w.heap.size; omega) (.string x.f5)) (ok' := fun _ => True) (fun _ _ => trivial)
 have g := blk_put g 6 (.bool x.f6) (cs' := #[.int .i64 x.f0, .string x.f1, .string x.f2, v, .string x.f4, .string x.f5, .bool x.f6, .int .i64 0, .int .i64 0, .int .i64 0, .int .i64 0]) rfl
 have b := b.setCell (p := ⟨w.heap.size, 6, none⟩) (Nat.le_refl _) (.bool x.f6)
 have r := Kd.R_mono (Kd.R_far (p := ⟨w.heap.size, 6, none⟩) (Kd.R_bound r) (fun k hk => by have := hk.2.1; show k ≠ w.heap.size; omega) (.bool x.f6)) (ok' := fun _ => True) (fun _ _ => trivial)
 have g := blk_put g 7 (.int .i64 x.f7) (cs' := #[.int .i64 x.f0, .string x.f1, .string x.f2, v, .string x.f4, .string x.f5, .bool x.f6, .int .i64 x.f7, .int .i64 0, .int .i64 0, .int .i64 0]) rfl
 have b := b.setCell (p := ⟨w.heap.size, 7, none⟩) (Nat.le_refl _) (.int .i64 x.f7)
 have r := Kd.R_mono (Kd.R_far (p := ⟨w.heap.size, 7, none⟩) (Kd.R_bound r) (fun k hk => by have := hk.2.1; show k ≠ w.heap.size; omega) (.int .i64 x.f7)) (ok' := fun _ => True) (fun _ _ => trivial)
 have g := blk_put g 8 (.int .i64 x.f8) (cs' := #[.int .i64 x.f0, .string x.f1, .string x.f2, v, .string x.f4, .string x.f5, .bool x.f6, .int .i64 x.f7, .int .i64 x.f8, .int .i64 0, .int .i64 0]) rfl
 have b := b.setCell (p := ⟨w.heap.size, 8, none⟩) (Nat.le_refl _) (.int .i64 x.f8)
 have r := Kd.R_mono (Kd.R_far (p := ⟨w.heap.size, 8, none⟩) (Kd.R_bound r) (fun k hk => by have := hk.2.1; show k ≠ w.heap.size; omega) (.int .i64 x.f8)) (ok' := fun _ => True) (fun _ _ => trivial)
 have g := blk_put g 9 (.int .i64 x.f9) (cs' := #[.int .i64 x.f0, .string x.f1, .string x.f2, v, .string x.f4, .string x.f5, .bool x.f6, .int .i64 x.f7, .int .i64 x.f8, .int .i64 x.f9, .int .i64 0]) rfl
 have b := b.setCell (p := ⟨w.heap.size, 9, none⟩) (Nat.le_refl _) (.int .i64 x.f9)
 have r := Kd.R_mono (Kd.R_far (p := ⟨w.heap.size, 9, none⟩) (Kd.R_bound r) (fun k hk => by have := hk.2.1; show k ≠ w.heap.size; omega) (.int .i64 x.f9)) (ok' := fun _ => True) (fun _ _ => trivial)
 have g := blk_put g 10 (.int .i64 x.f10) (cs' := #[.int .i64 x.f0, .string x.f1, .string x.f2, v, .string x.f4, .string x.f5, .bool x.f6, .int .i64 x.f7, .int .i64 x.f8, .int .i64 x.f9, .int .i64 x.f10]) rfl
 have b := b.setCell (p := ⟨w.heap.size, 10, none⟩) (Nat.le_refl _) (.int .i64 x.f10)
 have r := Kd.R_mono (Kd.R_far (p := ⟨w.heap.size, 10, none⟩) (Kd.R_bound r) (fun k hk => by have := hk.2.1; show k ≠ w.heap.size; omega) (.int .i64 x.f10)) (ok' := fun _ => True) (fun _ _ => trivial)
 exact ⟨g, b, Kd.R_lower r (by omega)⟩
theorem kindS_range (s : ByteArray) : kindS s = 0 ∨ kindS s = 1 ∨ kindS s = 2 ∨ kindS s = 3 ∨ kindS s = 4 ∨ kindS s = 5 ∨ kindS s = 6 ∨ kindS s = 7 ∨ kindS s = 8 ∨ kindS s = 9 ∨ kindS s = 10 := by
 unfold kindS
 repeat' split
 all_goals omega
theorem formR_at (A : Option Addr) (c : Nat) (l : List S46) (s : ByteArray) (fs : List UInt8) (hs : s.size ≤ 100) (hf : s.data.toList = fs) (w : World) (hC : Kd.C k46 w A l.length l) (hc : l.length ≤ c) :
  Calls Tryz.prog 46 #[.slice A l.length c, .string s] w fun e w' => e = .returned (.bool (formR fs l)) ∧ Below w.heap.size w w' := by
 subst hf
 exact (rundleref26_Form.calls _ A c l s _ w hC hc (form_f l s hs)).mono (fun e w' h => ⟨h.1, h.2.below⟩)
theorem far2 {W : World} {p : Addr} {g i : Nat} {u v : Value} (hne : p.block ≠ g) (h : W.cell? p = some v) : (W.setCell ⟨g, i, none⟩ u).cell? p = some v := (cell_far (p := ⟨g, i, none⟩) hne u).trans h
theorem fillP (w W : World) (x y : S52) (v u : Value) (h : CS w x v W) (r : k93.R 93 W (w.heap.size + 2) (fun _ => True) u y.f3) :
  CS w y u (World.setCell (World.setCell (World.setCell (World.setCell (World.setCell (World.setCell (World.setCell (World.setCell (World.setCell (World.setCell (World.setCell W ⟨(w.heap.size + 1), 0, none⟩ (.int .i64 y.f0)) ⟨(w.heap.size + 1), 1, none⟩ (.string y.f1)) ⟨(w.heap.size + 1), 2, none⟩ (.string y.f2)) ⟨(w.heap.size + 1), 3, none⟩ (u)) ⟨(w.heap.size + 1), 4, none⟩ (.string y.f4)) ⟨(w.heap.size + 1), 5, none⟩ (.string y.f5)) ⟨(w.heap.size + 1), 6, none⟩ (.bool y.f6)) ⟨(w.heap.size + 1), 7, none⟩ (.int .i64 y.f7)) ⟨(w.heap.size + 1), 8, none⟩ (.int .i64 y.f8)) ⟨(w.heap.size + 1), 9, none⟩ (.int .i64 y.f9)) ⟨(w.heap.size + 1), 10, none⟩ (.int .i64 y.f10)) ∧ k93.R 93 (World.setCell (World.setCell (World.setCell (World.setCell (World.setCell (World.setCell (World.setCell (World.setCell (World.setCell (World.setCell (World.setCell W ⟨(w.heap.size + 1), 0, none⟩ (.int .i64 y.f0)) ⟨(w.heap.size + 1), 1, none⟩ (.string y.f1)) ⟨(w.heap.size + 1), 2, none⟩ (.string y.f2)) ⟨(w.heap.size + 1), 3, none⟩ (u)) ⟨(w.heap.size + 1), 4, none⟩ (.string y.f4)) ⟨(w.heap.size + 1), 5, none⟩ (.string y.f5)) ⟨(w.heap.size + 1), 6, none⟩ (.bool y.f6)) ⟨(w.heap.size + 1), 7, none⟩ (.int .i64 y.f7)) ⟨(w.heap.size + 1), 8, none⟩ (.int .i64 y.f8)) ⟨(w.heap.size + 1), 9, none⟩ (.int .i64 y.f9)) ⟨(w.heap.size + 1), 10, none⟩ (.int .i64 y.f10)) (w.heap.size + 2) (fun _ => True) u y.f3 := by
 obtain ⟨p, g, b⟩ := h
 have p := blk_put p 0 (.int .i64 y.f0) (cs' := #[.int .i64 y.f0, .string x.f1, .string x.f2, v, .string x.f4, .string x.f5, .bool x.f6, .int .i64 x.f7, .int .i64 x.f8, .int .i64 x.f9, .int .i64 x.f10]) rfl
 have g := (Below.heap_setCell _ ⟨w.heap.size + 1, 0, none⟩ (.int .i64 y.f0) w.heap.size (by show w.heap.size ≠ w.heap.size + 1; omega)).trans g
 have b := b.setCell (p := ⟨w.heap.size + 1, 0, none⟩) (Nat.le_succ _) (.int .i64 y.f0)
 have r := Kd.R_mono (Kd.R_far (p := ⟨w.heap.size + 1, 0, none⟩) (Kd.R_bound r) (fun k hk => by have := hk.2.1; show k ≠ w.heap.size + 1; omega) (.int .i64 y.f0)) (ok' := fun _ => True) (fun _ _ => trivial)
 have p := blk_put p 1 (.string y.f1) (cs' := #[.int .i64 y.f0, .string y.f1, .string x.f2, v, .string x.f4, .string x.f5, .bool x.f6, .int .i64 x.f7, .int .i64 x.f8, .int .i64 x.f9, .int .i64 x.f10]) rfl
 have g := (Below.heap_setCell _ ⟨w.heap.size + 1, 1, none⟩ (.string y.f1) w.heap.size (by show w.heap.size ≠ w.heap.size + 1; omega)).trans g
 have b := b.setCell (p := ⟨w.heap.size + 1, 1, none⟩) (Nat.le_succ _) (.string y.f1)
 have r := Kd.R_mono (Kd.R_far (p := ⟨w.heap.size + 1, 1, none⟩) (Kd.R_bound r) (fun k hk => by have := hk.2.1; show k ≠ w.heap.size + 1; omega) (.string y.f1)) (ok' := fun _ => True) (fun _ _ => trivial)
 have p := blk_put p 2 (.string y.f2) (cs' := #[.int .i64 y.f0, .string y.f1, .string y.f2, v, .string x.f4, .string x.f5, .bool x.f6, .int .i64 x.f7, .int .i64 x.f8, .int .i64 x.f9, .int .i64 x.f10]) rfl
 have g := (Below.heap_setCell _ ⟨w.heap.size + 1, 2, none⟩ (.string y.f2) w.heap.size (by show w.heap.size ≠ w.heap.size + 1; omega)).trans g
 have b := b.setCell (p := ⟨w.heap.size + 1, 2, none⟩) (Nat.le_succ _) (.string y.f2)
 have r := Kd.R_mono (Kd.R_far (p := ⟨w.heap.size + 1, 2, none⟩) (Kd.R_bound r) (fun k hk => by have := hk.2.1; show k ≠ w.heap.size + 1; omega) (.string y.f2)) (ok' := fun _ => True) (fun _ _ => trivial)
 have p := blk_put p 3 (u) (cs' := #[.int .i64 y.f0, .string y.f1, .string y.f2, u, .string x.f4, .string x.f5, .bool x.f6, .int .i64 x.f7, .int .i64 x.f8, .int .i64 x.f9, .int .i64 x.f10]) rfl
 have g := (Below.heap_setCell _ ⟨w.heap.size + 1, 3, none⟩ (u) w.heap.size (by show w.heap.size ≠ w.heap.size + 1; omega)).trans g
 have b := b.setCell (p := ⟨w.heap.size + 1, 3, none⟩) (Nat.le_succ _) (u)
 have r := Kd.R_mono (Kd.R_far (p := ⟨w.heap.size + 1, 3, none⟩) (Kd.R_bound r) (fun k hk => by have := hk.2.1; show k ≠ w.heap.size + 1; omega) (u)) (ok' := fun _ => True) (fun _ _ => trivial)
 have p := blk_put p 4 (.string y.f4) (cs' := #[.int .i64 y.f0, .string y.f1, .string y.f2, u, .string y.f4, .string x.f5, .bool x.f6, .int .i64 x.f7, .int .i64 x.f8, .int .i64 x.f9, .int .i64 x.f10]) rfl
 have g := (Below.heap_setCell _ ⟨w.heap.size + 1, 4, none⟩ (.string y.f4) w.heap.size (by show w.heap.size ≠ w.heap.size + 1; omega)).trans g
 have b := b.setCell (p := ⟨w.heap.size + 1, 4, none⟩) (Nat.le_succ _) (.string y.f4)
 have r := Kd.R_mono (Kd.R_far (p := ⟨w.heap.size + 1, 4, none⟩) (Kd.R_bound r) (fun k hk => by have := hk.2.1; show k ≠ w.heap.size + 1; omega) (.string y.f4)) (ok' := fun _ => True) (fun _ _ => trivial)
 have p := blk_put p 5 (.string y.f5) (cs' := #[.int .i64 y.f0, .string y.f1, .string y.f2, u, .string y.f4, .string y.f5, .bool x.f6, .int .i64 x.f7, .int .i64 x.f8, .int .i64 x.f9, .int .i64 x.f10]) rfl
 have g := (Below.heap_setCell _ ⟨w.heap.size + 1, 5, none⟩ (.string y.f5) w.heap.size (by show w.heap.size ≠ w.heap.size + 1; omega)).trans g
 have b := b.setCell (p := ⟨w.heap.size + 1, 5, none⟩) (Nat.le_succ _) (.string y.f5)
 have r := Kd.R_mono (Kd.R_far (p := ⟨w.heap.size + 1, 5, none⟩) (Kd.R_bound r) (fun k hk => by have := hk.2.1; show k ≠ w.heap.size + 1; omega) (.string y.f5)) (ok' := fun _ => True) (fun _ _ => trivial)
 have p := blk_put p 6 (.bool y.f6) (cs' := #[.int .i64 y.f0, .string y.f1, .string y.f2, u, .string y.f4, .string y.f5, .bool y.f6, .int .i64 x.f7, .int .i64 x.f8, .int .i64 x.f9, .int .i64 x.f10]) rfl
 have g := (Below.heap_setCell _ ⟨w.heap.size + 1, 6, none⟩ (.bool y.f6) w.heap.size (by show w.heap.size ≠ w.heap.size + 1; omega)).trans g
 have b := b.setCell (p := ⟨w.heap.size + 1, 6, none⟩) (Nat.le_succ _) (.bool y.f6)
 have r := Kd.R_mono (Kd.R_far (p := ⟨w.heap.size + 1, 6, none⟩) (Kd.R_bound r) (fun k hk => by have := hk.2.1; show k ≠ w.heap.size + 1; omega) (.bool y.f6)) (ok' := fun _ => True) (fun _ _ => trivial)
 have p := blk_put p 7 (.int .i64 y.f7) (cs' := #[.int .i64 y.f0, .string y.f1, .string y.f2, u, .string y.f4, .string y.f5, .bool y.f6, .int .i64 y.f7, .int .i64 x.f8, .int .i64 x.f9, .int .i64 x.f10]) rfl
 have g := (Below.heap_setCell _ ⟨w.heap.size + 1, 7, none⟩ (.int .i64 y.f7) w.heap.size (by show w.heap.size ≠ w.heap.size + 1; omega)).trans g
 have b := b.setCell (p := ⟨w.heap.size + 1, 7, none⟩) (Nat.le_succ _) (.int .i64 y.f7)
 have r := Kd.R_mono (Kd.R_far (p := ⟨w.heap.size + 1, 7, none⟩) (Kd.R_bound r) (fun k hk => by have := hk.2.1; show k ≠ w.heap.size + 1; omega) (.int .i64 y.f7)) (ok' := fun _ => True) (fun _ _ => trivial)
 have p := blk_put p 8 (.int .i64 y.f8) (cs' := #[.int .i64 y.f0, .string y.f1, .string y.f2, u, .string y.f4, .string y.f5, .bool y.f6, .int .i64 y.f7, .int .i64 y.f8, .int .i64 x.f9, .int .i64 x.f10]) rfl
 have g := (Below.heap_setCell _ ⟨w.heap.size + 1, 8, none⟩ (.int .i64 y.f8) w.heap.size (by show w.heap.size ≠ w.heap.size + 1; omega)).trans g
 have b := b.setCell (p := ⟨w.heap.size + 1, 8, none⟩) (Nat.le_succ _) (.int .i64 y.f8)
 have r := Kd.R_mono (Kd.R_far (p := ⟨w.heap.size + 1, 8, none⟩) (Kd.R_bound r) (fun k hk => by have := hk.2.1; show k ≠ w.heap.size + 1; omega) (.int .i64 y.f8)) (ok' := fun _ => True) (fun _ _ => trivial)
 have p := blk_put p 9 (.int .i64 y.f9) (cs' := #[.int .i64 y.f0, .string y.f1, .string y.f2, u, .string y.f4, .string y.f5, .bool y.f6, .int .i64 y.f7, .int .i64 y.f8, .int .i64 y.f9, .int .i64 x.f10]) rfl
 have g := (Below.heap_setCell _ ⟨w.heap.size + 1, 9, none⟩ (.int .i64 y.f9) w.heap.size (by show w.heap.size ≠ w.heap.size + 1; omega)).trans g
 have b := b.setCell (p := ⟨w.heap.size + 1, 9, none⟩) (Nat.le_succ _) (.int .i64 y.f9)
 have r := Kd.R_mono (Kd.R_far (p := ⟨w.heap.size + 1, 9, none⟩) (Kd.R_bound r) (fun k hk => by have := hk.2.1; show k ≠ w.heap.size + 1; omega) (.int .i64 y.f9)) (ok' := fun _ => True) (fun _ _ => trivial)
 have p := blk_put p 10 (.int .i64 y.f10) (cs' := #[.int .i64 y.f0, .string y.f1, .string y.f2, u, .string y.f4, .string y.f5, .bool y.f6, .int .i64 y.f7, .int .i64 y.f8, .int .i64 y.f9, .int .i64 y.f10]) rfl
 have g := (Below.heap_setCell _ ⟨w.heap.size + 1, 10, none⟩ (.int .i64 y.f10) w.heap.size (by show w.heap.size ≠ w.heap.size + 1; omega)).trans g
 have b := b.setCell (p := ⟨w.heap.size + 1, 10, none⟩) (Nat.le_succ _) (.int .i64 y.f10)
 have r := Kd.R_mono (Kd.R_far (p := ⟨w.heap.size + 1, 10, none⟩) (Kd.R_bound r) (fun k hk => by have := hk.2.1; show k ≠ w.heap.size + 1; omega) (.int .i64 y.f10)) (ok' := fun _ => True) (fun _ _ => trivial)
 exact ⟨⟨p, g, b⟩, r⟩
theorem fillY (w W : World) (x y : S52) (v u : Value) (gY : Nat) (hg : w.heap.size + 1 < gY) (h : CS w x v W) (ok : Nat → Prop) (hok : ∀ k, ok k → k ≠ gY) (yb : W.heap[gY]? = some (.cells #[.int .i64 0, .string ⟨#[]⟩, .string ⟨#[]⟩, .slice none 0 0, .string ⟨#[]⟩, .string ⟨#[]⟩, .bool false, .int .i64 0, .int .i64 0, .int .i64 0, .int .i64 0] 52 (0, 0))) (r : k93.R 93 W (w.heap.size + 2) ok u y.f3) :
  CS w x v (World.setCell (World.setCell (World.setCell (World.setCell (World.setCell (World.setCell (World.setCell (World.setCell (World.setCell (World.setCell (World.setCell W ⟨gY, 0, none⟩ (.int .i64 y.f0)) ⟨gY, 1, none⟩ (.string y.f1)) ⟨gY, 2, none⟩ (.string y.f2)) ⟨gY, 3, none⟩ (u)) ⟨gY, 4, none⟩ (.string y.f4)) ⟨gY, 5, none⟩ (.string y.f5)) ⟨gY, 6, none⟩ (.bool y.f6)) ⟨gY, 7, none⟩ (.int .i64 y.f7)) ⟨gY, 8, none⟩ (.int .i64 y.f8)) ⟨gY, 9, none⟩ (.int .i64 y.f9)) ⟨gY, 10, none⟩ (.int .i64 y.f10)) ∧ (World.setCell (World.setCell (World.setCell (World.setCell (World.setCell (World.setCell (World.setCell (World.setCell (World.setCell (World.setCell (World.setCell W ⟨gY, 0, none⟩ (.int .i64 y.f0)) ⟨gY, 1, none⟩ (.string y.f1)) ⟨gY, 2, none⟩ (.string y.f2)) ⟨gY, 3, none⟩ (u)) ⟨gY, 4, none⟩ (.string y.f4)) ⟨gY, 5, none⟩ (.string y.f5)) ⟨gY, 6, none⟩ (.bool y.f6)) ⟨gY, 7, none⟩ (.int .i64 y.f7)) ⟨gY, 8, none⟩ (.int .i64 y.f8)) ⟨gY, 9, none⟩ (.int .i64 y.f9)) ⟨gY, 10, none⟩ (.int .i64 y.f10)).heap[gY]? = some (.cells #[.int .i64 y.f0, .string y.f1, .string y.f2, u, .string y.f4, .string y.f5, .bool y.f6, .int .i64 y.f7, .int .i64 y.f8, .int .i64 y.f9, .int .i64 y.f10] 52 (0, 0)) ∧ k93.R 93 (World.setCell (World.setCell (World.setCell (World.setCell (World.setCell (World.setCell (World.setCell (World.setCell (World.setCell (World.setCell (World.setCell W ⟨gY, 0, none⟩ (.int .i64 y.f0)) ⟨gY, 1, none⟩ (.string y.f1)) ⟨gY, 2, none⟩ (.string y.f2)) ⟨gY, 3, none⟩ (u)) ⟨gY, 4, none⟩ (.string y.f4)) ⟨gY, 5, none⟩ (.string y.f5)) ⟨gY, 6, none⟩ (.bool y.f6)) ⟨gY, 7, none⟩ (.int .i64 y.f7)) ⟨gY, 8, none⟩ (.int .i64 y.f8)) ⟨gY, 9, none⟩ (.int .i64 y.f9)) ⟨gY, 10, none⟩ (.int .i64 y.f10)) (w.heap.size + 2) (fun _ => True) u y.f3 := by
 have h := show CS w x v (World.setCell _ ⟨gY, 0, none⟩ (.int .i64 y.f0)) from ⟨(Below.heap_setCell _ ⟨gY, 0, none⟩ (.int .i64 y.f0) (w.heap.size + 1) (by show w.heap.size + 1 ≠ gY; omega)).trans h.1, (Below.heap_setCell _ ⟨gY, 0, none⟩ (.int .i64 y.f0) w.heap.size (by show w.heap.size ≠ gY; omega)).trans h.2.1, h.2.2.setCell (by show w.heap.size ≤ gY; omega) _⟩
 have yb := blk_put yb 0 (.int .i64 y.f0) (cs' := #[.int .i64 y.f0, .string ⟨#[]⟩, .string ⟨#[]⟩, .slice none 0 0, .string ⟨#[]⟩, .string ⟨#[]⟩, .bool false, .int .i64 0, .int .i64 0, .int .i64 0, .int .i64 0]) rfl
 have r := Kd.R_far (p := ⟨gY, 0, none⟩) r hok (.int .i64 y.f0)
 have h := show CS w x v (World.setCell _ ⟨gY, 1, none⟩ (.string y.f1)) from ⟨(Below.heap_setCell _ ⟨gY, 1, none⟩ (.string y.f1) (w.heap.size + 1) (by show w.heap.size + 1 ≠ gY; omega)).trans h.1, (Below.heap_setCell _ ⟨gY, 1, none⟩ (.string y.f1) w.heap.size (by show w.heap.size ≠ gY; omega)).trans h.2.1, h.2.2.setCell (by show w.heap.size ≤ gY; omega) _⟩
 have yb := blk_put yb 1 (.string y.f1) (cs' := #[.int .i64 y.f0, .string y.f1, .string ⟨#[]⟩, .slice none 0 0, .string ⟨#[]⟩, .string ⟨#[]⟩, .bool false, .int .i64 0, .int .i64 0, .int .i64 0, .int .i64 0]) rfl
 have r := Kd.R_far (p := ⟨gY, 1, none⟩) r hok (.string y.f1)
 have h := show CS w x v (World.setCell _ ⟨gY, 2, none⟩ (.string y.f2)) from ⟨(Below.heap_setCell _ ⟨gY, 2, none⟩ (.string y.f2) (w.heap.size + 1) (by show w.heap.size + 1 ≠ gY; omega)).trans h.1, (Below.heap_setCell _ ⟨gY, 2, none⟩ (.string y.f2) w.heap.size (by show w.heap.size ≠ gY; omega)).trans h.2.1, h.2.2.setCell (by show w.heap.size ≤ gY; omega) _⟩
 have yb := blk_put yb 2 (.string y.f2) (cs' := #[.int .i64 y.f0, .string y.f1, .string y.f2, .slice none 0 0, .string ⟨#[]⟩, .string ⟨#[]⟩, .bool false, .int .i64 0, .int .i64 0, .int .i64 0, .int .i64 0]) rfl
 have r := Kd.R_far (p := ⟨gY, 2, none⟩) r hok (.string y.f2)
 have h := show CS w x v (World.setCell _ ⟨gY, 3, none⟩ (u)) from ⟨(Below.heap_setCell _ ⟨gY, 3, none⟩ (u) (w.heap.size + 1) (by show w.heap.size + 1 ≠ gY; omega)).trans h.1, (Below.heap_setCell _ ⟨gY, 3, none⟩ (u) w.heap.size (by show w.heap.size ≠ gY; omega)).trans h.2.1, h.2.2.setCell (by show w.heap.size ≤ gY; omega) _⟩
 have yb := blk_put yb 3 (u) (cs' := #[.int .i64 y.f0, .string y.f1, .string y.f2, u, .string ⟨#[]⟩, .string ⟨#[]⟩, .bool false, .int .i64 0, .int .i64 0, .int .i64 0, .int .i64 0]) rfl
 have r := Kd.R_far (p := ⟨gY, 3, none⟩) r hok (u)
 have h := show CS w x v (World.setCell _ ⟨gY, 4, none⟩ (.string y.f4)) from ⟨(Below.heap_setCell _ ⟨gY, 4, none⟩ (.string y.f4) (w.heap.size + 1) (by show w.heap.size + 1 ≠ gY; omega)).trans h.1, (Below.heap_setCell _ ⟨gY, 4, none⟩ (.string y.f4) w.heap.size (by show w.heap.size ≠ gY; omega)).trans h.2.1, h.2.2.setCell (by show w.heap.size ≤ gY; omega) _⟩
 have yb := blk_put yb 4 (.string y.f4) (cs' := #[.int .i64 y.f0, .string y.f1, .string y.f2, u, .string y.f4, .string ⟨#[]⟩, .bool false, .int .i64 0, .int .i64 0, .int .i64 0, .int .i64 0]) rfl
 have r := Kd.R_far (p := ⟨gY, 4, none⟩) r hok (.string y.f4)
 have h := show CS w x v (World.setCell _ ⟨gY, 5, none⟩ (.string y.f5)) from ⟨(Below.heap_setCell _ ⟨gY, 5, none⟩ (.string y.f5) (w.heap.size + 1) (by show w.heap.size + 1 ≠ gY; omega)).trans h.1, (Below.heap_setCell _ ⟨gY, 5, none⟩ (.string y.f5) w.heap.size (by show w.heap.size ≠ gY; omega)).trans h.2.1, h.2.2.setCell (by show w.heap.size ≤ gY; omega) _⟩
 have yb := blk_put yb 5 (.string y.f5) (cs' := #[.int .i64 y.f0, .string y.f1, .string y.f2, u, .string y.f4, .string y.f5, .bool false, .int .i64 0, .int .i64 0, .int .i64 0, .int .i64 0]) rfl
 have r := Kd.R_far (p := ⟨gY, 5, none⟩) r hok (.string y.f5)
 have h := show CS w x v (World.setCell _ ⟨gY, 6, none⟩ (.bool y.f6)) from ⟨(Below.heap_setCell _ ⟨gY, 6, none⟩ (.bool y.f6) (w.heap.size + 1) (by show w.heap.size + 1 ≠ gY; omega)).trans h.1, (Below.heap_setCell _ ⟨gY, 6, none⟩ (.bool y.f6) w.heap.size (by show w.heap.size ≠ gY; omega)).trans h.2.1, h.2.2.setCell (by show w.heap.size ≤ gY; omega) _⟩
 have yb := blk_put yb 6 (.bool y.f6) (cs' := #[.int .i64 y.f0, .string y.f1, .string y.f2, u, .string y.f4, .string y.f5, .bool y.f6, .int .i64 0, .int .i64 0, .int .i64 0, .int .i64 0]) rfl
 have r := Kd.R_far (p := ⟨gY, 6, none⟩) r hok (.bool y.f6)
 have h := show CS w x v (World.setCell _ ⟨gY, 7, none⟩ (.int .i64 y.f7)) from ⟨(Below.heap_setCell _ ⟨gY, 7, none⟩ (.int .i64 y.f7) (w.heap.size + 1) (by show w.heap.size + 1 ≠ gY; omega)).trans h.1, (Below.heap_setCell _ ⟨gY, 7, none⟩ (.int .i64 y.f7) w.heap.size (by show w.heap.size ≠ gY; omega)).trans h.2.1, h.2.2.setCell (by show w.heap.size ≤ gY; omega) _⟩
 have yb := blk_put yb 7 (.int .i64 y.f7) (cs' := #[.int .i64 y.f0, .string y.f1, .string y.f2, u, .string y.f4, .string y.f5, .bool y.f6, .int .i64 y.f7, .int .i64 0, .int .i64 0, .int .i64 0]) rfl
 have r := Kd.R_far (p := ⟨gY, 7, none⟩) r hok (.int .i64 y.f7)
 have h := show CS w x v (World.setCell _ ⟨gY, 8, none⟩ (.int .i64 y.f8)) from ⟨(Below.heap_setCell _ ⟨gY, 8, none⟩ (.int .i64 y.f8) (w.heap.size + 1) (by show w.heap.size + 1 ≠ gY; omega)).trans h.1, (Below.heap_setCell _ ⟨gY, 8, none⟩ (.int .i64 y.f8) w.heap.size (by show w.heap.size ≠ gY; omega)).trans h.2.1, h.2.2.setCell (by show w.heap.size ≤ gY; omega) _⟩
 have yb := blk_put yb 8 (.int .i64 y.f8) (cs' := #[.int .i64 y.f0, .string y.f1, .string y.f2, u, .string y.f4, .string y.f5, .bool y.f6, .int .i64 y.f7, .int .i64 y.f8, .int .i64 0, .int .i64 0]) rfl
 have r := Kd.R_far (p := ⟨gY, 8, none⟩) r hok (.int .i64 y.f8)
 have h := show CS w x v (World.setCell _ ⟨gY, 9, none⟩ (.int .i64 y.f9)) from ⟨(Below.heap_setCell _ ⟨gY, 9, none⟩ (.int .i64 y.f9) (w.heap.size + 1) (by show w.heap.size + 1 ≠ gY; omega)).trans h.1, (Below.heap_setCell _ ⟨gY, 9, none⟩ (.int .i64 y.f9) w.heap.size (by show w.heap.size ≠ gY; omega)).trans h.2.1, h.2.2.setCell (by show w.heap.size ≤ gY; omega) _⟩
 have yb := blk_put yb 9 (.int .i64 y.f9) (cs' := #[.int .i64 y.f0, .string y.f1, .string y.f2, u, .string y.f4, .string y.f5, .bool y.f6, .int .i64 y.f7, .int .i64 y.f8, .int .i64 y.f9, .int .i64 0]) rfl
 have r := Kd.R_far (p := ⟨gY, 9, none⟩) r hok (.int .i64 y.f9)
 have h := show CS w x v (World.setCell _ ⟨gY, 10, none⟩ (.int .i64 y.f10)) from ⟨(Below.heap_setCell _ ⟨gY, 10, none⟩ (.int .i64 y.f10) (w.heap.size + 1) (by show w.heap.size + 1 ≠ gY; omega)).trans h.1, (Below.heap_setCell _ ⟨gY, 10, none⟩ (.int .i64 y.f10) w.heap.size (by show w.heap.size ≠ gY; omega)).trans h.2.1, h.2.2.setCell (by show w.heap.size ≤ gY; omega) _⟩
 have yb := blk_put yb 10 (.int .i64 y.f10) (cs' := #[.int .i64 y.f0, .string y.f1, .string y.f2, u, .string y.f4, .string y.f5, .bool y.f6, .int .i64 y.f7, .int .i64 y.f8, .int .i64 y.f9, .int .i64 y.f10]) rfl
 have r := Kd.R_far (p := ⟨gY, 10, none⟩) r hok (.int .i64 y.f10)
 exact ⟨h, yb, Kd.R_mono r (fun _ _ => trivial)⟩
theorem span_tot (x : S52) (hx : x.f3 = []) (l : List S46) : ∃ (y : S52), y.f3 = [] ∧ ((rundleref26_span.f x.f0 x.f1 x.f2 [] x.f4 x.f5 x.f6 x.f7 x.f8 x.f9 x.f10 l = some (y.f0, y.f1, y.f2, y.f3, y.f4, y.f5, y.f6, y.f7, y.f8, y.f9, y.f10, 3) ∧ spanR x l = some y) ∨
  (rundleref26_span.f x.f0 x.f1 x.f2 [] x.f4 x.f5 x.f6 x.f7 x.f8 x.f9 x.f10 l = some (y.f0, y.f1, y.f2, y.f3, y.f4, y.f5, y.f6, y.f7, y.f8, y.f9, y.f10, 0) ∧ spanR x l = none)) := by
 unfold rundleref26_span.f spanR
 dsimp only
 split
 ·
  rename_i a b c
  dsimp only
  by_cases h1 : a.f0 = 3 ∧ c.f0 = 1
  ·
   simp only [if_pos h1]
   by_cases h2 : b.f0 = 3
   ·
    simp only [if_pos h2]
    exact ⟨{ x with f4 := a.f2, f7 := c.f1, f5 := b.f2 }, hx, .inl ⟨by simp [hx], by first | rfl | trivial | simp⟩⟩
   ·
    simp only [if_neg h2]
    by_cases h3 : b.f0 = 2 ∧ b.f2.toList = [101, 110, 100]
    ·
     simp only [if_pos h3]
     exact ⟨{ x with f4 := a.f2, f7 := c.f1, f6 := true }, hx, .inl ⟨by simp [hx], by first | rfl | trivial | simp⟩⟩
    ·
     simp only [if_neg h3]
     exact ⟨{ x with f4 := a.f2, f7 := c.f1, f6 := true }, hx, .inr ⟨by simp [hx], by first | rfl | trivial | simp⟩⟩
  ·
   simp only [if_neg h1]
   exact ⟨x, hx, .inr ⟨by simp [hx], by first | rfl | trivial | simp⟩⟩
 ·
  exact ⟨x, hx, .inr ⟨by simp [hx], by first | rfl | trivial | simp⟩⟩
/-- What Call comes to. -/
def CallRPost (w : World) (l : List S46) (e : Ending) (w' : World) : Prop :=
 ∃ (n : Int) (x : S52) (v : Value), e = .returned (.tuple #[.agg (callV x v), .int .i64 n]) ∧ k93.R 93 w' w.heap.size (fun _ => True) v x.f3 ∧ Below w.heap.size w w' ∧ ((n = 1 ∧ callR l = some x) ∨ (n = 0 ∧ callR l = none))

end Go.Proofs.YtlkbeddlmbghkaaGreatDoor.PR
