/- model.entry, in the print's own form: what became of a key last, up to a version; and slices.Backward at the changes. -/
import Derived.RangeFuncNested
import Derived.RangeFuncBound
import Derived.RangeFuncCalls
import Derived.RangeFuncLeaves
import Derived.Shelf.Abstract
import Derived.Shelf.RegionOpen
import Derived.WalkKit
import Derived.OwnWalkIn
import Derived.TacticsInMore
import Derived.LoopNIn
import Derived.LoopIn
import Derived.Test.YtgnnhomipfjanaaMAdd
namespace Go.Proofs.Ytgnnhomipfjanaa.PM
open Go Go.Proofs Go.RowKit Go.Shelf Go.Proofs.YtgnnhomipfjanaaW.PrintWords Go.Proofs.YtgnnhomipfjanaaW.PrintLast Go.Proofs.YtgnnhomipfjanaaW.PrintMore
attribute [local go_sem] Oper.semAt_some

/-- A change as the iterator hands it over: its place, itself, where its entries lie. -/
abbrev El (w : World) := { p : Int × S112 × Option Addr × Nat // p.2.1.f1.length ≤ p.2.2.2 ∧ Kd.C k37 w p.2.2.1 p.2.1.f1.length p.2.1.f1 }
def encB {w : World} (x : El w) : Array Value := #[.int .i64 x.1.1, .agg #[.int .i64 x.1.2.1.f0, .slice x.1.2.2.1 x.1.2.1.f1.length x.1.2.2.2]]
theorem rev_take (l : List S112) (z : Int) (h0 : 0 ≤ z) (h1 : z < l.length) : l.reverse.take ((l.length : Int) - 1 - (z - 1)).toNat = l.reverse.take ((l.length : Int) - 1 - z).toNat ++ [rd_T112 l z] := by
  have e : ((l.length : Int) - 1 - (z - 1)).toNat = ((l.length : Int) - 1 - z).toNat + 1 := by omega
  have hlt : ((l.length : Int) - 1 - z).toNat < l.reverse.length := by rw [List.length_reverse]; omega
  rw [e, List.take_succ_eq_append_getElem hlt, List.getElem_reverse]
  congr 2
  unfold rd_T112
  have e2 : l.length - 1 - ((l.length : Int) - 1 - z).toNat = z.toNat := by omega
  have e3 : z.toNat < l.length := by omega
  simp [e2, e3]

set_option maxRecDepth 100000 in
set_option maxHeartbeats 4000000 in
theorem back1_in (F : Fence) (n : Nat) (h65 : F.fn 65) (hro : F.round = none) (hn : 1 ≤ n) (l Bs : Nat) (w : World) (hBs : Bs < w.heap.size) (A : Option Addr) (cap : Nat) (l0 : List S112) (hlen : l0.length < 1000000000000) (hr0 : Kd.C k112 w A l0.length l0)
    (hc : w.cell? ⟨Bs, 0, none⟩ = some (.slice A l0.length cap)) (J Jx : List (El w) → World → Prop)
    (hY : ∀ pre x W, J pre W → pre.length < l0.length → YieldAt F (n - 1) Try.prog l (encB x) W fun e W' => (e = .returned (.bool true) ∧ J (pre ++ [x]) W' ∧ Below w.heap.size W W') ∨ (e = .returned (.bool false) ∧ Jx (pre ++ [x]) W'))
    (W : World) (hW : Below w.heap.size w W) (h0 : J [] W) :
    CallsIn F n Try.prog 65 #[.func (.yield l) #[] #[], .pointer (some ⟨Bs, 0, none⟩)] W fun e W' => (∃ v, e = .returned v) ∧
      ((∃ ys : List (El w), ys.map (·.1.2.1) = l0.reverse ∧ J ys W') ∨ (∃ pre : List (El w), (∃ k, pre.map (·.1.2.1) = l0.reverse.take k) ∧ Jx pre W')) := by
  have HR0 := Aside0.mk hr0
  have HL := Aside0.mk hlen
  have HY := Aside0.mk hY
  have HW := Aside0.mk hW
  have hcW : W.cell? ⟨Bs, 0, none⟩ = some (.slice A l0.length cap) := (hW.cell (p := ⟨Bs, 0, none⟩) hBs).trans hc
  have hc0 := Aside0.mk hc
  have hB0 := Aside0.mk hBs
  have hlo : (0 : Int) ≤ (l0.length : Int) := by omega
  have hhi : (l0.length : Int) < 1000000000000 := by omega
  clear hr0 hlen hY hW hc hBs
  refine callsIn_of_wp Try.func65 rfl h65 ?_ hro
  simp only [Try.ntmps65, List.size_toArray, List.length_cons, List.length_nil, Nat.reduceAdd, Nat.reduceSub, Array.replicate_succ, Array.replicate_zero, List.push_toArray, List.append_toArray, List.nil_append, List.cons_append]
  gi_wp2
  gi_loopw [3] (fun i wr => ∃ z : Int, i = .int .i64 z ∧ -1 ≤ z ∧ z < l0.length ∧ Below w.heap.size w wr ∧ ∃ pre : List (El w), pre.map (·.1.2.1) = l0.reverse.take ((l0.length : Int) - 1 - z).toNat ∧ J pre wr)
    (fun i _ => ((intOf i) + 1).toNat)
  case atStart => exact ⟨(l0.length : Int) - 1, by first | rfl | simp, by omega, by omega, HW.out, [], by simp, h0⟩
  case round =>
    obtain ⟨z, rfl, hz0, hz1, hBr, pre, hpre, hJ⟩ := hrel
    have HBr := Aside0.mk hBr
    have HP := Aside0.mk hpre
    have hcr : wr.cell? ⟨Bs, 0, none⟩ = some (.slice A l0.length cap) := (hBr.cell (p := ⟨Bs, 0, none⟩) hB0.out).trans hc0.out
    clear hBr hpre hcW
    by_cases hz : 0 ≤ z
    · obtain ⟨ad, A1, c1, e, hx0, hx1, hlc, hC1⟩ := at_T112 HR0.out z hz hz1
      subst e
      have hplen : pre.length < l0.length := by
        have := congrArg List.length HP.out
        simp at this
        omega
      obtain ⟨fn, tmps, assign, body, hy, hR⟩ := HY.out pre ⟨(z, rd_T112 l0 z, A1, c1), hlc, hC1⟩ wr hJ hplen
      dsimp only [encB] at hy
      replace hx0 := (HBr.out.cell (World.block_lt_of_cell? w _ hx0)).trans hx0
      replace hx1 := (HBr.out.cell (World.block_lt_of_cell? w _ hx1)).trans hx1
      have RT := Aside0.mk (rev_take l0 z hz hz1)
      have hR' := Aside0.mk hR
      clear hR hplen
      gi_wp2
      refine hR'.out.mono ?_
      rintro e W3 (⟨rfl, hJ3, hk3⟩ | ⟨rfl, hJx3⟩)
      · have HK3 := Aside0.mk hk3
        have hcr3 : W3.cell? ⟨Bs, 0, none⟩ = some (.slice (some ad) l0.length cap) := (hk3.cell (p := ⟨Bs, 0, none⟩) hB0.out).trans hcr
        clear hk3 hcr hx0 hx1
        gi_wp2
        go_roundw
        case rel => exact ⟨z - 1, by first | rfl | simp, by omega, by omega, HBr.out.trans HK3.out, pre ++ [⟨(z, rd_T112 l0 z, A1, c1), hlc, hC1⟩], by rw [List.map_append, HP.out, RT.out]; rfl, hJ3⟩
        case measure => simp [intOf]; omega
      · clear hcr hx0 hx1
        gi_wp2
        refine bodyPost_ret (results_none rfl _ _ _) rfl ?_
        exact ⟨⟨_, rfl⟩, .inr ⟨_, ⟨((l0.length : Int) - 1 - (z - 1)).toNat, by rw [List.map_append, HP.out, RT.out]; rfl⟩, hJx3⟩⟩
    · gi_wp2
      go_end0
      have : z = -1 := by omega
      subst this
      have hp := HP.out
      rw [List.take_of_length_le (by simp)] at hp
      exact ⟨⟨_, rfl⟩, .inl ⟨pre, hp, hJ⟩⟩

set_option maxHeartbeats 1000000 in
theorem back_in (F : Fence) (n : Nat) (h58 : F.fn 58) (hro : F.round = none) (a : Option Addr) (len cap : Nat) (w : World) :
    CallsIn F n Try.prog 58 #[.slice a len cap] w fun e w' => e = .returned (.func (.func 65) #[] #[.pointer (some ⟨w.heap.size, 0, none⟩)]) ∧ w' = w.alloc (.cells #[.slice a len cap] 55) := by
  refine callsIn_of_wp Try.func58 rfl h58 ?_ hro
  simp only [Try.ntmps58, List.size_toArray, List.length_cons, List.length_nil, Nat.reduceAdd, Nat.reduceSub, Array.replicate_succ, Array.replicate_zero, List.push_toArray, List.append_toArray, List.nil_append, List.cons_append]
  gi_wp2
  go_ret
  exact ⟨rfl, rfl⟩

theorem back_stops (F : Fence) (n : Nat) (h65 : F.fn 65) (hro : F.round = none) (hn : 1 ≤ n) (Bs : Nat) (w : World) (hBs : Bs < w.heap.size) (A : Option Addr) (cap : Nat) (l0 : List S112) (hlen : l0.length < 1000000000000) (hr0 : Kd.C k112 w A l0.length l0)
    (hc : w.cell? ⟨Bs, 0, none⟩ = some (.slice A l0.length cap)) :
    SeqStopsK F n Try.prog 65 #[.pointer (some ⟨Bs, 0, none⟩)] (encB (w := w)) (Below w.heap.size) (fun ys => ys.map (·.1.2.1) = l0.reverse) (fun pre => ∃ k, pre.map (·.1.2.1) = l0.reverse.take k) l0.length w := fun l J Jx W hW _ _ hY h0 =>
  back1_in F n h65 hro hn l Bs w hBs A cap l0 hlen hr0 hc J Jx hY W hW h0

def lookE (es : List S37) (k : ByteArray) : Option S37 := es.find? (fun x => x.f0.toList == k.toList)
/-- What a change says of a key, at a version. -/
def hitE (v : Int) (k : ByteArray) (c : S112) : Option S37 := if v < c.f0 then none else lookE c.f1 k
/-- What became of a key last, up to a version. -/
def entryE (ms : List S112) (v : Int) (k : ByteArray) : Option S37 := ms.reverse.findSome? (hitE v k)
def entryR : Option S37 → ByteArray × ByteArray × Bool × Bool
  | some x => (x.f0, x.f1, x.f2, !x.f2)
  | none => (⟨#[]⟩, ⟨#[]⟩, false, false)
def model_entry.f (l0 : List S112) (a1 : Int) (a2 : ByteArray) : Option (ByteArray × ByteArray × Bool × Bool) := if l0.length < 1000000000000 then some (entryR (entryE l0 a1 a2)) else none

def EI (a1 : Int) (a2 : ByteArray) (W0 : World) (pre : List (El W0)) (W : World) : Prop := (pre.map (·.1.2.1)).findSome? (hitE a1 a2) = none ∧ Below W0.heap.size W0 W
def EX (a1 : Int) (a2 : ByteArray) (w W0 : World) (cd : Code) (pre : List (El W0)) (W : World) : Prop := cd = .ret ∧ ∃ x, (pre.map (·.1.2.1)).findSome? (hitE a1 a2) = some x ∧ (W.heap[w.heap.size + 1 + 1 + 1]? = some (.cells #[.string x.f0, .string x.f1, .bool x.f2] 37 (0, 0)) ∧ W.heap[w.heap.size + 1 + 1 + 1 + 1]? = some (.cells #[.bool (!x.f2)] 4 (0, 0))) ∧ Below w.heap.size w W
theorem EI_own (a1 : Int) (a2 : ByteArray) (W0 : World) : OwnFrom W0.heap.size (EI a1 a2 W0) := OwnFrom.and (ownFrom_pure _ _) (ownFrom_below (Nat.le_refl _) (Nat.le_refl _))
theorem findSome_snoc {α β : Type} (f : α → Option β) (l : List α) (x : α) (h : l.findSome? f = none) : (l ++ [x]).findSome? f = f x := by
  rw [List.findSome?_append, h]; simp [List.findSome?]; cases f x <;> rfl
theorem EI_step {a1 : Int} {a2 : ByteArray} {W0 W' : World} {pre : List (El W0)} {x : El W0} {X : S112} (h : (pre.map (·.1.2.1)).findSome? (hitE a1 a2) = none) (hx : x.1.2.1 = X) (hh : hitE a1 a2 X = none) (hb : Below W0.heap.size W0 W') : EI a1 a2 W0 (pre ++ [x]) W' :=
  ⟨by rw [List.map_append]; exact (findSome_snoc _ _ _ h).trans (by show hitE a1 a2 x.1.2.1 = none; rw [hx]; exact hh), hb⟩
theorem EX_step {a1 : Int} {a2 : ByteArray} {w W0 W' : World} {pre : List (El W0)} {x : El W0} {X : S112} {y : S37} (h : (pre.map (·.1.2.1)).findSome? (hitE a1 a2) = none) (hx : x.1.2.1 = X) (hh : hitE a1 a2 X = some y)
    (h3 : W'.heap[w.heap.size + 1 + 1 + 1]? = some (.cells #[.string y.f0, .string y.f1, .bool y.f2] 37 (0, 0))) (h4 : W'.heap[w.heap.size + 1 + 1 + 1 + 1]? = some (.cells #[.bool (!y.f2)] 4 (0, 0))) (hb : Below w.heap.size w W') : EX a1 a2 w W0 .ret (pre ++ [x]) W' :=
  ⟨rfl, y, by rw [List.map_append]; exact (findSome_snoc _ _ _ h).trans (by show hitE a1 a2 x.1.2.1 = some y; rw [hx]; exact hh), ⟨h3, h4⟩, hb⟩
theorem kf_below {W W' : World} (B : Nat) (h : Below W.heap.size W W') : KeepsFrom B W W' := ⟨h.size, fun _ _ _ hk _ => blk_below hk h⟩

theorem rd37_get (l : List S37) {j : Nat} (h : j < l.length) : rd_T37 l (j : Int) = l[j] := by unfold rd_T37; simp [h]
theorem look_snoc {l : List S37} {j : Nat} {k : ByteArray} {Y : S37} (h : lookE (l.take j) k = none) (hj : j < l.length) (hY : rd_T37 l (j : Int) = Y) (he : (Y.f0.toList == k.toList) = false) : lookE (l.take (j + 1)) k = none := by
  rw [rd37_get l hj] at hY
  rw [List.take_succ_eq_append_getElem hj, hY]
  unfold lookE at *
  rw [List.find?_append, h]
  simp [he]
theorem look_hit {l : List S37} {j : Nat} {k : ByteArray} {Y : S37} (h : lookE (l.take j) k = none) (hj : j < l.length) (hY : rd_T37 l (j : Int) = Y) (he : (Y.f0.toList == k.toList) = true) : lookE l k = some Y := by
  rw [rd37_get l hj] at hY
  have e : l = l.take j ++ (Y :: l.drop (j + 1)) := by rw [← hY, ← List.drop_eq_getElem_cons hj, List.take_append_drop]
  rw [e]
  unfold lookE at *
  rw [List.find?_append, h]
  simp [he]

def hitWorld (wr : World) (b : Nat) (Y : S37) : World := (((((wr.setCell { block := b + 1 + 1 + 1, off := 0 } (Value.string Y.f0)).setCell { block := b + 1 + 1 + 1, off := 1 } (Value.string Y.f1)).setCell { block := b + 1 + 1 + 1, off := 2 } (Value.bool Y.f2)).setCell
            { block := b + 1 + 1 + 1 + 1, off := 0 } (Value.bool !Y.f2)).alloc (Obj.cells #[Value.string Y.f0, Value.string Y.f1, Value.bool Y.f2] 37)).drew
theorem hitW {wr : World} {b : Nat} (Y : S37) {e0 e1 e2 e3 : Value} (h3 : wr.heap[b + 1 + 1 + 1]? = some (.cells #[e0, e1, e2] 37 (0, 0))) (h4 : wr.heap[b + 1 + 1 + 1 + 1]? = some (.cells #[e3] 4 (0, 0))) :
    (hitWorld wr b Y).heap[b + 1 + 1 + 1]? = some (.cells #[.string Y.f0, .string Y.f1, .bool Y.f2] 37 (0, 0)) ∧ (hitWorld wr b Y).heap[b + 1 + 1 + 1 + 1]? = some (.cells #[.bool (!Y.f2)] 4 (0, 0)) ∧ KeepsOthers wr (hitWorld wr b Y) ∧
      ∀ (n0 : Nat) (w0 : World), Below n0 w0 wr → n0 ≤ b + 1 → b + 1 + 1 + 1 + 1 < wr.heap.size → Below n0 w0 (hitWorld wr b Y) := by
  unfold hitWorld
  refine ⟨?_, ?_, ?_, ?_⟩
  · exact blk_drew (blk_alloc (blk_far (blk_put (blk_put (blk_put h3 0 _ rfl) 1 _ rfl) 2 _ rfl) (p := ⟨b + 1 + 1 + 1 + 1, 0, none⟩) (by simp) _) _)
  · exact blk_drew (blk_alloc (blk_put (blk_far (blk_far (blk_far h4 (p := ⟨b + 1 + 1 + 1, 0, none⟩) (by simp) _) (p := ⟨b + 1 + 1 + 1, 1, none⟩) (by simp) _) (p := ⟨b + 1 + 1 + 1, 2, none⟩) (by simp) _) 0 _ rfl) _)
  · exact ((((((KeepsOthers.setCell _ _ _).trans (KeepsOthers.setCell _ _ _)).trans (KeepsOthers.setCell _ _ _)).trans (KeepsOthers.setCell _ _ _)).trans (KeepsOthers.alloc _ _)).trans (KeepsOthers.drew _))
  · intro n0 w0 hb h1 h2
    refine (((((hb.setCell (p := ⟨b + 1 + 1 + 1, 0, none⟩) (by simp; omega) _).setCell (p := ⟨b + 1 + 1 + 1, 1, none⟩) (by simp; omega) _).setCell (p := ⟨b + 1 + 1 + 1, 2, none⟩) (by simp; omega) _).setCell (p := ⟨b + 1 + 1 + 1 + 1, 0, none⟩) (by simp; omega) _).alloc ?_ _).drew
    simp [World.setCell]
    omega
theorem results50 (tmps : Array Value) (W : World) (g h : Nat) (x : S37) (d : Bool) (hp6 : tmps.getD 6 undef = .pointer (some ⟨g, 0, none⟩)) (hp7 : tmps.getD 7 undef = .pointer (some ⟨h, 0, none⟩))
    (h3 : W.heap[g]? = some (.cells #[.string x.f0, .string x.f1, .bool x.f2] 37 (0, 0))) (h4 : W.heap[h]? = some (.cells #[.bool d] 4 (0, 0))) :
    (results Try.f50 tmps).run Try.prog W = .ok (.tuple #[.agg #[.string x.f0, .string x.f1, .bool x.f2], .bool d]) W := by
  have h1 : tmps[6]?.getD undef = .pointer (some ⟨g, 0, none⟩) := by simpa using hp6
  have h2 : tmps[7]?.getD undef = .pointer (some ⟨h, 0, none⟩) := by simpa using hp7
  have c4 := cell_of_heap (o := 0) h4 rfl
  have c0 := cell_of_heap (o := 0) h3 rfl
  have c1 := cell_of_heap (o := 1) h3 rfl
  have c2 := cell_of_heap (o := 2) h3 rfl
  simp [results, Try.f50, h1, h2, go_sem, c0, c1, c2, c4]
theorem find_take {α β : Type} {f : α → Option β} {l : List α} {k : Nat} {y : β} (h : (l.take k).findSome? f = some y) : l.findSome? f = some y := by
  rw [← List.take_append_drop k l, List.findSome?_append, h]; rfl

set_option maxRecDepth 100000 in
set_option maxHeartbeats 4000000 in
theorem entry_calls (A : Option Addr) (c : Nat) (l0 : List S112) (a1 : Int) (a2 : ByteArray) (w : World) (hr0 : Kd.C k112 w A l0.length l0) (hl : l0.length < 1000000000000) :
    Calls Try.prog 50 #[.agg #[.slice A l0.length c], .int .i64 a1, .string a2] w fun e w' => e = .returned (.tuple #[.agg #[.string (entryR (entryE l0 a1 a2)).1, .string (entryR (entryE l0 a1 a2)).2.1, .bool (entryR (entryE l0 a1 a2)).2.2.1], .bool (entryR (entryE l0 a1 a2)).2.2.2]) ∧ Below w.heap.size w w' := by
  have HR0 := Aside0.mk hr0
  have HL := Aside0.mk hl
  clear hr0 hl
  have hu57 := Try.underlying57
  have hu112 := Try.underlying112
  have hu37 := Try.underlying37
  refine (callsIn_wide (n := 6)).1 ?_
  refine callsIn_of_wp_marks Try.func50 rfl trivial ?_ rfl
  simp only [Try.ntmps50, List.size_toArray, List.length_cons, List.length_nil, Nat.reduceAdd, Nat.reduceSub, Array.replicate_succ, Array.replicate_zero, List.push_toArray, List.append_toArray, List.nil_append, List.cons_append]
  have cB : ∀ a len cap W, CallsIn Fence.wide 5 Try.prog 58 #[.slice a len cap] W fun e w' => e = .returned (.func (.func 65) #[] #[.pointer (some ⟨W.heap.size, 0, none⟩)]) ∧ w' = W.alloc (.cells #[.slice a len cap] 55) := fun a len cap W => back_in Fence.wide 5 trivial rfl a len cap W
  have hf58 : Fence.wide.fn 58 := trivial
  gi_wp2_with (gi_at_call 58; refine (cB _ _ _ _).mono ?_; rintro e w' ⟨rfl, rfl⟩)
  generalize hW0 : ((((((w.alloc (Obj.cells #[Value.slice A l0.length c] 57)).alloc (Obj.cells #[Value.int IntKind.i64 a1] 3)).alloc
                  (Obj.cells #[Value.string a2] 9)).alloc
              (Obj.cells #[Value.string { data := #[] }, Value.string { data := #[] }, Value.bool false] 37)).alloc
          (Obj.cells #[Value.bool false] 4)).alloc
      (Obj.cells #[Value.slice A l0.length c] 55)) = W0
  have hB0 : Below w.heap.size w W0 := by rw [← hW0]; repeat (first | exact Below.refl _ _ | apply below_alloc)
  have hsz : W0.heap.size = w.heap.size + 6 := by rw [← hW0]; simp only [World.size_alloc]
  have b1 : W0.heap[w.heap.size + 1]? = some (.cells #[Value.int IntKind.i64 a1] 3 (0, 0)) := by
    rw [← hW0]; refine blk_alloc (blk_alloc (blk_alloc (blk_alloc ?_ _) _) _) _
    exact two_heap w _ _
  have b2 : W0.heap[w.heap.size + 1 + 1]? = some (.cells #[Value.string a2] 9 (0, 0)) := by
    rw [← hW0]; refine blk_alloc (blk_alloc (blk_alloc ?_ _) _) _
    have := two_heap (w.alloc (Obj.cells #[Value.slice A l0.length c] 57)) (Obj.cells #[Value.int IntKind.i64 a1] 3) (Obj.cells #[Value.string a2] 9)
    rwa [World.size_alloc] at this
  have b3 : W0.heap[w.heap.size + 1 + 1 + 1]? = some (.cells #[Value.string { data := #[] }, Value.string { data := #[] }, Value.bool false] 37 (0, 0)) := by
    rw [← hW0]; refine blk_alloc (blk_alloc ?_ _) _
    have := two_heap ((w.alloc (Obj.cells #[Value.slice A l0.length c] 57)).alloc (Obj.cells #[Value.int IntKind.i64 a1] 3)) (Obj.cells #[Value.string a2] 9) (Obj.cells #[Value.string { data := #[] }, Value.string { data := #[] }, Value.bool false] 37)
    rwa [World.size_alloc, World.size_alloc] at this
  have b4 : W0.heap[w.heap.size + 1 + 1 + 1 + 1]? = some (.cells #[Value.bool false] 4 (0, 0)) := by
    rw [← hW0]; refine blk_alloc ?_ _
    have := two_heap (((w.alloc (Obj.cells #[Value.slice A l0.length c] 57)).alloc (Obj.cells #[Value.int IntKind.i64 a1] 3)).alloc (Obj.cells #[Value.string a2] 9)) (Obj.cells #[Value.string { data := #[] }, Value.string { data := #[] }, Value.bool false] 37) (Obj.cells #[Value.bool false] 4)
    rwa [World.size_alloc, World.size_alloc, World.size_alloc] at this
  have b5 : W0.heap[w.heap.size + 1 + 1 + 1 + 1 + 1]? = some (.cells #[Value.slice A l0.length c] 55 (0, 0)) := by
    rw [← hW0]
    have := two_heap ((((w.alloc (Obj.cells #[Value.slice A l0.length c] 57)).alloc (Obj.cells #[Value.int IntKind.i64 a1] 3)).alloc (Obj.cells #[Value.string a2] 9)).alloc (Obj.cells #[Value.string { data := #[] }, Value.string { data := #[] }, Value.bool false] 37)) (Obj.cells #[Value.bool false] 4) (Obj.cells #[Value.slice A l0.length c] 55)
    rwa [World.size_alloc, World.size_alloc, World.size_alloc, World.size_alloc] at this
  clear hW0
  have HB0 := Aside0.mk hB0
  have HSZ := Aside0.mk hsz
  have B1 := Aside0.mk b1
  have B2 := Aside0.mk b2
  have B3 := Aside0.mk b3
  have B4 := Aside0.mk b4
  have hseq := back_stops Fence.wide 5 trivial rfl (by omega) (w.heap.size + 1 + 1 + 1 + 1 + 1) W0 (by omega) A c l0 HL.out (Kd.C_below HR0.out hB0) (cell_of_heap b5 rfl)
  have hown : OwnFrom W0.heap.size (fun (_ : List (El W0)) W => Below W0.heap.size W0 W) := ownFrom_below (Nat.le_refl _) (Nat.le_refl _)
  clear b1 b2 b3 b4 b5 hB0 hsz
  refine wpIn_rangeFunc_ownH rfl (by omega) (gf := 65) (lb := #[.pointer (some ⟨w.heap.size + 1 + 1 + 1 + 1 + 1, 0, none⟩)]) rfl trivial (enters_of Try.func65 (by kernel_rfl) rfl)
    hseq belowK_t (belowK_b (Nat.le_refl _)) (Below.refl _ _) (fun _ => rfl)
    (EI a1 a2 W0) (EX a1 a2 w W0) (EI_own _ _ _) ?ownx ⟨rfl, Below.refl _ _⟩
    (fun x a' W => ∃ Bx, W0.heap.size ≤ Bx ∧ W.heap[Bx]? = some (.cells #[.int .i64 x.1.2.1.f0, .slice x.1.2.2.1 x.1.2.1.f1.length x.1.2.2.2] 112 (0, 0)) ∧ a' = { tmps := #[Value.agg #[Value.slice A l0.length c], Value.int IntKind.i64 a1, Value.string a2, .pointer (some ⟨w.heap.size, 0, none⟩), .pointer (some ⟨w.heap.size + 1, 0, none⟩), .pointer (some ⟨w.heap.size + 1 + 1, 0, none⟩), .pointer (some ⟨w.heap.size + 1 + 1 + 1, 0, none⟩), .pointer (some ⟨w.heap.size + 1 + 1 + 1 + 1, 0, none⟩), undef, .pointer (some ⟨Bx, 0, none⟩), undef, undef, .pointer (some ⟨w.heap.size, 0, none⟩), Value.slice A l0.length c, .func (Fn.func 65) #[] #[.pointer (some ⟨w.heap.size + 1 + 1 + 1 + 1 + 1, 0, none⟩)], .int .i64 x.1.1, .agg #[.int .i64 x.1.2.1.f0, .slice x.1.2.2.1 x.1.2.1.f1.length x.1.2.2.2], undef, undef, undef, undef, undef, undef, undef, undef, undef, undef, undef, undef, undef, undef, undef, undef, undef, undef, undef, undef, undef], defers := [] }) ?ownax ?assign ?body ?done ?stop
  case ownx =>
    intro cd s A' B' row hs hg hr
    obtain ⟨rfl, x, hx, ⟨h3, h4⟩, hb⟩ := hs
    have hsz := HSZ.out
    exact ⟨rfl, x, hx, ⟨(hg.block _ (blk_lt h3) (fun e => by have := (hr _ e.symm).1; omega)).trans h3, (hg.block _ (blk_lt h4) (fun e => by have := (hr _ e.symm).1; omega)).trans h4⟩, hb.grown hg hb.size (fun k e => by have := (hr _ e).1; omega)⟩
  case ownax =>
    intro x a' s A' B' row hs hg hr
    obtain ⟨Bx, hBx, hh, ha⟩ := hs
    exact ⟨Bx, hBx, (hg.block _ (blk_lt hh) (fun e => by obtain ⟨_, o, ho, hc⟩ := hr _ e.symm; rw [hh] at ho; cases ho; simp [Obj.isCells] at hc)).trans hh, ha⟩
  case assign =>
    rintro l pre x W K ⟨hn, hB⟩ hK
    dsimp only [encB]
    gi_wp2
    exact hK _ _ ((KeepsOthers.alloc _ _).from _) ((Below.refl _ W).alloc hB.size _) ⟨hn, hB.alloc hB.size _⟩ ⟨W.heap.size, hB.size, blk_new _ _, rfl⟩
  case body =>
    rintro l pre x a' W hl hrec ⟨hn, hB⟩ ⟨Bx, hBx, bX, rfl⟩ hlt
    obtain ⟨hlc, hC1⟩ := x.2
    generalize hXe : x.1.2.1 = X at hlc hC1 bX ⊢
    generalize x.1.2.2.1 = A1 at hlc hC1 bX ⊢
    generalize x.1.2.2.2 = c1 at hlc hC1 bX ⊢
    generalize x.1.1 = z at ⊢
    have HXE := Aside0.mk hXe
    clear hXe
    have HN := Aside0.mk hn
    have HBW := Aside0.mk hB
    have HC1 := Aside0.mk hC1
    have hq1 := cell_of_heap (o := 0) (blk_below B1.out hB) rfl
    have hq2 := cell_of_heap (o := 0) (blk_below B2.out hB) rfl
    have hx0 := cell_of_heap (o := 0) bX rfl
    have hx1 := cell_of_heap (o := 1) bX rfl
    have HX := Aside0.mk bX
    have HLC := Aside0.mk hlc
    have hmx : (X.f1.length : Int) ≤ 9223372036854775807 := by have := hC1.2.1; omega
    clear hn hB hC1 bX hrec hlt hlc
    by_cases hv : a1 < X.f0
    · have HV := Aside0.mk hv
      gi_wp2
      exact ⟨KeepsFrom.refl _ _, Below.refl _ _, EI_step HN.out HXE.out (by unfold hitE; rw [if_pos HV.out]) HBW.out⟩
    · have HV : Aside0 (¬ a1 < X.f0) := ⟨hv⟩
      gi_wp2
      gi_loopw [24] (fun i wr => ∃ j : Nat, i = .int .i64 j ∧ j ≤ X.f1.length ∧ lookE (X.f1.take j) a2 = none ∧ Below W.heap.size W wr) (fun i _ => X.f1.length - (intOf i).toNat)
      case atStart => exact ⟨0, rfl, Nat.zero_le _, rfl, Below.refl _ _⟩
      case round =>
        obtain ⟨j, rfl, hj, hlk, hBr⟩ := hrel
        have HLK := Aside0.mk hlk
        have HBr := Aside0.mk hBr
        clear hlk
        have hq1r := (hBr.cell (World.block_lt_of_cell? W _ hq1)).trans hq1
        have hq2r := (hBr.cell (World.block_lt_of_cell? W _ hq2)).trans hq2
        clear hBr hq1 hq2 hx0 hx1
        by_cases hjl : j < X.f1.length
        · obtain ⟨ad, e, hy0, hy1, hy2⟩ := at_T37 HC1.out (j : Int) (by omega) (by omega)
          subst e
          simp only [Int.toNat_natCast] at hy0 hy1 hy2
          have hBwr := HBW.out.trans (HBr.out.mono HBW.out.size)
          replace hy0 := (hBwr.cell (World.block_lt_of_cell? W0 _ hy0)).trans hy0
          replace hy1 := (hBwr.cell (World.block_lt_of_cell? W0 _ hy1)).trans hy1
          replace hy2 := (hBwr.cell (World.block_lt_of_cell? W0 _ hy2)).trans hy2
          generalize hye : rd_T37 X.f1 (j : Int) = Y at hy0 hy1 hy2
          have HYE := Aside0.mk hye
          have HBwr := Aside0.mk hBwr
          clear hye hBwr
          have hzr : w.heap.size + 6 ≤ wr.heap.size := by have := HBwr.out.size; have := HSZ.out; omega
          have z2 : w.heap.size + 1 + 1 < wr.heap.size := by omega
          have z3 : w.heap.size + 1 + 1 + 1 < wr.heap.size := by omega
          have z4 : w.heap.size + 1 + 1 + 1 + 1 < wr.heap.size := by omega
          have k3 := blk_below B3.out HBwr.out
          have k4 := blk_below B4.out HBwr.out
          have K3 := Aside0.mk k3
          have K4 := Aside0.mk k4
          have c30 := cell_of_heap (o := 0) k3 rfl
          have c31 := cell_of_heap (o := 1) k3 rfl
          have c32 := cell_of_heap (o := 2) k3 rfl
          have c40 := cell_of_heap (o := 0) k4 rfl
          have f30 := frozen_of_heap (o := 0) k3
          have f31 := frozen_of_heap (o := 1) k3
          have f32 := frozen_of_heap (o := 2) k3
          have f40 := frozen_of_heap (o := 0) k4
          have ne3 : wr.heap.size ≠ w.heap.size + 1 + 1 + 1 := by omega
          have ne4 : wr.heap.size ≠ w.heap.size + 1 + 1 + 1 + 1 := by omega
          have ne2 : wr.heap.size ≠ w.heap.size + 1 + 1 := by omega
          clear k3 k4 hzr
          by_cases he : (Y.f0.toList == a2.toList) = true
          · have HE := Aside0.mk he
            gi_wp2
            have hh : Aside0 (hitE a1 a2 X = some Y) := ⟨by unfold hitE; rw [if_neg (show ¬ a1 < X.f0 by have := HV.out; omega)]; exact look_hit HLK.out hjl HYE.out HE.out⟩
            gi_region
            all_goals gi_wp2
            all_goals
              obtain ⟨q3, q4, qk, qb⟩ := hitW (b := w.heap.size) Y K3.out K4.out
              exact ⟨(kf_below _ HBr.out).trans (qk.from _), EX_step HN.out HXE.out hh.out q3 q4 (qb _ _ (HB0.out.trans (HBwr.out.mono HB0.out.size)) (by omega) (by have := z4; omega))⟩
          · have he' := Bool.eq_false_iff.2 he
            have HE := Aside0.mk he'
            clear he
            gi_wp2
            go_roundw
            case rel => exact ⟨j + 1, by first | rfl | simp, by omega, look_snoc HLK.out hjl HYE.out HE.out, HBr.out.alloc HBr.out.size _⟩
            case measure => simp [intOf]; omega
        · obtain rfl : j = X.f1.length := by omega
          gi_wp2
          have hh : hitE a1 a2 X = none := by unfold hitE; rw [if_neg (show ¬ a1 < X.f0 by have := HV.out; omega)]; have := HLK.out; rwa [List.take_length] at this
          exact ⟨kf_below _ HBr.out, HBr.out.mono HBW.out.size, EI_step HN.out HXE.out hh (HBW.out.trans (HBr.out.mono HBW.out.size))⟩
  case done =>
    rintro D ys W hD hS ⟨hn, hB⟩ hK
    have HN : Aside0 (entryE l0 a1 a2 = none) := ⟨by unfold entryE; rw [← hS]; exact hn⟩
    have HBW := Aside0.mk hB
    have HK := Aside0.mk hK
    have HD := Aside0.mk hD
    have k3 := blk_below B3.out hB
    have k4 := blk_below B4.out hB
    have K3 := Aside0.mk k3
    have K4 := Aside0.mk k4
    have c30 := cell_of_heap (o := 0) k3 rfl
    have c31 := cell_of_heap (o := 1) k3 rfl
    have c32 := cell_of_heap (o := 2) k3 rfl
    have c40 := cell_of_heap (o := 0) k4 rfl
    have f30 := frozen_of_heap (o := 0) k3
    have f31 := frozen_of_heap (o := 1) k3
    have f32 := frozen_of_heap (o := 2) k3
    have f40 := frozen_of_heap (o := 0) k4
    clear k3 k4 hn hB hS hK hD
    gi_wp2
    have hK' := ((((KeepsOthers.setCell W ⟨w.heap.size + 1 + 1 + 1, 0, none⟩ (.string ⟨#[]⟩)).trans (KeepsOthers.setCell _ ⟨w.heap.size + 1 + 1 + 1, 1, none⟩ (.string ⟨#[]⟩))).trans (KeepsOthers.setCell _ ⟨w.heap.size + 1 + 1 + 1, 2, none⟩ (.bool false))).trans (KeepsOthers.setCell _ ⟨w.heap.size + 1 + 1 + 1 + 1, 0, none⟩ (.bool false))).same D _ HK.out rfl
    have e3 := blk_far (blk_put (blk_put (blk_put K3.out 0 (.string ⟨#[]⟩) rfl) 1 (.string ⟨#[]⟩) rfl) 2 (.bool false) rfl) (p := ⟨w.heap.size + 1 + 1 + 1 + 1, 0, none⟩) (by simp) (.bool false)
    have e4 := blk_put (blk_far (blk_far (blk_far K4.out (p := ⟨w.heap.size + 1 + 1 + 1, 0, none⟩) (by simp) (.string ⟨#[]⟩)) (p := ⟨w.heap.size + 1 + 1 + 1, 1, none⟩) (by simp) (.string ⟨#[]⟩)) (p := ⟨w.heap.size + 1 + 1 + 1, 2, none⟩) (by simp) (.bool false)) 0 (.bool false) rfl
    have hsz := HSZ.out
    have hD := HD.out
    have hbw := HB0.out.trans (HBW.out.mono HB0.out.size)
    have hbs := HBW.out.size
    refine ⟨by simp, .inl ⟨_, _, rfl, run_takeDeferred hK', ?_⟩⟩
    refine ⟨_, results50 _ _ (w.heap.size + 1 + 1 + 1) (w.heap.size + 1 + 1 + 1 + 1) z37 false rfl rfl ((World.putObj_heap_other (by omega)).trans e3) ((World.putObj_heap_other (by omega)).trans e4), by rw [HN.out]; rfl, ?_⟩
    refine Below.trans ((((hbw.setCell (p := ⟨w.heap.size + 1 + 1 + 1, 0, none⟩) (by simp; omega) (.string ⟨#[]⟩)).setCell (p := ⟨w.heap.size + 1 + 1 + 1, 1, none⟩) (by simp; omega) (.string ⟨#[]⟩)).setCell (p := ⟨w.heap.size + 1 + 1 + 1, 2, none⟩) (by simp; omega) (.bool false)).setCell (p := ⟨w.heap.size + 1 + 1 + 1 + 1, 0, none⟩) (by simp; omega) (.bool false)) ?_
    exact belowK_b (w := w) (Nat.le_refl _) _ D _ _ (by omega) hK' rfl rfl
  case stop =>
    rintro D cd pre W hD ⟨k, hk⟩ ⟨rfl, x, hx, ⟨h3, h4⟩, hb⟩ hK
    have HX : Aside0 (entryE l0 a1 a2 = some x) := ⟨by unfold entryE; rw [hk] at hx; exact find_take hx⟩
    have HK := Aside0.mk hK
    have HD := Aside0.mk hD
    have H3 := Aside0.mk h3
    have H4 := Aside0.mk h4
    have HB := Aside0.mk hb
    clear hK hD h3 h4 hb hx hk
    gi_wp2
    have hsz := HSZ.out
    have hD := HD.out
    refine ⟨by simp, .inl ⟨_, _, rfl, run_takeDeferred HK.out, ?_⟩⟩
    refine ⟨_, results50 _ _ (w.heap.size + 1 + 1 + 1) (w.heap.size + 1 + 1 + 1 + 1) x (!x.f2) rfl rfl ((World.putObj_heap_other (by omega)).trans H3.out) ((World.putObj_heap_other (by omega)).trans H4.out), by rw [HX.out]; rfl, ?_⟩
    exact HB.out.trans (belowK_b (w := w) (Nat.le_refl _) _ D _ _ (by omega) HK.out rfl rfl)

theorem model_entry.calls (A : Option Addr) (c : Nat) (l0 : List S112) (a1 : Int) (a2 r1 r2 : ByteArray) (r3 r4 : Bool) (w : World) (hr0 : Kd.C k112 w A l0.length l0) (_hc0 : l0.length ≤ c) (h : model_entry.f l0 a1 a2 = some (r1, r2, r3, r4)) :
    Calls Try.prog 50 #[.agg #[.slice A l0.length c], .int .i64 a1, .string a2] w fun e w' => e = .returned (.tuple #[.agg #[.string r1, .string r2, .bool r3], .bool r4]) ∧ Below w.heap.size w w' := by
  unfold model_entry.f at h
  by_cases hl : l0.length < 1000000000000
  · rw [if_pos hl] at h
    have hE := Option.some.inj h
    have C := entry_calls A c l0 a1 a2 w hr0 hl
    rw [hE] at C
    exact C
  · rw [if_neg hl] at h; cases h
end Go.Proofs.Ytgnnhomipfjanaa.PM
