/- What lex.Lines tells of any text: few lines, few words, none of them nil; it ends. -/
import Derived.Test.YtlkbeddlmbghkaaGreatDoorLx
import Derived.Test.YtlkbeddlmbghkaaGreatDoorRPu
import Derived.Test.YtlkbeddlmbghkaaGreatDoorScP
import Derived.Test.YtlkbeddlmbghkaaGreatDoorRRs
import Derived.Test.YtlkbeddlmbghkaaGreatDoorRRb
import Derived.Test.YtlkbeddlmbghkaaGreatDoorScM
import Derived.Test.YtlkbeddlmbghkaaGreatDoorScC
import Derived.Test.YtlkbeddlmbghkaaGreatDoorRows
import Derived.SizedLaws
import Derived.ChangeSlices
import Derived.ChangeSame
import Derived.Lib.SmallJoins
import Derived.OpenShut
import Derived.Deep.Slices
import Derived.Deep.Fields
import Derived.LaidMore
import Derived.LaidSub
import Derived.FnData
namespace Go.Proofs.YtlkbeddlmbghkaaGreatDoor.PR
open Go Go.Proofs Go.RowKit Go.Proofs.YtlkbeddlmbghkaaGreatDoorW.PrintWords Go.Proofs.YtlkbeddlmbghkaaGreatDoorW.PrintLast Go.Proofs.YtlkbeddlmbghkaaGreatDoorW.PrintMore Go.Proofs.YtlkbeddlmbghkaaGreatDoor.Lx
set_option linter.unusedVariables false
set_option linter.unusedSimpArgs false

theorem wordOf_nonil {tok : List UInt8} {b : Wd} (h : wordOf validB tok = some b) : b ≠ Wd.nil := by
 unfold wordOf at h
 split at h
 ·
  cases hu : unquote validB tok with
  | none => rw [hu] at h; cases h
  | some t => rw [hu] at h; rw [← Option.some.inj h]; intro e; cases e
 ·
  split at h
  ·
   rw [← Option.some.inj h]; intro e; cases e
  ·
   split at h
   ·
    rw [← Option.some.inj h]; intro e; cases e
   ·
    cases h
theorem wordsF_nonil : ∀ (m : Nat) (l : List UInt8) (ws : List Wd), wordsF validB m l = some ws → NoNil ws
 | 0, l, ws, h => by
  have := Option.some.inj h
  rw [← this]; intro b hb; cases hb
 | m + 1, l, ws, h => by
  cases hd : l.dropWhile isBl with
  | nil => rw [wordsF_stop hd] at h; rw [← Option.some.inj h]; intro b hb; cases hb
  | cons c t =>
   by_cases hc : c.toNat = 35
   ·
    rw [wordsF_hash hd hc] at h; rw [← Option.some.inj h]; intro b hb; cases hb
   ·
    cases ho : wordOf validB ((c :: t).take (tokLen (c :: t))) with
    | none => rw [wordsF_none hd hc ho] at h; cases h
    | some b =>
     cases hn : nextOk (c :: t) (tokLen (c :: t)) with
     | false => rw [wordsF_stuck hd hc ho hn] at h; cases h
     | true =>
      rw [wordsF_go hd hc ho hn] at h
      cases hr : wordsF validB m ((c :: t).drop (tokLen (c :: t))) with
      | none => rw [hr] at h; cases h
      | some us =>
       rw [hr] at h
       have := Option.some.inj h
       rw [← this]
       intro x hx
       rcases List.mem_cons.1 hx with rfl | hx
       ·
        exact wordOf_nonil ho
       ·
        exact wordsF_nonil m _ us hr x hx
theorem linesS_nonil : ∀ (ls : List (List UInt8)) (no : Int) (acc : List (Int × List Wd)), (∀ p ∈ acc, NoNil p.2) → ∀ p ∈ (linesS validB ls no acc).1, NoNil p.2
 | [], no, acc, ha => by rw [linesS_nil]; exact ha
 | l :: r, no, acc, ha => by
  cases ho : wordsL validB l with
  | none => rw [linesS_bad _ _ _ ho]; intro p hp; cases hp
  | some ws =>
   rw [linesS_some _ _ _ ho]
   have hws : NoNil ws := wordsF_nonil _ _ _ ho
   refine linesS_nonil r (no + 1) _ ?_
   split
   ·
    intro p hp
    rcases List.mem_append.1 hp with hp | hp
    ·
     exact ha p hp
    ·
     rw [List.mem_singleton.1 hp]; exact hws
   ·
    exact ha
/-- The lines of a text as the program has them. -/
theorem lines_of (s : ByteArray) (hs : s.size ≤ 500000) : ∃ k ls at_ er, lex_Lines.f k s = some (ls, at_, er) ∧ ls.length ≤ 1000000 ∧ (∀ l ∈ ls, l.f1.length ≤ 1000000) ∧ ∀ l ∈ ls, NoNil (l.f1.map fun b => b.f0) := by
 obtain ⟨k, hk⟩ := lines_ev s hs
 have h1 := linesL_len s hs
 refine ⟨k, _, _, _, hk k (Nat.le_refl _), by rw [List.length_map]; exact h1.1, fun l hl => ?_, fun l hl => ?_⟩
 ·
  obtain ⟨p, hp, rfl⟩ := List.mem_map.1 hl
  show (p.2.map _).length ≤ _
  rw [List.length_map]
  exact h1.2 p hp
 ·
  obtain ⟨p, hp, rfl⟩ := List.mem_map.1 hl
  have hn : NoNil p.2 := by
   unfold linesL at hp
   split at hp
   ·
    cases hp
   ·
    exact linesS_nonil _ _ _ (fun p hp => by cases hp) p hp
  intro b hb
  rw [show (toP p).f1 = p.2.map S49.mk from rfl, List.map_map] at hb
  obtain ⟨c, hc, rfl⟩ := List.mem_map.1 hb
  exact hn c hc

/-- What Parse tells, line by line. -/
theorem parse_all : ∀ (ls : List S39) (out : List S58),
  (∃ xs, parseL ls out = (out ++ xs, 0, 0) ∧ xs.length = ls.length ∧ ∀ (i : Nat) (l : S39), ls[i]? = some l → ∃ x, xs[i]? = some x ∧ stepS (l.f1.map fun b => b.f0) = some x) ∨
  (∃ (j : Nat) (l : S39), ls[j]? = some l ∧ stepS (l.f1.map fun b => b.f0) = none ∧ parseL ls out = ([], l.f0, 7) ∧ ∀ (i : Nat) (l' : S39), i < j → ls[i]? = some l' → ∃ x, stepS (l'.f1.map fun b => b.f0) = some x)
 | [], out => .inl ⟨[], by simp [parseL], rfl, fun i l h => by simp at h⟩
 | l :: r, out => by
  cases hs : stepS (l.f1.map fun b => b.f0) with
  | none => exact .inr ⟨0, l, rfl, hs, by rw [parseL, hs], fun i l' hi => absurd hi (Nat.not_lt_zero _)⟩
  | some x =>
   rcases parse_all r (out ++ [x]) with ⟨xs, h1, h2, h3⟩ | ⟨j, l2, h1, h2, h3, h4⟩
   ·
    refine .inl ⟨x :: xs, by rw [parseL, hs]; simp only; rw [h1]; simp, by simp [h2], fun i l' hi => ?_⟩
    cases i with
    | zero => obtain rfl := Option.some.inj hi; exact ⟨x, rfl, hs⟩
    | succ i => exact h3 i l' hi
   ·
    refine .inr ⟨j + 1, l2, h1, h2, by rw [parseL, hs]; exact h3, fun i l' hi hl' => ?_⟩
    cases i with
    | zero => obtain rfl := Option.some.inj hl'; exact ⟨x, hs⟩
    | succ i => exact h4 i l' (by omega) hl'
end Go.Proofs.YtlkbeddlmbghkaaGreatDoor.PR

namespace Go.Proofs.YtlkbeddlmbghkaaGreatDoor.PR
open Go Go.Proofs Go.RowKit Go.Proofs.YtlkbeddlmbghkaaGreatDoorW.PrintWords Go.Proofs.YtlkbeddlmbghkaaGreatDoorW.PrintLast Go.Proofs.YtlkbeddlmbghkaaGreatDoorW.PrintMore
set_option linter.unusedVariables false
set_option linter.unusedSimpArgs false
set_option maxRecDepth 100000

theorem readR_at (A : Option Addr) (c : Nat) (l : List S46) (hl : l.length ≤ 1000000) (hc : l.length ≤ c) (w : World) (hC : Kd.C k46 w A l.length l) :
  Calls Tryz.prog 18 #[.slice A l.length c] w fun e w' => ReadRPost w l e w' := by
 cases l with
 | nil => exact walkR_nil A c w
 | cons h r =>
  by_cases hm : h.f0 = 2
  case neg => exact walkR_kind A c h r hl hc w hC hm
  by_cases h1 : h.f2.toList = [98, 101, 103, 105, 110]
  ·
   exact walkR_begin A c h r hl hc w hC hm h1
  by_cases h2 : h.f2.toList = [114, 117, 110]
  ·
   exact walkR_run A c h r hl hc w hC hm h2
  by_cases h3 : h.f2.toList = [115, 116, 101, 112]
  ·
   exact walkR_step A c h r hl hc w hC hm h3
  by_cases h4 : h.f2.toList = [97, 108, 108]
  ·
   exact walkR_all A c h r hl hc w hC hm h4
  exact walkR_other A c h r hl hc w hC hm h1 h2 h3 h4
end Go.Proofs.YtlkbeddlmbghkaaGreatDoor.PR

namespace Go.Proofs.YtlkbeddlmbghkaaGreatDoor.PR
open Go Go.Proofs Go.RowKit Go.Proofs.YtlkbeddlmbghkaaGreatDoorW.PrintWords Go.Proofs.YtlkbeddlmbghkaaGreatDoorW.PrintLast Go.Proofs.YtlkbeddlmbghkaaGreatDoorW.PrintMore Go.Proofs.YtlkbeddlmbghkaaGreatDoor.Lx
set_option linter.unusedVariables false
set_option linter.unusedSimpArgs false

theorem entsR_len : ∀ (n : Nat) (l : List S46) (L : List S93), l.length ≤ n → entsR l = some L → L.length ≤ l.length
 | _, [], L, _, h => by
  obtain rfl := Option.some.inj h
  exact Nat.le_refl _
 | _, [a], L, _, h => by cases h
 | 0, a :: b :: t, L, hn, h => by simp at hn
 | n + 1, a :: b :: t, L, hn, h => by
  simp only [List.length_cons] at hn ⊢
  rw [entsR] at h
  have key : ∀ (f : List S93 → List S93), (∀ M, (f M).length = M.length + 1) → (entsR t).map f = some L → L.length ≤ t.length + 1 + 1 := by
   intro f hf hm
   cases ht : entsR t with
   | none => rw [ht] at hm; cases hm
   | some M =>
    rw [ht] at hm
    have := entsR_len n t M (by omega) ht
    have e := Option.some.inj hm
    rw [← e, hf M]
    omega
  split at h
  ·
   split at h
   ·
    exact key _ (fun M => rfl) h
   ·
    split at h
    ·
     exact key _ (fun M => rfl) h
    ·
     cases h
  ·
   cases h
theorem spanR_len (x y : S52) (l : List S46) (hx : x.f3 = []) (h : spanR x l = some y) : y.f3 = [] := by
 unfold spanR at h
 split at h
 ·
  split at h
  ·
   split at h
   ·
    rw [← Option.some.inj h]; exact hx
   ·
    split at h
    ·
     rw [← Option.some.inj h]; exact hx
    ·
     cases h
  ·
   cases h
 ·
  cases h
theorem argsR_len (k : Int) (r : List S46) (x : S52) (h : argsR k r = some x) : x.f3.length ≤ r.length := by
 have key : x.f3 = [] → x.f3.length ≤ r.length := fun e => by rw [e]; exact Nat.zero_le _
 by_cases h1 : k = 1
 ·
  subst h1
  unfold argsR at h
  rw [if_pos rfl] at h
  split at h
  ·
   split at h
   ·
    exact key (by rw [← Option.some.inj h]; rfl)
   ·
    cases h
  ·
   cases h
 by_cases h2 : k = 2
 ·
  subst h2
  unfold argsR at h
  rw [if_neg (by decide), if_pos rfl] at h
  split at h
  ·
   split at h
   ·
    exact key (by rw [← Option.some.inj h]; rfl)
   ·
    cases h
  ·
   cases h
 by_cases h3 : k = 3
 ·
  subst h3
  unfold argsR at h
  rw [if_neg (by decide), if_neg (by decide), if_pos rfl] at h
  split at h
  ·
   split at h
   ·
    exact key (by rw [← Option.some.inj h]; rfl)
   ·
    cases h
  ·
   cases h
 by_cases h4 : k = 4
 ·
  subst h4
  unfold argsR at h
  rw [if_neg (by decide), if_neg (by decide), if_neg (by decide), if_pos rfl] at h
  split at h
  ·
   rename_i a b t
   split at h
   ·
    cases ht : entsR t with
    | none => rw [ht] at h; cases h
    | some M =>
     rw [ht] at h
     have := entsR_len _ t M (Nat.le_refl _) ht
     rw [← Option.some.inj h]
     simp only [List.length_cons]
     show M.length ≤ _
     omega
   ·
    cases h
  ·
   cases h
 by_cases h5 : k = 5
 ·
  subst h5
  unfold argsR at h
  rw [if_neg (by decide), if_neg (by decide), if_neg (by decide), if_neg (by decide), if_pos rfl] at h
  exact key (spanR_len _ _ _ rfl h)
 by_cases h6 : k = 6
 ·
  subst h6
  unfold argsR at h
  rw [if_neg (by decide), if_neg (by decide), if_neg (by decide), if_neg (by decide), if_neg (by decide), if_pos rfl] at h
  split at h
  ·
   exact key (by rw [← Option.some.inj h]; rfl)
  ·
   cases h
 by_cases h7 : k = 7
 ·
  subst h7
  unfold argsR at h
  rw [if_neg (by decide), if_neg (by decide), if_neg (by decide), if_neg (by decide), if_neg (by decide), if_neg (by decide), if_pos rfl] at h
  split at h
  ·
   split at h
   ·
    exact key (by rw [← Option.some.inj h]; rfl)
   ·
    cases h
  ·
   cases h
 by_cases h8 : k = 8
 ·
  subst h8
  unfold argsR at h
  rw [if_neg (by decide), if_neg (by decide), if_neg (by decide), if_neg (by decide), if_neg (by decide), if_neg (by decide), if_neg (by decide), if_pos rfl] at h
  split at h
  ·
   split at h
   ·
    exact key (spanR_len _ _ _ rfl h)
   ·
    cases h
  ·
   cases h
 by_cases h9 : k = 9
 ·
  subst h9
  unfold argsR at h
  rw [if_neg (by decide), if_neg (by decide), if_neg (by decide), if_neg (by decide), if_neg (by decide), if_neg (by decide), if_neg (by decide), if_neg (by decide), if_pos rfl] at h
  split at h
  ·
   split at h
   ·
    exact key (by rw [← Option.some.inj h]; rfl)
   ·
    cases h
  ·
   cases h
 by_cases h10 : k = 10
 ·
  subst h10
  unfold argsR at h
  rw [if_neg (by decide), if_neg (by decide), if_neg (by decide), if_neg (by decide), if_neg (by decide), if_neg (by decide), if_neg (by decide), if_neg (by decide), if_neg (by decide), if_pos rfl] at h
  split at h
  ·
   exact key (by rw [← Option.some.inj h]; rfl)
  ·
   cases h
 unfold argsR at h
 rw [if_neg h1, if_neg h2, if_neg h3, if_neg h4, if_neg h5, if_neg h6, if_neg h7, if_neg h8, if_neg h9, if_neg h10] at h
 cases h
theorem callR_len (l : List S46) (x : S52) (h : callR l = some x) : x.f3.length ≤ l.length := by
 cases l with
 | nil => cases h
 | cons a r =>
  rw [callR] at h
  split at h
  ·
   have := argsR_len _ r x h
   simp only [List.length_cons]
   omega
  ·
   cases h
theorem readR_len (l : List S46) (x : S58) (h : readR l = some x) : x.f3.f3.length ≤ l.length := by
 cases l with
 | nil => cases h
 | cons a r =>
  have key : ∀ (d n : Int) (t : List S46), t.length ≤ r.length → ((callR t).map fun y => (⟨d, n, 0, y⟩ : S58)) = some x → x.f3.f3.length ≤ (a :: r).length := by
   intro d n t ht hm
   cases hc : callR t with
   | none => rw [hc] at hm; cases hm
   | some y =>
    rw [hc] at hm
    have := callR_len t y hc
    rw [← Option.some.inj hm]
    show y.f3.length ≤ _
    simp only [List.length_cons]
    omega
  have z : x.f3.f3 = [] → x.f3.f3.length ≤ (a :: r).length := fun e => by rw [e]; exact Nat.zero_le _
  unfold readR at h
  dsimp only at h
  split at h
  ·
   cases h
  split at h
  ·
   cases r with
   | nil => cases h
   | cons b t =>
    dsimp only at h
    split at h
    ·
     exact key 1 _ t (by simp) h
    ·
     cases h
  split at h
  ·
   cases r with
   | nil => cases h
   | cons b t =>
    dsimp only at h
    split at h
    ·
     exact key 2 _ t (by simp) h
    ·
     cases h
  split at h
  ·
   match r, h with
   | [], h => cases h
   | [_], h => cases h
   | [b, c], h =>
    dsimp only at h
    split at h
    ·
     exact z (by rw [← Option.some.inj h]; rfl)
    ·
     cases h
   | _ :: _ :: _ :: _, h => cases h
  split at h
  ·
   split at h
   ·
    exact z (by rw [← Option.some.inj h]; rfl)
   ·
    cases h
  ·
   cases h
theorem stepS_len (ws : List Wd) (hn : NoNil ws) (x : S58) (h : stepS ws = some x) : x.f3.f3.length ≤ ws.length := by
 rw [← read_same ws hn] at h
 have := readR_len _ x h
 rw [List.length_map] at this
 exact this
end Go.Proofs.YtlkbeddlmbghkaaGreatDoor.PR

namespace Go.Proofs.YtlkbeddlmbghkaaGreatDoor.PR
open Go Go.Proofs Go.RowKit Go.Proofs.YtlkbeddlmbghkaaGreatDoorW.PrintWords Go.Proofs.YtlkbeddlmbghkaaGreatDoorW.PrintLast Go.Proofs.YtlkbeddlmbghkaaGreatDoorW.PrintMore
set_option linter.unusedVariables false
set_option linter.unusedSimpArgs false
set_option maxRecDepth 100000

set_option maxHeartbeats 8000000 in
theorem sameR_at (x y : S58) (A B : Option Addr) (c d : Nat) (w : World) (hA : Kd.C k93 w A x.f3.f3.length x.f3.f3) (hB : Kd.C k93 w B y.f3.f3.length y.f3.f3) (hc : x.f3.f3.length ≤ c) (hd : y.f3.f3.length ≤ d) (hlx : x.f3.f3.length ≤ 1000000) :
  Calls Tryz.prog 19 #[.agg #[.int .i64 x.f0, .int .i64 x.f1, .int .i64 x.f2, .int .i64 x.f3.f0, .string x.f3.f1, .string x.f3.f2, .slice A x.f3.f3.length c, .string x.f3.f4, .string x.f3.f5, .bool x.f3.f6, .int .i64 x.f3.f7, .int .i64 x.f3.f8, .int .i64 x.f3.f9, .int .i64 x.f3.f10], .agg #[.int .i64 y.f0, .int .i64 y.f1, .int .i64 y.f2, .int .i64 y.f3.f0, .string y.f3.f1, .string y.f3.f2, .slice B y.f3.f3.length d, .string y.f3.f4, .string y.f3.f5, .bool y.f3.f6, .int .i64 y.f3.f7, .int .i64 y.f3.f8, .int .i64 y.f3.f9, .int .i64 y.f3.f10]] w fun e w' => ∃ b, e = .returned (.bool b) ∧ (b = true ↔ x = y) ∧ Below w.heap.size w w' := by
 have hu58 := Tryz.underlying58
 have hu54 := Tryz.underlying54
 have hu52 := Tryz.underlying52
 have HA := Aside0.mk hA
 have HB_ := Aside0.mk hB
 have HC := Aside0.mk hc
 have HD := Aside0.mk hd
 have HL := Aside0.mk hlx
 clear hA hB hc hd hlx
 go_enter Tryz.func19, Tryz.ntmps19
 go_upto_region 1 with (fail)
 have Y1 : ((w.alloc (.cells #[.int .i64 x.f0, .int .i64 x.f1, .int .i64 x.f2, .int .i64 x.f3.f0, .string x.f3.f1, .string x.f3.f2, .slice A x.f3.f3.length c, .string x.f3.f4, .string x.f3.f5, .bool x.f3.f6, .int .i64 x.f3.f7, .int .i64 x.f3.f8, .int .i64 x.f3.f9, .int .i64 x.f3.f10] 58)).alloc (.cells #[.int .i64 y.f0, .int .i64 y.f1, .int .i64 y.f2, .int .i64 y.f3.f0, .string y.f3.f1, .string y.f3.f2, .slice B y.f3.f3.length d, .string y.f3.f4, .string y.f3.f5, .bool y.f3.f6, .int .i64 y.f3.f7, .int .i64 y.f3.f8, .int .i64 y.f3.f9, .int .i64 y.f3.f10] 54)).heap[w.heap.size + 1]? = some (.cells #[.int .i64 y.f0, .int .i64 y.f1, .int .i64 y.f2, .int .i64 y.f3.f0, .string y.f3.f1, .string y.f3.f2, .slice B y.f3.f3.length d, .string y.f3.f4, .string y.f3.f5, .bool y.f3.f6, .int .i64 y.f3.f7, .int .i64 y.f3.f8, .int .i64 y.f3.f9, .int .i64 y.f3.f10] 54 (0, 0)) := by have h := blk_new (w.alloc (.cells #[.int .i64 x.f0, .int .i64 x.f1, .int .i64 x.f2, .int .i64 x.f3.f0, .string x.f3.f1, .string x.f3.f2, .slice A x.f3.f3.length c, .string x.f3.f4, .string x.f3.f5, .bool x.f3.f6, .int .i64 x.f3.f7, .int .i64 x.f3.f8, .int .i64 x.f3.f9, .int .i64 x.f3.f10] 58)) (.cells #[.int .i64 y.f0, .int .i64 y.f1, .int .i64 y.f2, .int .i64 y.f3.f0, .string y.f3.f1, .string y.f3.f2, .slice B y.f3.f3.length d, .string y.f3.f4, .string y.f3.f5, .bool y.f3.f6, .int .i64 y.f3.f7, .int .i64 y.f3.f8, .int .i64 y.f3.f9, .int .i64 y.f3.f10] 54); rw [World.size_alloc] at h; exact h
 have X1 : ((w.alloc (.cells #[.int .i64 x.f0, .int .i64 x.f1, .int .i64 x.f2, .int .i64 x.f3.f0, .string x.f3.f1, .string x.f3.f2, .slice A x.f3.f3.length c, .string x.f3.f4, .string x.f3.f5, .bool x.f3.f6, .int .i64 x.f3.f7, .int .i64 x.f3.f8, .int .i64 x.f3.f9, .int .i64 x.f3.f10] 58)).alloc (.cells #[.int .i64 y.f0, .int .i64 y.f1, .int .i64 y.f2, .int .i64 y.f3.f0, .string y.f3.f1, .string y.f3.f2, .slice B y.f3.f3.length d, .string y.f3.f4, .string y.f3.f5, .bool y.f3.f6, .int .i64 y.f3.f7, .int .i64 y.f3.f8, .int .i64 y.f3.f9, .int .i64 y.f3.f10] 54)).heap[w.heap.size]? = some (.cells #[.int .i64 x.f0, .int .i64 x.f1, .int .i64 x.f2, .int .i64 x.f3.f0, .string x.f3.f1, .string x.f3.f2, .slice A x.f3.f3.length c, .string x.f3.f4, .string x.f3.f5, .bool x.f3.f6, .int .i64 x.f3.f7, .int .i64 x.f3.f8, .int .i64 x.f3.f9, .int .i64 x.f3.f10] 58 (0, 0)) := blk_alloc (blk_new w _) _
 have hb : Below w.heap.size w ((w.alloc (.cells #[.int .i64 x.f0, .int .i64 x.f1, .int .i64 x.f2, .int .i64 x.f3.f0, .string x.f3.f1, .string x.f3.f2, .slice A x.f3.f3.length c, .string x.f3.f4, .string x.f3.f5, .bool x.f3.f6, .int .i64 x.f3.f7, .int .i64 x.f3.f8, .int .i64 x.f3.f9, .int .i64 x.f3.f10] 58)).alloc (.cells #[.int .i64 y.f0, .int .i64 y.f1, .int .i64 y.f2, .int .i64 y.f3.f0, .string y.f3.f1, .string y.f3.f2, .slice B y.f3.f3.length d, .string y.f3.f4, .string y.f3.f5, .bool y.f3.f6, .int .i64 y.f3.f7, .int .i64 y.f3.f8, .int .i64 y.f3.f9, .int .i64 y.f3.f10] 54)) := ((Below.refl _ _).alloc (Nat.le_refl _) _).alloc (by rw [World.size_alloc]; omega) _
 change Code.wp _ _ _ _ ((w.alloc (.cells #[.int .i64 x.f0, .int .i64 x.f1, .int .i64 x.f2, .int .i64 x.f3.f0, .string x.f3.f1, .string x.f3.f2, .slice A x.f3.f3.length c, .string x.f3.f4, .string x.f3.f5, .bool x.f3.f6, .int .i64 x.f3.f7, .int .i64 x.f3.f8, .int .i64 x.f3.f9, .int .i64 x.f3.f10] 58)).alloc (.cells #[.int .i64 y.f0, .int .i64 y.f1, .int .i64 y.f2, .int .i64 y.f3.f0, .string y.f3.f1, .string y.f3.f2, .slice B y.f3.f3.length d, .string y.f3.f4, .string y.f3.f5, .bool y.f3.f6, .int .i64 y.f3.f7, .int .i64 y.f3.f8, .int .i64 y.f3.f9, .int .i64 y.f3.f10] 54))
 generalize ((w.alloc (.cells #[.int .i64 x.f0, .int .i64 x.f1, .int .i64 x.f2, .int .i64 x.f3.f0, .string x.f3.f1, .string x.f3.f2, .slice A x.f3.f3.length c, .string x.f3.f4, .string x.f3.f5, .bool x.f3.f6, .int .i64 x.f3.f7, .int .i64 x.f3.f8, .int .i64 x.f3.f9, .int .i64 x.f3.f10] 58)).alloc (.cells #[.int .i64 y.f0, .int .i64 y.f1, .int .i64 y.f2, .int .i64 y.f3.f0, .string y.f3.f1, .string y.f3.f2, .slice B y.f3.f3.length d, .string y.f3.f4, .string y.f3.f5, .bool y.f3.f6, .int .i64 y.f3.f7, .int .i64 y.f3.f8, .int .i64 y.f3.f9, .int .i64 y.f3.f10] 54)) = w1 at *
 have HB1 := Aside0.mk hb
 clear hb
 have q0 : w1.cell? ⟨w.heap.size, 0, none⟩ = some (.int .i64 x.f0) := (blk_cell X1 0).trans rfl
 have q1 : w1.cell? ⟨w.heap.size, 1, none⟩ = some (.int .i64 x.f1) := (blk_cell X1 1).trans rfl
 have q2 : w1.cell? ⟨w.heap.size, 2, none⟩ = some (.int .i64 x.f2) := (blk_cell X1 2).trans rfl
 have q3 : w1.cell? ⟨w.heap.size, 3, none⟩ = some (.int .i64 x.f3.f0) := (blk_cell X1 3).trans rfl
 have q4 : w1.cell? ⟨w.heap.size, 4, none⟩ = some (.string x.f3.f1) := (blk_cell X1 4).trans rfl
 have q5 : w1.cell? ⟨w.heap.size, 5, none⟩ = some (.string x.f3.f2) := (blk_cell X1 5).trans rfl
 have q6 : w1.cell? ⟨w.heap.size, 6, none⟩ = some (.slice A x.f3.f3.length c) := (blk_cell X1 6).trans rfl
 have q7 : w1.cell? ⟨w.heap.size, 7, none⟩ = some (.string x.f3.f4) := (blk_cell X1 7).trans rfl
 have q8 : w1.cell? ⟨w.heap.size, 8, none⟩ = some (.string x.f3.f5) := (blk_cell X1 8).trans rfl
 have q9 : w1.cell? ⟨w.heap.size, 9, none⟩ = some (.bool x.f3.f6) := (blk_cell X1 9).trans rfl
 have q10 : w1.cell? ⟨w.heap.size, 10, none⟩ = some (.int .i64 x.f3.f7) := (blk_cell X1 10).trans rfl
 have q11 : w1.cell? ⟨w.heap.size, 11, none⟩ = some (.int .i64 x.f3.f8) := (blk_cell X1 11).trans rfl
 have q12 : w1.cell? ⟨w.heap.size, 12, none⟩ = some (.int .i64 x.f3.f9) := (blk_cell X1 12).trans rfl
 have q13 : w1.cell? ⟨w.heap.size, 13, none⟩ = some (.int .i64 x.f3.f10) := (blk_cell X1 13).trans rfl
 have r0 : w1.cell? ⟨w.heap.size + 1, 0, none⟩ = some (.int .i64 y.f0) := (blk_cell Y1 0).trans rfl
 have r1 : w1.cell? ⟨w.heap.size + 1, 1, none⟩ = some (.int .i64 y.f1) := (blk_cell Y1 1).trans rfl
 have r2 : w1.cell? ⟨w.heap.size + 1, 2, none⟩ = some (.int .i64 y.f2) := (blk_cell Y1 2).trans rfl
 have r3 : w1.cell? ⟨w.heap.size + 1, 3, none⟩ = some (.int .i64 y.f3.f0) := (blk_cell Y1 3).trans rfl
 have r4 : w1.cell? ⟨w.heap.size + 1, 4, none⟩ = some (.string y.f3.f1) := (blk_cell Y1 4).trans rfl
 have r5 : w1.cell? ⟨w.heap.size + 1, 5, none⟩ = some (.string y.f3.f2) := (blk_cell Y1 5).trans rfl
 have r6 : w1.cell? ⟨w.heap.size + 1, 6, none⟩ = some (.slice B y.f3.f3.length d) := (blk_cell Y1 6).trans rfl
 have r7 : w1.cell? ⟨w.heap.size + 1, 7, none⟩ = some (.string y.f3.f4) := (blk_cell Y1 7).trans rfl
 have r8 : w1.cell? ⟨w.heap.size + 1, 8, none⟩ = some (.string y.f3.f5) := (blk_cell Y1 8).trans rfl
 have r9 : w1.cell? ⟨w.heap.size + 1, 9, none⟩ = some (.bool y.f3.f6) := (blk_cell Y1 9).trans rfl
 have r10 : w1.cell? ⟨w.heap.size + 1, 10, none⟩ = some (.int .i64 y.f3.f7) := (blk_cell Y1 10).trans rfl
 have r11 : w1.cell? ⟨w.heap.size + 1, 11, none⟩ = some (.int .i64 y.f3.f8) := (blk_cell Y1 11).trans rfl
 have r12 : w1.cell? ⟨w.heap.size + 1, 12, none⟩ = some (.int .i64 y.f3.f9) := (blk_cell Y1 12).trans rfl
 have r13 : w1.cell? ⟨w.heap.size + 1, 13, none⟩ = some (.int .i64 y.f3.f10) := (blk_cell Y1 13).trans rfl
 clear X1 Y1
 go_wp2_with (fail)
 refine (same_at x y A B c d w1 (Kd.C_below HA.out HB1.out) (Kd.C_below HB_.out HB1.out) HC.out HD.out HL.out).mono ?_
 rintro e w2 ⟨b, rfl, hb, hbb⟩
 go_wp2_with (fail)
 go_ret
 exact ⟨b, rfl, hb, HB1.out.trans (hbb.mono HB1.out.size)⟩
end Go.Proofs.YtlkbeddlmbghkaaGreatDoor.PR

namespace Go.Proofs.YtlkbeddlmbghkaaGreatDoor.PR
open Go Go.Proofs Go.RowKit Go.Proofs.YtlkbeddlmbghkaaGreatDoorW.PrintWords Go.Proofs.YtlkbeddlmbghkaaGreatDoorW.PrintLast Go.Proofs.YtlkbeddlmbghkaaGreatDoorW.PrintMore
attribute [local go_sem] Wd.one Wd.run_store
set_option linter.unusedVariables false
set_option linter.unusedSimpArgs false
set_option maxRecDepth 100000

def t1 : ByteArray := ⟨#[114, 117, 110, 32, 48, 32, 112, 117, 116, 32, 34, 97, 34, 32, 34, 120, 34, 32, 48, 32, 51, 10, 97, 108, 108]⟩
def t2 : ByteArray := ⟨#[10, 115, 116, 101, 112, 32, 48, 32, 48]⟩
def ls1 : List S39 := [⟨1, [⟨.name ⟨#[114, 117, 110]⟩⟩, ⟨.num 0⟩, ⟨.name ⟨#[112, 117, 116]⟩⟩, ⟨.text ⟨#[97]⟩⟩, ⟨.text ⟨#[120]⟩⟩, ⟨.num 0⟩, ⟨.num 3⟩]⟩, ⟨2, [⟨.name ⟨#[97, 108, 108]⟩⟩]⟩]
def ls2 : List S39 := [⟨2, [⟨.name ⟨#[115, 116, 101, 112]⟩⟩, ⟨.num 0⟩, ⟨.num 0⟩]⟩]
def x1 : S58 := ⟨2, 0, 0, { z52 with f0 := 2, f1 := ⟨#[97]⟩, f2 := ⟨#[120]⟩, f9 := 0, f10 := 3 }⟩
def x2 : S58 := ⟨4, 0, 0, z52⟩
theorem ex1 : lex_Lines.f 40 t1 = some (ls1, 0, 0) := by kernel_rfl
theorem ex2 : lex_Lines.f 40 t2 = some (ls2, 0, 0) := by kernel_rfl
theorem pl1 : parseL ls1 [] = ([x1, x2], 0, 0) := by kernel_rfl
theorem pl2 : parseL ls2 [] = ([], 2, 7) := by kernel_rfl
theorem ls1_len : ∀ l ∈ ls1, l.f1.length ≤ 1000000 := by decide
theorem ls2_len : ∀ l ∈ ls2, l.f1.length ≤ 1000000 := by decide

set_option maxHeartbeats 4000000 in
theorem awake_at (w : World) (hk : KAt w) (h3 : 0 < w.heap.size) :
  Calls Tryz.prog 15 #[] w fun e w' => e = .returned (.bool true) ∧ Below w.heap.size w w' := by
 have hu48 := Tryz.underlying58
 have hu46 := Tryz.underlying52
 have HK := Aside0.mk hk
 have H3 := Aside0.mk h3
 clear hk h3
 go_enter Tryz.func15, Tryz.ntmps15
 go_wp2_with (fail)
 refine (parse_at 40 t1 ls1 0 0 ex1 (by decide) ls1_len w HK.out H3.out).mono ?_
 rintro e w1 ⟨hb, v, out, n, f, rfl, ho, hr⟩
 rw [if_pos rfl, pl1] at ho
 obtain ⟨h1, h2⟩ := Prod.mk.inj ho
 obtain ⟨h2, h3⟩ := Prod.mk.inj h2
 subst h1 h2 h3
 obtain ⟨A, c, rfl, hc, hC⟩ := Kd.R_reads hr
 have HB1 := Aside0.mk hb
 have HC1 := Aside0.mk hC
 clear hb hr hC ho
 go_wp2_with (fail)
 refine (parse_at 40 t2 ls2 0 0 ex2 (by decide) ls2_len w1 (HK.out.mono H3.out HB1.out) (Nat.lt_of_lt_of_le H3.out HB1.out.size)).mono ?_
 rintro e w2 ⟨hb, v, out, n, f, rfl, ho, hr⟩
 rw [if_pos rfl, pl2] at ho
 obtain ⟨h1, h2⟩ := Prod.mk.inj ho
 obtain ⟨h2, h3⟩ := Prod.mk.inj h2
 subst h1 h2 h3
 have HB2 := Aside0.mk hb
 have CC := Aside0.mk (Kd.C_below HC1.out hb)
 clear hb ho
 obtain ⟨A2, c2, rfl, _, _⟩ := Kd.R_reads hr
 clear hr
 obtain ⟨ad, A6, c6, ea, q0, q1, q2, q3, q4, q5, q6, q7, q8, q9, q10, q11, q12, q13, _, _⟩ := at_T58 CC.out 0 (by decide) (by decide)
 subst ea
 obtain ⟨ad', A7, c7, ea, r0, r1, r2, r3, r4, r5, r6, r7, r8, r9, r10, r11, r12, r13, _, _⟩ := at_T58 CC.out 1 (by decide) (by decide)
 obtain rfl := Option.some.inj ea
 rw [show rd_T58 [x1, x2] 0 = x1 from rfl, show ((0 : Int).toNat * 14) = 0 from rfl, Addr.add_zero'] at q0 q3 q5 q13
 rw [show rd_T58 [x1, x2] 1 = x2 from rfl, show ((1 : Int).toNat * 14) = 14 from rfl] at r0
 simp only [x1, x2, z52] at q0 q3 q5 q13 r0
 have r0' : w2.cell? ⟨ad.block, ad.off + 14, none⟩ = some (.int .i64 4) := by simpa [Addr.add] using r0
 clear r0
 clear q1 q2 q4 q6 q7 q8 q9 q10 q11 q12 r1 r2 r3 r4 r5 r6 r7 r8 r9 r10 r11 r12 r13 ea
 go_wp2_with (fail)
 go_ret
 exact ⟨rfl, HB1.out.trans (HB2.out.mono HB1.out.size)⟩
end Go.Proofs.YtlkbeddlmbghkaaGreatDoor.PR

namespace Go.Proofs.YtlkbeddlmbghkaaGreatDoor.PR
open Go Go.Proofs Go.RowKit Go.Proofs.YtlkbeddlmbghkaaGreatDoorW.PrintWords Go.Proofs.YtlkbeddlmbghkaaGreatDoorW.PrintLast Go.Proofs.YtlkbeddlmbghkaaGreatDoorW.PrintMore Go.Proofs.YtlkbeddlmbghkaaGreatDoor.Lx
attribute [local go_sem] Wd.one Wd.run_store
set_option linter.unusedVariables false
set_option linter.unusedSimpArgs false
set_option maxRecDepth 100000

theorem word_f (b : Wd) : rundlelaw26_word.f b = some ((toW b).f0, (toW b).f1, (toW b).f2) := by cases b <;> rfl
end Go.Proofs.YtlkbeddlmbghkaaGreatDoor.PR

namespace Go.Proofs.YtlkbeddlmbghkaaGreatDoor.PR
open Go Go.Proofs Go.RowKit Go.ChangeShapes Go.WideShapes Go.Deep Go.Joins Go.Proofs.YtlkbeddlmbghkaaGreatDoorW.PrintWords Go.Proofs.YtlkbeddlmbghkaaGreatDoorW.PrintLast Go.Proofs.YtlkbeddlmbghkaaGreatDoorW.PrintMore
set_option linter.unusedVariables false
set_option linter.unusedSimpArgs false
set_option maxRecDepth 100000
/-- The table of the calls' names lies as the program lays it. -/
def kindsB : List (List UInt8) := kindsL.map (·.data.toList)
theorem kat_of {W : World} {L : List (String × DataW Unit)} (h : laidMetH Tryz.prog L W) (hp : (L.all fun x => x.2.handleName?.isNone) = true) (hf : (L.filter fun x => x.1 == "rundle/script.kinds") = [("rundle/script.kinds", Rows.laid_rundle_script_kinds)]) : KAt W ∧ 0 < W.heap.size := by
 rw [MakeChecks.laidMetH_plain _ _ _ hp] at h
 have h := h.filter (fun x => x.1 == "rundle/script.kinds")
 rw [hf] at h
 obtain ⟨ps, ⟨g, t, cs, fuel, p, q, hg, ht, hv, hd, _, _⟩, _, _⟩ := h
 obtain rfl := Option.some.inj ((show Tryz.prog.globalNamed "rundle/script.kinds" = some 0 by kernel_rfl).symm.trans hg)
 obtain rfl := Option.some.inj ((show (Tryz.prog.globals[0]?).map (·.type) = some 100 by kernel_rfl).symm.trans ht)
 obtain ⟨xs, m, _, ex, _, hl, hel⟩ := DataW.trod_array Tryz.underlying100 hd
 have c9 : Tryz.prog.cellsOf 9 = 1 := by kernel_rfl
 have e3 : (xs.map (·.1)) = kindsB.map fun s => .lit (.string s) := (DataW.agg.inj (Prod.mk.inj ex).1).symm.trans (by kernel_rfl)
 have hK : KAt W := by
  intro r s hs
  have hr : r < 11 := (List.getElem?_eq_some_iff.1 hs).1
  have hE := hel r hr
  rw [c9, Nat.mul_one, List.getElem?_eq_getElem (by omega)] at hE
  obtain ⟨z, e1, e2, _⟩ := DataW.trod_string Tryz.underlying9 hE
  have e4 : (xs.map (·.1))[r]? = (kindsB.map fun s => (DataW.lit (.string s) : DataW Unit))[r]? := by rw [e3]
  rw [List.getElem?_map, List.getElem?_map, List.getElem?_eq_getElem (by omega : r < xs.length), e2, kindsB, List.getElem?_map, hs] at e4
  have hz : z = s := by
   simp only [Option.map_some, Option.some.injEq, DataW.lit.injEq, Lit.string.injEq] at e4
   cases z with
   | mk z =>
    cases s with
    | mk s => exact congrArg ByteArray.mk (Array.toList_inj.1 e4)
  rw [World.var?_cell hg hv r, ← hz]
  have : cs.toList[r]? = some (.string z) := by
   have h0 : ((cs.toList.drop r).take 1)[0]? = some (.string z) := by rw [e1]; rfl
   simpa using h0
  simpa using this
 exact ⟨hK, World.block_lt_of_cell? W ⟨0, 0, none⟩ (hK 0 _ rfl)⟩
end Go.Proofs.YtlkbeddlmbghkaaGreatDoor.PR
