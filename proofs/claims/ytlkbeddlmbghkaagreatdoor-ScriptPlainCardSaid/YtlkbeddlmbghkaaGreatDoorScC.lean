/- script's reader: call. -/
import Derived.Test.YtlkbeddlmbghkaaGreatDoorScK
import Derived.Deep.RegionWith
namespace Go.Proofs.YtlkbeddlmbghkaaGreatDoor.PR
open Go Go.Proofs Go.RowKit Go.Proofs.YtlkbeddlmbghkaaGreatDoorW.PrintWords Go.Proofs.YtlkbeddlmbghkaaGreatDoorW.PrintLast Go.Proofs.YtlkbeddlmbghkaaGreatDoorW.PrintMore Go.Proofs.YtlkbeddlmbghkaaGreatDoor.PQ
attribute [local go_sem] Wd.one Wd.run_store max2_int min2_int max_two min_two
set_option linter.unusedVariables false
set_option linter.unusedSimpArgs false
set_option maxRecDepth 100000

theorem RdAt.drew {g : Nat} {w : World} {ws : List Wd} (h : RdAt g w ws) : RdAt g w.drew ws := h
theorem RdAt.alloc {g : Nat} {w : World} {ws : List Wd} (h : RdAt g w ws) (o : Obj) : RdAt g (w.alloc o) ws := h.fr ((Below.refl w.heap.size w).alloc (Nat.le_refl _) o)
theorem Fr.drew {g : Nat} {a b : World} (h : Fr g a b) : Fr g a b.drew := ⟨h.1.drew, h.2⟩
theorem Fr.alloc {g : Nat} {a b : World} (hg : g < a.heap.size) (h : Fr g a b) (o : Obj) : Fr g a (b.alloc o) :=
 h.trans (Fr.of (Nat.le_trans (Nat.le_of_lt hg) h.1.size) ((Below.refl b.heap.size b).alloc (Nat.le_refl _) o))
theorem name_ok (g : Nat) (x : ByteArray) (r : List Wd) (w : World) (h : RdAt g w (.name x :: r)) :
  Calls Tryz.prog 92 #[.pointer (some ⟨g, 0, none⟩)] w fun e w' => e = .returned (.string x) ∧ RdAt g w' r ∧ Fr g w w' := by
 refine (name_at g _ w h).mono ?_
 rintro e w' ⟨hf, ⟨x', r', he, rfl, hr⟩ | ⟨hno, _⟩⟩
 ·
  obtain ⟨h1, rfl⟩ := List.cons.inj he
  cases h1
  exact ⟨rfl, hr, hf⟩
 ·
  exact absurd rfl (hno x r)
theorem name_no (g : Nat) (ws : List Wd) (hno : ∀ x r, ws ≠ .name x :: r) (w : World) (h : RdAt g w ws) :
  Calls Tryz.prog 92 #[.pointer (some ⟨g, 0, none⟩)] w fun e w' => (∃ u pv, e = .panicked [{ v := .iface u pv, recovered := false }]) ∧ Fr g w w' := by
 refine (name_at g _ w h).mono ?_
 rintro e w' ⟨hf, ⟨x', r', he, rfl, hr⟩ | ⟨_, hp⟩⟩
 ·
  exact absurd he (hno x' r')
 ·
  exact ⟨hp, hf⟩

set_option maxHeartbeats 4000000 in
theorem call_no (g : Nat) (ws : List Wd) (hno : ∀ x r, ws ≠ .name x :: r) (w : World) (h : RdAt g w ws) :
  Calls Tryz.prog 94 #[.pointer (some ⟨g, 0, none⟩)] w fun e w' => Fr g w w' ∧ Pan e := by
 have hu46 := Tryz.underlying52
 have H := Aside0.mk h
 clear h
 go_enter Tryz.func94, Tryz.ntmps94
 go_upto_region 1 with (fail)
 have H1 := H.out.fr ((Below.refl w.heap.size w).alloc (Nat.le_refl _) (.cells (callV z52 (.slice none 0 0)) 52))
 have F1 : Fr g w _ := Fr.ofB H.out.lt ((Below.refl w.heap.size w).alloc (Nat.le_refl _) (.cells (callV z52 (.slice none 0 0)) 52))
 generalize hw1 : w.alloc (.cells (callV z52 (.slice none 0 0)) 52) = w1 at H1 F1
 change Code.wp _ _ _ _ (w.alloc (.cells (callV z52 (.slice none 0 0)) 52))
 rw [hw1]
 have HR1 := Aside0.mk H1
 have HF1 := Aside0.mk F1
 clear H1 F1 hw1
 have HG : Aside0 (g < w.heap.size) := ⟨H.out.lt⟩
 refine wp_region_any (by kernel_rfl) ?_
 change wpAny _ _ _ _ _ _ _ (World.drew _)
 refine wpAny_take (i := 0) (v := .slice (some ⟨0, 0, none⟩) 11 11) rfl (by kernel_rfl) (by kernel_rfl) (by kernel_rfl) (fun _ _ _ h => h) (Or.inl ⟨by rfl, ?_⟩) ?_
 ·
  intro w; go_simp; try rfl
 refine wpAny_take (i := 1) (v := .pointer (some ⟨g, 0, none⟩)) rfl (by kernel_rfl) (by kernel_rfl) (by kernel_rfl) (fun _ _ _ h => h) (Or.inl ⟨by rfl, ?_⟩) ?_
 ·
  intro w; go_simp; try rfl
 refine wpAny_ready (rs := [2, 6]) (by kernel_rfl) (by simp) ?_
 refine AllReady.cons rfl (fun K hK => ?_) (AllReady.cons rfl (fun K hK => ?_) AllReady.nil)
 ·
  go_simp
  refine (name_no g ws hno _ HR1.out.drew).mono ?_
  rintro e w' ⟨⟨u, pv, rfl⟩, hf⟩
  exact ⟨rfl, HF1.out.drew.trans hf, u, pv, rfl⟩
 ·
  go_simp
  refine hK _ _ ?_
  clear hK K
  refine wpAny_ready (rs := [2]) (by kernel_rfl) (by simp) ?_
  refine AllReady.cons rfl (fun K hK => ?_) AllReady.nil
  go_simp
  refine (name_no g ws hno _ (HR1.out.drew.alloc _)).mono ?_
  rintro e w' ⟨⟨u, pv, rfl⟩, hf⟩
  exact ⟨rfl, (HF1.out.drew.alloc HG.out _).trans hf, u, pv, rfl⟩

theorem Fr.drewN {g : Nat} {a b : World} (h : Fr g a b) (n : Nat) : Fr g a (b.drewN n) := ⟨pw_below_drewN h.1 n, fun i hi hne => h.2 i hi hne⟩
theorem callAt_alloc {p : Nat} {w : World} {x : S52} {v : Value} (h : CallAt p w x v) (o : Obj) : CallAt p (w.alloc o) x v := blk_alloc h o
/-- The table of the calls' names, as the program lays it. -/
def KAt (w : World) : Prop := ∀ j s, kindsL[j]? = some s → w.cell? ⟨0, j, none⟩ = some (.string s)
theorem KAt.mono {g : Nat} {w w' : World} (h : KAt w) (hg : 0 < g) (hb : Below g w w') : KAt w' := fun j s hj => (hb.cell (p := ⟨0, j, none⟩) hg).trans (h j s hj)
theorem KAt.fr {g : Nat} {w w' : World} (h : KAt w) (hg : 0 < g) (hf : Fr g w w') : KAt w' := h.mono hg hf.1
theorem KAt.C {w : World} (h : KAt w) : Kd.C Kd.string w (some ⟨0, 0, none⟩) kindsL.length kindsL := by
 refine ⟨rfl, by decide, fun _ => ⟨_, rfl, fun j p hp => ⟨[.string p], rfl, rfl, fun i u hu => ?_⟩⟩⟩
 cases i with
 | zero =>
  obtain rfl := Option.some.inj hu
  have h1 := h j p hp
  show w.cell? (Addr.add ⟨0, 0, none⟩ (j * 1 + 0)) = _
  rw [show Addr.add ⟨0, 0, none⟩ (j * 1 + 0) = ⟨0, j, none⟩ by unfold Addr.add; split <;> simp_all]
  exact h1
 | succ i => simp at hu
/-! ### what a call's words come to -/
def tx : List Wd → Option (ByteArray × List Wd)
 | .text a :: r => some (a, r)
 | _ => none
def nu : List Wd → Option (Int × List Wd)
 | .num a :: r => some (a, r)
 | _ => none
theorem tx_text (a : ByteArray) (r : List Wd) : tx (.text a :: r) = some (a, r) := rfl
theorem nu_num (a : Int) (r : List Wd) : nu (.num a :: r) = some (a, r) := rfl
theorem tx_none {ws : List Wd} (h : ∀ x r, ws ≠ .text x :: r) : tx ws = none := by
 cases ws with
 | nil => rfl
 | cons b r =>
  cases b with
  | text a => exact absurd rfl (h a r)
  | nil => rfl
  | num n => rfl
  | name s => rfl
theorem nu_none {ws : List Wd} (h : ∀ x r, ws ≠ .num x :: r) : nu ws = none := by
 cases ws with
 | nil => rfl
 | cons b r =>
  cases b with
  | num a => exact absurd rfl (h a r)
  | nil => rfl
  | text n => rfl
  | name s => rfl
def getS (r : List Wd) : Option (S52 × List Wd) := (tx r).bind fun a => some ({ z52 with f0 := 1, f1 := a.1 }, a.2)
def putS (r : List Wd) : Option (S52 × List Wd) := (tx r).bind fun a => (tx a.2).bind fun b => (nu b.2).bind fun j => (nu j.2).bind fun h => some ({ z52 with f0 := 2, f1 := a.1, f2 := b.1, f9 := j.1, f10 := h.1 }, h.2)
def removeS (r : List Wd) : Option (S52 × List Wd) := (tx r).bind fun a => (nu a.2).bind fun j => (nu j.2).bind fun h => some ({ z52 with f0 := 3, f1 := a.1, f9 := j.1, f10 := h.1 }, h.2)
def batchS (r : List Wd) : Option (S52 × List Wd) := (nu r).bind fun j => (nu j.2).bind fun h => (entsS h.2).bind fun L => some ({ z52 with f0 := 4, f9 := j.1, f10 := h.1, f3 := L }, [])
def scanS (r : List Wd) : Option (S52 × List Wd) := (spanS { z52 with f0 := 5 } r).bind fun y => (nu y.2).bind fun n => some ({ y.1 with f7 := n.1 }, n.2)
def openS (r : List Wd) : Option (S52 × List Wd) := some ({ z52 with f0 := 6 }, r)
def snapgetS (r : List Wd) : Option (S52 × List Wd) := (nu r).bind fun n => (tx n.2).bind fun a => some ({ z52 with f0 := 7, f8 := n.1, f1 := a.1 }, a.2)
def snapscanS (r : List Wd) : Option (S52 × List Wd) := (nu r).bind fun m => (spanS { z52 with f0 := 8, f8 := m.1 } m.2).bind fun y => (nu y.2).bind fun n => some ({ y.1 with f7 := n.1 }, n.2)
def closeS (r : List Wd) : Option (S52 × List Wd) := (nu r).bind fun n => some ({ z52 with f0 := 9, f8 := n.1 }, n.2)
def collectS (r : List Wd) : Option (S52 × List Wd) := some ({ z52 with f0 := 10 }, r)
def callK (k : Int) (r : List Wd) : Option (S52 × List Wd) :=
 if k = 1 then getS r else if k = 2 then putS r else if k = 3 then removeS r else if k = 4 then batchS r else if k = 5 then scanS r else if k = 6 then openS r else if k = 7 then snapgetS r else if k = 8 then snapscanS r else if k = 9 then closeS r else if k = 10 then collectS r else none
/-- A call, and the words behind it. -/
def callS : List Wd → Option (S52 × List Wd)
 | .name s :: r => callK (kindS s) r
 | _ => none
theorem span_f3 {x y : S52} {ws r : List Wd} (h : spanS x ws = some (y, r)) : y.f3 = x.f3 := by
 unfold spanS at h
 split at h
 ·
  obtain ⟨rfl, _⟩ := Prod.mk.inj (Option.some.inj h); rfl
 ·
  split at h
  ·
   obtain ⟨rfl, _⟩ := Prod.mk.inj (Option.some.inj h); rfl
  ·
   cases h
 ·
  cases h

theorem Fr.put {g p : Nat} {w a : World} (h : Fr g w a) (hwp : w.heap.size ≤ p) (hg : g < w.heap.size) (i : Nat) (v : Value) : Fr g w (a.setCell ⟨p, i, none⟩ v) :=
 ⟨h.1.trans ((Below.refl g a).setCell (Nat.le_trans (Nat.le_of_lt hg) hwp) _), fun k hk hne => (Below.heap_setCell a ⟨p, i, none⟩ _ k (Nat.ne_of_lt (Nat.lt_of_lt_of_le hk hwp))).trans (h.2 k hk hne)⟩
theorem callAt_set {p q : Nat} {w : World} {x : S52} {v : Value} (h : CallAt p w x v) (hne : p ≠ q) (i : Nat) (u : Value) : CallAt p (w.setCell ⟨q, i, none⟩ u) x v :=
 (Below.heap_setCell w ⟨q, i, none⟩ u p hne).trans h
/-! ### the state of a walk through call -/
theorem Fr.of2 {g p : Nat} {w a b : World} (h : Fr g w a) (hwp : w.heap.size < p) (k : Fr2 g p a b) : Fr g w b :=
 ⟨h.1.trans k.1, fun i hi hne => (k.2 i (Nat.lt_of_lt_of_le hi h.1.size) hne (Nat.ne_of_lt (Nat.lt_trans hi hwp))).trans (h.2 i hi hne)⟩
def St (g : Nat) (w : World) (p : Nat) (ws : List Wd) (x : S52) (v : Value) (a : World) : Prop :=
 RdAt g a ws ∧ Fr g w a ∧ CallAt w.heap.size a z52 (.slice none 0 0) ∧ CallAt p a x v
theorem St.step {g : Nat} {w : World} {p : Nat} {ws ws' : List Wd} {x : S52} {v : Value} {a b : World} (h : St g w p ws x v a) (hg : g < w.heap.size) (hwp : w.heap.size < p) (hr : RdAt g b ws') (hf : Fr g a b) : St g w p ws' x v b :=
 ⟨hr, h.2.1.trans hf, hf.blk (Nat.ne_of_gt hg) h.2.2.1, hf.blk (Nat.ne_of_gt (Nat.lt_trans hg hwp)) h.2.2.2⟩
theorem St.span {g : Nat} {w : World} {p : Nat} {ws ws' : List Wd} {x y : S52} {v v' : Value} {a b : World} (h : St g w p ws x v a) (hg : g < w.heap.size) (hwp : w.heap.size < p) (hr : RdAt g b ws') (hf : Fr2 g p a b) (hc : CallAt p b y v') : St g w p ws' y v' b :=
 ⟨hr, h.2.1.of2 hwp hf, (hf.2 _ (blk_lt h.2.2.1) (Nat.ne_of_gt hg) (Nat.ne_of_lt hwp)).trans h.2.2.1, hc⟩
theorem St.put {g : Nat} {w : World} {p : Nat} {ws : List Wd} {x : S52} {v : Value} {a : World} (h : St g w p ws x v a) (hg : g < w.heap.size) (hwp : w.heap.size < p) (i : Nat) (u : Value) (x' : S52) (v' : Value) (e : (callV x v).setIfInBounds i u = callV x' v') : St g w p ws x' v' (a.setCell ⟨p, i, none⟩ u) :=
 ⟨h.1.set (Nat.lt_trans hg hwp) i u, h.2.1.put (Nat.le_of_lt hwp) hg i u, callAt_set h.2.2.1 (Nat.ne_of_lt hwp) i u, blk_put h.2.2.2 i u e⟩
theorem R_low {n : Nat} {a b : World} {p : Nat} {v : Value} {L : List S93} (h : k93.R 93 b a.heap.size (fun _ => True) v L) (hp : p < a.heap.size) (hs : n ≤ a.heap.size) (i : Nat) (u : Value) :
  k93.R 93 (b.setCell ⟨p, i, none⟩ u) n (fun _ => True) v L :=
 Kd.R_lower (Kd.R_mono (Kd.R_far (p := ⟨p, i, none⟩) (Kd.R_bound h) (fun k hk => by have := hk.2.1; show k ≠ p; omega) u) (fun _ _ => trivial)) hs
def InF (g : Nat) (w : World) (r : List Wd) (v : Value) (L : List S93) (cs : Array Value) (wq : World) : Prop :=
 RdAt g wq r ∧ Fr g w wq ∧ k93.R 93 wq (w.heap.size + 1) (fun _ => True) v L ∧ wq.heap[w.heap.size]? = some (.cells cs 52 (0, 0))
theorem InF.put {g : Nat} {w : World} {r : List Wd} {v : Value} {L : List S93} {cs : Array Value} {wq : World} (h : InF g w r v L cs wq) (hg : g < w.heap.size) (i : Nat) (u : Value) (cs' : Array Value) (e : cs.setIfInBounds i u = cs') : InF g w r v L cs' (wq.setCell ⟨w.heap.size, i, none⟩ u) :=
 ⟨h.1.set hg i u, h.2.1.put (Nat.le_refl _) hg i u, Kd.R_mono (Kd.R_far (p := ⟨w.heap.size, i, none⟩) (Kd.R_bound h.2.2.1) (fun k hk => by have := hk.2.1; show k ≠ w.heap.size; omega) u) (fun _ _ => trivial), blk_put h.2.2.2 i u e⟩
theorem results_c1 {P : Program} {fn : Func} {p : Tmp} {ty : TypeId} (h : fn.results = #[.cell p ty]) (tmps : Array Value) (w : World) (g : Nat) (t : TypeId) (cs : Array Value) (fr : Nat × Nat) (d : TypeDesc)
  (hp : tmps.getD p undef = .pointer (some ⟨g, 0, none⟩)) (hg : w.heap[g]? = some (.cells cs t fr))
  (hu : P.underlying ty = some d) (hd : (match d with | .struct _ | .array _ _ => true | _ => false) = true) (hi : (P.info? ty).map (·.size) = some cs.size) :
  (results fn tmps).run P w = .ok (.agg cs) w := by
 have hp' : tmps[p]?.getD undef = .pointer (some ⟨g, 0, none⟩) := by simpa using hp
 simp [results, h, hp', asAddr, run_loadVar_row w g t ty cs fr d hg hu hd hi]
/-- What call comes to. -/
def CallPost (g : Nat) (w : World) (ws : List Wd) (e : Ending) (w' : World) : Prop :=
 Fr g w w' ∧ ((∃ x r v, callS ws = some (x, r) ∧ e = .returned (.agg (callV x v)) ∧ RdAt g w' r ∧ k93.R 93 w' w.heap.size (fun _ => True) v x.f3) ∨ (callS ws = none ∧ Pan e))
/-- The call has been read, and lies in block p. -/
def OutCall (g : Nat) (w : World) (ws : List Wd) (v3 : Value) (wx : World) : Prop :=
 ∃ p x r v, v3 = .pointer (some ⟨p, 0, none⟩) ∧ w.heap.size < p ∧ callS ws = some (x, r) ∧ St g w p r x v wx ∧ k93.R 93 wx (w.heap.size + 1) (fun _ => True) v x.f3
/-- The reader has read a call's name: its words, the call, the frame. -/
def InCall (g : Nat) (w : World) (r : List Wd) (x : S52) (v3 : Value) (wx : World) : Prop :=
 ∃ p, v3 = .pointer (some ⟨p, 0, none⟩) ∧ w.heap.size < p ∧ RdAt g wx r ∧ CallAt p wx x (.slice none 0 0) ∧ Fr g w wx ∧ CallAt w.heap.size wx z52 (.slice none 0 0)

def InC (g : Nat) (w : World) (r : List Wd) (p : Nat) (cs : Array Value) (wq : World) : Prop :=
 RdAt g wq r ∧ Fr g w wq ∧ CallAt w.heap.size wq z52 (.slice none 0 0) ∧ wq.heap[p]? = some (.cells cs 52 (0, 0))
theorem InC.put {g : Nat} {w : World} {r : List Wd} {p : Nat} {cs : Array Value} {wq : World} (h : InC g w r p cs wq) (hg : g < w.heap.size) (hwp : w.heap.size < p) (i : Nat) (v : Value) (cs' : Array Value) (e : cs.setIfInBounds i v = cs') :
  InC g w r p cs' (wq.setCell ⟨p, i, none⟩ v) :=
 ⟨h.1.set (Nat.lt_trans hg hwp) i v, h.2.1.put (Nat.le_of_lt hwp) hg i v, callAt_set h.2.2.1 (Nat.ne_of_lt hwp) i v, blk_put h.2.2.2 i v e⟩
theorem inCall_fill (g : Nat) (w : World) (r : List Wd) (kd : Int) (wq : World) (p : Nat) (hg : g < w.heap.size) (hwp : w.heap.size < p) (hr : RdAt g wq r) (hf : Fr g w wq) (hb : CallAt w.heap.size wq z52 (.slice none 0 0)) (hp : CallAt p wq z52 (.slice none 0 0)) :
  InCall g w r { z52 with f0 := kd } (.pointer (some ⟨p, 0, none⟩)) (((((((((((wq.setCell ⟨p, 0, none⟩ (.int .i64 kd)).setCell ⟨p, 1, none⟩ (.string ⟨#[]⟩)).setCell ⟨p, 2, none⟩ (.string ⟨#[]⟩)).setCell ⟨p, 3, none⟩ (.slice none 0 0)).setCell ⟨p, 4, none⟩ (.string ⟨#[]⟩)).setCell ⟨p, 5, none⟩ (.string ⟨#[]⟩)).setCell ⟨p, 6, none⟩ (.bool false)).setCell ⟨p, 7, none⟩ (.int .i64 0)).setCell ⟨p, 8, none⟩ (.int .i64 0)).setCell ⟨p, 9, none⟩ (.int .i64 0)).setCell ⟨p, 10, none⟩ (.int .i64 0)) := by
 have h : InC g w r p #[.int .i64 0, .string ⟨#[]⟩, .string ⟨#[]⟩, .slice none 0 0, .string ⟨#[]⟩, .string ⟨#[]⟩, .bool false, .int .i64 0, .int .i64 0, .int .i64 0, .int .i64 0] wq := ⟨hr, hf, hb, hp⟩
 have h := h.put hg hwp 0 (.int .i64 kd) #[.int .i64 kd, .string ⟨#[]⟩, .string ⟨#[]⟩, .slice none 0 0, .string ⟨#[]⟩, .string ⟨#[]⟩, .bool false, .int .i64 0, .int .i64 0, .int .i64 0, .int .i64 0] rfl
 have h := h.put hg hwp 1 (.string ⟨#[]⟩) #[.int .i64 kd, .string ⟨#[]⟩, .string ⟨#[]⟩, .slice none 0 0, .string ⟨#[]⟩, .string ⟨#[]⟩, .bool false, .int .i64 0, .int .i64 0, .int .i64 0, .int .i64 0] rfl
 have h := h.put hg hwp 2 (.string ⟨#[]⟩) #[.int .i64 kd, .string ⟨#[]⟩, .string ⟨#[]⟩, .slice none 0 0, .string ⟨#[]⟩, .string ⟨#[]⟩, .bool false, .int .i64 0, .int .i64 0, .int .i64 0, .int .i64 0] rfl
 have h := h.put hg hwp 3 (.slice none 0 0) #[.int .i64 kd, .string ⟨#[]⟩, .string ⟨#[]⟩, .slice none 0 0, .string ⟨#[]⟩, .string ⟨#[]⟩, .bool false, .int .i64 0, .int .i64 0, .int .i64 0, .int .i64 0] rfl
 have h := h.put hg hwp 4 (.string ⟨#[]⟩) #[.int .i64 kd, .string ⟨#[]⟩, .string ⟨#[]⟩, .slice none 0 0, .string ⟨#[]⟩, .string ⟨#[]⟩, .bool false, .int .i64 0, .int .i64 0, .int .i64 0, .int .i64 0] rfl
 have h := h.put hg hwp 5 (.string ⟨#[]⟩) #[.int .i64 kd, .string ⟨#[]⟩, .string ⟨#[]⟩, .slice none 0 0, .string ⟨#[]⟩, .string ⟨#[]⟩, .bool false, .int .i64 0, .int .i64 0, .int .i64 0, .int .i64 0] rfl
 have h := h.put hg hwp 6 (.bool false) #[.int .i64 kd, .string ⟨#[]⟩, .string ⟨#[]⟩, .slice none 0 0, .string ⟨#[]⟩, .string ⟨#[]⟩, .bool false, .int .i64 0, .int .i64 0, .int .i64 0, .int .i64 0] rfl
 have h := h.put hg hwp 7 (.int .i64 0) #[.int .i64 kd, .string ⟨#[]⟩, .string ⟨#[]⟩, .slice none 0 0, .string ⟨#[]⟩, .string ⟨#[]⟩, .bool false, .int .i64 0, .int .i64 0, .int .i64 0, .int .i64 0] rfl
 have h := h.put hg hwp 8 (.int .i64 0) #[.int .i64 kd, .string ⟨#[]⟩, .string ⟨#[]⟩, .slice none 0 0, .string ⟨#[]⟩, .string ⟨#[]⟩, .bool false, .int .i64 0, .int .i64 0, .int .i64 0, .int .i64 0] rfl
 have h := h.put hg hwp 9 (.int .i64 0) #[.int .i64 kd, .string ⟨#[]⟩, .string ⟨#[]⟩, .slice none 0 0, .string ⟨#[]⟩, .string ⟨#[]⟩, .bool false, .int .i64 0, .int .i64 0, .int .i64 0, .int .i64 0] rfl
 have h := h.put hg hwp 10 (.int .i64 0) #[.int .i64 kd, .string ⟨#[]⟩, .string ⟨#[]⟩, .slice none 0 0, .string ⟨#[]⟩, .string ⟨#[]⟩, .bool false, .int .i64 0, .int .i64 0, .int .i64 0, .int .i64 0] rfl
 exact ⟨p, rfl, hwp, h.1, h.2.2.2, h.2.1, h.2.2.1⟩

set_option maxHeartbeats 4000000 in
theorem call_go (g : Nat) (s : ByteArray) (r : List Wd) (hl : r.length ≤ 1000000) (w : World) (h : RdAt g w (.name s :: r)) (hg3 : 0 < g) (hk : KAt w) :
  Calls Tryz.prog 94 #[.pointer (some ⟨g, 0, none⟩)] w fun e w' => CallPost g w (.name s :: r) e w' := by
 have hu46 := Tryz.underlying52
 obtain ⟨i, hi, hik⟩ := index_kind s
 generalize hks : kindS s = kd at hik
 have HKS := Aside0.mk hks
 have H := Aside0.mk h
 have HG : Aside0 (g < w.heap.size) := ⟨h.lt⟩
 have HK := Aside0.mk hk
 have HI := Aside0.mk hi
 have HL := Aside0.mk hl
 have HIK := Aside0.mk hik
 clear h hk hi hl hks hik
 go_enter Tryz.func94, Tryz.ntmps94
 go_upto_region 1 with (fail)
 have H1 := H.out.fr ((Below.refl w.heap.size w).alloc (Nat.le_refl _) (.cells (callV z52 (.slice none 0 0)) 52))
 have F1 : Fr g w _ := Fr.ofB H.out.lt ((Below.refl w.heap.size w).alloc (Nat.le_refl _) (.cells (callV z52 (.slice none 0 0)) 52))
 have B1 := blk_new w (.cells (callV z52 (.slice none 0 0)) 52)
 generalize hw1 : w.alloc (.cells (callV z52 (.slice none 0 0)) 52) = w1 at H1 F1 B1
 change Code.wp _ _ _ _ (w.alloc (.cells (callV z52 (.slice none 0 0)) 52))
 rw [hw1]
 have HR1 := Aside0.mk H1
 have HF1 := Aside0.mk F1
 have HB1 := Aside0.mk B1
 clear H1 F1 B1 hw1
 go_cut [3] (fun v3 wx => InCall g w r { z52 with f0 := kd } v3 wx)
 case first =>
  refine wp_region_any (by kernel_rfl) ?_
  change wpAny _ _ _ _ _ _ _ (World.drew _)
  have RD : Aside0 (RdAt g w1.drew (.name s :: r)) := ⟨HR1.out.drew⟩
  have FW : Aside0 (Fr g w w1.drew) := ⟨HF1.out.drew⟩
  have RB : Aside0 (CallAt w.heap.size w1.drew z52 (.slice none 0 0)) := ⟨HB1.out⟩
  clear HR1 HF1 HB1
  generalize w1.drew = wq at *
  refine wpAny_take (i := 0) (v := .slice (some ⟨0, 0, none⟩) 11 11) rfl (by kernel_rfl) (by kernel_rfl) (by kernel_rfl) (fun _ _ _ h => h) (Or.inl ⟨by rfl, ?_⟩) ?_
  ·
   intro w; go_simp; try rfl
  refine wpAny_take (i := 1) (v := .pointer (some ⟨g, 0, none⟩)) rfl (by kernel_rfl) (by kernel_rfl) (by kernel_rfl) (fun _ _ _ h => h) (Or.inl ⟨by rfl, ?_⟩) ?_
  ·
   intro w; go_simp; try rfl
  refine wpAny_ready (rs := [2, 6]) (by kernel_rfl) (by simp) ?_
  refine AllReady.cons rfl (fun K hK => ?_) (AllReady.cons rfl (fun K hK => ?_) (AllReady.nil))
  ·
   go_simp
   refine (name_ok g s r _ RD.out).mono ?_
   rintro e wn ⟨rfl, hr, hf⟩
   dsimp only
   refine hK _ _ ?_
   have RD' := Aside0.mk hr
   have FW' := Aside0.mk (FW.out.trans hf)
   have RB' := Aside0.mk (hf.blk (Nat.ne_of_gt HG.out) RB.out)
   clear hK K hr hf RD FW RB
   clear wq
   rename World => wq
   have RD := RD'; have FW := FW'; have RB := RB'
   clear RD' FW' RB'
   refine wpAny_ready (rs := [3, 6]) (by kernel_rfl) (by simp) ?_
   refine AllReady.cons rfl (fun K hK => ?_) (AllReady.cons rfl (fun K hK => ?_) (AllReady.nil))
   ·
    go_simp
    refine (slices_Index_string_string.calls 20 (some ⟨0, 0, none⟩) 11 kindsL s i _ (KAt.fr HK.out hg3 FW.out).C (by decide) HI.out).mono ?_
    rintro e w3 ⟨rfl, nd, rfl⟩
    dsimp only
    refine hK _ _ ?_
    have RD' : Aside0 (RdAt g (wq.drewN nd) r) := ⟨RD.out⟩
    have FW' : Aside0 (Fr g w (wq.drewN nd)) := ⟨FW.out.drewN nd⟩
    have RB' : Aside0 (CallAt w.heap.size (wq.drewN nd) z52 (.slice none 0 0)) := ⟨RB.out⟩
    clear hK K RD FW RB
    generalize wq.drewN nd = wd at *
    clear wq nd
    rename World => wq
    have RD := RD'; have FW := FW'; have RB := RB'
    clear RD' FW' RB'
    refine wpAny_ready (rs := [4, 6]) (by kernel_rfl) (by simp) ?_
    refine AllReady.cons rfl (fun K hK => ?_) (AllReady.cons rfl (fun K hK => ?_) (AllReady.nil))
    ·
     go_simp
     rw [HIK.out]
     refine hK _ _ ?_
     clear hK K
     refine wpAny_take (i := 5) (v := .agg #[.int .i64 kd, .string ⟨#[]⟩, .string ⟨#[]⟩, .slice none 0 0, .string ⟨#[]⟩, .string ⟨#[]⟩, .bool false, .int .i64 0, .int .i64 0, .int .i64 0, .int .i64 0]) rfl (by kernel_rfl) (by kernel_rfl) (by kernel_rfl) (fun _ _ _ h => h) (Or.inl ⟨by rfl, ?_⟩) ?_
     ·
      intro w; go_simp; try rfl
     refine wpAny_ready (rs := [6]) (by kernel_rfl) (by simp) ?_
     refine AllReady.cons rfl (fun K hK => ?_) (AllReady.nil)
     go_simp
     refine hK _ _ ?_
     clear hK K
     have RD' := Aside0.mk (RD.out.alloc (.cells (callV z52 (.slice none 0 0)) 52))
     have FW' := Aside0.mk (Fr.alloc HG.out FW.out (.cells (callV z52 (.slice none 0 0)) 52))
     have RB' := Aside0.mk (callAt_alloc RB.out (.cells (callV z52 (.slice none 0 0)) 52))
     have BP' : Aside0 (CallAt wq.heap.size (wq.alloc (.cells (callV z52 (.slice none 0 0)) 52)) z52 (.slice none 0 0)) := ⟨blk_new _ _⟩
     have HP := Aside0.mk (blk_lt RB.out)
     change wpAny _ _ _ _ _ _ _ (World.alloc wq (.cells (callV z52 (.slice none 0 0)) 52))
     clear RD FW RB
     generalize World.alloc wq (.cells (callV z52 (.slice none 0 0)) 52) = wd at *
     generalize wq.heap.size = p at *
     clear wq
     rename World => wq
     have RD := RD'; have FW := FW'; have RB := RB'; have BP := BP'
     clear RD' FW' RB' BP'
     refine wpAny_ready (rs := [7]) (by kernel_rfl) (by simp) ?_
     refine AllReady.cons rfl (fun K hK => ?_) (AllReady.nil)
     have bc0 : wq.cell? ⟨p, 0, none⟩ = some (.int .i64 0) := (blk_cell BP.out 0).trans rfl
     have bf0 := blk_frozen BP.out 0
     have bc1 : wq.cell? ⟨p, 1, none⟩ = some (.string ⟨#[]⟩) := (blk_cell BP.out 1).trans rfl
     have bf1 := blk_frozen BP.out 1
     have bc2 : wq.cell? ⟨p, 2, none⟩ = some (.string ⟨#[]⟩) := (blk_cell BP.out 2).trans rfl
     have bf2 := blk_frozen BP.out 2
     have bc3 : wq.cell? ⟨p, 3, none⟩ = some (.slice none 0 0) := (blk_cell BP.out 3).trans rfl
     have bf3 := blk_frozen BP.out 3
     have bc4 : wq.cell? ⟨p, 4, none⟩ = some (.string ⟨#[]⟩) := (blk_cell BP.out 4).trans rfl
     have bf4 := blk_frozen BP.out 4
     have bc5 : wq.cell? ⟨p, 5, none⟩ = some (.string ⟨#[]⟩) := (blk_cell BP.out 5).trans rfl
     have bf5 := blk_frozen BP.out 5
     have bc6 : wq.cell? ⟨p, 6, none⟩ = some (.bool false) := (blk_cell BP.out 6).trans rfl
     have bf6 := blk_frozen BP.out 6
     have bc7 : wq.cell? ⟨p, 7, none⟩ = some (.int .i64 0) := (blk_cell BP.out 7).trans rfl
     have bf7 := blk_frozen BP.out 7
     have bc8 : wq.cell? ⟨p, 8, none⟩ = some (.int .i64 0) := (blk_cell BP.out 8).trans rfl
     have bf8 := blk_frozen BP.out 8
     have bc9 : wq.cell? ⟨p, 9, none⟩ = some (.int .i64 0) := (blk_cell BP.out 9).trans rfl
     have bf9 := blk_frozen BP.out 9
     have bc10 : wq.cell? ⟨p, 10, none⟩ = some (.int .i64 0) := (blk_cell BP.out 10).trans rfl
     have bf10 := blk_frozen BP.out 10
     go_simp
     refine hK _ _ ?_
     clear hK K
     refine wpAny_done (by kernel_rfl) ?_ _
     go_wp2_with (fail)
     go_meet
     exact inCall_fill g w r kd wq p HG.out HP.out RD.out FW.out RB.out BP.out
    ·
     go_simp
     refine hK _ _ ?_
     clear hK K
     have RD' := Aside0.mk (RD.out.alloc (.cells (callV z52 (.slice none 0 0)) 52))
     have FW' := Aside0.mk (Fr.alloc HG.out FW.out (.cells (callV z52 (.slice none 0 0)) 52))
     have RB' := Aside0.mk (callAt_alloc RB.out (.cells (callV z52 (.slice none 0 0)) 52))
     have BP' : Aside0 (CallAt wq.heap.size (wq.alloc (.cells (callV z52 (.slice none 0 0)) 52)) z52 (.slice none 0 0)) := ⟨blk_new _ _⟩
     have HP := Aside0.mk (blk_lt RB.out)
     change wpAny _ _ _ _ _ _ _ (World.alloc wq (.cells (callV z52 (.slice none 0 0)) 52))
     clear RD FW RB
     generalize World.alloc wq (.cells (callV z52 (.slice none 0 0)) 52) = wd at *
     generalize wq.heap.size = p at *
     clear wq
     rename World => wq
     have RD := RD'; have FW := FW'; have RB := RB'; have BP := BP'
     clear RD' FW' RB' BP'
     refine wpAny_ready (rs := [4]) (by kernel_rfl) (by simp) ?_
     refine AllReady.cons rfl (fun K hK => ?_) (AllReady.nil)
     go_simp
     rw [HIK.out]
     refine hK _ _ ?_
     clear hK K
     refine wpAny_take (i := 5) (v := .agg #[.int .i64 kd, .string ⟨#[]⟩, .string ⟨#[]⟩, .slice none 0 0, .string ⟨#[]⟩, .string ⟨#[]⟩, .bool false, .int .i64 0, .int .i64 0, .int .i64 0, .int .i64 0]) rfl (by kernel_rfl) (by kernel_rfl) (by kernel_rfl) (fun _ _ _ h => h) (Or.inl ⟨by rfl, ?_⟩) ?_
     ·
      intro w; go_simp; try rfl
     refine wpAny_ready (rs := [7]) (by kernel_rfl) (by simp) ?_
     refine AllReady.cons rfl (fun K hK => ?_) (AllReady.nil)
     have bc0 : wq.cell? ⟨p, 0, none⟩ = some (.int .i64 0) := (blk_cell BP.out 0).trans rfl
     have bf0 := blk_frozen BP.out 0
     have bc1 : wq.cell? ⟨p, 1, none⟩ = some (.string ⟨#[]⟩) := (blk_cell BP.out 1).trans rfl
     have bf1 := blk_frozen BP.out 1
     have bc2 : wq.cell? ⟨p, 2, none⟩ = some (.string ⟨#[]⟩) := (blk_cell BP.out 2).trans rfl
     have bf2 := blk_frozen BP.out 2
     have bc3 : wq.cell? ⟨p, 3, none⟩ = some (.slice none 0 0) := (blk_cell BP.out 3).trans rfl
     have bf3 := blk_frozen BP.out 3
     have bc4 : wq.cell? ⟨p, 4, none⟩ = some (.string ⟨#[]⟩) := (blk_cell BP.out 4).trans rfl
     have bf4 := blk_frozen BP.out 4
     have bc5 : wq.cell? ⟨p, 5, none⟩ = some (.string ⟨#[]⟩) := (blk_cell BP.out 5).trans rfl
     have bf5 := blk_frozen BP.out 5
     have bc6 : wq.cell? ⟨p, 6, none⟩ = some (.bool false) := (blk_cell BP.out 6).trans rfl
     have bf6 := blk_frozen BP.out 6
     have bc7 : wq.cell? ⟨p, 7, none⟩ = some (.int .i64 0) := (blk_cell BP.out 7).trans rfl
     have bf7 := blk_frozen BP.out 7
     have bc8 : wq.cell? ⟨p, 8, none⟩ = some (.int .i64 0) := (blk_cell BP.out 8).trans rfl
     have bf8 := blk_frozen BP.out 8
     have bc9 : wq.cell? ⟨p, 9, none⟩ = some (.int .i64 0) := (blk_cell BP.out 9).trans rfl
     have bf9 := blk_frozen BP.out 9
     have bc10 : wq.cell? ⟨p, 10, none⟩ = some (.int .i64 0) := (blk_cell BP.out 10).trans rfl
     have bf10 := blk_frozen BP.out 10
     go_simp
     refine hK _ _ ?_
     clear hK K
     refine wpAny_done (by kernel_rfl) ?_ _
     go_wp2_with (fail)
     go_meet
     exact inCall_fill g w r kd wq p HG.out HP.out RD.out FW.out RB.out BP.out
   ·
    go_simp
    refine hK _ _ ?_
    clear hK K
    have RD' := Aside0.mk (RD.out.alloc (.cells (callV z52 (.slice none 0 0)) 52))
    have FW' := Aside0.mk (Fr.alloc HG.out FW.out (.cells (callV z52 (.slice none 0 0)) 52))
    have RB' := Aside0.mk (callAt_alloc RB.out (.cells (callV z52 (.slice none 0 0)) 52))
    have BP' : Aside0 (CallAt wq.heap.size (wq.alloc (.cells (callV z52 (.slice none 0 0)) 52)) z52 (.slice none 0 0)) := ⟨blk_new _ _⟩
    have HP := Aside0.mk (blk_lt RB.out)
    change wpAny _ _ _ _ _ _ _ (World.alloc wq (.cells (callV z52 (.slice none 0 0)) 52))
    clear RD FW RB
    generalize World.alloc wq (.cells (callV z52 (.slice none 0 0)) 52) = wd at *
    generalize wq.heap.size = p at *
    clear wq
    rename World => wq
    have RD := RD'; have FW := FW'; have RB := RB'; have BP := BP'
    clear RD' FW' RB' BP'
    refine wpAny_ready (rs := [3]) (by kernel_rfl) (by simp) ?_
    refine AllReady.cons rfl (fun K hK => ?_) (AllReady.nil)
    go_simp
    refine (slices_Index_string_string.calls 20 (some ⟨0, 0, none⟩) 11 kindsL s i _ (KAt.fr HK.out hg3 FW.out).C (by decide) HI.out).mono ?_
    rintro e w3 ⟨rfl, nd, rfl⟩
    dsimp only
    refine hK _ _ ?_
    have RD' : Aside0 (RdAt g (wq.drewN nd) r) := ⟨RD.out⟩
    have FW' : Aside0 (Fr g w (wq.drewN nd)) := ⟨FW.out.drewN nd⟩
    have RB' : Aside0 (CallAt w.heap.size (wq.drewN nd) z52 (.slice none 0 0)) := ⟨RB.out⟩
    have BP' : Aside0 (CallAt p (wq.drewN nd) z52 (.slice none 0 0)) := ⟨BP.out⟩
    clear hK K RD FW RB BP
    generalize wq.drewN nd = wd at *
    clear wq nd
    rename World => wq
    have RD := RD'; have FW := FW'; have RB := RB'; have BP := BP'
    clear RD' FW' RB' BP'
    refine wpAny_ready (rs := [4]) (by kernel_rfl) (by simp) ?_
    refine AllReady.cons rfl (fun K hK => ?_) (AllReady.nil)
    go_simp
    rw [HIK.out]
    refine hK _ _ ?_
    clear hK K
    refine wpAny_take (i := 5) (v := .agg #[.int .i64 kd, .string ⟨#[]⟩, .string ⟨#[]⟩, .slice none 0 0, .string ⟨#[]⟩, .string ⟨#[]⟩, .bool false, .int .i64 0, .int .i64 0, .int .i64 0, .int .i64 0]) rfl (by kernel_rfl) (by kernel_rfl) (by kernel_rfl) (fun _ _ _ h => h) (Or.inl ⟨by rfl, ?_⟩) ?_
    ·
     intro w; go_simp; try rfl
    refine wpAny_ready (rs := [7]) (by kernel_rfl) (by simp) ?_
    refine AllReady.cons rfl (fun K hK => ?_) (AllReady.nil)
    have bc0 : wq.cell? ⟨p, 0, none⟩ = some (.int .i64 0) := (blk_cell BP.out 0).trans rfl
    have bf0 := blk_frozen BP.out 0
    have bc1 : wq.cell? ⟨p, 1, none⟩ = some (.string ⟨#[]⟩) := (blk_cell BP.out 1).trans rfl
    have bf1 := blk_frozen BP.out 1
    have bc2 : wq.cell? ⟨p, 2, none⟩ = some (.string ⟨#[]⟩) := (blk_cell BP.out 2).trans rfl
    have bf2 := blk_frozen BP.out 2
    have bc3 : wq.cell? ⟨p, 3, none⟩ = some (.slice none 0 0) := (blk_cell BP.out 3).trans rfl
    have bf3 := blk_frozen BP.out 3
    have bc4 : wq.cell? ⟨p, 4, none⟩ = some (.string ⟨#[]⟩) := (blk_cell BP.out 4).trans rfl
    have bf4 := blk_frozen BP.out 4
    have bc5 : wq.cell? ⟨p, 5, none⟩ = some (.string ⟨#[]⟩) := (blk_cell BP.out 5).trans rfl
    have bf5 := blk_frozen BP.out 5
    have bc6 : wq.cell? ⟨p, 6, none⟩ = some (.bool false) := (blk_cell BP.out 6).trans rfl
    have bf6 := blk_frozen BP.out 6
    have bc7 : wq.cell? ⟨p, 7, none⟩ = some (.int .i64 0) := (blk_cell BP.out 7).trans rfl
    have bf7 := blk_frozen BP.out 7
    have bc8 : wq.cell? ⟨p, 8, none⟩ = some (.int .i64 0) := (blk_cell BP.out 8).trans rfl
    have bf8 := blk_frozen BP.out 8
    have bc9 : wq.cell? ⟨p, 9, none⟩ = some (.int .i64 0) := (blk_cell BP.out 9).trans rfl
    have bf9 := blk_frozen BP.out 9
    have bc10 : wq.cell? ⟨p, 10, none⟩ = some (.int .i64 0) := (blk_cell BP.out 10).trans rfl
    have bf10 := blk_frozen BP.out 10
    go_simp
    refine hK _ _ ?_
    clear hK K
    refine wpAny_done (by kernel_rfl) ?_ _
    go_wp2_with (fail)
    go_meet
    exact inCall_fill g w r kd wq p HG.out HP.out RD.out FW.out RB.out BP.out
  ·
   go_simp
   refine hK _ _ ?_
   clear hK K
   have RD' := Aside0.mk (RD.out.alloc (.cells (callV z52 (.slice none 0 0)) 52))
   have FW' := Aside0.mk (Fr.alloc HG.out FW.out (.cells (callV z52 (.slice none 0 0)) 52))
   have RB' := Aside0.mk (callAt_alloc RB.out (.cells (callV z52 (.slice none 0 0)) 52))
   have BP' : Aside0 (CallAt wq.heap.size (wq.alloc (.cells (callV z52 (.slice none 0 0)) 52)) z52 (.slice none 0 0)) := ⟨blk_new _ _⟩
   have HP := Aside0.mk (blk_lt RB.out)
   change wpAny _ _ _ _ _ _ _ (World.alloc wq (.cells (callV z52 (.slice none 0 0)) 52))
   clear RD FW RB
   generalize World.alloc wq (.cells (callV z52 (.slice none 0 0)) 52) = wd at *
   generalize wq.heap.size = p at *
   clear wq
   rename World => wq
   have RD := RD'; have FW := FW'; have RB := RB'; have BP := BP'
   clear RD' FW' RB' BP'
   refine wpAny_ready (rs := [2]) (by kernel_rfl) (by simp) ?_
   refine AllReady.cons rfl (fun K hK => ?_) (AllReady.nil)
   go_simp
   refine (name_ok g s r _ RD.out).mono ?_
   rintro e wn ⟨rfl, hr, hf⟩
   dsimp only
   refine hK _ _ ?_
   have RD' := Aside0.mk hr
   have FW' := Aside0.mk (FW.out.trans hf)
   have RB' := Aside0.mk (hf.blk (Nat.ne_of_gt HG.out) RB.out)
   have BP' := Aside0.mk (hf.blk (Nat.ne_of_gt (Nat.lt_trans HG.out HP.out)) BP.out)
   clear hK K hr hf RD FW RB BP
   clear wq
   rename World => wq
   have RD := RD'; have FW := FW'; have RB := RB'; have BP := BP'
   clear RD' FW' RB' BP'
   refine wpAny_ready (rs := [3]) (by kernel_rfl) (by simp) ?_
   refine AllReady.cons rfl (fun K hK => ?_) (AllReady.nil)
   go_simp
   refine (slices_Index_string_string.calls 20 (some ⟨0, 0, none⟩) 11 kindsL s i _ (KAt.fr HK.out hg3 FW.out).C (by decide) HI.out).mono ?_
   rintro e w3 ⟨rfl, nd, rfl⟩
   dsimp only
   refine hK _ _ ?_
   have RD' : Aside0 (RdAt g (wq.drewN nd) r) := ⟨RD.out⟩
   have FW' : Aside0 (Fr g w (wq.drewN nd)) := ⟨FW.out.drewN nd⟩
   have RB' : Aside0 (CallAt w.heap.size (wq.drewN nd) z52 (.slice none 0 0)) := ⟨RB.out⟩
   have BP' : Aside0 (CallAt p (wq.drewN nd) z52 (.slice none 0 0)) := ⟨BP.out⟩
   clear hK K RD FW RB BP
   generalize wq.drewN nd = wd at *
   clear wq nd
   rename World => wq
   have RD := RD'; have FW := FW'; have RB := RB'; have BP := BP'
   clear RD' FW' RB' BP'
   refine wpAny_ready (rs := [4]) (by kernel_rfl) (by simp) ?_
   refine AllReady.cons rfl (fun K hK => ?_) (AllReady.nil)
   go_simp
   rw [HIK.out]
   refine hK _ _ ?_
   clear hK K
   refine wpAny_take (i := 5) (v := .agg #[.int .i64 kd, .string ⟨#[]⟩, .string ⟨#[]⟩, .slice none 0 0, .string ⟨#[]⟩, .string ⟨#[]⟩, .bool false, .int .i64 0, .int .i64 0, .int .i64 0, .int .i64 0]) rfl (by kernel_rfl) (by kernel_rfl) (by kernel_rfl) (fun _ _ _ h => h) (Or.inl ⟨by rfl, ?_⟩) ?_
   ·
    intro w; go_simp; try rfl
   refine wpAny_ready (rs := [7]) (by kernel_rfl) (by simp) ?_
   refine AllReady.cons rfl (fun K hK => ?_) (AllReady.nil)
   have bc0 : wq.cell? ⟨p, 0, none⟩ = some (.int .i64 0) := (blk_cell BP.out 0).trans rfl
   have bf0 := blk_frozen BP.out 0
   have bc1 : wq.cell? ⟨p, 1, none⟩ = some (.string ⟨#[]⟩) := (blk_cell BP.out 1).trans rfl
   have bf1 := blk_frozen BP.out 1
   have bc2 : wq.cell? ⟨p, 2, none⟩ = some (.string ⟨#[]⟩) := (blk_cell BP.out 2).trans rfl
   have bf2 := blk_frozen BP.out 2
   have bc3 : wq.cell? ⟨p, 3, none⟩ = some (.slice none 0 0) := (blk_cell BP.out 3).trans rfl
   have bf3 := blk_frozen BP.out 3
   have bc4 : wq.cell? ⟨p, 4, none⟩ = some (.string ⟨#[]⟩) := (blk_cell BP.out 4).trans rfl
   have bf4 := blk_frozen BP.out 4
   have bc5 : wq.cell? ⟨p, 5, none⟩ = some (.string ⟨#[]⟩) := (blk_cell BP.out 5).trans rfl
   have bf5 := blk_frozen BP.out 5
   have bc6 : wq.cell? ⟨p, 6, none⟩ = some (.bool false) := (blk_cell BP.out 6).trans rfl
   have bf6 := blk_frozen BP.out 6
   have bc7 : wq.cell? ⟨p, 7, none⟩ = some (.int .i64 0) := (blk_cell BP.out 7).trans rfl
   have bf7 := blk_frozen BP.out 7
   have bc8 : wq.cell? ⟨p, 8, none⟩ = some (.int .i64 0) := (blk_cell BP.out 8).trans rfl
   have bf8 := blk_frozen BP.out 8
   have bc9 : wq.cell? ⟨p, 9, none⟩ = some (.int .i64 0) := (blk_cell BP.out 9).trans rfl
   have bf9 := blk_frozen BP.out 9
   have bc10 : wq.cell? ⟨p, 10, none⟩ = some (.int .i64 0) := (blk_cell BP.out 10).trans rfl
   have bf10 := blk_frozen BP.out 10
   go_simp
   refine hK _ _ ?_
   clear hK K
   refine wpAny_done (by kernel_rfl) ?_ _
   go_wp2_with (fail)
   go_meet
   exact inCall_fill g w r kd wq p HG.out HP.out RD.out FW.out RB.out BP.out
 case rest =>
  obtain ⟨p, rfl, hwp, hr, hc, hf, hb⟩ := hcut
  have S0 : Aside0 (St g w p r { z52 with f0 := kd } (.slice none 0 0) wc) := ⟨hr, hf, hb, hc⟩
  have HWP := Aside0.mk hwp
  clear hr hc hf hb hwp HR1 HF1 HB1
  rename_i hKK
  refine hKK _ _ ?_
  clear hKK
  refine wp_seq_k (fun K2 hK2 => ?_)
  go_cut [3] (fun v3 wx => OutCall g w (.name s :: r) v3 wx)
  case first =>
   rcases kind_cases s with hkd | hkd | hkd | hkd | hkd | hkd | hkd | hkd | hkd | hkd | hkd
-- KINDS BEGIN
   ·
    obtain rfl : kd = 0 := HKS.out.symm.trans hkd
    have c0 : wc.cell? ⟨p, 0, none⟩ = some (.int .i64 0) := (blk_cell S0.out.2.2.2 0).trans rfl
    go_wp2_with (fail)
    exact ⟨rfl, S0.out.2.1, .inr ⟨by simp [callS, callK, HKS.out], _, _, rfl⟩⟩
   ·
    obtain rfl : kd = 1 := HKS.out.symm.trans hkd
    have c0 : wc.cell? ⟨p, 0, none⟩ = some (.int .i64 1) := (blk_cell S0.out.2.2.2 0).trans rfl
    have S1 := S0
    go_wp2_with (fail)
    clear c0
    refine (text_at g r _ S1.out.1).mono ?_
    rintro e w2 ⟨hf, ⟨a, r1, rfl, rfl, hr⟩ | ⟨hno, u, pv, rfl⟩⟩
    case inr => exact ⟨rfl, S1.out.2.1.trans hf, .inr ⟨by simp [callS, callK, getS, HKS.out, tx_none hno, tx_text, nu_num], _, _, rfl⟩⟩
    have S2 := Aside0.mk (S1.out.step HG.out HWP.out hr hf)
    clear hf hr
    have c1 : w2.cell? ⟨p, 1, none⟩ = some (.string ⟨#[]⟩) := (blk_cell S2.out.2.2.2 1).trans rfl
    have f1 : w2.frozen? ⟨p, 1, none⟩ = false := blk_frozen S2.out.2.2.2 1
    go_wp2_with (fail)
    have S3 := Aside0.mk (S2.out.put HG.out HWP.out 1 (.string a) ({ z52 with f0 := 1, f1 := a }) (.slice none 0 0) rfl)
    go_meet
    exact ⟨p, { z52 with f0 := 1, f1 := a }, r1, .slice none 0 0, rfl, HWP.out, by simp [callS, callK, getS, HKS.out,  tx_text, nu_num], S3.out, Kd.R_nil _ _ _ _ _⟩
   ·
    obtain rfl : kd = 2 := HKS.out.symm.trans hkd
    have c0 : wc.cell? ⟨p, 0, none⟩ = some (.int .i64 2) := (blk_cell S0.out.2.2.2 0).trans rfl
    have S1 := S0
    go_wp2_with (fail)
    clear c0
    refine (text_at g r _ S1.out.1).mono ?_
    rintro e w2 ⟨hf, ⟨a, r1, rfl, rfl, hr⟩ | ⟨hno, u, pv, rfl⟩⟩
    case inr => exact ⟨rfl, S1.out.2.1.trans hf, .inr ⟨by simp [callS, callK, putS, HKS.out, tx_none hno, tx_text, nu_num], _, _, rfl⟩⟩
    have S2 := Aside0.mk (S1.out.step HG.out HWP.out hr hf)
    clear hf hr
    go_wp2_with (fail)
    refine (text_at g r1 _ S2.out.1).mono ?_
    rintro e w3 ⟨hf, ⟨b, r2, rfl, rfl, hr⟩ | ⟨hno, u, pv, rfl⟩⟩
    case inr => exact ⟨rfl, S2.out.2.1.trans hf, .inr ⟨by simp [callS, callK, putS, HKS.out, tx_none hno, tx_text, nu_num], _, _, rfl⟩⟩
    have S3 := Aside0.mk (S2.out.step HG.out HWP.out hr hf)
    clear hf hr
    have c1 : w3.cell? ⟨p, 1, none⟩ = some (.string ⟨#[]⟩) := (blk_cell S3.out.2.2.2 1).trans rfl
    have f1 : w3.frozen? ⟨p, 1, none⟩ = false := blk_frozen S3.out.2.2.2 1
    have c2 : w3.cell? ⟨p, 2, none⟩ = some (.string ⟨#[]⟩) := (blk_cell S3.out.2.2.2 2).trans rfl
    have f2 : w3.frozen? ⟨p, 2, none⟩ = false := blk_frozen S3.out.2.2.2 2
    go_wp2_with (fail)
    clear c1 f1 c2 f2
    have S4 := Aside0.mk (S3.out.put HG.out HWP.out 1 (.string a) ({ z52 with f0 := 2, f1 := a }) (.slice none 0 0) rfl)
    have S5 := Aside0.mk (S4.out.put HG.out HWP.out 2 (.string b) ({ z52 with f0 := 2, f1 := a, f2 := b }) (.slice none 0 0) rfl)
    refine (number_at g r2 _ S5.out.1).mono ?_
    rintro e w4 ⟨hf, ⟨j, r3, rfl, rfl, hr⟩ | ⟨hno, u, pv, rfl⟩⟩
    case inr => exact ⟨rfl, S5.out.2.1.trans hf, .inr ⟨by simp [callS, callK, putS, HKS.out, nu_none hno, tx_text, nu_num], _, _, rfl⟩⟩
    have S6 := Aside0.mk (S5.out.step HG.out HWP.out hr hf)
    clear hf hr
    go_wp2_with (fail)
    refine (number_at g r3 _ S6.out.1).mono ?_
    rintro e w5 ⟨hf, ⟨h, r4, rfl, rfl, hr⟩ | ⟨hno, u, pv, rfl⟩⟩
    case inr => exact ⟨rfl, S6.out.2.1.trans hf, .inr ⟨by simp [callS, callK, putS, HKS.out, nu_none hno, tx_text, nu_num], _, _, rfl⟩⟩
    have S7 := Aside0.mk (S6.out.step HG.out HWP.out hr hf)
    clear hf hr
    have c9 : w5.cell? ⟨p, 9, none⟩ = some (.int .i64 0) := (blk_cell S7.out.2.2.2 9).trans rfl
    have f9 : w5.frozen? ⟨p, 9, none⟩ = false := blk_frozen S7.out.2.2.2 9
    have c10 : w5.cell? ⟨p, 10, none⟩ = some (.int .i64 0) := (blk_cell S7.out.2.2.2 10).trans rfl
    have f10 : w5.frozen? ⟨p, 10, none⟩ = false := blk_frozen S7.out.2.2.2 10
    go_wp2_with (fail)
    have S8 := Aside0.mk (S7.out.put HG.out HWP.out 9 (.int .i64 j) ({ z52 with f0 := 2, f1 := a, f2 := b, f9 := j }) (.slice none 0 0) rfl)
    have S9 := Aside0.mk (S8.out.put HG.out HWP.out 10 (.int .i64 h) ({ z52 with f0 := 2, f1 := a, f2 := b, f9 := j, f10 := h }) (.slice none 0 0) rfl)
    go_meet
    exact ⟨p, { z52 with f0 := 2, f1 := a, f2 := b, f9 := j, f10 := h }, r4, .slice none 0 0, rfl, HWP.out, by simp [callS, callK, putS, HKS.out,  tx_text, nu_num], S9.out, Kd.R_nil _ _ _ _ _⟩
   ·
    obtain rfl : kd = 3 := HKS.out.symm.trans hkd
    have c0 : wc.cell? ⟨p, 0, none⟩ = some (.int .i64 3) := (blk_cell S0.out.2.2.2 0).trans rfl
    have S1 := S0
    go_wp2_with (fail)
    clear c0
    refine (text_at g r _ S1.out.1).mono ?_
    rintro e w2 ⟨hf, ⟨a, r1, rfl, rfl, hr⟩ | ⟨hno, u, pv, rfl⟩⟩
    case inr => exact ⟨rfl, S1.out.2.1.trans hf, .inr ⟨by simp [callS, callK, removeS, HKS.out, tx_none hno, tx_text, nu_num], _, _, rfl⟩⟩
    have S2 := Aside0.mk (S1.out.step HG.out HWP.out hr hf)
    clear hf hr
    have c1 : w2.cell? ⟨p, 1, none⟩ = some (.string ⟨#[]⟩) := (blk_cell S2.out.2.2.2 1).trans rfl
    have f1 : w2.frozen? ⟨p, 1, none⟩ = false := blk_frozen S2.out.2.2.2 1
    go_wp2_with (fail)
    clear c1 f1
    have S3 := Aside0.mk (S2.out.put HG.out HWP.out 1 (.string a) ({ z52 with f0 := 3, f1 := a }) (.slice none 0 0) rfl)
    refine (number_at g r1 _ S3.out.1).mono ?_
    rintro e w3 ⟨hf, ⟨j, r2, rfl, rfl, hr⟩ | ⟨hno, u, pv, rfl⟩⟩
    case inr => exact ⟨rfl, S3.out.2.1.trans hf, .inr ⟨by simp [callS, callK, removeS, HKS.out, nu_none hno, tx_text, nu_num], _, _, rfl⟩⟩
    have S4 := Aside0.mk (S3.out.step HG.out HWP.out hr hf)
    clear hf hr
    go_wp2_with (fail)
    refine (number_at g r2 _ S4.out.1).mono ?_
    rintro e w4 ⟨hf, ⟨h, r3, rfl, rfl, hr⟩ | ⟨hno, u, pv, rfl⟩⟩
    case inr => exact ⟨rfl, S4.out.2.1.trans hf, .inr ⟨by simp [callS, callK, removeS, HKS.out, nu_none hno, tx_text, nu_num], _, _, rfl⟩⟩
    have S5 := Aside0.mk (S4.out.step HG.out HWP.out hr hf)
    clear hf hr
    have c9 : w4.cell? ⟨p, 9, none⟩ = some (.int .i64 0) := (blk_cell S5.out.2.2.2 9).trans rfl
    have f9 : w4.frozen? ⟨p, 9, none⟩ = false := blk_frozen S5.out.2.2.2 9
    have c10 : w4.cell? ⟨p, 10, none⟩ = some (.int .i64 0) := (blk_cell S5.out.2.2.2 10).trans rfl
    have f10 : w4.frozen? ⟨p, 10, none⟩ = false := blk_frozen S5.out.2.2.2 10
    go_wp2_with (fail)
    have S6 := Aside0.mk (S5.out.put HG.out HWP.out 9 (.int .i64 j) ({ z52 with f0 := 3, f1 := a, f9 := j }) (.slice none 0 0) rfl)
    have S7 := Aside0.mk (S6.out.put HG.out HWP.out 10 (.int .i64 h) ({ z52 with f0 := 3, f1 := a, f9 := j, f10 := h }) (.slice none 0 0) rfl)
    go_meet
    exact ⟨p, { z52 with f0 := 3, f1 := a, f9 := j, f10 := h }, r3, .slice none 0 0, rfl, HWP.out, by simp [callS, callK, removeS, HKS.out,  tx_text, nu_num], S7.out, Kd.R_nil _ _ _ _ _⟩
   ·
    obtain rfl : kd = 4 := HKS.out.symm.trans hkd
    have c0 : wc.cell? ⟨p, 0, none⟩ = some (.int .i64 4) := (blk_cell S0.out.2.2.2 0).trans rfl
    have S1 := S0
    go_wp2_with (fail)
    clear c0
    refine (number_at g r _ S1.out.1).mono ?_
    rintro e w2 ⟨hf, ⟨j, r1, rfl, rfl, hr⟩ | ⟨hno, u, pv, rfl⟩⟩
    case inr => exact ⟨rfl, S1.out.2.1.trans hf, .inr ⟨by simp [callS, callK, batchS, HKS.out, nu_none hno, tx_text, nu_num], _, _, rfl⟩⟩
    have S2 := Aside0.mk (S1.out.step HG.out HWP.out hr hf)
    clear hf hr
    go_wp2_with (fail)
    refine (number_at g r1 _ S2.out.1).mono ?_
    rintro e w3 ⟨hf, ⟨h, r2, rfl, rfl, hr⟩ | ⟨hno, u, pv, rfl⟩⟩
    case inr => exact ⟨rfl, S2.out.2.1.trans hf, .inr ⟨by simp [callS, callK, batchS, HKS.out, nu_none hno, tx_text, nu_num], _, _, rfl⟩⟩
    have S3 := Aside0.mk (S2.out.step HG.out HWP.out hr hf)
    clear hf hr
    have c9 : w3.cell? ⟨p, 9, none⟩ = some (.int .i64 0) := (blk_cell S3.out.2.2.2 9).trans rfl
    have f9 : w3.frozen? ⟨p, 9, none⟩ = false := blk_frozen S3.out.2.2.2 9
    have c10 : w3.cell? ⟨p, 10, none⟩ = some (.int .i64 0) := (blk_cell S3.out.2.2.2 10).trans rfl
    have f10 : w3.frozen? ⟨p, 10, none⟩ = false := blk_frozen S3.out.2.2.2 10
    go_wp2_with (fail)
    clear c9 f9 c10 f10
    have S4 := Aside0.mk (S3.out.put HG.out HWP.out 9 (.int .i64 j) ({ z52 with f0 := 4, f9 := j }) (.slice none 0 0) rfl)
    have S5 := Aside0.mk (S4.out.put HG.out HWP.out 10 (.int .i64 h) ({ z52 with f0 := 4, f9 := j, f10 := h }) (.slice none 0 0) rfl)
    refine (entries_at g r2 (by have h1 := HL.out; simp only [List.length_cons] at h1; omega) _ S5.out.1).mono ?_
    rintro e w4 ⟨hf, ⟨L, v, hs3, rfl, hr, ho⟩ | ⟨hno, u, pv, rfl⟩⟩
    case inr => exact ⟨rfl, S5.out.2.1.trans hf, .inr ⟨by simp [callS, callK, batchS, HKS.out, hno, tx_text, nu_num], _, _, rfl⟩⟩
    obtain ⟨Ao, co, eo⟩ := Kd.R_slice ho
    subst eo
    have O6 := Aside0.mk (R_low ho (blk_lt S5.out.2.2.2) (Nat.lt_trans HWP.out (blk_lt S5.out.2.2.2)) 3 (.slice Ao L.length co))
    have S6 := Aside0.mk (S5.out.step HG.out HWP.out hr hf)
    clear hf hr ho
    have c3 : w4.cell? ⟨p, 3, none⟩ = some (.slice none 0 0) := (blk_cell S6.out.2.2.2 3).trans rfl
    have f3 : w4.frozen? ⟨p, 3, none⟩ = false := blk_frozen S6.out.2.2.2 3
    go_wp2_with (fail)
    have S7 := Aside0.mk (S6.out.put HG.out HWP.out 3 (.slice Ao L.length co) ({ z52 with f0 := 4, f9 := j, f10 := h, f3 := L }) (.slice Ao L.length co) rfl)
    go_meet
    exact ⟨p, { z52 with f0 := 4, f9 := j, f10 := h, f3 := L }, [], .slice Ao L.length co, rfl, HWP.out, by simp [callS, callK, batchS, HKS.out, hs3,  tx_text, nu_num], S7.out, O6.out⟩
   ·
    obtain rfl : kd = 5 := HKS.out.symm.trans hkd
    have c0 : wc.cell? ⟨p, 0, none⟩ = some (.int .i64 5) := (blk_cell S0.out.2.2.2 0).trans rfl
    have S1 := S0
    go_wp2_with (fail)
    clear c0
    refine (span_at g p (Nat.lt_trans HG.out HWP.out) r ({ z52 with f0 := 5 }) (.slice none 0 0) _ S1.out.1 S1.out.2.2.2).mono ?_
    rintro e w2 ⟨hf, ⟨y, r1, hs1, rfl, hr, hc⟩ | ⟨hno, u, pv, rfl⟩⟩
    case inr => exact ⟨rfl, S1.out.2.1.of2 HWP.out hf, .inr ⟨by simp [callS, callK, scanS, HKS.out, hno, tx_text, nu_num], _, _, rfl⟩⟩
    have S2 := Aside0.mk (S1.out.span HG.out HWP.out hr hf hc)
    clear hf hr hc
    go_wp2_with (fail)
    refine (number_at g r1 _ S2.out.1).mono ?_
    rintro e w3 ⟨hf, ⟨n, r2, rfl, rfl, hr⟩ | ⟨hno, u, pv, rfl⟩⟩
    case inr => exact ⟨rfl, S2.out.2.1.trans hf, .inr ⟨by simp [callS, callK, scanS, HKS.out, nu_none hno,hs1,  tx_text, nu_num], _, _, rfl⟩⟩
    have S3 := Aside0.mk (S2.out.step HG.out HWP.out hr hf)
    clear hf hr
    have c7 : w3.cell? ⟨p, 7, none⟩ = some (.int .i64 y.f7) := (blk_cell S3.out.2.2.2 7).trans rfl
    have f7 : w3.frozen? ⟨p, 7, none⟩ = false := blk_frozen S3.out.2.2.2 7
    go_wp2_with (fail)
    have S4 := Aside0.mk (S3.out.put HG.out HWP.out 7 (.int .i64 n) ({ y with f7 := n }) (.slice none 0 0) rfl)
    go_meet
    exact ⟨p, { y with f7 := n }, r2, .slice none 0 0, rfl, HWP.out, by simp [callS, callK, scanS, HKS.out, hs1,  tx_text, nu_num], S4.out, by rw [span_f3 hs1]; exact Kd.R_nil _ _ _ _ _⟩
   ·
    obtain rfl : kd = 6 := HKS.out.symm.trans hkd
    have c0 : wc.cell? ⟨p, 0, none⟩ = some (.int .i64 6) := (blk_cell S0.out.2.2.2 0).trans rfl
    have S1 := S0
    go_wp2_with (fail)
    go_meet
    exact ⟨p, { z52 with f0 := 6 }, r, .slice none 0 0, rfl, HWP.out, by simp [callS, callK, openS, HKS.out,  tx_text, nu_num], S1.out, Kd.R_nil _ _ _ _ _⟩
   ·
    obtain rfl : kd = 7 := HKS.out.symm.trans hkd
    have c0 : wc.cell? ⟨p, 0, none⟩ = some (.int .i64 7) := (blk_cell S0.out.2.2.2 0).trans rfl
    have S1 := S0
    go_wp2_with (fail)
    clear c0
    refine (number_at g r _ S1.out.1).mono ?_
    rintro e w2 ⟨hf, ⟨n, r1, rfl, rfl, hr⟩ | ⟨hno, u, pv, rfl⟩⟩
    case inr => exact ⟨rfl, S1.out.2.1.trans hf, .inr ⟨by simp [callS, callK, snapgetS, HKS.out, nu_none hno, tx_text, nu_num], _, _, rfl⟩⟩
    have S2 := Aside0.mk (S1.out.step HG.out HWP.out hr hf)
    clear hf hr
    go_wp2_with (fail)
    refine (text_at g r1 _ S2.out.1).mono ?_
    rintro e w3 ⟨hf, ⟨a, r2, rfl, rfl, hr⟩ | ⟨hno, u, pv, rfl⟩⟩
    case inr => exact ⟨rfl, S2.out.2.1.trans hf, .inr ⟨by simp [callS, callK, snapgetS, HKS.out, tx_none hno, tx_text, nu_num], _, _, rfl⟩⟩
    have S3 := Aside0.mk (S2.out.step HG.out HWP.out hr hf)
    clear hf hr
    have c8 : w3.cell? ⟨p, 8, none⟩ = some (.int .i64 0) := (blk_cell S3.out.2.2.2 8).trans rfl
    have f8 : w3.frozen? ⟨p, 8, none⟩ = false := blk_frozen S3.out.2.2.2 8
    have c1 : w3.cell? ⟨p, 1, none⟩ = some (.string ⟨#[]⟩) := (blk_cell S3.out.2.2.2 1).trans rfl
    have f1 : w3.frozen? ⟨p, 1, none⟩ = false := blk_frozen S3.out.2.2.2 1
    go_wp2_with (fail)
    have S4 := Aside0.mk (S3.out.put HG.out HWP.out 8 (.int .i64 n) ({ z52 with f0 := 7, f8 := n }) (.slice none 0 0) rfl)
    have S5 := Aside0.mk (S4.out.put HG.out HWP.out 1 (.string a) ({ z52 with f0 := 7, f8 := n, f1 := a }) (.slice none 0 0) rfl)
    go_meet
    exact ⟨p, { z52 with f0 := 7, f8 := n, f1 := a }, r2, .slice none 0 0, rfl, HWP.out, by simp [callS, callK, snapgetS, HKS.out,  tx_text, nu_num], S5.out, Kd.R_nil _ _ _ _ _⟩
   ·
    obtain rfl : kd = 8 := HKS.out.symm.trans hkd
    have c0 : wc.cell? ⟨p, 0, none⟩ = some (.int .i64 8) := (blk_cell S0.out.2.2.2 0).trans rfl
    have S1 := S0
    go_wp2_with (fail)
    clear c0
    refine (number_at g r _ S1.out.1).mono ?_
    rintro e w2 ⟨hf, ⟨m, r1, rfl, rfl, hr⟩ | ⟨hno, u, pv, rfl⟩⟩
    case inr => exact ⟨rfl, S1.out.2.1.trans hf, .inr ⟨by simp [callS, callK, snapscanS, HKS.out, nu_none hno, tx_text, nu_num], _, _, rfl⟩⟩
    have S2 := Aside0.mk (S1.out.step HG.out HWP.out hr hf)
    clear hf hr
    have c8 : w2.cell? ⟨p, 8, none⟩ = some (.int .i64 0) := (blk_cell S2.out.2.2.2 8).trans rfl
    have f8 : w2.frozen? ⟨p, 8, none⟩ = false := blk_frozen S2.out.2.2.2 8
    go_wp2_with (fail)
    clear c8 f8
    have S3 := Aside0.mk (S2.out.put HG.out HWP.out 8 (.int .i64 m) ({ z52 with f0 := 8, f8 := m }) (.slice none 0 0) rfl)
    refine (span_at g p (Nat.lt_trans HG.out HWP.out) r1 ({ z52 with f0 := 8, f8 := m }) (.slice none 0 0) _ S3.out.1 S3.out.2.2.2).mono ?_
    rintro e w3 ⟨hf, ⟨y, r2, hs2, rfl, hr, hc⟩ | ⟨hno, u, pv, rfl⟩⟩
    case inr => exact ⟨rfl, S3.out.2.1.of2 HWP.out hf, .inr ⟨by simp [callS, callK, snapscanS, HKS.out, hno, tx_text, nu_num], _, _, rfl⟩⟩
    have S4 := Aside0.mk (S3.out.span HG.out HWP.out hr hf hc)
    clear hf hr hc
    go_wp2_with (fail)
    refine (number_at g r2 _ S4.out.1).mono ?_
    rintro e w4 ⟨hf, ⟨n, r3, rfl, rfl, hr⟩ | ⟨hno, u, pv, rfl⟩⟩
    case inr => exact ⟨rfl, S4.out.2.1.trans hf, .inr ⟨by simp [callS, callK, snapscanS, HKS.out, nu_none hno,hs2,  tx_text, nu_num], _, _, rfl⟩⟩
    have S5 := Aside0.mk (S4.out.step HG.out HWP.out hr hf)
    clear hf hr
    have c7 : w4.cell? ⟨p, 7, none⟩ = some (.int .i64 y.f7) := (blk_cell S5.out.2.2.2 7).trans rfl
    have f7 : w4.frozen? ⟨p, 7, none⟩ = false := blk_frozen S5.out.2.2.2 7
    go_wp2_with (fail)
    have S6 := Aside0.mk (S5.out.put HG.out HWP.out 7 (.int .i64 n) ({ y with f7 := n }) (.slice none 0 0) rfl)
    go_meet
    exact ⟨p, { y with f7 := n }, r3, .slice none 0 0, rfl, HWP.out, by simp [callS, callK, snapscanS, HKS.out, hs2,  tx_text, nu_num], S6.out, by rw [span_f3 hs2]; exact Kd.R_nil _ _ _ _ _⟩
   ·
    obtain rfl : kd = 9 := HKS.out.symm.trans hkd
    have c0 : wc.cell? ⟨p, 0, none⟩ = some (.int .i64 9) := (blk_cell S0.out.2.2.2 0).trans rfl
    have S1 := S0
    go_wp2_with (fail)
    clear c0
    refine (number_at g r _ S1.out.1).mono ?_
    rintro e w2 ⟨hf, ⟨n, r1, rfl, rfl, hr⟩ | ⟨hno, u, pv, rfl⟩⟩
    case inr => exact ⟨rfl, S1.out.2.1.trans hf, .inr ⟨by simp [callS, callK, closeS, HKS.out, nu_none hno, tx_text, nu_num], _, _, rfl⟩⟩
    have S2 := Aside0.mk (S1.out.step HG.out HWP.out hr hf)
    clear hf hr
    have c8 : w2.cell? ⟨p, 8, none⟩ = some (.int .i64 0) := (blk_cell S2.out.2.2.2 8).trans rfl
    have f8 : w2.frozen? ⟨p, 8, none⟩ = false := blk_frozen S2.out.2.2.2 8
    go_wp2_with (fail)
    have S3 := Aside0.mk (S2.out.put HG.out HWP.out 8 (.int .i64 n) ({ z52 with f0 := 9, f8 := n }) (.slice none 0 0) rfl)
    go_meet
    exact ⟨p, { z52 with f0 := 9, f8 := n }, r1, .slice none 0 0, rfl, HWP.out, by simp [callS, callK, closeS, HKS.out,  tx_text, nu_num], S3.out, Kd.R_nil _ _ _ _ _⟩
   ·
    obtain rfl : kd = 10 := HKS.out.symm.trans hkd
    have c0 : wc.cell? ⟨p, 0, none⟩ = some (.int .i64 10) := (blk_cell S0.out.2.2.2 0).trans rfl
    have S1 := S0
    go_wp2_with (fail)
    go_meet
    exact ⟨p, { z52 with f0 := 10 }, r, .slice none 0 0, rfl, HWP.out, by simp [callS, callK, collectS, HKS.out,  tx_text, nu_num], S1.out, Kd.R_nil _ _ _ _ _⟩
  -- KINDS END
  case rest =>
   obtain ⟨p, x, r2, v, rfl, hwp2, hcs, hst, hrow⟩ := hcut
   obtain ⟨A, c, ev⟩ := Kd.R_slice hrow
   subst ev
   have HST := Aside0.mk hst
   have HROW := Aside0.mk hrow
   have HCS := Aside0.mk hcs
   clear hst hrow hcs hwp2
   refine hK2 _ _ ?_
   clear hK2 K2
   have c0 : wc.cell? ⟨p, 0, none⟩ = some (.int .i64 x.f0) := (blk_cell HST.out.2.2.2 0).trans rfl
   have c1 : wc.cell? ⟨p, 1, none⟩ = some (.string x.f1) := (blk_cell HST.out.2.2.2 1).trans rfl
   have c2 : wc.cell? ⟨p, 2, none⟩ = some (.string x.f2) := (blk_cell HST.out.2.2.2 2).trans rfl
   have c3 : wc.cell? ⟨p, 3, none⟩ = some (.slice A x.f3.length c) := (blk_cell HST.out.2.2.2 3).trans rfl
   have c4 : wc.cell? ⟨p, 4, none⟩ = some (.string x.f4) := (blk_cell HST.out.2.2.2 4).trans rfl
   have c5 : wc.cell? ⟨p, 5, none⟩ = some (.string x.f5) := (blk_cell HST.out.2.2.2 5).trans rfl
   have c6 : wc.cell? ⟨p, 6, none⟩ = some (.bool x.f6) := (blk_cell HST.out.2.2.2 6).trans rfl
   have c7 : wc.cell? ⟨p, 7, none⟩ = some (.int .i64 x.f7) := (blk_cell HST.out.2.2.2 7).trans rfl
   have c8 : wc.cell? ⟨p, 8, none⟩ = some (.int .i64 x.f8) := (blk_cell HST.out.2.2.2 8).trans rfl
   have c9 : wc.cell? ⟨p, 9, none⟩ = some (.int .i64 x.f9) := (blk_cell HST.out.2.2.2 9).trans rfl
   have c10 : wc.cell? ⟨p, 10, none⟩ = some (.int .i64 x.f10) := (blk_cell HST.out.2.2.2 10).trans rfl
   have d0 : wc.cell? ⟨w.heap.size, 0, none⟩ = some (.int .i64 0) := (blk_cell HST.out.2.2.1 0).trans rfl
   have e0 : wc.frozen? ⟨w.heap.size, 0, none⟩ = false := blk_frozen HST.out.2.2.1 0
   have d1 : wc.cell? ⟨w.heap.size, 1, none⟩ = some (.string ⟨#[]⟩) := (blk_cell HST.out.2.2.1 1).trans rfl
   have e1 : wc.frozen? ⟨w.heap.size, 1, none⟩ = false := blk_frozen HST.out.2.2.1 1
   have d2 : wc.cell? ⟨w.heap.size, 2, none⟩ = some (.string ⟨#[]⟩) := (blk_cell HST.out.2.2.1 2).trans rfl
   have e2 : wc.frozen? ⟨w.heap.size, 2, none⟩ = false := blk_frozen HST.out.2.2.1 2
   have d3 : wc.cell? ⟨w.heap.size, 3, none⟩ = some (.slice none 0 0) := (blk_cell HST.out.2.2.1 3).trans rfl
   have e3 : wc.frozen? ⟨w.heap.size, 3, none⟩ = false := blk_frozen HST.out.2.2.1 3
   have d4 : wc.cell? ⟨w.heap.size, 4, none⟩ = some (.string ⟨#[]⟩) := (blk_cell HST.out.2.2.1 4).trans rfl
   have e4 : wc.frozen? ⟨w.heap.size, 4, none⟩ = false := blk_frozen HST.out.2.2.1 4
   have d5 : wc.cell? ⟨w.heap.size, 5, none⟩ = some (.string ⟨#[]⟩) := (blk_cell HST.out.2.2.1 5).trans rfl
   have e5 : wc.frozen? ⟨w.heap.size, 5, none⟩ = false := blk_frozen HST.out.2.2.1 5
   have d6 : wc.cell? ⟨w.heap.size, 6, none⟩ = some (.bool false) := (blk_cell HST.out.2.2.1 6).trans rfl
   have e6 : wc.frozen? ⟨w.heap.size, 6, none⟩ = false := blk_frozen HST.out.2.2.1 6
   have d7 : wc.cell? ⟨w.heap.size, 7, none⟩ = some (.int .i64 0) := (blk_cell HST.out.2.2.1 7).trans rfl
   have e7 : wc.frozen? ⟨w.heap.size, 7, none⟩ = false := blk_frozen HST.out.2.2.1 7
   have d8 : wc.cell? ⟨w.heap.size, 8, none⟩ = some (.int .i64 0) := (blk_cell HST.out.2.2.1 8).trans rfl
   have e8 : wc.frozen? ⟨w.heap.size, 8, none⟩ = false := blk_frozen HST.out.2.2.1 8
   have d9 : wc.cell? ⟨w.heap.size, 9, none⟩ = some (.int .i64 0) := (blk_cell HST.out.2.2.1 9).trans rfl
   have e9 : wc.frozen? ⟨w.heap.size, 9, none⟩ = false := blk_frozen HST.out.2.2.1 9
   have d10 : wc.cell? ⟨w.heap.size, 10, none⟩ = some (.int .i64 0) := (blk_cell HST.out.2.2.1 10).trans rfl
   have e10 : wc.frozen? ⟨w.heap.size, 10, none⟩ = false := blk_frozen HST.out.2.2.1 10
   go_wp2_with (fail)
   have hF : InF g w r2 (.slice A x.f3.length c) x.f3 #[.int .i64 0, .string ⟨#[]⟩, .string ⟨#[]⟩, .slice none 0 0, .string ⟨#[]⟩, .string ⟨#[]⟩, .bool false, .int .i64 0, .int .i64 0, .int .i64 0, .int .i64 0] wc := ⟨HST.out.1, HST.out.2.1, HROW.out, HST.out.2.2.1⟩
   have hF := hF.put HG.out 0 (.int .i64 x.f0) #[.int .i64 x.f0, .string ⟨#[]⟩, .string ⟨#[]⟩, .slice none 0 0, .string ⟨#[]⟩, .string ⟨#[]⟩, .bool false, .int .i64 0, .int .i64 0, .int .i64 0, .int .i64 0] rfl
   have hF := hF.put HG.out 1 (.string x.f1) #[.int .i64 x.f0, .string x.f1, .string ⟨#[]⟩, .slice none 0 0, .string ⟨#[]⟩, .string ⟨#[]⟩, .bool false, .int .i64 0, .int .i64 0, .int .i64 0, .int .i64 0] rfl
   have hF := hF.put HG.out 2 (.string x.f2) #[.int .i64 x.f0, .string x.f1, .string x.f2, .slice none 0 0, .string ⟨#[]⟩, .string ⟨#[]⟩, .bool false, .int .i64 0, .int .i64 0, .int .i64 0, .int .i64 0] rfl
   have hF := hF.put HG.out 3 (.slice A x.f3.length c) #[.int .i64 x.f0, .string x.f1, .string x.f2, .slice A x.f3.length c, .string ⟨#[]⟩, .string ⟨#[]⟩, .bool false, .int .i64 0, .int .i64 0, .int .i64 0, .int .i64 0] rfl
   have hF := hF.put HG.out 4 (.string x.f4) #[.int .i64 x.f0, .string x.f1, .string x.f2, .slice A x.f3.length c, .string x.f4, .string ⟨#[]⟩, .bool false, .int .i64 0, .int .i64 0, .int .i64 0, .int .i64 0] rfl
   have hF := hF.put HG.out 5 (.string x.f5) #[.int .i64 x.f0, .string x.f1, .string x.f2, .slice A x.f3.length c, .string x.f4, .string x.f5, .bool false, .int .i64 0, .int .i64 0, .int .i64 0, .int .i64 0] rfl
   have hF := hF.put HG.out 6 (.bool x.f6) #[.int .i64 x.f0, .string x.f1, .string x.f2, .slice A x.f3.length c, .string x.f4, .string x.f5, .bool x.f6, .int .i64 0, .int .i64 0, .int .i64 0, .int .i64 0] rfl
   have hF := hF.put HG.out 7 (.int .i64 x.f7) #[.int .i64 x.f0, .string x.f1, .string x.f2, .slice A x.f3.length c, .string x.f4, .string x.f5, .bool x.f6, .int .i64 x.f7, .int .i64 0, .int .i64 0, .int .i64 0] rfl
   have hF := hF.put HG.out 8 (.int .i64 x.f8) #[.int .i64 x.f0, .string x.f1, .string x.f2, .slice A x.f3.length c, .string x.f4, .string x.f5, .bool x.f6, .int .i64 x.f7, .int .i64 x.f8, .int .i64 0, .int .i64 0] rfl
   have hF := hF.put HG.out 9 (.int .i64 x.f9) #[.int .i64 x.f0, .string x.f1, .string x.f2, .slice A x.f3.length c, .string x.f4, .string x.f5, .bool x.f6, .int .i64 x.f7, .int .i64 x.f8, .int .i64 x.f9, .int .i64 0] rfl
   have hF := hF.put HG.out 10 (.int .i64 x.f10) #[.int .i64 x.f0, .string x.f1, .string x.f2, .slice A x.f3.length c, .string x.f4, .string x.f5, .bool x.f6, .int .i64 x.f7, .int .i64 x.f8, .int .i64 x.f9, .int .i64 x.f10] rfl
   refine bodyPost_ret (results_c1 rfl _ _ w.heap.size 52 _ (0, 0) _ rfl hF.2.2.2 hu46 rfl (by kernel_rfl)) rfl ?_
   exact ⟨hF.2.1, .inl ⟨x, r2, .slice A x.f3.length c, HCS.out, rfl, hF.1, Kd.R_lower hF.2.2.1 (Nat.le_succ _)⟩⟩

theorem call_at (g : Nat) (ws : List Wd) (hl : ws.length ≤ 1000000) (w : World) (h : RdAt g w ws) (hg3 : 0 < g) (hk : KAt w) :
  Calls Tryz.prog 94 #[.pointer (some ⟨g, 0, none⟩)] w fun e w' => CallPost g w ws e w' := by
 by_cases hn : ∃ s r, ws = .name s :: r
 ·
  obtain ⟨s, r, rfl⟩ := hn
  exact call_go g s r (by simp only [List.length_cons] at hl; omega) w h hg3 hk
 ·
  refine (call_no g ws (fun s r e => hn ⟨s, r, e⟩) w h).mono ?_
  rintro e w' ⟨hf, hp⟩
  refine ⟨hf, .inr ⟨?_, hp⟩⟩
  cases ws with
  | nil => rfl
  | cons b r =>
   cases b with
   | name s => exact absurd ⟨s, r, rfl⟩ hn
   | nil => rfl
   | num n => rfl
   | text s => rfl
end Go.Proofs.YtlkbeddlmbghkaaGreatDoor.PR
