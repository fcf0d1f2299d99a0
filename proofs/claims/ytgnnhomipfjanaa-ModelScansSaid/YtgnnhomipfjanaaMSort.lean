/- slices.Sort at []string, at the program's own numbers: what it comes to, out of the shelf's contract (its laying written out). -/
import Derived.Shelf.SortM.Plain
import Derived.Shelf.SortM.SortNone
import Derived.Ground.SlgmProg
import Derived.Test.YtgnnhomipfjanaaPMx0
namespace Go.Proofs.Ytgnnhomipfjanaa.PM
open Go Go.Proofs Go.RowKit Go.Sort Go.Shelf

set_option maxRecDepth 100000
def sortM_ren : Ren :=
{
  f := fun x =>
    match x with
    | 6 => 51
    | 8 => 60
    | 9 => 59
    | 19 => 75
    | 20 => 76
    | 21 => 66
    | 22 => 67
    | 23 => 68
    | 24 => 69
    | 25 => 70
    | 26 => 71
    | 27 => 72
    | 28 => 73
    | 29 => 74
    | 36 => 78
    | 31 => 79
    | 32 => 80
    | 37 => 81
    | 38 => 82
    | 39 => 64
    | 41 => 84
    | n => n,
  t := fun x =>
    match x with
    | 27 => 66
    | 29 => 9
    | 3 => 3
    | 32 => 124
    | 26 => 66
    | 0 => 0
    | 44 => 34
    | 46 => 138
    | 4 => 4
    | 36 => 130
    | 35 => 129
    | 41 => 134
    | 5 => 5
    | 9 => 9
    | 53 => 139
    | 57 => 143
    | 63 => 145
    | 64 => 146
    | n => n,
  g := fun x =>
    have n := x;
    n }
theorem sortM : SlLaysM.n6 Try.prog sortM_ren :=
{ mixed := Eq.refl true,
  f6 :=
    Exists.intro "slices.Sort[[]string,string]"
      ⟨of_decide_eq_true (id (Eq.refl true)),
        Eq.trans Try.func51
          (congrArg some
            (Eq.refl
              ({ name := "slices.Sort[[]string,string]", origin := (SlBodyM.n6 sortM_ren).origin, targs := (SlBodyM.n6 sortM_ren).targs, params := (SlBodyM.n6 sortM_ren).params, resultTypes := (SlBodyM.n6 sortM_ren).resultTypes, nfree := (SlBodyM.n6 sortM_ren).nfree, ntmps := (SlBodyM.n6 sortM_ren).ntmps, results := (SlBodyM.n6 sortM_ren).results, body := (SlBodyM.n6 sortM_ren).body, norace := (SlBodyM.n6 sortM_ren).norace, ours := (SlBodyM.n6 sortM_ren).ours, file := (SlBodyM.n6 sortM_ren).file, endLine := (SlBodyM.n6 sortM_ren).endLine, litNo := (SlBodyM.n6 sortM_ren).litNo, met := (SlBodyM.n6 sortM_ren).met, tmpNames := (SlBodyM.n6 sortM_ren).tmpNames } : Go.Func)))⟩,
  f8 := Eq.trans Try.func60 (congrArg some (Eq.refl (SlBodyM.n8 sortM_ren))),
  f9 :=
    Exists.intro "slices.pdqsortOrdered[string]"
      ⟨of_decide_eq_true (id (Eq.refl true)),
        Eq.trans Try.func59
          (congrArg some
            (Eq.refl
              ({ name := "slices.pdqsortOrdered[string]", origin := (SlBodyM.n9 sortM_ren).origin, targs := (SlBodyM.n9 sortM_ren).targs, params := (SlBodyM.n9 sortM_ren).params, resultTypes := (SlBodyM.n9 sortM_ren).resultTypes, nfree := (SlBodyM.n9 sortM_ren).nfree, ntmps := (SlBodyM.n9 sortM_ren).ntmps, results := (SlBodyM.n9 sortM_ren).results, body := (SlBodyM.n9 sortM_ren).body, norace := (SlBodyM.n9 sortM_ren).norace, ours := (SlBodyM.n9 sortM_ren).ours, file := (SlBodyM.n9 sortM_ren).file, endLine := (SlBodyM.n9 sortM_ren).endLine, litNo := (SlBodyM.n9 sortM_ren).litNo, met := (SlBodyM.n9 sortM_ren).met, tmpNames := (SlBodyM.n9 sortM_ren).tmpNames } : Go.Func)))⟩,
  f19 := Eq.trans Try.func75 (congrArg some (Eq.refl (SlBodyM.n19 sortM_ren))),
  f20 := Eq.trans Try.func76 (congrArg some (Eq.refl (SlBodyM.n20 sortM_ren))),
  f21 :=
    Exists.intro "slices.insertionSortOrdered[string]"
      ⟨of_decide_eq_true (id (Eq.refl true)),
        Eq.trans Try.func66
          (congrArg some
            (Eq.refl
              ({ name := "slices.insertionSortOrdered[string]", origin := (SlBodyM.n21 sortM_ren).origin, targs := (SlBodyM.n21 sortM_ren).targs, params := (SlBodyM.n21 sortM_ren).params, resultTypes := (SlBodyM.n21 sortM_ren).resultTypes, nfree := (SlBodyM.n21 sortM_ren).nfree, ntmps := (SlBodyM.n21 sortM_ren).ntmps, results := (SlBodyM.n21 sortM_ren).results, body := (SlBodyM.n21 sortM_ren).body, norace := (SlBodyM.n21 sortM_ren).norace, ours := (SlBodyM.n21 sortM_ren).ours, file := (SlBodyM.n21 sortM_ren).file, endLine := (SlBodyM.n21 sortM_ren).endLine, litNo := (SlBodyM.n21 sortM_ren).litNo, met := (SlBodyM.n21 sortM_ren).met, tmpNames := (SlBodyM.n21 sortM_ren).tmpNames } : Go.Func)))⟩,
  f22 :=
    Exists.intro "slices.heapSortOrdered[string]"
      ⟨of_decide_eq_true (id (Eq.refl true)),
        Eq.trans Try.func67
          (congrArg some
            (Eq.refl
              ({ name := "slices.heapSortOrdered[string]", origin := (SlBodyM.n22 sortM_ren).origin, targs := (SlBodyM.n22 sortM_ren).targs, params := (SlBodyM.n22 sortM_ren).params, resultTypes := (SlBodyM.n22 sortM_ren).resultTypes, nfree := (SlBodyM.n22 sortM_ren).nfree, ntmps := (SlBodyM.n22 sortM_ren).ntmps, results := (SlBodyM.n22 sortM_ren).results, body := (SlBodyM.n22 sortM_ren).body, norace := (SlBodyM.n22 sortM_ren).norace, ours := (SlBodyM.n22 sortM_ren).ours, file := (SlBodyM.n22 sortM_ren).file, endLine := (SlBodyM.n22 sortM_ren).endLine, litNo := (SlBodyM.n22 sortM_ren).litNo, met := (SlBodyM.n22 sortM_ren).met, tmpNames := (SlBodyM.n22 sortM_ren).tmpNames } : Go.Func)))⟩,
  f23 :=
    Exists.intro "slices.breakPatternsOrdered[string]"
      ⟨of_decide_eq_true (id (Eq.refl true)),
        Eq.trans Try.func68
          (congrArg some
            (Eq.refl
              ({ name := "slices.breakPatternsOrdered[string]", origin := (SlBodyM.n23 sortM_ren).origin, targs := (SlBodyM.n23 sortM_ren).targs, params := (SlBodyM.n23 sortM_ren).params, resultTypes := (SlBodyM.n23 sortM_ren).resultTypes, nfree := (SlBodyM.n23 sortM_ren).nfree, ntmps := (SlBodyM.n23 sortM_ren).ntmps, results := (SlBodyM.n23 sortM_ren).results, body := (SlBodyM.n23 sortM_ren).body, norace := (SlBodyM.n23 sortM_ren).norace, ours := (SlBodyM.n23 sortM_ren).ours, file := (SlBodyM.n23 sortM_ren).file, endLine := (SlBodyM.n23 sortM_ren).endLine, litNo := (SlBodyM.n23 sortM_ren).litNo, met := (SlBodyM.n23 sortM_ren).met, tmpNames := (SlBodyM.n23 sortM_ren).tmpNames } : Go.Func)))⟩,
  f24 :=
    Exists.intro "slices.choosePivotOrdered[string]"
      ⟨of_decide_eq_true (id (Eq.refl true)),
        Eq.trans Try.func69
          (congrArg some
            (Eq.refl
              ({ name := "slices.choosePivotOrdered[string]", origin := (SlBodyM.n24 sortM_ren).origin, targs := (SlBodyM.n24 sortM_ren).targs, params := (SlBodyM.n24 sortM_ren).params, resultTypes := (SlBodyM.n24 sortM_ren).resultTypes, nfree := (SlBodyM.n24 sortM_ren).nfree, ntmps := (SlBodyM.n24 sortM_ren).ntmps, results := (SlBodyM.n24 sortM_ren).results, body := (SlBodyM.n24 sortM_ren).body, norace := (SlBodyM.n24 sortM_ren).norace, ours := (SlBodyM.n24 sortM_ren).ours, file := (SlBodyM.n24 sortM_ren).file, endLine := (SlBodyM.n24 sortM_ren).endLine, litNo := (SlBodyM.n24 sortM_ren).litNo, met := (SlBodyM.n24 sortM_ren).met, tmpNames := (SlBodyM.n24 sortM_ren).tmpNames } : Go.Func)))⟩,
  f25 :=
    Exists.intro "slices.reverseRangeOrdered[string]"
      ⟨of_decide_eq_true (id (Eq.refl true)),
        Eq.trans Try.func70
          (congrArg some
            (Eq.refl
              ({ name := "slices.reverseRangeOrdered[string]", origin := (SlBodyM.n25 sortM_ren).origin, targs := (SlBodyM.n25 sortM_ren).targs, params := (SlBodyM.n25 sortM_ren).params, resultTypes := (SlBodyM.n25 sortM_ren).resultTypes, nfree := (SlBodyM.n25 sortM_ren).nfree, ntmps := (SlBodyM.n25 sortM_ren).ntmps, results := (SlBodyM.n25 sortM_ren).results, body := (SlBodyM.n25 sortM_ren).body, norace := (SlBodyM.n25 sortM_ren).norace, ours := (SlBodyM.n25 sortM_ren).ours, file := (SlBodyM.n25 sortM_ren).file, endLine := (SlBodyM.n25 sortM_ren).endLine, litNo := (SlBodyM.n25 sortM_ren).litNo, met := (SlBodyM.n25 sortM_ren).met, tmpNames := (SlBodyM.n25 sortM_ren).tmpNames } : Go.Func)))⟩,
  f26 :=
    Exists.intro "slices.partialInsertionSortOrdered[string]"
      ⟨of_decide_eq_true (id (Eq.refl true)),
        Eq.trans Try.func71
          (congrArg some
            (Eq.refl
              ({ name := "slices.partialInsertionSortOrdered[string]", origin := (SlBodyM.n26 sortM_ren).origin, targs := (SlBodyM.n26 sortM_ren).targs, params := (SlBodyM.n26 sortM_ren).params, resultTypes := (SlBodyM.n26 sortM_ren).resultTypes, nfree := (SlBodyM.n26 sortM_ren).nfree, ntmps := (SlBodyM.n26 sortM_ren).ntmps, results := (SlBodyM.n26 sortM_ren).results, body := (SlBodyM.n26 sortM_ren).body, norace := (SlBodyM.n26 sortM_ren).norace, ours := (SlBodyM.n26 sortM_ren).ours, file := (SlBodyM.n26 sortM_ren).file, endLine := (SlBodyM.n26 sortM_ren).endLine, litNo := (SlBodyM.n26 sortM_ren).litNo, met := (SlBodyM.n26 sortM_ren).met, tmpNames := (SlBodyM.n26 sortM_ren).tmpNames } : Go.Func)))⟩,
  f27 :=
    Exists.intro "cmp.Less[string]"
      ⟨of_decide_eq_true (id (Eq.refl true)),
        Eq.trans Try.func72
          (congrArg some
            (Eq.refl
              ({ name := "cmp.Less[string]", origin := (SlBodyM.n27 sortM_ren).origin, targs := (SlBodyM.n27 sortM_ren).targs, params := (SlBodyM.n27 sortM_ren).params, resultTypes := (SlBodyM.n27 sortM_ren).resultTypes, nfree := (SlBodyM.n27 sortM_ren).nfree, ntmps := (SlBodyM.n27 sortM_ren).ntmps, results := (SlBodyM.n27 sortM_ren).results, body := (SlBodyM.n27 sortM_ren).body, norace := (SlBodyM.n27 sortM_ren).norace, ours := (SlBodyM.n27 sortM_ren).ours, file := (SlBodyM.n27 sortM_ren).file, endLine := (SlBodyM.n27 sortM_ren).endLine, litNo := (SlBodyM.n27 sortM_ren).litNo, met := (SlBodyM.n27 sortM_ren).met, tmpNames := (SlBodyM.n27 sortM_ren).tmpNames } : Go.Func)))⟩,
  f28 :=
    Exists.intro "slices.partitionEqualOrdered[string]"
      ⟨of_decide_eq_true (id (Eq.refl true)),
        Eq.trans Try.func73
          (congrArg some
            (Eq.refl
              ({ name := "slices.partitionEqualOrdered[string]", origin := (SlBodyM.n28 sortM_ren).origin, targs := (SlBodyM.n28 sortM_ren).targs, params := (SlBodyM.n28 sortM_ren).params, resultTypes := (SlBodyM.n28 sortM_ren).resultTypes, nfree := (SlBodyM.n28 sortM_ren).nfree, ntmps := (SlBodyM.n28 sortM_ren).ntmps, results := (SlBodyM.n28 sortM_ren).results, body := (SlBodyM.n28 sortM_ren).body, norace := (SlBodyM.n28 sortM_ren).norace, ours := (SlBodyM.n28 sortM_ren).ours, file := (SlBodyM.n28 sortM_ren).file, endLine := (SlBodyM.n28 sortM_ren).endLine, litNo := (SlBodyM.n28 sortM_ren).litNo, met := (SlBodyM.n28 sortM_ren).met, tmpNames := (SlBodyM.n28 sortM_ren).tmpNames } : Go.Func)))⟩,
  f29 :=
    Exists.intro "slices.partitionOrdered[string]"
      ⟨of_decide_eq_true (id (Eq.refl true)),
        Eq.trans Try.func74
          (congrArg some
            (Eq.refl
              ({ name := "slices.partitionOrdered[string]", origin := (SlBodyM.n29 sortM_ren).origin, targs := (SlBodyM.n29 sortM_ren).targs, params := (SlBodyM.n29 sortM_ren).params, resultTypes := (SlBodyM.n29 sortM_ren).resultTypes, nfree := (SlBodyM.n29 sortM_ren).nfree, ntmps := (SlBodyM.n29 sortM_ren).ntmps, results := (SlBodyM.n29 sortM_ren).results, body := (SlBodyM.n29 sortM_ren).body, norace := (SlBodyM.n29 sortM_ren).norace, ours := (SlBodyM.n29 sortM_ren).ours, file := (SlBodyM.n29 sortM_ren).file, endLine := (SlBodyM.n29 sortM_ren).endLine, litNo := (SlBodyM.n29 sortM_ren).litNo, met := (SlBodyM.n29 sortM_ren).met, tmpNames := (SlBodyM.n29 sortM_ren).tmpNames } : Go.Func)))⟩,
  f31 := Eq.trans Try.func79 (congrArg some (Eq.refl (SlBodyM.n31 sortM_ren))),
  f32 := Eq.trans Try.func80 (congrArg some (Eq.refl (SlBodyM.n32 sortM_ren))),
  f36 :=
    Exists.intro "slices.siftDownOrdered[string]"
      ⟨of_decide_eq_true (id (Eq.refl true)),
        Eq.trans Try.func78
          (congrArg some
            (Eq.refl
              ({ name := "slices.siftDownOrdered[string]", origin := (SlBodyM.n36 sortM_ren).origin, targs := (SlBodyM.n36 sortM_ren).targs, params := (SlBodyM.n36 sortM_ren).params, resultTypes := (SlBodyM.n36 sortM_ren).resultTypes, nfree := (SlBodyM.n36 sortM_ren).nfree, ntmps := (SlBodyM.n36 sortM_ren).ntmps, results := (SlBodyM.n36 sortM_ren).results, body := (SlBodyM.n36 sortM_ren).body, norace := (SlBodyM.n36 sortM_ren).norace, ours := (SlBodyM.n36 sortM_ren).ours, file := (SlBodyM.n36 sortM_ren).file, endLine := (SlBodyM.n36 sortM_ren).endLine, litNo := (SlBodyM.n36 sortM_ren).litNo, met := (SlBodyM.n36 sortM_ren).met, tmpNames := (SlBodyM.n36 sortM_ren).tmpNames } : Go.Func)))⟩,
  f37 :=
    Exists.intro "slices.medianAdjacentOrdered[string]"
      ⟨of_decide_eq_true (id (Eq.refl true)),
        Eq.trans Try.func81
          (congrArg some
            (Eq.refl
              ({ name := "slices.medianAdjacentOrdered[string]", origin := (SlBodyM.n37 sortM_ren).origin, targs := (SlBodyM.n37 sortM_ren).targs, params := (SlBodyM.n37 sortM_ren).params, resultTypes := (SlBodyM.n37 sortM_ren).resultTypes, nfree := (SlBodyM.n37 sortM_ren).nfree, ntmps := (SlBodyM.n37 sortM_ren).ntmps, results := (SlBodyM.n37 sortM_ren).results, body := (SlBodyM.n37 sortM_ren).body, norace := (SlBodyM.n37 sortM_ren).norace, ours := (SlBodyM.n37 sortM_ren).ours, file := (SlBodyM.n37 sortM_ren).file, endLine := (SlBodyM.n37 sortM_ren).endLine, litNo := (SlBodyM.n37 sortM_ren).litNo, met := (SlBodyM.n37 sortM_ren).met, tmpNames := (SlBodyM.n37 sortM_ren).tmpNames } : Go.Func)))⟩,
  f38 :=
    Exists.intro "slices.medianOrdered[string]"
      ⟨of_decide_eq_true (id (Eq.refl true)),
        Eq.trans Try.func82
          (congrArg some
            (Eq.refl
              ({ name := "slices.medianOrdered[string]", origin := (SlBodyM.n38 sortM_ren).origin, targs := (SlBodyM.n38 sortM_ren).targs, params := (SlBodyM.n38 sortM_ren).params, resultTypes := (SlBodyM.n38 sortM_ren).resultTypes, nfree := (SlBodyM.n38 sortM_ren).nfree, ntmps := (SlBodyM.n38 sortM_ren).ntmps, results := (SlBodyM.n38 sortM_ren).results, body := (SlBodyM.n38 sortM_ren).body, norace := (SlBodyM.n38 sortM_ren).norace, ours := (SlBodyM.n38 sortM_ren).ours, file := (SlBodyM.n38 sortM_ren).file, endLine := (SlBodyM.n38 sortM_ren).endLine, litNo := (SlBodyM.n38 sortM_ren).litNo, met := (SlBodyM.n38 sortM_ren).met, tmpNames := (SlBodyM.n38 sortM_ren).tmpNames } : Go.Func)))⟩,
  f39 :=
    Exists.intro "cmp.isNaN[string]"
      ⟨of_decide_eq_true (id (Eq.refl true)),
        Eq.trans Try.func64
          (congrArg some
            (Eq.refl
              ({ name := "cmp.isNaN[string]", origin := (SlBodyM.n39 sortM_ren).origin, targs := (SlBodyM.n39 sortM_ren).targs, params := (SlBodyM.n39 sortM_ren).params, resultTypes := (SlBodyM.n39 sortM_ren).resultTypes, nfree := (SlBodyM.n39 sortM_ren).nfree, ntmps := (SlBodyM.n39 sortM_ren).ntmps, results := (SlBodyM.n39 sortM_ren).results, body := (SlBodyM.n39 sortM_ren).body, norace := (SlBodyM.n39 sortM_ren).norace, ours := (SlBodyM.n39 sortM_ren).ours, file := (SlBodyM.n39 sortM_ren).file, endLine := (SlBodyM.n39 sortM_ren).endLine, litNo := (SlBodyM.n39 sortM_ren).litNo, met := (SlBodyM.n39 sortM_ren).met, tmpNames := (SlBodyM.n39 sortM_ren).tmpNames } : Go.Func)))⟩,
  f41 :=
    Exists.intro "slices.order2Ordered[string]"
      ⟨of_decide_eq_true (id (Eq.refl true)),
        Eq.trans Try.func84
          (congrArg some
            (Eq.refl
              ({ name := "slices.order2Ordered[string]", origin := (SlBodyM.n41 sortM_ren).origin, targs := (SlBodyM.n41 sortM_ren).targs, params := (SlBodyM.n41 sortM_ren).params, resultTypes := (SlBodyM.n41 sortM_ren).resultTypes, nfree := (SlBodyM.n41 sortM_ren).nfree, ntmps := (SlBodyM.n41 sortM_ren).ntmps, results := (SlBodyM.n41 sortM_ren).results, body := (SlBodyM.n41 sortM_ren).body, norace := (SlBodyM.n41 sortM_ren).norace, ours := (SlBodyM.n41 sortM_ren).ours, file := (SlBodyM.n41 sortM_ren).file, endLine := (SlBodyM.n41 sortM_ren).endLine, litNo := (SlBodyM.n41 sortM_ren).litNo, met := (SlBodyM.n41 sortM_ren).met, tmpNames := (SlBodyM.n41 sortM_ren).tmpNames } : Go.Func)))⟩,
  t0 := Try.underlying0, a0 := Try.isAgg0, z0 := Try.sizeOf0, v0 := Try.zeroValue0, t3 := Try.underlying3,
  a3 := Try.isAgg3, z3 := Try.sizeOf3, v3 := Try.zeroValue3, t4 := Try.underlying4, a4 := Try.isAgg4, z4 := Try.sizeOf4,
  v4 := Try.zeroValue4, t5 := Try.underlying5, a5 := Try.isAgg5, z5 := Try.sizeOf5, v5 := Try.zeroValue5,
  t9 := Try.underlying9, a9 := Try.isAgg9, z9 := Try.sizeOf9, v9 := Try.zeroValue9, t26 := Try.underlying66,
  a26 := Try.isAgg66, z26 := Try.sizeOf66, v26 := Try.zeroValue66, t27 := Try.underlying66, a27 := Try.isAgg66,
  z27 := Try.sizeOf66, v27 := Try.zeroValue66, t29 := Try.underlying9, a29 := Try.isAgg9, z29 := Try.sizeOf9,
  v29 := Try.zeroValue9, t32 := Try.underlying124, a32 := Try.isAgg124, z32 := Try.sizeOf124, v32 := Try.zeroValue124,
  t35 := Try.underlying129, a35 := Try.isAgg129, z35 := Try.sizeOf129, v35 := Try.zeroValue129,
  t36 := Try.underlying130, a36 := Try.isAgg130, z36 := Try.sizeOf130, v36 := Try.zeroValue130,
  t41 := Try.underlying134, a41 := Try.isAgg134, z41 := Try.sizeOf134, v41 := Try.zeroValue134, t44 := Try.underlying34,
  a44 := Try.isAgg34, z44 := Try.sizeOf34, v44 := Try.zeroValue34, t46 := Try.underlying138, a46 := Try.isAgg138,
  z46 := Try.sizeOf138, v46 := Try.zeroValue138, t53 := Try.underlying139, a53 := Try.isAgg139, z53 := Try.sizeOf139,
  v53 := Try.zeroValue139, t57 := Try.underlying143, a57 := Try.isAgg143, z57 := Try.sizeOf143, v57 := Try.zeroValue143,
  t63 := Try.underlying145, a63 := Try.isAgg145, z63 := Try.sizeOf145, v63 := Try.zeroValue145,
  t64 := Try.underlying146, a64 := Try.isAgg146, z64 := Try.sizeOf146, v64 := Try.zeroValue146 }

theorem sort_strs (blk off cap : Nat) (ss : List (List UInt8)) (w : World) (hH : Holds encStr w blk off ss.toArray) (hblk : blk < w.heap.size) (hsz : ss.length < 4611686018427387904) :
    Calls Try.prog 51 #[.slice (some ⟨blk, off, none⟩) ss.length cap] w fun e w' => e = .returned (.tuple #[]) ∧ ∃ n os, w' = grow (putRow encStr (Sort.ahead w n) blk off (ss.mergeSort fun x y => decide (x ≤ y)).toArray) os :=
  AnyM.slices_Sort_string sortM blk off cap ss w hH hblk hsz
theorem sort_strs_none (p : Option Addr) (cap : Nat) (w : World) : Calls Try.prog 51 #[.slice p 0 cap] w fun e w' => e = .returned (.tuple #[]) ∧ w' = w :=
  AnyM.slices_Sort_string_none sortM p cap w
#print axioms sort_strs
end Go.Proofs.Ytgnnhomipfjanaa.PM
