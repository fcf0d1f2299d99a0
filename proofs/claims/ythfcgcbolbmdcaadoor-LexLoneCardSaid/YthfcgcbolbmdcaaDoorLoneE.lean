/- LexLone answers true: the walk and the plain law joined. -/
import Derived.Test.YthfcgcbolbmdcaaDoorLone
namespace Go.Proofs.YthfcgcbolbmdcaaDoor.PR
open Go Go.Proofs Go.RowKit Go.Proofs.YthfcgcbolbmdcaaDoorW.PrintWords Go.Proofs.YthfcgcbolbmdcaaDoorW.PrintLast Go.Proofs.YthfcgcbolbmdcaaDoorW.PrintMore Go.Proofs.YthfcgcbolbmdcaaDoor.Lx
set_option linter.unusedVariables false
set_option linter.unusedSimpArgs false

theorem toP_f1 (l : List (Int × List Wd)) : (l.map toP).map (·.f1) = (l.map (·.2)).map (fun ws => ws.map S42.mk) := by
  rw [List.map_map, List.map_map]; rfl

theorem lone_walk (s t : ByteArray) (a : Int) (w : World) (ha : 0 ≤ a ∧ a ≤ 255) :
    Calls Tryd.prog 5 #[.string s, .string t, .int .u8 a] w fun e w' => e = .returned (.bool true) ∧ Below w.heap.size w w' := by
  obtain ⟨n, rfl⟩ := Int.eq_ofNat_of_zero_le ha.1
  by_cases hs : 3000 < s.size
  · exact lone_long1 s t _ w hs
  by_cases ht : 3000 < t.size
  · exact lone_long2 s t _ w (by omega) ht
  have hm := midB_size n
  have hcd : (s ++ midB n ++ t).data.toList = s.data.toList ++ midL n ++ t.data.toList := by rw [← midB_data]; simp
  have hcs : (s ++ midB n ++ t).size ≤ 10000 := by rw [Lib.size_eq, hcd, List.length_append, List.length_append, ← Lib.size_eq, ← Lib.size_eq, midL_len]; omega
  obtain ⟨k1, h1⟩ := lines_ev s (by omega)
  obtain ⟨k2, h2⟩ := lines_ev t (by omega)
  obtain ⟨k3, h3⟩ := lines_ev (s ++ midB n ++ t) (by omega)
  have hlen := linesL_len (s ++ midB n ++ t) (by omega)
  have hlaw := lone_law s.data.toList t.data.toList n (by rw [← Lib.size_eq]; omega) (by rw [← Lib.size_eq]; omega) (by omega)
  rw [hcd] at h3 hlen
  have g1 := h1 (max k1 (max k2 k3)) (by omega)
  have g2 := h2 (max k1 (max k2 k3)) (by omega)
  have g3 := h3 (max k1 (max k2 k3)) (by omega)
  refine lone_core s t n w (by omega) (by omega) (by omega) (max k1 (max k2 k3)) _ _ _ _ _ _ _ _ _ g1 g2 g3 ?_ ?_ ?_
  · rcases hlaw with h | ⟨e1, e2, e3, e4⟩
    · exact .inl h
    · refine .inr ⟨e1, e2, e3, ?_⟩
      rw [toP_f1, toP_f1, toP_f1, e4, List.map_append]
  · rw [List.length_map]; exact hlen.1
  · intro x hx
    obtain ⟨p, hp, rfl⟩ := List.mem_map.1 hx
    show (p.2.map S42.mk).length ≤ _
    rw [List.length_map]
    exact hlen.2 p hp
end Go.Proofs.YthfcgcbolbmdcaaDoor.PR
