/- An append, in a drawn region, onto a slice that has no room: what it holds is laid anew. -/
import Derived.Test.YtgnnhomipfjanaaPMx0
import Derived.ArgAppend
namespace Go.Proofs.Ytgnnhomipfjanaa.PM
open Go Go.Proofs Go.RowKit Go.Proofs.YtgnnhomipfjanaaW.PrintWords Go.Proofs.YtgnnhomipfjanaaW.PrintLast Go.Proofs.YtgnnhomipfjanaaW.PrintMore

theorem append_grows_step {P : Program} {W : World} {ops : Array Oper} {o : Oper} {a : Act} {Q : Exit → Act → World → Prop} {Kc : Act → World → Prop}
    (hw : Region.wanted o (yielded ops a.tmps) = true) (s x : Operand) (t : TypeId) (hop : o.op = Op.call { callee := Callee.builtin Builtin.append, args := #[s, x], argTypes := #[t, t] })
    (e : TypeId) (z : Value) (size bytes : Nat) (ht : P.underlying t = some (.slice e)) (hinfo : (P.info? e).map (fun i => (i.zero, i.size, i.bytes)) = some (some z, size, bytes)) (hz : z.cells.size = size) (h7 : 0 < size)
    (ao : Option Addr) (n cap : Nat) (olds : List Value) (hs : a.eval s = .slice ao n cap) (hnone : ao = none → n = 0 ∧ cap = 0) (hlo : olds.length = n * size) (holds : ∀ b, ao = some b → ∀ j u, olds[j]? = some u → W.cell? (b.add j) = some u)
    (ad : Addr) (m c : Nat) (news : List Value) (hx : a.eval x = .slice (some ad) m c) (hn : news.length = m * size) (hc : ∀ j u, news[j]? = some u → W.cell? (ad.add j) = some u) (h1c : ∀ u ∈ news, u.oneCell' = true)
    (hfull : cap < n + m) (b1 : n + m ≤ maxLen) (b2 : (n + m) * bytes ≤ 140737488355328)
    (hK : ∀ v' w', w'.ownsRow W.heap.size e size v' (n + m) (olds ++ news) → W.grownBy w' none → Kc (a.put o.dst v') w') :
    if Region.wanted o (yielded ops a.tmps) = true then Oper.wp P o a W Kc Q else Kc (a.put o.dst undef) W := by
  obtain ⟨i, hi, hzz⟩ := Option.map_eq_some_iff.1 hinfo
  simp only [Prod.mk.injEq] at hzz
  obtain ⟨h3, h4, h5⟩ := hzz
  rw [if_pos hw]
  have key : ∃ v' w', (Builtin.append_ #[t, t] o.type #[.slice ao n cap, .slice (some ad) m c]).run P W = .ok v' w' ∧ w'.ownsRow W.heap.size e size v' (n + m) (olds ++ news) ∧ W.grownBy w' none := by
    cases ao with
    | some b => exact run_append_arg_grows (P := P) W t o.type e i z size bytes ht hi h3 h4 h5 hz h7 b n cap olds hlo (holds b rfl) ad m c news hn hc hfull b1 b2
    | none =>
      obtain ⟨rfl, rfl⟩ := hnone rfl
      obtain rfl : olds = [] := List.eq_nil_of_length_eq_zero (by simpa using hlo)
      obtain ⟨v', w', hrun, r1, r2, _⟩ := run_append_own (P := P) W W.heap.size t o.type e i z size bytes ht hi h3 h4 h5 hz h7 (.slice none 0 0) 0 [] (World.ownsRow_nil W _ e size) ad m c news hn hc h1c b1 b2 (Nat.le_refl _)
      exact ⟨v', w', hrun, r1, r2⟩
  obtain ⟨v', w', hrun, r1, r2⟩ := key
  unfold Oper.wp execOp
  simp only [hop, resolve, invoke, builtin, Sem.run_bind, Sem.run_pure, Result.andThen_ok, List.map_toArray, List.map_cons, List.map_nil, hs, hx, hrun]
  exact hK v' w' r1 r2
end Go.Proofs.Ytgnnhomipfjanaa.PM
