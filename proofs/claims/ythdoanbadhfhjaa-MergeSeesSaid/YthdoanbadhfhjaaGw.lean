/- Short forms of the printed walks' steps inside a region that draws its order. -/
import Derived.Test.YthdoanbadhfhjaaV
namespace Go.Proofs.YthdoanbadhfhjaaW.PrintWords
open Go.RowKit Go.Proofs.YthdoanbadhfhjaaW.PrintLast
set_option linter.unusedVariables false
set_option linter.unusedSimpArgs false
abbrev tt : Bool := true
abbrev ff : Bool := false
section
variable {P : Program} {md : Region.Mode} {ops : Array Oper} {Q : Exit → Act → World → Prop} {S : World → Prop} {ds : List Nat}
/-- An operation that reads no memory: its value. -/
theorem pq_ {T : Bool × List (List Nat × List Nat)} {i : Nat} {N : Option Tmp} {oi : Oper} {v : Value} {fuel : Nat} {l : Array Bool} {a : Act} {w : World} {a' : Act} (hT : Aside0 (rtab md ops = T)) (l' : Array Bool)
    (h : wpAnyLast P md ops Q S ds fuel l' a' w)
    (hi : ops[i]? = some oi := by rfl) (hN : oi.dst = N := by rfl) (hc : anyT T l.toList l'.toList i = true := by kernel_rfl)
    (hQ : ∀ c a w, Q (.panic c) (a.put oi.dst v) w → Q (.panic c) a w := by exact fun _ _ _ h => h)
    (hy : Yields P ops oi v a := by exact Or.inl ⟨by rfl, by (intro w'; go_simp; with_reducible rfl)⟩)
    (ha : a.put N v = a' := by (simp only [Act.put, List.setIfInBounds_toArray, List.set_cons_zero, List.set_cons_succ, i64_w, i32_w]; rfl)) :
    wpAnyLast P md ops Q S ds (fuel + 1) l a w := pure_ l' hi hN (any_of hT.out hc) hQ hy ha h
/-- An operation behind a test that did not let it by. -/
theorem pu_ {T : Bool × List (List Nat × List Nat)} {i : Nat} {N : Option Tmp} {oi : Oper} {fuel : Nat} {l : Array Bool} {a : Act} {w : World} {a' : Act} (hT : Aside0 (rtab md ops = T)) (l' : Array Bool)
    (h : wpAnyLast P md ops Q S ds fuel l' a' w)
    (hi : ops[i]? = some oi := by rfl) (hN : oi.dst = N := by rfl) (hc : anyT T l.toList l'.toList i = true := by kernel_rfl)
    (hQ : ∀ c a w, Q (.panic c) (a.put oi.dst undef) w → Q (.panic c) a w := by exact fun _ _ _ h => h)
    (hy : Yields P ops oi undef a := by exact Or.inr ⟨by rfl, rfl⟩)
    (ha : a.put N undef = a' := by (simp only [Act.put, List.setIfInBounds_toArray, List.set_cons_zero, List.set_cons_succ, i64_w, i32_w]; rfl)) :
    wpAnyLast P md ops Q S ds (fuel + 1) l a w := pure_ l' hi hN (any_of hT.out hc) hQ hy ha h
end
end Go.Proofs.YthdoanbadhfhjaaW.PrintWords
