/- The contracts of slices.Clone at entries, strings.Compare and slices.Compact at ints, in the form of the printed contracts. -/
import Derived.Test.YthdoanbadhfhjaaPAllx0
import Derived.Test.YthdoanbadhfhjaaSh
import Derived.Lib.LazyBuf
import Derived.Lib.OwnBridge
import Derived.WalkSpells
namespace Go.Proofs.Ythdoanbadhfhjaa
open Go.RowKit Go.Proofs.Ythdoanbadhfhjaa.PAll Go.Proofs.YthdoanbadhfhjaaW.PrintWords Go.Proofs.YthdoanbadhfhjaaW.PrintLast Go.Proofs.YthdoanbadhfhjaaW.PrintMore
set_option linter.unusedVariables false

def slices_Clone_Entry.f (l0 : List S36) : Option (List S36) := if l0.length < 2932031007402 then some l0 else none

set_option maxHeartbeats 1000000 in
theorem slices_Clone_Entry.calls (A0 : Option Addr) (c0 : Nat) (l0 : List S36) (r : List S36) (w : World) (hr0 : Kd.C k36 w A0 l0.length l0) (hc0 : l0.length ≤ c0) (h : slices_Clone_Entry.f l0 = some r) :
    Calls Try.prog 35 #[.slice A0 l0.length c0] w fun e w' => ∃ v0_ : Value, e = .returned (v0_) ∧ Kd.R k36 36 w' w.heap.size (fun _ => True) v0_ r ∧ Below w.heap.size w w' := by
  unfold slices_Clone_Entry.f at h
  split at h
  case isFalse => cases h
  case isTrue hlt =>
  cases h
  have HR := Aside0.mk hr0
  have HL := Aside0.mk hlt
  clear hr0 hlt
  rcases A0 with _ | ad
  · have h0 : l0 = [] := by
      have h1 := HR.out.2.2
      cases l0 with
      | nil => rfl
      | cons a l => obtain ⟨ad, h, _⟩ := h1 (by simp); cases h
    subst h0
    have heq := fun w => run_eql_slice_nil (P := Try.prog) w 27 36 none 0 c0 Try.underlying27
    simp only [Option.isNone_none] at heq
    go_enter Try.func35, Try.ntmps35
    go_wp2
    go_ret
    exact ⟨_, rfl, Kd.R_nil _ _ _ _ _, Below.refl _ _⟩
  · have heq := fun w => run_eql_slice_nil (P := Try.prog) w 27 36 (some ad) l0.length c0 Try.underlying27
    simp only [Option.isNone_some] at heq
    go_enter Try.func35, Try.ntmps35
    go_wp2_with (first
      | ((with_reducible refine gate_dst (N := 5) rfl ?_); refine Kd.R_lit k36 (w0 := w) w.heap.size 36 ?hg (N := 5) ?hd (xs := ([] : List S36)) (inner := []) (ok := fun _ => True) (okp := fun _ => True) ?hr (Reps.none _ _) (fun _ hk => hk) trivial (Below.refl _ _) (Nat.le_refl _) (by simp) ?_; (case hd => rfl); (case hg => rfl); (case hr => first | (go_simp; done) | (go_simp; rfl)); intro v1 w1 ho hb _ _; have HO := Aside0.mk ho; have HB := Aside0.mk hb; clear ho hb)
      | ((with_reducible refine gate_builtin (b := .append) (xs := #[.tmp 5, .tmp 6]) rfl ?_); at_builtin; refine Kd.R_append_rows k36 (w0 := w) w.heap.size rfl (.tmp 5) (.tmp 6) 27 36 (.agg #[(.string ⟨#[]⟩), (.int .i64 0), (.bool false), (.string ⟨#[]⟩)]) 48 rfl Try.underlying27 info36 rfl (by decide) (by omega) v1 [] l0 _ _ _ (fun _ => True) (fun _ => False) rfl rfl ?aO ?aR (fun _ _ h => h) (fun _ h => h.elim) ?aF ?aB ?aS ?aL ?_; (case aO => exact HO.out); (case aR => exact Kd.C_below HR.out HB.out); (case aF => exact fun _ _ => trivial); (case aB => exact HB.out); (case aS => exact below_size HB.out); (case aL => have := HL.out; simp; omega); intro v2 w2 ho hb _ _; rw [List.nil_append] at ho; have HO2 := Aside0.mk ho; have HB2 := Aside0.mk hb; clear ho hb))
    go_ret
    exact ⟨_, rfl, HO2.out, HB2.out⟩

def strings_Compare.f (a0 : ByteArray) (a1 : ByteArray) : Option Int := some (Lib.compareBytes a0.data.toList a1.data.toList)
theorem strings_Compare.calls (a0 : ByteArray) (a1 : ByteArray) (r : Int) (w : World) (h : strings_Compare.f a0 a1 = some r) :
    Calls Try.prog 44 #[.string a0, .string a1] w fun e w' => e = .returned (.int .i64 r) ∧ Drawn0 w w' := by
  cases h
  refine (Any.strings_Compare Try.lays106 a0 a1 w).mono ?_
  rintro e w' ⟨rfl, rfl⟩
  exact ⟨rfl, Drawn0.refl _⟩

theorem kept_putRow {α : Type} [Inhabited α] {enc : α → Value} {w : World} {g q : Nat} {d : Array α} {P : Nat → Prop} (hP : P g) : Kept w (Sort.putRow enc (Sort.ahead w q) g 0 d) P := by
  refine ⟨by simp [Sort.putRow, Sort.mapBlock, Sort.ahead], fun i hi hn => ?_⟩
  have : g ≠ i := fun e => hn (e ▸ hP)
  simp [Sort.putRow, Sort.mapBlock, Sort.ahead, Array.getElem?_modify, this]

def slices_Compact_int_int.f (l0 : List Int) : Option (List Int) := if l0.length ≤ 9223372036854775807 then some (Lib.compact l0) else none
theorem slices_Compact_int_int.calls (P0_ : Nat → Prop) (u9000_ : Value) (l0 : List Int) (r : List Int) (w0 w : World) (hB : Below w0.heap.size w0 w) (ho0 : Kd.R (Kd.int .i64) 3 w w0.heap.size P0_ u9000_ l0) (h : slices_Compact_int_int.f l0 = some r) :
    Calls Try.prog 32 #[u9000_] w fun e w' => ∃ v0_ : Value, e = .returned (v0_) ∧ Kd.R (Kd.int .i64) 3 w' w0.heap.size (fun k_ => (P0_ k_ ∨ w.heap.size ≤ k_)) v0_ r ∧ Below w0.heap.size w0 w' ∧ Kept w w' (fun k_ => P0_ k_) := by
  unfold slices_Compact_int_int.f at h
  split at h
  case isFalse => cases h
  case isTrue hlt =>
  cases h
  have hown := Kd.own_of_R ho0
  by_cases hv : u9000_ = .slice none 0 0
  · subst hv
    have h0 : l0 = [] := by
      rcases hown.2 with ⟨_, hn⟩ | ⟨g, cap, cur, e, _⟩
      · exact List.eq_nil_of_length_eq_zero hn
      · cases e
    subst h0
    refine (Any.slices_Compact_int_empty Try.laysNm220 none 0 w).mono ?_
    rintro e w' ⟨rfl, rfl⟩
    exact ⟨_, rfl, Kd.R_nil _ _ _ _ _, hB, Kept.refl _ _⟩
  · obtain ⟨g, cap, rfl, hbg, hgl, hn, hcm, _, hH⟩ := Lib.holds_of_ownsRow hown hv
    have hPg : P0_ g := ho0.1 g rfl
    have hle : (Lib.compact l0).length ≤ l0.length := Lib.compact_length_le l0
    refine (Any.slices_Compact_int Try.laysNm220 g 0 cap l0 w hH hlt hn).mono ?_
    rintro e w' ⟨rfl, q, rfl⟩
    refine ⟨_, rfl, ?_, Lib.below_putRow hB hbg, kept_putRow hPg⟩
    have h2 := Lib.ownsRow_putRow (q := q) (k := (Lib.compact l0).length) (ys := Lib.compact l0 ++ List.replicate (l0.length - (Lib.compact l0).length) 0) hown (by simp; omega) hle
    rw [List.take_left] at h2
    exact Kd.R_of_own h2 (fun k hk => by
      have : g = k := by simpa [Value.ownBlock] using hk
      subst this
      exact .inl hPg)
end Go.Proofs.Ythdoanbadhfhjaa
