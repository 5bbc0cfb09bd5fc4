/- The contract of value.read: a text, read as what may be a value's print. -/
import Derived.Test.YtnedhbnbhedgeaaDoorBu
import Derived.Test.YtnedhbnbhedgeaaDoorSh
import Derived.Lib.Hide
import Derived.WalkSpells
import Derived.Deep.RegionWith
import Derived.RegionTactic
import Derived.ChangeAlike
import Derived.OwnWalk
import Derived.WalkSmall
import Derived.Lib.AtoiErrMem
set_option linter.unusedVariables false
set_option linter.unusedSimpArgs false
namespace Go.Proofs.YtnedhbnbhedgeaaDoor
open Go.RowKit
/-- The variables of the library's that are read: what the program's text lays into them. -/
structure Laid (w : World) : Prop where
  tab : Lib.TabIs Tryd.prog w "internal/strconv.uint64pow10" .u64 Lib.pow10Tab
  syn : ∃ tp p, w.var? Tryd.prog "strconv.ErrSyntax" = some #[.iface tp p]
  rng : ∃ tp p, w.var? Tryd.prog "strconv.ErrRange" = some #[.iface tp p]
theorem var_lt {w : World} {n : String} {cs : Array Value} (h : w.var? Tryd.prog n = some cs) : ∃ g, Tryd.prog.globalNamed n = some g ∧ g < w.heap.size := by
  unfold World.var? at h
  cases hg : Tryd.prog.globalNamed n with
  | none => rw [hg] at h; cases h
  | some g =>
    refine ⟨g, rfl, ?_⟩
    rw [hg] at h
    simp only [Option.bind_some] at h
    rcases Nat.lt_or_ge g w.heap.size with h1 | h1
    · exact h1
    · rw [Array.getElem?_eq_none h1] at h
      cases h
theorem var_below {w w' : World} {n : String} {cs : Array Value} (hb : Below w.heap.size w w') (h : w.var? Tryd.prog n = some cs) : w'.var? Tryd.prog n = some cs := by
  obtain ⟨g, hg, hlt⟩ := var_lt h
  exact var?_below hb hg hlt h
theorem Laid.below {w w' : World} (h : Laid w) (hb : Below w.heap.size w w') : Laid w' where
  tab := var_below hb h.tab
  syn := by obtain ⟨tp, p, e⟩ := h.syn; exact ⟨tp, p, var_below hb e⟩
  rng := by obtain ⟨tp, p, e⟩ := h.rng; exact ⟨tp, p, var_below hb e⟩
theorem bcell {W w1 : World} (hb : Below W.heap.size W w1) : (∀ b o, b < W.heap.size → w1.cell? ⟨b, o, none⟩ = W.cell? ⟨b, o, none⟩) ∧ (∀ b o, b < W.heap.size → w1.frozen? ⟨b, o, none⟩ = W.frozen? ⟨b, o, none⟩) :=
  ⟨fun b o h => hb.cell (p := ⟨b, o, none⟩) h, fun b o h => hb.frozen (p := ⟨b, o, none⟩) h⟩
/-- strconv.Atoi at every text: the number; is there an error? -/
def atoiN (l : List UInt8) : Int × Bool := match Lib.atoiAll l with | .ok v => (v, true) | .range => (Lib.atoiSat l, false) | _ => (0, false)
theorem atoi_any (s : ByteArray) (hs : s.size ≤ 281474976710656) (w : World) (hw : Laid w) :
    Calls Tryd.prog 41 #[.string s] w fun e w' => ∃ ev : Value, (e = .returned (.tuple #[.int .i64 (atoiN s.data.toList).1, ev]) ∧ ((atoiN s.data.toList).2 = true ∧ ev = .nilIface ∨ (atoiN s.data.toList).2 = false ∧ ∃ p, ev = .iface 82 p)) ∧ Below w.heap.size w w' := by
  rcases h : Lib.atoiAll s.data.toList with v | _ | _
  · have e1 : atoiN s.data.toList = (v, true) := by unfold atoiN; rw [h]
    refine (Tryd.strconv_Atoi_ok s (by omega) v h w).mono ?_
    rintro e w' ⟨rfl, hb⟩
    rw [e1]
    refine ⟨.nilIface, ⟨rfl, Or.inl ⟨rfl, rfl⟩⟩, ?_⟩
    rcases hb with rfl | ⟨t, rfl⟩
    · exact Below.refl _ _
    · exact Lib.bytesWorld_below _ _ _
  · have e1 : atoiN s.data.toList = (0, false) := by unfold atoiN; rw [h]
    obtain ⟨tp, p, hv⟩ := hw.syn
    refine (Any.strconv_Atoi_syntax_var Tryd.laysC172 s hs h tp p w hv).mono ?_
    rintro e w' ⟨N, rfl, _, _, hb⟩
    rw [e1]
    exact ⟨_, ⟨rfl, Or.inr ⟨rfl, _, rfl⟩⟩, hb⟩
  · have e1 : atoiN s.data.toList = (Lib.atoiSat s.data.toList, false) := by unfold atoiN; rw [h]
    obtain ⟨tp, p, hv⟩ := hw.rng
    refine (Tryd.strconv_Atoi_range_var s hs h tp p w hv).mono ?_
    rintro e w' ⟨N, rfl, _, _, hb⟩
    rw [e1]
    exact ⟨_, ⟨rfl, Or.inr ⟨rfl, _, rfl⟩⟩, hb⟩
theorem trim_len (l p : List UInt8) : (Lib.trimSuffix l p).length ≤ l.length := by
  unfold Lib.trimSuffix
  split
  · rw [List.length_take]; omega
  · exact Nat.le_refl _
/-- A number's text without its kind's letter; the kind. -/
def kindOf (l : List UInt8) : List UInt8 × Int := if Lib.hasSuffix l [115] = true then (Lib.trimSuffix l [115], 2) else if Lib.hasSuffix l [105] = true then (Lib.trimSuffix l [105], 3) else (l, 4)
abbrev cutS (s : ByteArray) (c : UInt8) : ByteArray := ⟨(Lib.trimSuffix s.data.toList [c]).toArray⟩
theorem at_cut (s : ByteArray) (c : UInt8) (hs : s.size ≤ 1000000) (W : World) (hW : Laid W) : Calls Tryd.prog 41 #[.string (cutS s c)] W fun e w' => ∃ ev : Value, (e = .returned (.tuple #[.int .i64 (atoiN (Lib.trimSuffix s.data.toList [c])).1, ev]) ∧ ((atoiN (Lib.trimSuffix s.data.toList [c])).2 = true ∧ ev = .nilIface ∨ (atoiN (Lib.trimSuffix s.data.toList [c])).2 = false ∧ ∃ p, ev = .iface 82 p)) ∧ Below W.heap.size W w' := by
  have h1 := trim_len s.data.toList [c]
  have h2 : (cutS s c).size = (Lib.trimSuffix s.data.toList [c]).length := by simp [ByteArray.size]
  have h3 : s.data.toList.length = s.size := by simp
  exact atoi_any (cutS s c) (by omega) W hW
set_option maxHeartbeats 8000000 in
set_option maxRecDepth 100000 in
theorem read_num (s : ByteArray) (w : World) (hw : Laid w) (hs : s.size ≤ 1000000) (h0 : 0 < s.size) (hne : ¬ s.toList = []) (hno : ¬ s.toList = [110, 111]) (hyes : ¬ s.toList = [121, 101, 115]) (h39 : ((s[0].toNat : Int) == 39) = false) (h34 : ((s[0].toNat : Int) == 34) = false) :
    Calls Tryd.prog 28 #[.string s] w fun e w' => e = .returned (.tuple #[.agg #[.int .i64 (kindOf s.data.toList).2, .int .i64 (atoiN (kindOf s.data.toList).1).1, .string ⟨#[]⟩], .bool (atoiN (kindOf s.data.toList).1).2]) ∧ Below w.heap.size w w' := by
  have hne' : s.toList.isEmpty = false := by rw [List.isEmpty_eq_false_iff]; exact hne
  have e1 : (s.toList == []) = false := by rw [beq_eq_false_iff_ne]; exact hne
  have e2 : (s.toList == [110, 111]) = false := by rw [beq_eq_false_iff_ne]; exact hno
  have e3 : (s.toList == [121, 101, 115]) = false := by rw [beq_eq_false_iff_ne]; exact hyes
  have h0' : (0 : Int) < (s.size : Int) := by omega
  by_cases c1 : Lib.hasSuffix s.data.toList [115] = true
  · have hk : kindOf s.data.toList = (Lib.trimSuffix s.data.toList [115], 2) := by unfold kindOf; rw [if_pos c1]
    have K := Lib.hid hk
    clear hk
    have at1 : ∀ W, Laid W → Calls Tryd.prog 41 #[.string (cutS s 115)] W fun e w' => ∃ ev : Value, (e = .returned (.tuple #[.int .i64 (atoiN (Lib.trimSuffix s.data.toList [115])).1, ev]) ∧ ((atoiN (Lib.trimSuffix s.data.toList [115])).2 = true ∧ ev = .nilIface ∨ (atoiN (Lib.trimSuffix s.data.toList [115])).2 = false ∧ ∃ p, ev = .iface 82 p)) ∧ Below W.heap.size W w' := fun W hW => at_cut s 115 hs W hW
    have AT := Lib.hid at1
    clear at1
    go_enter Tryd.func28, Tryd.ntmps28
    go_wp2_with (first | (go_at_call 40; refine (Tryd.strings_CutSuffix _ _ _ (by omega)).mono ?_; rintro e w' ⟨rfl, rfl⟩) | (go_at_call 41; refine (AT.out _ (hw.below ((Below.refl _ _).alloc (Nat.le_refl _) _))).mono ?_))
    rintro e w1 ⟨ev, ⟨rfl, hev⟩, hb⟩
    obtain ⟨n, hn⟩ : ∃ n, (atoiN (Lib.trimSuffix s.data.toList [115])).1 = n := ⟨_, rfl⟩
    rw [hn]
    have N := Lib.hid hn
    clear hn
    have hz : w.heap.size + 1 ≤ w1.heap.size := by have := hb.size; simpa using this
    obtain ⟨hc, hf⟩ := bcell hb
    have g0 : w1.cell? ⟨w.heap.size, 0, none⟩ = some (.int .i64 0) := (hc w.heap.size 0 (by simp)).trans (by rw [Lib.cell_of_heap (heap_alloc_new w _)]; rfl)
    have g1 : w1.cell? ⟨w.heap.size, 1, none⟩ = some (.int .i64 0) := (hc w.heap.size 1 (by simp)).trans (by rw [Lib.cell_of_heap (heap_alloc_new w _)]; rfl)
    have g2 : w1.cell? ⟨w.heap.size, 2, none⟩ = some (.string ⟨#[]⟩) := (hc w.heap.size 2 (by simp)).trans (by rw [Lib.cell_of_heap (heap_alloc_new w _)]; rfl)
    have f0 : w1.frozen? ⟨w.heap.size, 0, none⟩ = false := (hf w.heap.size 0 (by simp)).trans (Lib.frozen_of_heap (heap_alloc_new w _) 0)
    have f1 : w1.frozen? ⟨w.heap.size, 1, none⟩ = false := (hf w.heap.size 1 (by simp)).trans (Lib.frozen_of_heap (heap_alloc_new w _) 1)
    have f2 : w1.frozen? ⟨w.heap.size, 2, none⟩ = false := (hf w.heap.size 2 (by simp)).trans (Lib.frozen_of_heap (heap_alloc_new w _) 2)
    have HB := Lib.hid hb
    clear hb hc hf
    rcases hev with ⟨hv, rfl⟩ | ⟨hv, p, rfl⟩
    · have HV := Lib.hid hv
      clear hv
      go_wp2
      go_region
      go_wp2
      refine bodyPost_ret (v := .tuple #[.agg #[.int .i64 2, .int .i64 n, .string ⟨#[]⟩], .bool true]) (by simp [results, Tryd.results28, go_sem, g0, g1, g2]) rfl ⟨?_, ?_⟩
      · rw [K.out]
        show _ = Ending.returned (.tuple #[.agg #[.int .i64 2, .int .i64 (atoiN (Lib.trimSuffix s.data.toList [115])).1, .string ⟨#[]⟩], .bool (atoiN (Lib.trimSuffix s.data.toList [115])).2])
        rw [HV.out, N.out]
      · exact ((((((Below.refl _ w).alloc (Nat.le_refl _) _).trans (HB.out.mono (by simp))).setCell (by simp) _).setCell (by simp) _).setCell (by simp) _).drew
    · have HV := Lib.hid hv
      clear hv
      go_wp2
      go_region
      go_wp2
      refine bodyPost_ret (v := .tuple #[.agg #[.int .i64 2, .int .i64 n, .string ⟨#[]⟩], .bool false]) (by simp [results, Tryd.results28, go_sem, g0, g1, g2]) rfl ⟨?_, ?_⟩
      · rw [K.out]
        show _ = Ending.returned (.tuple #[.agg #[.int .i64 2, .int .i64 (atoiN (Lib.trimSuffix s.data.toList [115])).1, .string ⟨#[]⟩], .bool (atoiN (Lib.trimSuffix s.data.toList [115])).2])
        rw [HV.out, N.out]
      · exact ((((((Below.refl _ w).alloc (Nat.le_refl _) _).trans (HB.out.mono (by simp))).setCell (by simp) _).setCell (by simp) _).setCell (by simp) _).drew
  · have c1' : Lib.hasSuffix s.data.toList [115] = false := by simpa using c1
    by_cases c2 : Lib.hasSuffix s.data.toList [105] = true
    · have hk : kindOf s.data.toList = (Lib.trimSuffix s.data.toList [105], 3) := by unfold kindOf; rw [if_neg c1, if_pos c2]
      clear c1
      have K := Lib.hid hk
      clear hk
      have at1 : ∀ W, Laid W → Calls Tryd.prog 41 #[.string (cutS s 105)] W fun e w' => ∃ ev : Value, (e = .returned (.tuple #[.int .i64 (atoiN (Lib.trimSuffix s.data.toList [105])).1, ev]) ∧ ((atoiN (Lib.trimSuffix s.data.toList [105])).2 = true ∧ ev = .nilIface ∨ (atoiN (Lib.trimSuffix s.data.toList [105])).2 = false ∧ ∃ p, ev = .iface 82 p)) ∧ Below W.heap.size W w' := fun W hW => at_cut s 105 hs W hW
      have AT := Lib.hid at1
      clear at1
      go_enter Tryd.func28, Tryd.ntmps28
      go_wp2_with (first | (go_at_call 40; refine (Tryd.strings_CutSuffix _ _ _ (by omega)).mono ?_; rintro e w' ⟨rfl, rfl⟩) | (go_at_call 41; refine (AT.out _ (hw.below ((Below.refl _ _).alloc (Nat.le_refl _) _))).mono ?_))
      rintro e w1 ⟨ev, ⟨rfl, hev⟩, hb⟩
      obtain ⟨n, hn⟩ : ∃ n, (atoiN (Lib.trimSuffix s.data.toList [105])).1 = n := ⟨_, rfl⟩
      rw [hn]
      have N := Lib.hid hn
      clear hn
      have hz : w.heap.size + 1 ≤ w1.heap.size := by have := hb.size; simpa using this
      obtain ⟨hc, hf⟩ := bcell hb
      have g0 : w1.cell? ⟨w.heap.size, 0, none⟩ = some (.int .i64 0) := (hc w.heap.size 0 (by simp)).trans (by rw [Lib.cell_of_heap (heap_alloc_new w _)]; rfl)
      have g1 : w1.cell? ⟨w.heap.size, 1, none⟩ = some (.int .i64 0) := (hc w.heap.size 1 (by simp)).trans (by rw [Lib.cell_of_heap (heap_alloc_new w _)]; rfl)
      have g2 : w1.cell? ⟨w.heap.size, 2, none⟩ = some (.string ⟨#[]⟩) := (hc w.heap.size 2 (by simp)).trans (by rw [Lib.cell_of_heap (heap_alloc_new w _)]; rfl)
      have f0 : w1.frozen? ⟨w.heap.size, 0, none⟩ = false := (hf w.heap.size 0 (by simp)).trans (Lib.frozen_of_heap (heap_alloc_new w _) 0)
      have f1 : w1.frozen? ⟨w.heap.size, 1, none⟩ = false := (hf w.heap.size 1 (by simp)).trans (Lib.frozen_of_heap (heap_alloc_new w _) 1)
      have f2 : w1.frozen? ⟨w.heap.size, 2, none⟩ = false := (hf w.heap.size 2 (by simp)).trans (Lib.frozen_of_heap (heap_alloc_new w _) 2)
      have HB := Lib.hid hb
      clear hb hc hf
      rcases hev with ⟨hv, rfl⟩ | ⟨hv, p, rfl⟩
      · have HV := Lib.hid hv
        clear hv
        go_wp2
        go_region
        go_wp2
        refine bodyPost_ret (v := .tuple #[.agg #[.int .i64 3, .int .i64 n, .string ⟨#[]⟩], .bool true]) (by simp [results, Tryd.results28, go_sem, g0, g1, g2]) rfl ⟨?_, ?_⟩
        · rw [K.out]
          show _ = Ending.returned (.tuple #[.agg #[.int .i64 3, .int .i64 (atoiN (Lib.trimSuffix s.data.toList [105])).1, .string ⟨#[]⟩], .bool (atoiN (Lib.trimSuffix s.data.toList [105])).2])
          rw [HV.out, N.out]
        · exact ((((((Below.refl _ w).alloc (Nat.le_refl _) _).trans (HB.out.mono (by simp))).setCell (by simp) _).setCell (by simp) _).setCell (by simp) _).drew
      · have HV := Lib.hid hv
        clear hv
        go_wp2
        go_region
        go_wp2
        refine bodyPost_ret (v := .tuple #[.agg #[.int .i64 3, .int .i64 n, .string ⟨#[]⟩], .bool false]) (by simp [results, Tryd.results28, go_sem, g0, g1, g2]) rfl ⟨?_, ?_⟩
        · rw [K.out]
          show _ = Ending.returned (.tuple #[.agg #[.int .i64 3, .int .i64 (atoiN (Lib.trimSuffix s.data.toList [105])).1, .string ⟨#[]⟩], .bool (atoiN (Lib.trimSuffix s.data.toList [105])).2])
          rw [HV.out, N.out]
        · exact ((((((Below.refl _ w).alloc (Nat.le_refl _) _).trans (HB.out.mono (by simp))).setCell (by simp) _).setCell (by simp) _).setCell (by simp) _).drew
    · have c2' : Lib.hasSuffix s.data.toList [105] = false := by simpa using c2
      have hk : kindOf s.data.toList = (s.data.toList, 4) := by unfold kindOf; rw [if_neg c1, if_neg c2]
      clear c1 c2
      have K := Lib.hid hk
      clear hk
      have at1 : ∀ W, Laid W → Calls Tryd.prog 41 #[.string s] W fun e w' => ∃ ev : Value, (e = .returned (.tuple #[.int .i64 (atoiN s.data.toList).1, ev]) ∧ ((atoiN s.data.toList).2 = true ∧ ev = .nilIface ∨ (atoiN s.data.toList).2 = false ∧ ∃ p, ev = .iface 82 p)) ∧ Below W.heap.size W w' := fun W hW => atoi_any s (by omega) W hW
      have AT := Lib.hid at1
      clear at1
      go_enter Tryd.func28, Tryd.ntmps28
      go_wp2_with (first | (go_at_call 40; refine (Tryd.strings_CutSuffix _ _ _ (by omega)).mono ?_; rintro e w' ⟨rfl, rfl⟩) | (go_at_call 41; refine (AT.out _ (hw.below ((Below.refl _ _).alloc (Nat.le_refl _) _))).mono ?_))
      rintro e w1 ⟨ev, ⟨rfl, hev⟩, hb⟩
      obtain ⟨n, hn⟩ : ∃ n, (atoiN s.data.toList).1 = n := ⟨_, rfl⟩
      rw [hn]
      have N := Lib.hid hn
      clear hn
      have hz : w.heap.size + 1 ≤ w1.heap.size := by have := hb.size; simpa using this
      obtain ⟨hc, hf⟩ := bcell hb
      have g0 : w1.cell? ⟨w.heap.size, 0, none⟩ = some (.int .i64 0) := (hc w.heap.size 0 (by simp)).trans (by rw [Lib.cell_of_heap (heap_alloc_new w _)]; rfl)
      have g1 : w1.cell? ⟨w.heap.size, 1, none⟩ = some (.int .i64 0) := (hc w.heap.size 1 (by simp)).trans (by rw [Lib.cell_of_heap (heap_alloc_new w _)]; rfl)
      have g2 : w1.cell? ⟨w.heap.size, 2, none⟩ = some (.string ⟨#[]⟩) := (hc w.heap.size 2 (by simp)).trans (by rw [Lib.cell_of_heap (heap_alloc_new w _)]; rfl)
      have f0 : w1.frozen? ⟨w.heap.size, 0, none⟩ = false := (hf w.heap.size 0 (by simp)).trans (Lib.frozen_of_heap (heap_alloc_new w _) 0)
      have f1 : w1.frozen? ⟨w.heap.size, 1, none⟩ = false := (hf w.heap.size 1 (by simp)).trans (Lib.frozen_of_heap (heap_alloc_new w _) 1)
      have f2 : w1.frozen? ⟨w.heap.size, 2, none⟩ = false := (hf w.heap.size 2 (by simp)).trans (Lib.frozen_of_heap (heap_alloc_new w _) 2)
      have HB := Lib.hid hb
      clear hb hc hf
      rcases hev with ⟨hv, rfl⟩ | ⟨hv, p, rfl⟩
      · have HV := Lib.hid hv
        clear hv
        go_wp2
        go_region
        go_wp2
        refine bodyPost_ret (v := .tuple #[.agg #[.int .i64 4, .int .i64 n, .string ⟨#[]⟩], .bool true]) (by simp [results, Tryd.results28, go_sem, g0, g1, g2]) rfl ⟨?_, ?_⟩
        · rw [K.out]
          show _ = Ending.returned (.tuple #[.agg #[.int .i64 4, .int .i64 (atoiN s.data.toList).1, .string ⟨#[]⟩], .bool (atoiN s.data.toList).2])
          rw [HV.out, N.out]
        · exact ((((((Below.refl _ w).alloc (Nat.le_refl _) _).trans (HB.out.mono (by simp))).setCell (by simp) _).setCell (by simp) _).setCell (by simp) _).drew
      · have HV := Lib.hid hv
        clear hv
        go_wp2
        go_region
        go_wp2
        refine bodyPost_ret (v := .tuple #[.agg #[.int .i64 4, .int .i64 n, .string ⟨#[]⟩], .bool false]) (by simp [results, Tryd.results28, go_sem, g0, g1, g2]) rfl ⟨?_, ?_⟩
        · rw [K.out]
          show _ = Ending.returned (.tuple #[.agg #[.int .i64 4, .int .i64 (atoiN s.data.toList).1, .string ⟨#[]⟩], .bool (atoiN s.data.toList).2])
          rw [HV.out, N.out]
        · exact ((((((Below.refl _ w).alloc (Nat.le_refl _) _).trans (HB.out.mono (by simp))).setCell (by simp) _).setCell (by simp) _).setCell (by simp) _).drew
end Go.Proofs.YtnedhbnbhedgeaaDoor
