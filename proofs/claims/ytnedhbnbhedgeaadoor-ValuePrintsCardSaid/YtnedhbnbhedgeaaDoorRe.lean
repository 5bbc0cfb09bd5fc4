/- The contract of value.read: the words, the empty text, the quoted texts. -/
import Derived.Test.YtnedhbnbhedgeaaDoorRd
import Derived.Test.YtnedhbnbhedgeaaDoorUq
set_option linter.unusedVariables false
set_option linter.unusedSimpArgs false
namespace Go.Proofs.YtnedhbnbhedgeaaDoor
open Go.RowKit
set_option maxHeartbeats 4000000 in
set_option maxRecDepth 100000 in
theorem read_empty (w : World) : Calls Tryd.prog 28 #[.string ⟨#[]⟩] w fun e w' => e = .returned (.tuple #[.agg #[.int .i64 0, .int .i64 0, .string ⟨#[]⟩], .bool false]) ∧ Below w.heap.size w w' := by
  go_enter Tryd.func28, Tryd.ntmps28
  go_wp2
  refine bodyPost_ret (v := .tuple #[.agg #[.int .i64 0, .int .i64 0, .string ⟨#[]⟩], .bool false]) (by simp [results, Tryd.results28, go_sem]) rfl ⟨rfl, ?_⟩
  exact (Below.refl _ w).alloc (Nat.le_refl _) _
set_option maxHeartbeats 4000000 in
set_option maxRecDepth 100000 in
theorem read_no (w : World) : Calls Tryd.prog 28 #[.string ⟨#[110, 111]⟩] w fun e w' => e = .returned (.tuple #[.agg #[.int .i64 1, .int .i64 0, .string ⟨#[]⟩], .bool true]) ∧ Below w.heap.size w w' := by
  have e1 : (⟨#[110, 111]⟩ : ByteArray).toList = [110, 111] := by decide +kernel
  go_enter Tryd.func28, Tryd.ntmps28
  go_wp2
  refine bodyPost_ret (v := .tuple #[.agg #[.int .i64 1, .int .i64 0, .string ⟨#[]⟩], .bool true]) (by simp [results, Tryd.results28, go_sem]) rfl ⟨rfl, ?_⟩
  exact (Below.refl _ w).alloc (Nat.le_refl _) _
set_option maxHeartbeats 4000000 in
set_option maxRecDepth 100000 in
theorem read_yes (w : World) : Calls Tryd.prog 28 #[.string ⟨#[121, 101, 115]⟩] w fun e w' => e = .returned (.tuple #[.agg #[.int .i64 1, .int .i64 1, .string ⟨#[]⟩], .bool true]) ∧ Below w.heap.size w w' := by
  have e1 : (⟨#[121, 101, 115]⟩ : ByteArray).toList = [121, 101, 115] := by decide +kernel
  go_enter Tryd.func28, Tryd.ntmps28
  go_wp2
  refine bodyPost_ret (v := .tuple #[.agg #[.int .i64 1, .int .i64 1, .string ⟨#[]⟩], .bool true]) (by simp [results, Tryd.results28, go_sem]) rfl ⟨rfl, ?_⟩
  exact (Below.refl _ w).alloc (Nat.le_refl _) _
set_option maxHeartbeats 8000000 in
set_option maxRecDepth 100000 in
theorem read_quoted (s : ByteArray) (w : World) (hs : s.size ≤ 1000000) (h2 : 2 ≤ s.size) (hne : ¬ s.toList = []) (hno : ¬ s.toList = [110, 111]) (hyes : ¬ s.toList = [121, 101, 115]) (h39 : ((s[0].toNat : Int) == 39) = true) (h34 : ((s[0].toNat : Int) == 34) = false) (hl : ((s[s.size - 1].toNat : Int) != (s[0].toNat : Int)) = false) :
    Calls Tryd.prog 28 #[.string s] w fun e w' => e = .returned (.tuple #[.agg #[.int .i64 5, .int .i64 0, .string (uqs s[0] ((s.data.toList.drop 1).take (s.size - 2))).1], .bool (uqs s[0] ((s.data.toList.drop 1).take (s.size - 2))).2]) ∧ Below w.heap.size w w' := by
  have hne' : s.toList.isEmpty = false := by rw [List.isEmpty_eq_false_iff]; exact hne
  have e1 : (s.toList == []) = false := by rw [beq_eq_false_iff_ne]; exact hne
  have e2 : (s.toList == [110, 111]) = false := by rw [beq_eq_false_iff_ne]; exact hno
  have e3 : (s.toList == [121, 101, 115]) = false := by rw [beq_eq_false_iff_ne]; exact hyes
  have h0' : (0 : Int) < (s.size : Int) := by omega
  have h2' : (2 : Int) ≤ (s.size : Int) := by omega
  have h2'' : decide ((s.size : Int) < 2) = false := by rw [decide_eq_false_iff_not]; omega
  have i1 : IntKind.i64.wrap ((s.size : Int) - 1) = (s.size : Int) - 1 := IntWalk.i64_in _ ⟨by omega, by omega⟩
  have i2 : (0 : Int) ≤ (s.size : Int) - 1 := by omega
  have i3 : (s.size : Int) - 1 < (s.size : Int) := by omega
  have i6 : (1 : Int) ≤ (s.size : Int) := by omega
  have i4 : ((s.size : Int) - 1).toNat = s.size - 1 := by omega
  have i5 : s.size - 1 < s.size := by omega
  go_enter Tryd.func28, Tryd.ntmps28
  go_wp2
  go_quiet (fail)
  go_wp2
  have j1 : (1 : Int) ≤ (s.size : Int) - 1 := by omega
  have j2 : (s.size : Int) - 1 ≤ (s.size : Int) := by omega
  have hsz : (s.extract 1 (s.size - 1)).size ≤ 1000000 := by
    have := congrArg List.length (Lib.extract_data s 1 (s.size - 1))
    simp at this ⊢
    omega
  obtain ⟨u1, hu1⟩ : ∃ u, (uqs s[0] (s.extract 1 (s.size - 1)).data.toList).1 = u := ⟨_, rfl⟩
  obtain ⟨u2, hu2⟩ : ∃ u, (uqs s[0] (s.extract 1 (s.size - 1)).data.toList).2 = u := ⟨_, rfl⟩
  have uc : ∀ W : World, Calls Tryd.prog 39 #[.string (s.extract 1 (s.size - 1)), .int .u8 (s[0].toNat : Int)] W fun e w' => e = .returned (.tuple #[.string u1, .bool u2]) ∧ Below W.heap.size W w' := fun W => by
    have h := unquote_calls (s.extract 1 (s.size - 1)) s[0] W hsz
    rw [hu1, hu2] at h
    exact h
  have UC := Lib.hid uc
  have U1 := Lib.hid hu1
  have U2 := Lib.hid hu2
  clear hsz uc hu1 hu2
  generalize hW : (w.alloc (Obj.cells #[Value.int IntKind.i64 0, Value.int IntKind.i64 0, Value.string ⟨#[]⟩] 23)).drewN nq = W
  have HW := Lib.hid hW
  clear hW
  go_region_with (go_at_call 39; refine (UC.out _).mono ?_; rintro e w' ⟨rfl, hb⟩)
  have gW : W.heap[w.heap.size]? = some (.cells #[.int .i64 0, .int .i64 0, .string ⟨#[]⟩] 23 (0, 0)) := by rw [← HW.out]; exact heap_alloc_new w _
  have zW : W.heap.size = w.heap.size + 1 := by rw [← HW.out]; simp
  have bW : Below w.heap.size w W := by rw [← HW.out]; exact ((Below.refl _ w).alloc (Nat.le_refl _) _).trans ⟨rfl, rfl, rfl, Nat.le_refl _, fun _ _ => rfl⟩
  replace hb : Below W.heap.size W w' := (show Below W.heap.size W W.drew from ⟨rfl, rfl, rfl, Nat.le_refl _, fun _ _ => rfl⟩).trans hb
  obtain ⟨hc, hf⟩ := bcell hb
  have g0 : w'.cell? ⟨w.heap.size, 0, none⟩ = some (.int .i64 0) := (hc w.heap.size 0 (by omega)).trans (by rw [Lib.cell_of_heap gW]; rfl)
  have g1 : w'.cell? ⟨w.heap.size, 1, none⟩ = some (.int .i64 0) := (hc w.heap.size 1 (by omega)).trans (by rw [Lib.cell_of_heap gW]; rfl)
  have g2 : w'.cell? ⟨w.heap.size, 2, none⟩ = some (.string ⟨#[]⟩) := (hc w.heap.size 2 (by omega)).trans (by rw [Lib.cell_of_heap gW]; rfl)
  have f0 : w'.frozen? ⟨w.heap.size, 0, none⟩ = false := (hf w.heap.size 0 (by omega)).trans (Lib.frozen_of_heap gW 0)
  have f1 : w'.frozen? ⟨w.heap.size, 1, none⟩ = false := (hf w.heap.size 1 (by omega)).trans (Lib.frozen_of_heap gW 1)
  have f2 : w'.frozen? ⟨w.heap.size, 2, none⟩ = false := (hf w.heap.size 2 (by omega)).trans (Lib.frozen_of_heap gW 2)
  have HB : Hid (Below w.heap.size w w') := Lib.hid (bW.trans (hb.mono (by omega)))
  have hz : w.heap.size < w'.heap.size := by have := hb.size; omega
  clear hb hc hf gW zW bW
  go_wp2
  refine bodyPost_ret (v := .tuple #[.agg #[.int .i64 5, .int .i64 0, .string u1], .bool u2]) (by simp [results, Tryd.results28, go_sem, g0, g1, g2]) rfl ⟨?_, ?_⟩
  · have e9 : (s.extract 1 (s.size - 1)).data.toList = (s.data.toList.drop 1).take (s.size - 2) := by rw [Lib.extract_data]; congr 1
    rw [← U1.out, ← U2.out, e9]
  · exact ((HB.out.setCell (by simp) _).setCell (by simp) _).setCell (by simp) _
set_option maxHeartbeats 8000000 in
set_option maxRecDepth 100000 in
theorem read_quoted2 (s : ByteArray) (w : World) (hs : s.size ≤ 1000000) (h2 : 2 ≤ s.size) (hne : ¬ s.toList = []) (hno : ¬ s.toList = [110, 111]) (hyes : ¬ s.toList = [121, 101, 115]) (h39 : ((s[0].toNat : Int) == 39) = false) (h34 : ((s[0].toNat : Int) == 34) = true) (hl : ((s[s.size - 1].toNat : Int) != (s[0].toNat : Int)) = false) :
    Calls Tryd.prog 28 #[.string s] w fun e w' => e = .returned (.tuple #[.agg #[.int .i64 6, .int .i64 0, .string (uqs s[0] ((s.data.toList.drop 1).take (s.size - 2))).1], .bool (uqs s[0] ((s.data.toList.drop 1).take (s.size - 2))).2]) ∧ Below w.heap.size w w' := by
  have hne' : s.toList.isEmpty = false := by rw [List.isEmpty_eq_false_iff]; exact hne
  have e1 : (s.toList == []) = false := by rw [beq_eq_false_iff_ne]; exact hne
  have e2 : (s.toList == [110, 111]) = false := by rw [beq_eq_false_iff_ne]; exact hno
  have e3 : (s.toList == [121, 101, 115]) = false := by rw [beq_eq_false_iff_ne]; exact hyes
  have h0' : (0 : Int) < (s.size : Int) := by omega
  have h2' : (2 : Int) ≤ (s.size : Int) := by omega
  have h2'' : decide ((s.size : Int) < 2) = false := by rw [decide_eq_false_iff_not]; omega
  have i1 : IntKind.i64.wrap ((s.size : Int) - 1) = (s.size : Int) - 1 := IntWalk.i64_in _ ⟨by omega, by omega⟩
  have i2 : (0 : Int) ≤ (s.size : Int) - 1 := by omega
  have i3 : (s.size : Int) - 1 < (s.size : Int) := by omega
  have i6 : (1 : Int) ≤ (s.size : Int) := by omega
  have i4 : ((s.size : Int) - 1).toNat = s.size - 1 := by omega
  have i5 : s.size - 1 < s.size := by omega
  go_enter Tryd.func28, Tryd.ntmps28
  go_wp2
  go_quiet (fail)
  go_wp2
  have j1 : (1 : Int) ≤ (s.size : Int) - 1 := by omega
  have j2 : (s.size : Int) - 1 ≤ (s.size : Int) := by omega
  have hsz : (s.extract 1 (s.size - 1)).size ≤ 1000000 := by
    have := congrArg List.length (Lib.extract_data s 1 (s.size - 1))
    simp at this ⊢
    omega
  obtain ⟨u1, hu1⟩ : ∃ u, (uqs s[0] (s.extract 1 (s.size - 1)).data.toList).1 = u := ⟨_, rfl⟩
  obtain ⟨u2, hu2⟩ : ∃ u, (uqs s[0] (s.extract 1 (s.size - 1)).data.toList).2 = u := ⟨_, rfl⟩
  have uc : ∀ W : World, Calls Tryd.prog 39 #[.string (s.extract 1 (s.size - 1)), .int .u8 (s[0].toNat : Int)] W fun e w' => e = .returned (.tuple #[.string u1, .bool u2]) ∧ Below W.heap.size W w' := fun W => by
    have h := unquote_calls (s.extract 1 (s.size - 1)) s[0] W hsz
    rw [hu1, hu2] at h
    exact h
  have UC := Lib.hid uc
  have U1 := Lib.hid hu1
  have U2 := Lib.hid hu2
  clear hsz uc hu1 hu2
  generalize hW : (w.alloc (Obj.cells #[Value.int IntKind.i64 0, Value.int IntKind.i64 0, Value.string ⟨#[]⟩] 23)).drewN nq = W
  have HW := Lib.hid hW
  clear hW
  go_region_with (go_at_call 39; refine (UC.out _).mono ?_; rintro e w' ⟨rfl, hb⟩)
  have gW : W.heap[w.heap.size]? = some (.cells #[.int .i64 0, .int .i64 0, .string ⟨#[]⟩] 23 (0, 0)) := by rw [← HW.out]; exact heap_alloc_new w _
  have zW : W.heap.size = w.heap.size + 1 := by rw [← HW.out]; simp
  have bW : Below w.heap.size w W := by rw [← HW.out]; exact ((Below.refl _ w).alloc (Nat.le_refl _) _).trans ⟨rfl, rfl, rfl, Nat.le_refl _, fun _ _ => rfl⟩
  replace hb : Below W.heap.size W w' := (show Below W.heap.size W W.drew from ⟨rfl, rfl, rfl, Nat.le_refl _, fun _ _ => rfl⟩).trans hb
  obtain ⟨hc, hf⟩ := bcell hb
  have g0 : w'.cell? ⟨w.heap.size, 0, none⟩ = some (.int .i64 0) := (hc w.heap.size 0 (by omega)).trans (by rw [Lib.cell_of_heap gW]; rfl)
  have g1 : w'.cell? ⟨w.heap.size, 1, none⟩ = some (.int .i64 0) := (hc w.heap.size 1 (by omega)).trans (by rw [Lib.cell_of_heap gW]; rfl)
  have g2 : w'.cell? ⟨w.heap.size, 2, none⟩ = some (.string ⟨#[]⟩) := (hc w.heap.size 2 (by omega)).trans (by rw [Lib.cell_of_heap gW]; rfl)
  have f0 : w'.frozen? ⟨w.heap.size, 0, none⟩ = false := (hf w.heap.size 0 (by omega)).trans (Lib.frozen_of_heap gW 0)
  have f1 : w'.frozen? ⟨w.heap.size, 1, none⟩ = false := (hf w.heap.size 1 (by omega)).trans (Lib.frozen_of_heap gW 1)
  have f2 : w'.frozen? ⟨w.heap.size, 2, none⟩ = false := (hf w.heap.size 2 (by omega)).trans (Lib.frozen_of_heap gW 2)
  have HB : Hid (Below w.heap.size w w') := Lib.hid (bW.trans (hb.mono (by omega)))
  have hz : w.heap.size < w'.heap.size := by have := hb.size; omega
  clear hb hc hf gW zW bW
  go_wp2
  refine bodyPost_ret (v := .tuple #[.agg #[.int .i64 6, .int .i64 0, .string u1], .bool u2]) (by simp [results, Tryd.results28, go_sem, g0, g1, g2]) rfl ⟨?_, ?_⟩
  · have e9 : (s.extract 1 (s.size - 1)).data.toList = (s.data.toList.drop 1).take (s.size - 2) := by rw [Lib.extract_data]; congr 1
    rw [← U1.out, ← U2.out, e9]
  · exact ((HB.out.setCell (by simp) _).setCell (by simp) _).setCell (by simp) _
set_option maxHeartbeats 8000000 in
set_option maxRecDepth 100000 in
theorem read_bad1 (s : ByteArray) (w : World) (hs : s.size ≤ 1000000) (h2 : s.size = 1) (h0 : 0 < s.size) (hne : ¬ s.toList = []) (hno : ¬ s.toList = [110, 111]) (hyes : ¬ s.toList = [121, 101, 115]) (h39 : ((s[0].toNat : Int) == 39) = true) (h34 : ((s[0].toNat : Int) == 34) = false) :
    Calls Tryd.prog 28 #[.string s] w fun e w' => e = .returned (.tuple #[.agg #[.int .i64 0, .int .i64 0, .string ⟨#[]⟩], .bool false]) ∧ Below w.heap.size w w' := by
  have hne' : s.toList.isEmpty = false := by rw [List.isEmpty_eq_false_iff]; exact hne
  have e1 : (s.toList == []) = false := by rw [beq_eq_false_iff_ne]; exact hne
  have e2 : (s.toList == [110, 111]) = false := by rw [beq_eq_false_iff_ne]; exact hno
  have e3 : (s.toList == [121, 101, 115]) = false := by rw [beq_eq_false_iff_ne]; exact hyes
  have h0' : (0 : Int) < (s.size : Int) := by omega
  have h3 : (s.size : Int) < 2 := by omega
  clear h2
  go_enter Tryd.func28, Tryd.ntmps28
  go_wp2
  go_quiet (fail)
  go_wp2
  refine bodyPost_ret (v := .tuple #[.agg #[.int .i64 0, .int .i64 0, .string ⟨#[]⟩], .bool false]) (by simp [results, Tryd.results28, go_sem]) rfl ⟨rfl, ?_⟩
  have b1 : Below w.heap.size w ((w.alloc (Obj.cells #[Value.int IntKind.i64 0, Value.int IntKind.i64 0, Value.string ⟨#[]⟩] 23)).drewN nq) := ((Below.refl _ w).alloc (Nat.le_refl _) _).trans ⟨rfl, rfl, rfl, Nat.le_refl _, fun _ _ => rfl⟩
  first | exact b1 | exact ((b1.setCell (by simp) _).setCell (by simp) _).setCell (by simp) _
set_option maxHeartbeats 8000000 in
set_option maxRecDepth 100000 in
theorem read_bad2 (s : ByteArray) (w : World) (hs : s.size ≤ 1000000) (h2 : s.size = 1) (h0 : 0 < s.size) (hne : ¬ s.toList = []) (hno : ¬ s.toList = [110, 111]) (hyes : ¬ s.toList = [121, 101, 115]) (h39 : ((s[0].toNat : Int) == 39) = false) (h34 : ((s[0].toNat : Int) == 34) = true) :
    Calls Tryd.prog 28 #[.string s] w fun e w' => e = .returned (.tuple #[.agg #[.int .i64 0, .int .i64 0, .string ⟨#[]⟩], .bool false]) ∧ Below w.heap.size w w' := by
  have hne' : s.toList.isEmpty = false := by rw [List.isEmpty_eq_false_iff]; exact hne
  have e1 : (s.toList == []) = false := by rw [beq_eq_false_iff_ne]; exact hne
  have e2 : (s.toList == [110, 111]) = false := by rw [beq_eq_false_iff_ne]; exact hno
  have e3 : (s.toList == [121, 101, 115]) = false := by rw [beq_eq_false_iff_ne]; exact hyes
  have h0' : (0 : Int) < (s.size : Int) := by omega
  have h3 : (s.size : Int) < 2 := by omega
  clear h2
  go_enter Tryd.func28, Tryd.ntmps28
  go_wp2
  go_quiet (fail)
  go_wp2
  refine bodyPost_ret (v := .tuple #[.agg #[.int .i64 0, .int .i64 0, .string ⟨#[]⟩], .bool false]) (by simp [results, Tryd.results28, go_sem]) rfl ⟨rfl, ?_⟩
  have b1 : Below w.heap.size w ((w.alloc (Obj.cells #[Value.int IntKind.i64 0, Value.int IntKind.i64 0, Value.string ⟨#[]⟩] 23)).drewN nq) := ((Below.refl _ w).alloc (Nat.le_refl _) _).trans ⟨rfl, rfl, rfl, Nat.le_refl _, fun _ _ => rfl⟩
  first | exact b1 | exact ((b1.setCell (by simp) _).setCell (by simp) _).setCell (by simp) _
set_option maxHeartbeats 8000000 in
set_option maxRecDepth 100000 in
theorem read_bad3 (s : ByteArray) (w : World) (hs : s.size ≤ 1000000) (h2 : 2 ≤ s.size) (hne : ¬ s.toList = []) (hno : ¬ s.toList = [110, 111]) (hyes : ¬ s.toList = [121, 101, 115]) (h39 : ((s[0].toNat : Int) == 39) = true) (h34 : ((s[0].toNat : Int) == 34) = false) (hl : ((s[s.size - 1].toNat : Int) != (s[0].toNat : Int)) = true) :
    Calls Tryd.prog 28 #[.string s] w fun e w' => e = .returned (.tuple #[.agg #[.int .i64 0, .int .i64 0, .string ⟨#[]⟩], .bool false]) ∧ Below w.heap.size w w' := by
  have hne' : s.toList.isEmpty = false := by rw [List.isEmpty_eq_false_iff]; exact hne
  have e1 : (s.toList == []) = false := by rw [beq_eq_false_iff_ne]; exact hne
  have e2 : (s.toList == [110, 111]) = false := by rw [beq_eq_false_iff_ne]; exact hno
  have e3 : (s.toList == [121, 101, 115]) = false := by rw [beq_eq_false_iff_ne]; exact hyes
  have h0' : (0 : Int) < (s.size : Int) := by omega
  have h2' : (2 : Int) ≤ (s.size : Int) := by omega
  have h2'' : decide ((s.size : Int) < 2) = false := by rw [decide_eq_false_iff_not]; omega
  have i1 : IntKind.i64.wrap ((s.size : Int) - 1) = (s.size : Int) - 1 := IntWalk.i64_in _ ⟨by omega, by omega⟩
  have i2 : (0 : Int) ≤ (s.size : Int) - 1 := by omega
  have i3 : (s.size : Int) - 1 < (s.size : Int) := by omega
  have i6 : (1 : Int) ≤ (s.size : Int) := by omega
  have i4 : ((s.size : Int) - 1).toNat = s.size - 1 := by omega
  have i5 : s.size - 1 < s.size := by omega
  go_enter Tryd.func28, Tryd.ntmps28
  go_wp2
  go_quiet (fail)
  go_wp2
  refine bodyPost_ret (v := .tuple #[.agg #[.int .i64 0, .int .i64 0, .string ⟨#[]⟩], .bool false]) (by simp [results, Tryd.results28, go_sem]) rfl ⟨rfl, ?_⟩
  have b1 : Below w.heap.size w ((w.alloc (Obj.cells #[Value.int IntKind.i64 0, Value.int IntKind.i64 0, Value.string ⟨#[]⟩] 23)).drewN nq) := ((Below.refl _ w).alloc (Nat.le_refl _) _).trans ⟨rfl, rfl, rfl, Nat.le_refl _, fun _ _ => rfl⟩
  first | exact b1 | exact ((b1.setCell (by simp) _).setCell (by simp) _).setCell (by simp) _
set_option maxHeartbeats 8000000 in
set_option maxRecDepth 100000 in
theorem read_bad4 (s : ByteArray) (w : World) (hs : s.size ≤ 1000000) (h2 : 2 ≤ s.size) (hne : ¬ s.toList = []) (hno : ¬ s.toList = [110, 111]) (hyes : ¬ s.toList = [121, 101, 115]) (h39 : ((s[0].toNat : Int) == 39) = false) (h34 : ((s[0].toNat : Int) == 34) = true) (hl : ((s[s.size - 1].toNat : Int) != (s[0].toNat : Int)) = true) :
    Calls Tryd.prog 28 #[.string s] w fun e w' => e = .returned (.tuple #[.agg #[.int .i64 0, .int .i64 0, .string ⟨#[]⟩], .bool false]) ∧ Below w.heap.size w w' := by
  have hne' : s.toList.isEmpty = false := by rw [List.isEmpty_eq_false_iff]; exact hne
  have e1 : (s.toList == []) = false := by rw [beq_eq_false_iff_ne]; exact hne
  have e2 : (s.toList == [110, 111]) = false := by rw [beq_eq_false_iff_ne]; exact hno
  have e3 : (s.toList == [121, 101, 115]) = false := by rw [beq_eq_false_iff_ne]; exact hyes
  have h0' : (0 : Int) < (s.size : Int) := by omega
  have h2' : (2 : Int) ≤ (s.size : Int) := by omega
  have h2'' : decide ((s.size : Int) < 2) = false := by rw [decide_eq_false_iff_not]; omega
  have i1 : IntKind.i64.wrap ((s.size : Int) - 1) = (s.size : Int) - 1 := IntWalk.i64_in _ ⟨by omega, by omega⟩
  have i2 : (0 : Int) ≤ (s.size : Int) - 1 := by omega
  have i3 : (s.size : Int) - 1 < (s.size : Int) := by omega
  have i6 : (1 : Int) ≤ (s.size : Int) := by omega
  have i4 : ((s.size : Int) - 1).toNat = s.size - 1 := by omega
  have i5 : s.size - 1 < s.size := by omega
  go_enter Tryd.func28, Tryd.ntmps28
  go_wp2
  go_quiet (fail)
  go_wp2
  refine bodyPost_ret (v := .tuple #[.agg #[.int .i64 0, .int .i64 0, .string ⟨#[]⟩], .bool false]) (by simp [results, Tryd.results28, go_sem]) rfl ⟨rfl, ?_⟩
  have b1 : Below w.heap.size w ((w.alloc (Obj.cells #[Value.int IntKind.i64 0, Value.int IntKind.i64 0, Value.string ⟨#[]⟩] 23)).drewN nq) := ((Below.refl _ w).alloc (Nat.le_refl _) _).trans ⟨rfl, rfl, rfl, Nat.le_refl _, fun _ _ => rfl⟩
  first | exact b1 | exact ((b1.setCell (by simp) _).setCell (by simp) _).setCell (by simp) _
end Go.Proofs.YtnedhbnbhedgeaaDoor
