/- The contract of value.quote: the text between two signs. -/
import Derived.Test.YtnedhbnbhedgeaaDoorBu
import Derived.Test.YtnedhbnbhedgeaaDoorSh
import Derived.LoopTactic
import Derived.Lib.Hide
import Derived.WalkSpells
import Derived.Deep.RegionWith
import Derived.StillTailTactics
import Derived.IntWalk
set_option linter.unusedVariables false
set_option linter.unusedSimpArgs false
namespace Go.Proofs.YtnedhbnbhedgeaaDoor
open Go.RowKit
/-- A hexadecimal digit. -/
def hexd (n : Nat) : UInt8 := if n < 10 then (48 + n).toUInt8 else (87 + n).toUInt8
def esc (sign c : UInt8) : List UInt8 := if c = sign ∨ c = 92 then [92, c] else if 32 ≤ c ∧ c ≤ 126 then [c] else [92, 120, hexd (c.toNat / 16), hexd (c.toNat % 16)]
def qpre (sign : UInt8) (l : List UInt8) : List UInt8 := sign :: l.flatMap (esc sign)
def qt (sign : UInt8) (l : List UInt8) : List UInt8 := qpre sign l ++ [sign]
theorem esc_len (sign c : UInt8) : (esc sign c).length ≤ 4 := by unfold esc; split <;> (try split) <;> simp
theorem qpre_len (sign : UInt8) : ∀ l : List UInt8, (qpre sign l).length ≤ 4 * l.length + 1 := by
  intro l
  unfold qpre
  induction l with
  | nil => simp
  | cons a l ih =>
    have := esc_len sign a
    simp only [List.flatMap_cons, List.length_cons, List.length_append] at ih ⊢
    omega
theorem qpre_snoc (sign : UInt8) (l : List UInt8) (c : UInt8) : qpre sign (l ++ [c]) = qpre sign l ++ esc sign c := by
  unfold qpre
  simp
theorem take_snoc (s : ByteArray) (k : Nat) (h : k < s.size) : s.data.toList.take (k + 1) = s.data.toList.take k ++ [s[k]] := by
  rw [List.take_succ_eq_append_getElem (by simpa using h)]; rfl
theorem bc_one (c : UInt8) : Lib.byteCells [c] = [.int .u8 c.toNat] := rfl
abbrev digs : ByteArray := ⟨#[48, 49, 50, 51, 52, 53, 54, 55, 56, 57, 97, 98, 99, 100, 101, 102]⟩
theorem digs_at : ∀ q : Fin 16, digs.extract q.val (q.val + 1) = ⟨#[hexd q.val]⟩ := by decide +kernel
theorem and15 : ∀ c : Fin 256, bits .and .u8 ((c.val : Nat) : Int) 15 = ((c.val % 16 : Nat) : Int) := by decide +kernel
theorem digs_int (q : Nat) (h : q < 16) : digs.extract ((q : Int)).toNat ((q : Int) + 1).toNat = ⟨#[hexd q]⟩ := digs_at ⟨q, h⟩
set_option maxHeartbeats 4000000 in
set_option maxRecDepth 100000 in
theorem quote_calls (s : ByteArray) (sign : UInt8) (w : World) (hs : s.size ≤ 1000000) :
    Calls Tryd.prog 25 #[.string s, .int .u8 sign.toNat] w fun e w' => e = .returned (.string ⟨(qt sign s.data.toList).toArray⟩) ∧ Below w.heap.size w w' := by
  have h0 : Lib.IsBuilder 54 5 w.heap.size w.heap.size [] (w.alloc (.cells #[.pointer none, .slice none 0 0] 54)) := Lib.fresh_isBuilder 54 5 w
  have b0 : Below w.heap.size w (w.alloc (.cells #[.pointer none, .slice none 0 0] 54)) := (Below.refl _ w).alloc (Nat.le_refl _) _
  go_enter Tryd.func25, Tryd.ntmps25
  go_wp2_with (go_at_call 35; refine (bu_byte_ w.heap.size w.heap.size [] _ _ h0 (by simp) b0.size).mono ?_)
  rintro e W1 ⟨rfl, h1, b1⟩
  go_wp2
  have hq0 : qpre sign (s.data.toList.take 0) = [sign] := rfl
  go_loopw [12] (fun i wr => ∃ k : Nat, k ≤ s.size ∧ i = .int .i64 k ∧ Lib.IsBuilder 54 5 w.heap.size w.heap.size (Lib.byteCells (qpre sign (s.data.toList.take k))) wr ∧ Below w.heap.size w wr) (fun i _ => s.size - (intOf i).toNat)
  case atStart => exact ⟨0, Nat.zero_le _, rfl, Or.inr (by rw [hq0]; exact h1), b0.trans b1⟩
  case round =>
    obtain ⟨k, hk, rfl, hb, hbl⟩ := hrel
    clear h1 h0 b0 b1 hq0
    by_cases hlt : k < s.size
    · have hl : (qpre sign (s.data.toList.take k)).length ≤ 4000001 := by
        have h2 := qpre_len sign (s.data.toList.take k)
        have h3 : (s.data.toList.take k).length ≤ k := List.length_take_le _ _
        omega
      have hnext := qpre_snoc sign (s.data.toList.take k) s[k]
      rw [← take_snoc s k hlt] at hnext
      have HN := Lib.hid hnext
      have HB := Lib.hid hb
      have HBL := Lib.hid hbl
      have HL := Lib.hid hl
      have HS : w.heap.size ≤ wr.heap.size := hbl.size
      clear hnext hb hbl hl
      generalize hc : s[k] = c at HN
      have hcv : (s[k].toNat : Int) = (c.toNat : Int) := by rw [hc]
      have HCV := Lib.hid hcv
      have HC := Lib.hid hc
      clear hcv hc
      have wb1 : ∀ (W : World) (bs : List Value) (x : Int), Lib.IsBuilder 54 5 w.heap.size w.heap.size bs W → bs.length ≤ 5000000 → w.heap.size ≤ W.heap.size → Calls Tryd.prog 35 #[.pointer (some ⟨w.heap.size, 0, none⟩), .int .u8 x] W fun e w' => e = .returned .nilIface ∧ (Lib.BuilderAt 54 5 w.heap.size w.heap.size (.pointer (some ⟨w.heap.size, 0, none⟩)) (bs ++ [.int .u8 x]) w' ∧ Below w.heap.size W w') := fun W bs x h1 h2 h3 => bu_byte_ w.heap.size w.heap.size bs x W h1 (by omega) h3
      have WB := Lib.hid wb1
      clear wb1
      have hL5 : (Lib.byteCells (qpre sign (s.data.toList.take k))).length ≤ 4000001 := by rw [Lib.byteCells_length]; exact HL.out
      have HL5 := Lib.hid hL5
      clear hL5
      by_cases c1' : c = sign
      · have C1 := Lib.hid c1'
        clear c1'
        have t1 : ((s[k].toNat : Int) == (sign.toNat : Int)) = true := by rw [HCV.out, C1.out]; simp
        go_wp2_with (go_at_call 35; refine (WB.out _ _ _ HB.out (by have := HL5.out; omega) HS).mono ?_)
        rintro e V1 ⟨rfl, v1, d1⟩
        have HV1 := Lib.hid v1
        have HD1 := Lib.hid d1
        have HS1 : w.heap.size ≤ V1.heap.size := Nat.le_trans HS d1.size
        clear v1 d1
        go_wp2_with (go_at_call 35; refine (WB.out _ _ _ (Or.inr HV1.out) (by have := HL5.out; simp; omega) HS1).mono ?_)
        rintro e V2 ⟨rfl, v2, d2⟩
        go_wp2
        go_roundw
        case rel =>
          refine ⟨k + 1, by omega, by go_num, Or.inr ?_, HBL.out.trans (HD1.out.trans d2)⟩
          rw [HN.out]
          have e1 : esc sign c = [92, c] := by unfold esc; rw [if_pos (Or.inl C1.out)]
          rw [e1, Lib.byteCells_append]
          rw [List.append_assoc, HCV.out] at v2
          exact v2
        case measure => simp [intOf]; omega
      · have C1 := Lib.hid c1'
        clear c1'
        have t1 : ((s[k].toNat : Int) == (sign.toNat : Int)) = false := by
          rw [HCV.out, beq_eq_false_iff_ne]
          intro h
          exact C1.out (UInt8.toNat_inj.mp (by omega))
        by_cases c2' : c = 92
        · have C2 := Lib.hid c2'
          clear c2'
          have t2 : ((s[k].toNat : Int) == 92) = true := by rw [HCV.out, C2.out]; rfl
          go_wp2_with (go_at_call 35; refine (WB.out _ _ _ HB.out (by have := HL5.out; omega) HS).mono ?_)
          rintro e V1 ⟨rfl, v1, d1⟩
          have HV1 := Lib.hid v1
          have HD1 := Lib.hid d1
          have HS1 : w.heap.size ≤ V1.heap.size := Nat.le_trans HS d1.size
          clear v1 d1
          go_wp2_with (go_at_call 35; refine (WB.out _ _ _ (Or.inr HV1.out) (by have := HL5.out; simp; omega) HS1).mono ?_)
          rintro e V2 ⟨rfl, v2, d2⟩
          go_wp2
          go_roundw
          case rel =>
            refine ⟨k + 1, by omega, by go_num, Or.inr ?_, HBL.out.trans (HD1.out.trans d2)⟩
            rw [HN.out]
            have e1 : esc sign c = [92, c] := by unfold esc; rw [if_pos (Or.inr C2.out)]
            rw [e1, Lib.byteCells_append]
            rw [List.append_assoc, HCV.out] at v2
            exact v2
          case measure => simp [intOf]; omega
        · have C2 := Lib.hid c2'
          clear c2'
          have t2 : ((s[k].toNat : Int) == 92) = false := by
            rw [HCV.out, beq_eq_false_iff_ne]
            intro h
            exact C2.out (UInt8.toNat_inj.mp (by simp; omega))
          have c3' : ¬ (c = sign ∨ c = 92) := fun h => h.elim C1.out C2.out
          have C3' := Lib.hid c3'
          clear c3'
          by_cases c3 : 32 ≤ c ∧ c ≤ 126
          · have t3 : (32 : Int) ≤ (s[k].toNat : Int) := by rw [HCV.out]; have := UInt8.le_iff_toNat_le.mp c3.1; simp at this; omega
            have t4 : (s[k].toNat : Int) ≤ 126 := by rw [HCV.out]; have := UInt8.le_iff_toNat_le.mp c3.2; simp at this; omega
            have C3 := Lib.hid c3
            clear c3
            go_wp2_with (go_at_call 35; refine (WB.out _ _ _ HB.out (by have := HL5.out; omega) HS).mono ?_)
            rintro e V2 ⟨rfl, v2, d2⟩
            go_wp2
            go_roundw
            case rel =>
              refine ⟨k + 1, by omega, by go_num, Or.inr ?_, HBL.out.trans d2⟩
              rw [HN.out]
              have e1 : esc sign c = [c] := by unfold esc; rw [if_neg C3'.out, if_pos C3.out]
              rw [e1, Lib.byteCells_append, bc_one, ← HCV.out]
              exact v2
            case measure => simp [intOf]; omega
          · have ws1 : ∀ (W : World) (bs : List Value) (x : ByteArray), Lib.IsBuilder 54 5 w.heap.size w.heap.size bs W → bs.length ≤ 5000000 → x.size ≤ 5000000 → w.heap.size ≤ W.heap.size → Calls Tryd.prog 36 #[.pointer (some ⟨w.heap.size, 0, none⟩), .string x] W fun e w' => e = .returned (.tuple #[.int .i64 x.size, .nilIface]) ∧ (Lib.BuilderAt 54 5 w.heap.size w.heap.size (.pointer (some ⟨w.heap.size, 0, none⟩)) (bs ++ Lib.strCells x) w' ∧ Below w.heap.size W w') := fun W bs x h1 h2 h3 h4 => bu_string_ w.heap.size w.heap.size bs x W h1 (by omega) h4
            have WS := Lib.hid ws1
            clear ws1
            have c4 : (s[k].toNat : Int) < 32 ∨ 126 < (s[k].toNat : Int) := by
              rw [HCV.out]
              rcases Nat.lt_or_ge c.toNat 32 with h | h
              · exact Or.inl (by omega)
              · rcases Nat.lt_or_ge 126 c.toNat with h' | h'
                · exact Or.inr (by omega)
                · exact absurd ⟨UInt8.le_iff_toNat_le.mpr (by simpa using h), UInt8.le_iff_toNat_le.mpr (by simpa using h')⟩ c3
            have c5 : (s[k].toNat : Int) ≤ 255 := by have := s[k].toNat_lt; omega
            have C3 := Lib.hid c3
            clear c3
            rcases c4 with t3 | t3
            · go_wp2
              clear t1 t2
              have w1 : IntKind.u8.wrap ((s[k].toNat : Int) / 16 + 1) = (s[k].toNat : Int) / 16 + 1 := IntWalk.u8_in _ ⟨by omega, by omega⟩
              have w2 : (0 : Int) ≤ (s[k].toNat : Int) / 16 := by omega
              have w3 : (s[k].toNat : Int) / 16 + 1 ≤ 16 := by omega
              have w4 : (s[k].toNat : Int) / 16 ≤ (s[k].toNat : Int) / 16 + 1 := by omega
              have w5 : (s[k].toNat : Int) / 16 + 1 ≤ ((⟨#[48, 49, 50, 51, 52, 53, 54, 55, 56, 57, 97, 98, 99, 100, 101, 102]⟩ : ByteArray).size : Int) := by show _ ≤ ((16 : Nat) : Int); omega
              have x1 : (⟨#[48, 49, 50, 51, 52, 53, 54, 55, 56, 57, 97, 98, 99, 100, 101, 102]⟩ : ByteArray).extract ((s[k].toNat : Int) / 16).toNat ((s[k].toNat : Int) / 16 + 1).toNat = ⟨#[hexd (s[k].toNat / 16)]⟩ := digs_int (s[k].toNat / 16) (by omega)
              have z1 : bits .and .u8 (s[k].toNat : Int) 15 = (s[k].toNat : Int) % 16 := by
                have hlo : (0 : Int) ≤ (s[k].toNat : Int) := by omega
                have hhi : (s[k].toNat : Int) < 256 := by omega
                exact u8_and15 _ hlo hhi
              have z2 : IntKind.u8.wrap ((s[k].toNat : Int) % 16 + 1) = (s[k].toNat : Int) % 16 + 1 := IntWalk.u8_in _ ⟨by omega, by omega⟩
              have z3 : (0 : Int) ≤ (s[k].toNat : Int) % 16 := by omega
              have z6 : (s[k].toNat : Int) % 16 + 1 ≤ 16 := by omega
              have z4 : (s[k].toNat : Int) % 16 ≤ (s[k].toNat : Int) % 16 + 1 := by omega
              have z5 : (s[k].toNat : Int) % 16 + 1 ≤ ((⟨#[48, 49, 50, 51, 52, 53, 54, 55, 56, 57, 97, 98, 99, 100, 101, 102]⟩ : ByteArray).size : Int) := by show _ ≤ ((16 : Nat) : Int); omega
              have x2 : (⟨#[48, 49, 50, 51, 52, 53, 54, 55, 56, 57, 97, 98, 99, 100, 101, 102]⟩ : ByteArray).extract ((s[k].toNat : Int) % 16).toNat ((s[k].toNat : Int) % 16 + 1).toNat = ⟨#[hexd (s[k].toNat % 16)]⟩ := digs_int (s[k].toNat % 16) (by omega)
              obtain ⟨y1, hy1⟩ : ∃ y, hexd (s[k].toNat / 16) = y := ⟨_, rfl⟩
              obtain ⟨y2, hy2⟩ : ∃ y, hexd (s[k].toNat % 16) = y := ⟨_, rfl⟩
              rw [hy1] at x1
              rw [hy2] at x2
              have Y1 := Lib.hid hy1
              have Y2 := Lib.hid hy2
              clear hy1 hy2
              go_still_tail 14, (by kernel_rfl)
              change wpList _ _ _ _ _ wr.drew
              have hbd : Lib.IsBuilder 54 5 w.heap.size w.heap.size (Lib.byteCells (qpre sign (s.data.toList.take k))) wr.drew := HB.out
              have HBD := Lib.hid hbd
              clear hbd
              have hsd : w.heap.size ≤ wr.drew.heap.size := HS
              have bd : Below w.heap.size wr wr.drew := ⟨rfl, rfl, rfl, Nat.le_refl _, fun _ _ => rfl⟩
              have BD := Lib.hid bd
              clear bd x1 x2 z1 z2 z3 z4 z5 z6 w1 w2 w3 w4 w5
              go_wp2_with (go_at_call 36; refine (WS.out _ _ _ HBD.out (by have := HL5.out; omega) (by rw [ByteArray.size_append, ByteArray.size_append]; show 2 + 1 + 1 ≤ 5000000; omega) hsd).mono ?_)
              rintro e V2 ⟨rfl, v2, d2⟩
              go_wp2
              go_roundw
              case rel =>
                refine ⟨k + 1, by omega, by go_num, Or.inr ?_, HBL.out.trans (BD.out.trans d2)⟩
                rw [HN.out]
                have e1 : esc sign c = [92, 120, y1, y2] := by unfold esc; rw [if_neg C3'.out, if_neg C3.out, ← HC.out, Y1.out, Y2.out]
                rw [e1, Lib.byteCells_append]
                have e2 : Lib.strCells (⟨#[92, 120]⟩ ++ ⟨#[y1]⟩ ++ ⟨#[y2]⟩) = Lib.byteCells [92, 120, y1, y2] := rfl
                rw [e2] at v2
                exact v2
              case measure => simp [intOf]; omega
            · have t4 : (32 : Int) ≤ (s[k].toNat : Int) := by omega
              go_wp2
              clear t1 t2
              have w1 : IntKind.u8.wrap ((s[k].toNat : Int) / 16 + 1) = (s[k].toNat : Int) / 16 + 1 := IntWalk.u8_in _ ⟨by omega, by omega⟩
              have w2 : (0 : Int) ≤ (s[k].toNat : Int) / 16 := by omega
              have w3 : (s[k].toNat : Int) / 16 + 1 ≤ 16 := by omega
              have w4 : (s[k].toNat : Int) / 16 ≤ (s[k].toNat : Int) / 16 + 1 := by omega
              have w5 : (s[k].toNat : Int) / 16 + 1 ≤ ((⟨#[48, 49, 50, 51, 52, 53, 54, 55, 56, 57, 97, 98, 99, 100, 101, 102]⟩ : ByteArray).size : Int) := by show _ ≤ ((16 : Nat) : Int); omega
              have x1 : (⟨#[48, 49, 50, 51, 52, 53, 54, 55, 56, 57, 97, 98, 99, 100, 101, 102]⟩ : ByteArray).extract ((s[k].toNat : Int) / 16).toNat ((s[k].toNat : Int) / 16 + 1).toNat = ⟨#[hexd (s[k].toNat / 16)]⟩ := digs_int (s[k].toNat / 16) (by omega)
              have z1 : bits .and .u8 (s[k].toNat : Int) 15 = (s[k].toNat : Int) % 16 := by
                have hlo : (0 : Int) ≤ (s[k].toNat : Int) := by omega
                have hhi : (s[k].toNat : Int) < 256 := by omega
                exact u8_and15 _ hlo hhi
              have z2 : IntKind.u8.wrap ((s[k].toNat : Int) % 16 + 1) = (s[k].toNat : Int) % 16 + 1 := IntWalk.u8_in _ ⟨by omega, by omega⟩
              have z3 : (0 : Int) ≤ (s[k].toNat : Int) % 16 := by omega
              have z6 : (s[k].toNat : Int) % 16 + 1 ≤ 16 := by omega
              have z4 : (s[k].toNat : Int) % 16 ≤ (s[k].toNat : Int) % 16 + 1 := by omega
              have z5 : (s[k].toNat : Int) % 16 + 1 ≤ ((⟨#[48, 49, 50, 51, 52, 53, 54, 55, 56, 57, 97, 98, 99, 100, 101, 102]⟩ : ByteArray).size : Int) := by show _ ≤ ((16 : Nat) : Int); omega
              have x2 : (⟨#[48, 49, 50, 51, 52, 53, 54, 55, 56, 57, 97, 98, 99, 100, 101, 102]⟩ : ByteArray).extract ((s[k].toNat : Int) % 16).toNat ((s[k].toNat : Int) % 16 + 1).toNat = ⟨#[hexd (s[k].toNat % 16)]⟩ := digs_int (s[k].toNat % 16) (by omega)
              obtain ⟨y1, hy1⟩ : ∃ y, hexd (s[k].toNat / 16) = y := ⟨_, rfl⟩
              obtain ⟨y2, hy2⟩ : ∃ y, hexd (s[k].toNat % 16) = y := ⟨_, rfl⟩
              rw [hy1] at x1
              rw [hy2] at x2
              have Y1 := Lib.hid hy1
              have Y2 := Lib.hid hy2
              clear hy1 hy2
              go_still_tail 14, (by kernel_rfl)
              change wpList _ _ _ _ _ wr.drew
              have hbd : Lib.IsBuilder 54 5 w.heap.size w.heap.size (Lib.byteCells (qpre sign (s.data.toList.take k))) wr.drew := HB.out
              have HBD := Lib.hid hbd
              clear hbd
              have hsd : w.heap.size ≤ wr.drew.heap.size := HS
              have bd : Below w.heap.size wr wr.drew := ⟨rfl, rfl, rfl, Nat.le_refl _, fun _ _ => rfl⟩
              have BD := Lib.hid bd
              clear bd x1 x2 z1 z2 z3 z4 z5 z6 w1 w2 w3 w4 w5
              go_wp2_with (go_at_call 36; refine (WS.out _ _ _ HBD.out (by have := HL5.out; omega) (by rw [ByteArray.size_append, ByteArray.size_append]; show 2 + 1 + 1 ≤ 5000000; omega) hsd).mono ?_)
              rintro e V2 ⟨rfl, v2, d2⟩
              go_wp2
              go_roundw
              case rel =>
                refine ⟨k + 1, by omega, by go_num, Or.inr ?_, HBL.out.trans (BD.out.trans d2)⟩
                rw [HN.out]
                have e1 : esc sign c = [92, 120, y1, y2] := by unfold esc; rw [if_neg C3'.out, if_neg C3.out, ← HC.out, Y1.out, Y2.out]
                rw [e1, Lib.byteCells_append]
                have e2 : Lib.strCells (⟨#[92, 120]⟩ ++ ⟨#[y1]⟩ ++ ⟨#[y2]⟩) = Lib.byteCells [92, 120, y1, y2] := rfl
                rw [e2] at v2
                exact v2
              case measure => simp [intOf]; omega
    · go_wp2_with (go_at_call 35; refine (bu_byte_ w.heap.size w.heap.size _ _ _ hb (by rw [Lib.byteCells_length]; have h2 := qpre_len sign (s.data.toList.take k); have h3 : (s.data.toList.take k).length ≤ k := List.length_take_le _ _; omega) hbl.size).mono ?_)
      rintro e W2 ⟨rfl, h2, b2⟩
      have h3 : Lib.IsBuilder 54 5 w.heap.size w.heap.size (Lib.byteCells (qt sign s.data.toList)) W2 := by
        have e1 : s.data.toList.take k = s.data.toList := List.take_of_length_le (by simp; omega)
        unfold qt
        rw [Lib.byteCells_append, bc_one, ← e1]
        exact Or.inr h2
      have hs2 : w.heap.size ≤ W2.heap.size := Nat.le_trans hbl.size b2.size
      go_wp2_with (go_at_call 37; refine (Tryd.Builder_String_any w.heap.size w.heap.size (qt sign s.data.toList) _ h3 hs2).mono ?_)
      rintro e W3 ⟨rfl, b3⟩
      go_wp2
      go_ret
      exact ⟨rfl, hbl.trans (b2.trans b3)⟩
end Go.Proofs.YtnedhbnbhedgeaaDoor
