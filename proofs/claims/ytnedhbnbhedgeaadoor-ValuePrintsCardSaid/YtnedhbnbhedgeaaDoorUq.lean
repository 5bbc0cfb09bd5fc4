/- The contract of value.unquote: what stands between two signs, read. -/
import Derived.Test.YtnedhbnbhedgeaaDoorQu
import Derived.Deep.QuietTactic
import Derived.BigQuiet
import Derived.Lib.IndexBytes
set_option linter.unusedVariables false
set_option linter.unusedSimpArgs false
namespace Go.Proofs.YtnedhbnbhedgeaaDoor
open Go.RowKit
def hexl : List UInt8 := [48, 49, 50, 51, 52, 53, 54, 55, 56, 57, 97, 98, 99, 100, 101, 102]
/-- What stands between two signs, read; none: it is no such text. -/
def unq (sign : UInt8) : List UInt8 → Option (List UInt8)
  | [] => some []
  | c :: r =>
    if c = sign ∨ c < 32 ∨ 126 < c then none
    else if c ≠ 92 then (unq sign r).map (c :: ·)
    else match r with
      | [] => none
      | d :: r2 =>
        if d = sign ∨ d = 92 then (unq sign r2).map (d :: ·)
        else if d ≠ 120 then none
        else match r2 with
          | h :: l :: r3 => if Lib.indexByte hexl h < 0 ∨ Lib.indexByte hexl l < 0 then none else (unq sign r3).map ((16 * (Lib.indexByte hexl h).toNat + (Lib.indexByte hexl l).toNat).toUInt8 :: ·)
          | _ => none
def uqs (sign : UInt8) (l : List UInt8) : ByteArray × Bool := match unq sign l with | some r => (⟨r.toArray⟩, true) | none => (⟨#[]⟩, false)
theorem unq_cons (sign c : UInt8) (r : List UInt8) : unq sign (c :: r) = if c = sign ∨ c < 32 ∨ 126 < c then none else if c ≠ 92 then (unq sign r).map (c :: ·) else match r with
      | [] => none
      | d :: r2 =>
        if d = sign ∨ d = 92 then (unq sign r2).map (d :: ·)
        else if d ≠ 120 then none
        else match r2 with
          | h :: l :: r3 => if Lib.indexByte hexl h < 0 ∨ Lib.indexByte hexl l < 0 then none else (unq sign r3).map ((16 * (Lib.indexByte hexl h).toNat + (Lib.indexByte hexl l).toNat).toUInt8 :: ·)
          | _ => none := by
  rw [unq.eq_def]
theorem uqs_none {sign : UInt8} {l : List UInt8} (h : unq sign l = none) : uqs sign l = (⟨#[]⟩, false) := by unfold uqs; rw [h]
theorem uqs_some {sign : UInt8} {l r : List UInt8} (h : unq sign l = some r) : uqs sign l = (⟨r.toArray⟩, true) := by unfold uqs; rw [h]
def szOf (v : Value) : Nat := match v with | .string t => t.size | _ => 0
theorem data_cons (t : ByteArray) (h : 0 < t.size) : t.data.toList = t[0] :: (t.extract 1 t.size).data.toList := by
  rw [Lib.extract_to_end]
  have h1 : 0 < t.data.toList.length := by simpa using h
  have h2 := List.drop_eq_getElem_cons (i := 0) h1
  rw [List.drop_zero] at h2
  exact h2
theorem ext_size (t : ByteArray) (k : Nat) : (t.extract k t.size).size = t.size - k := by
  simp
theorem data_drop (t : ByteArray) (k : Nat) (h : k < t.size) : (t.extract k t.size).data.toList = t[k] :: (t.extract (k + 1) t.size).data.toList := by
  rw [Lib.extract_to_end, Lib.extract_to_end]
  exact List.drop_eq_getElem_cons (by simpa using h)
theorem map_more {acc : List UInt8} {c : UInt8} (o : Option (List UInt8)) : (o.map (c :: ·)).map (acc ++ ·) = o.map ((acc ++ [c]) ++ ·) := by
  cases o <;> simp
theorem or_hex' : ∀ a b : Fin 16, bits .or .i64 (((a.val : Nat) : Int) * 16) ((b.val : Nat) : Int) % 256 = ((16 * a.val + b.val).toUInt8.toNat : Int) := by decide +kernel
theorem or_hex (a b : Int) (h1 : 0 ≤ a) (h2 : a < 16) (h3 : 0 ≤ b) (h4 : b < 16) : bits .or .i64 (a * 16) b % 256 = ((16 * a.toNat + b.toNat).toUInt8.toNat : Int) := by
  have h := or_hex' ⟨a.toNat, by omega⟩ ⟨b.toNat, by omega⟩
  rw [show ((a.toNat : Nat) : Int) = a by omega, show ((b.toNat : Nat) : Int) = b by omega] at h
  exact h
theorem idx_lt (l : List UInt8) (c : UInt8) : Lib.indexByte l c < l.length := by
  induction l with
  | nil => simp [Lib.indexByte]
  | cons a l ih =>
    simp only [Lib.indexByte, List.length_cons]
    split
    · omega
    · split <;> omega
theorem map_none' {acc : List UInt8} : (none : Option (List UInt8)).map (acc ++ ·) = none := rfl
set_option maxHeartbeats 8000000 in
set_option maxRecDepth 100000 in
theorem unquote_calls (s : ByteArray) (sign : UInt8) (w : World) (hs : s.size ≤ 1000000) :
    Calls Tryd.prog 39 #[.string s, .int .u8 sign.toNat] w fun e w' => e = .returned (.tuple #[.string (uqs sign s.data.toList).1, .bool (uqs sign s.data.toList).2]) ∧ Below w.heap.size w w' := by
  have h0 : Lib.IsBuilder 54 5 w.heap.size w.heap.size [] (w.alloc (.cells #[.pointer none, .slice none 0 0] 54)) := Lib.fresh_isBuilder 54 5 w
  have b0 : Below w.heap.size w (w.alloc (.cells #[.pointer none, .slice none 0 0] 54)) := (Below.refl _ w).alloc (Nat.le_refl _) _
  have wb1 : ∀ (W : World) (bs : List Value) (x : Int), Lib.IsBuilder 54 5 w.heap.size w.heap.size bs W → bs.length ≤ 5000000 → w.heap.size ≤ W.heap.size → Calls Tryd.prog 35 #[.pointer (some ⟨w.heap.size, 0, none⟩), .int .u8 x] W fun e w' => e = .returned .nilIface ∧ (Lib.BuilderAt 54 5 w.heap.size w.heap.size (.pointer (some ⟨w.heap.size, 0, none⟩)) (bs ++ [.int .u8 x]) w' ∧ Below w.heap.size W w') := fun W bs x h1 h2 h3 => bu_byte_ w.heap.size w.heap.size bs x W h1 (by omega) h3
  have WB := Lib.hid wb1
  clear wb1
  go_enter Tryd.func39, Tryd.ntmps39
  go_wp2
  go_loopw [0] (fun s0 wr => ∃ (t : ByteArray) (acc : List UInt8), s0 = .string t ∧ acc.length + t.size ≤ s.size ∧ Lib.IsBuilder 54 5 w.heap.size w.heap.size (Lib.byteCells acc) wr ∧ Below w.heap.size w wr ∧ Hid (unq sign s.data.toList = (unq sign t.data.toList).map (acc ++ ·))) (fun s0 _ => szOf s0)
  case atStart => exact ⟨s, [], rfl, by simp, h0, b0, Lib.hid (by simp)⟩
  case round =>
    obtain ⟨t, acc, rfl, hlen, hb, hbl, hU⟩ := hrel
    clear h0 b0
    have HB := Lib.hid hb
    have HBL := Lib.hid hbl
    have HL : Hid ((Lib.byteCells acc).length ≤ 1000000) := Lib.hid (by rw [Lib.byteCells_length]; omega)
    have HS : w.heap.size ≤ wr.heap.size := hbl.size
    clear hb hbl
    by_cases ht0 : t.size = 0
    · obtain rfl : t = ⟨#[]⟩ := by
        obtain ⟨⟨l⟩⟩ := t
        have : l = [] := List.eq_nil_of_length_eq_zero ht0
        rw [this]
      clear ht0
      go_wp2_with (go_at_call 37; refine (Tryd.Builder_String_any w.heap.size w.heap.size acc _ HB.out HS).mono ?_)
      rintro e W3 rfl b3
      have B3 := Lib.hid b3
      clear b3
      go_wp2
      go_ret2
      have e1 : unq sign s.data.toList = some acc := by rw [hU.out]; simp [unq]
      rw [uqs_some e1]
      exact ⟨rfl, HBL.out.trans B3.out⟩
    · have ht : 0 < t.size := by omega
      clear ht0
      have hU2 := hU.out
      rw [data_cons t ht] at hU2
      have hU2 := Lib.hid hU2
      clear hU
      have tn : t.toList.isEmpty = false := by
        rw [ByteArray.toList_eq, List.isEmpty_eq_false_iff]
        intro h
        have h2 : t.data.toList.length = t.size := by simp
        rw [h] at h2
        simp at h2
        omega
      have tn2 : ¬ t.toList = [] := by
        intro h
        rw [h] at tn
        cases tn
      by_cases c1 : t[0] = sign
      · have t1 : ((t[0].toNat : Int) == (sign.toNat : Int)) = true := by rw [c1]; simp
        have e1 : unq sign s.data.toList = none := by rw [hU2.out, unq_cons, if_pos (Or.inl c1)]; rfl
        have E1 := Lib.hid (uqs_none e1)
        clear e1 c1
        go_wp2
        go_ret2
        rw [E1.out]
        exact ⟨rfl, HBL.out⟩
      · have C1 := Lib.hid c1
        have t1 : ((t[0].toNat : Int) == (sign.toNat : Int)) = false := by
          rw [beq_eq_false_iff_ne]
          intro h
          exact c1 (UInt8.toNat_inj.mp (by omega))
        clear c1
        by_cases c2 : t[0] < (32 : UInt8)
        · have t2 : (t[0].toNat : Int) < 32 := by have := UInt8.lt_iff_toNat_lt.mp c2; simp at this; omega
          have C2 := Lib.hid c2
          clear c2
          have e1 : unq sign s.data.toList = none := by rw [hU2.out, unq_cons, if_pos (Or.inr (Or.inl C2.out))]; rfl
          have E1 := Lib.hid (uqs_none e1)
          clear e1
          go_wp2
          go_ret2
          rw [E1.out]
          exact ⟨rfl, HBL.out⟩
        · have t2 : (32 : Int) ≤ (t[0].toNat : Int) := by have := UInt8.not_lt.mp c2; have := UInt8.le_iff_toNat_le.mp this; simp at this; omega
          have C2 := Lib.hid c2
          clear c2
          by_cases c3 : (126 : UInt8) < t[0]
          · have t3 : 126 < (t[0].toNat : Int) := by have := UInt8.lt_iff_toNat_lt.mp c3; simp at this; omega
            have C3 := Lib.hid c3
            clear c3
            have e1 : unq sign s.data.toList = none := by rw [hU2.out, unq_cons, if_pos (Or.inr (Or.inr C3.out))]; rfl
            have E1 := Lib.hid (uqs_none e1)
            clear e1
            go_wp2
            go_ret2
            rw [E1.out]
            exact ⟨rfl, HBL.out⟩
          · have t3 : (t[0].toNat : Int) ≤ 126 := by have := UInt8.not_lt.mp c3; have := UInt8.le_iff_toNat_le.mp this; simp at this; omega
            have C4 : Hid (¬ (t[0] = sign ∨ t[0] < (32 : UInt8) ∨ (126 : UInt8) < t[0])) := Lib.hid (fun h => h.elim C1.out (fun h => h.elim C2.out c3))
            clear c3
            by_cases c5 : t[0] = 92
            · have t5 : ((t[0].toNat : Int) != 92) = false := by rw [c5]; rfl
              have C5 := Lib.hid c5
              clear c5
              by_cases l2 : t.size < 2
              · have t6 : (t.size : Int) < 2 := by omega
                have hnil : (t.extract 1 t.size).data.toList = [] := by
                  refine List.eq_nil_of_length_eq_zero ?_
                  rw [Lib.extract_to_end]; simp; omega
                have HNIL := Lib.hid hnil
                clear hnil
                have e1 : unq sign s.data.toList = none := by rw [hU2.out, unq_cons, if_neg C4.out, if_neg (fun h => h C5.out), HNIL.out]; rfl
                have E1 := Lib.hid (uqs_none e1)
                clear e1
                go_wp2
                go_ret2
                rw [E1.out]
                exact ⟨rfl, HBL.out⟩
              · have ht1 : 1 < t.size := by omega
                have t6 : (2 : Int) ≤ (t.size : Int) := by omega
                clear l2
                have hD := Lib.hid (data_drop t 1 ht1)
                by_cases c6 : t[1] = sign
                · have t7 : ((t[1].toNat : Int) == (sign.toNat : Int)) = true := by rw [c6]; simp
                  have C6 : Hid (t[1] = sign ∨ t[1] = 92) := Lib.hid (Or.inl c6)
                  clear c6
                  have hsl : (2 : Int) ≤ (t.size : Int) := by omega
                  go_wp2_with (go_at_call 35; refine (WB.out _ _ _ HB.out (by have := HL.out; omega) HS).mono ?_)
                  rintro e V2 ⟨rfl, v2, d2⟩
                  have VV := Lib.hid v2
                  have DD := Lib.hid d2
                  clear v2 d2
                  go_wp2
                  go_roundw
                  case rel =>
                    refine ⟨t.extract 2 t.size, acc ++ [t[1]], rfl, by rw [ext_size]; simp; omega, Or.inr ?_, HBL.out.trans DD.out, Lib.hid ?_⟩
                    · rw [Lib.byteCells_append]
                      exact VV.out
                    · rw [hU2.out, unq_cons, if_neg C4.out, if_neg (fun h => h C5.out), hD.out]
                      dsimp only
                      rw [if_pos C6.out, map_more]
                  case measure =>
                    show (t.extract 2 t.size).size < t.size
                    rw [ext_size]; omega
                · have t7 : ((t[1].toNat : Int) == (sign.toNat : Int)) = false := by
                    rw [beq_eq_false_iff_ne]
                    intro h
                    exact c6 (UInt8.toNat_inj.mp (by omega))
                  by_cases c7 : t[1] = 92
                  · have t8 : ((t[1].toNat : Int) == 92) = true := by rw [c7]; rfl
                    have C6 : Hid (t[1] = sign ∨ t[1] = 92) := Lib.hid (Or.inr c7)
                    clear c6 c7
                    have hsl : (2 : Int) ≤ (t.size : Int) := by omega
                    go_wp2_with (go_at_call 35; refine (WB.out _ _ _ HB.out (by have := HL.out; omega) HS).mono ?_)
                    rintro e V2 ⟨rfl, v2, d2⟩
                    have VV := Lib.hid v2
                    have DD := Lib.hid d2
                    clear v2 d2
                    go_wp2
                    go_roundw
                    case rel =>
                      refine ⟨t.extract 2 t.size, acc ++ [t[1]], rfl, by rw [ext_size]; simp; omega, Or.inr ?_, HBL.out.trans DD.out, Lib.hid ?_⟩
                      · rw [Lib.byteCells_append]
                        exact VV.out
                      · rw [hU2.out, unq_cons, if_neg C4.out, if_neg (fun h => h C5.out), hD.out]
                        dsimp only
                        rw [if_pos C6.out, map_more]
                    case measure =>
                      show (t.extract 2 t.size).size < t.size
                      rw [ext_size]; omega
                  · have t8 : ((t[1].toNat : Int) == 92) = false := by
                      rw [beq_eq_false_iff_ne]
                      intro h
                      exact c7 (UInt8.toNat_inj.mp (by simp; omega))
                    have C6 : Hid (¬ (t[1] = sign ∨ t[1] = 92)) := Lib.hid (fun h => h.elim c6 c7)
                    clear c6 c7
                    by_cases c8 : t[1] = 120
                    · have t9 : ((t[1].toNat : Int) != 120) = false := by rw [c8]; rfl
                      have C8 := Lib.hid c8
                      clear c8
                      by_cases l4 : t.size < 4
                      · have t10 : (t.size : Int) < 4 := by omega
                        have h23 : ∀ h l r3, (t.extract 2 t.size).data.toList ≠ h :: l :: r3 := by
                          intro h l r3 e
                          have e2 := congrArg List.length e
                          rw [Lib.extract_to_end] at e2
                          simp at e2
                          omega
                        have e1 : unq sign s.data.toList = none := by
                          rw [hU2.out, unq_cons, if_neg C4.out, if_neg (fun h => h C5.out), hD.out]
                          simp only
                          rw [if_neg C6.out, if_neg (fun h => h C8.out)]
                          generalize (t.extract (1 + 1) t.size).data.toList = r2 at h23
                          match r2, h23 with
                          | [], _ => rfl
                          | [_], _ => rfl
                          | h :: l :: r3, hne => exact absurd rfl (hne h l r3)
                        have E1 := Lib.hid (uqs_none e1)
                        clear e1 h23
                        go_wp2
                        go_ret2
                        rw [E1.out]
                        exact ⟨rfl, HBL.out⟩
                      · have ht3 : 3 < t.size := by omega
                        have t10 : (4 : Int) ≤ (t.size : Int) := by omega
                        clear l4
                        have hE := Lib.hid (data_drop t 2 (by omega))
                        have hF := Lib.hid (data_drop t 3 ht3)
                        have e1 : unq sign s.data.toList = (if Lib.indexByte hexl t[2] < 0 ∨ Lib.indexByte hexl t[3] < 0 then none else (unq sign (t.extract 4 t.size).data.toList).map ((16 * (Lib.indexByte hexl t[2]).toNat + (Lib.indexByte hexl t[3]).toNat).toUInt8 :: ·)).map (acc ++ ·) := by
                          rw [hU2.out, unq_cons, if_neg C4.out, if_neg (fun h => h C5.out), hD.out]
                          dsimp only
                          rw [if_neg C6.out, if_neg (fun h => h C8.out), hE.out, hF.out]
                        have E1 := Lib.hid e1
                        clear e1
                        have i2 : ∀ (W : World), Calls Tryd.prog 46 #[.string ⟨#[48, 49, 50, 51, 52, 53, 54, 55, 56, 57, 97, 98, 99, 100, 101, 102]⟩, .int .u8 (t[2].toNat : Int)] W fun e w' => e = .returned (.int .i64 (Lib.indexByte hexl t[2])) ∧ w' = W := fun W => by
                          have h := Tryd.strings_IndexByte ⟨#[48, 49, 50, 51, 52, 53, 54, 55, 56, 57, 97, 98, 99, 100, 101, 102]⟩ (t[2].toNat : Int) W
                          rw [show ((t[2].toNat : Int)).toNat.toUInt8 = t[2] by simp] at h
                          exact h
                        have i3 : ∀ (W : World), Calls Tryd.prog 46 #[.string ⟨#[48, 49, 50, 51, 52, 53, 54, 55, 56, 57, 97, 98, 99, 100, 101, 102]⟩, .int .u8 (t[3].toNat : Int)] W fun e w' => e = .returned (.int .i64 (Lib.indexByte hexl t[3])) ∧ w' = W := fun W => by
                          have h := Tryd.strings_IndexByte ⟨#[48, 49, 50, 51, 52, 53, 54, 55, 56, 57, 97, 98, 99, 100, 101, 102]⟩ (t[3].toNat : Int) W
                          rw [show ((t[3].toNat : Int)).toNat.toUInt8 = t[3] by simp] at h
                          exact h
                        have I2 := Lib.hid i2
                        have I3 := Lib.hid i3
                        clear i2 i3
                        obtain ⟨a, ha⟩ : ∃ a, Lib.indexByte hexl t[2] = a := ⟨_, rfl⟩
                        obtain ⟨b, hb⟩ : ∃ b, Lib.indexByte hexl t[3] = b := ⟨_, rfl⟩
                        rw [ha] at I2
                        rw [hb] at I3
                        rw [ha, hb] at E1
                        have HA := Lib.hid ha
                        have HB' := Lib.hid hb
                        clear ha hb
                        have t11 : (2 : Int) < (t.size : Int) := by omega
                        have t12 : (3 : Int) < (t.size : Int) := by omega
                        have ht2 : 2 < t.size := by omega
                        go_wp2_with fail
                        go_quiet ((first | (go_at_call 46; exact Calls.quiet_of_same (I2.out _)) | (go_at_call 46; exact Calls.quiet_of_same (I3.out _))))
                        have HBq := Lib.hid (show Lib.IsBuilder 54 5 w.heap.size w.heap.size (Lib.byteCells acc) (wr.drewN nq) from HB.out)
                        have HSq : w.heap.size ≤ (wr.drewN nq).heap.size := HS
                        have BQ : Hid (Below w.heap.size wr (wr.drewN nq)) := Lib.hid ⟨rfl, rfl, rfl, Nat.le_refl _, fun _ _ => rfl⟩
                        by_cases n1 : a < 0
                        · have e1 : unq sign s.data.toList = none := by rw [E1.out, if_pos (Or.inl n1)]; rfl
                          have E2 := Lib.hid (uqs_none e1)
                          clear e1
                          go_wp2
                          go_ret2
                          rw [E2.out]
                          exact ⟨rfl, HBL.out.trans BQ.out⟩
                        · have n1' : 0 ≤ a := by omega
                          by_cases n2 : b < 0
                          · have e1 : unq sign s.data.toList = none := by rw [E1.out, if_pos (Or.inr n2)]; rfl
                            have E2 := Lib.hid (uqs_none e1)
                            clear e1
                            go_wp2
                            go_ret2
                            rw [E2.out]
                            exact ⟨rfl, HBL.out.trans BQ.out⟩
                          · have n2' : 0 ≤ b := by omega
                            have m1 : a < 16 := by rw [← HA.out]; exact idx_lt _ _
                            have m2 : b < 16 := by rw [← HB'.out]; exact idx_lt _ _
                            clear n1 n2
                            have E3 : Hid (unq sign s.data.toList = (unq sign (t.extract 4 t.size).data.toList).map ((acc ++ [(16 * a.toNat + b.toNat).toUInt8]) ++ ·)) := Lib.hid (by rw [E1.out, if_neg (by omega), map_more])
                            have hsl : (4 : Int) ≤ (t.size : Int) := by omega
                            go_wp2_with (go_at_call 35; refine (WB.out _ _ _ HBq.out (by have := HL.out; omega) HSq).mono ?_)
                            rintro e V2 ⟨rfl, v2, d2⟩
                            rw [or_hex a b n1' m1 n2' m2] at v2
                            have VV := Lib.hid v2
                            have DD := Lib.hid d2
                            clear v2 d2
                            go_wp2
                            go_roundw
                            case rel =>
                              refine ⟨t.extract 4 t.size, acc ++ [(16 * a.toNat + b.toNat).toUInt8], rfl, by rw [ext_size]; simp; omega, Or.inr ?_, HBL.out.trans (BQ.out.trans DD.out), E3⟩
                              rw [Lib.byteCells_append]
                              exact VV.out
                            case measure =>
                              show (t.extract 4 t.size).size < t.size
                              rw [ext_size]; omega
                    · have t9 : ((t[1].toNat : Int) != 120) = true := by
                        rw [bne_iff_ne]
                        intro h
                        exact c8 (UInt8.toNat_inj.mp (by simp; omega))
                      have C8 := Lib.hid c8
                      clear c8
                      have e1 : unq sign s.data.toList = none := by rw [hU2.out, unq_cons, if_neg C4.out, if_neg (fun h => h C5.out), hD.out]; dsimp only; rw [if_neg C6.out, if_pos C8.out]; rfl
                      have E1 := Lib.hid (uqs_none e1)
                      clear e1
                      go_wp2
                      go_ret2
                      rw [E1.out]
                      exact ⟨rfl, HBL.out⟩
            · have t5 : ((t[0].toNat : Int) != 92) = true := by
                rw [bne_iff_ne]
                intro h
                exact c5 (UInt8.toNat_inj.mp (by simp; omega))
              have C5 := Lib.hid c5
              clear c5
              have hsl : (1 : Int) ≤ (t.size : Int) := by omega
              go_wp2_with (go_at_call 35; refine (WB.out _ _ _ HB.out (by have := HL.out; omega) HS).mono ?_)
              rintro e V2 ⟨rfl, v2, d2⟩
              have VV := Lib.hid v2
              have DD := Lib.hid d2
              clear v2 d2
              go_wp2
              go_roundw
              case rel =>
                refine ⟨t.extract 1 t.size, acc ++ [t[0]], rfl, by rw [ext_size]; simp; omega, Or.inr ?_, HBL.out.trans DD.out, Lib.hid ?_⟩
                · rw [Lib.byteCells_append]
                  exact VV.out
                · rw [hU2.out, unq_cons, if_neg C4.out, if_pos C5.out, map_more]
              case measure =>
                show (t.extract 1 t.size).size < t.size
                rw [ext_size]; omega
end Go.Proofs.YtnedhbnbhedgeaaDoor
