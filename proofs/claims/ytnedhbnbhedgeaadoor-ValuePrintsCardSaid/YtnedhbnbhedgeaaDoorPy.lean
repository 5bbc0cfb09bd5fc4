/- The plain laws of value: the document's decimal and quoted texts. -/
import Derived.Test.YtnedhbnbhedgeaaDoorPx
import Derived.Test.YtnedhbnbhedgeaaDoorLb
set_option linter.unusedVariables false
set_option linter.unusedSimpArgs false
namespace Go.Proofs.YtnedhbnbhedgeaaDoor.Val
open Go.RowKit Go.Proofs.YtnedhbnbhedgeaaDoor Go.Proofs.YtnedhbnbhedgeaaDoor.PAll Go.Proofs.YtnedhbnbhedgeaaDoorW.PrintWords Go.Lib
theorem dig_ext : ∀ q : Fin 10, (⟨#[48, 49, 50, 51, 52, 53, 54, 55, 56, 57]⟩ : ByteArray).extract q.val (q.val + 1) = ⟨#[UInt8.ofNat (48 + q.val)]⟩ := by decide +kernel
theorem dig_int (q : Nat) (h : q < 10) : (⟨#[48, 49, 50, 51, 52, 53, 54, 55, 56, 57]⟩ : ByteArray).extract ((q : Int)).toNat ((q : Int) + 1).toNat = ⟨#[UInt8.ofNat (48 + q)]⟩ := dig_ext ⟨q, h⟩
theorem digits_eq (u : Nat) : u ≤ 9223372036854775808 → moultref1_digits.fL (-(u : Int)) = some ⟨(decDigits u).toArray⟩ := by
  induction u using Nat.strongRecOn with
  | _ u ih =>
    intro hu
    have hm : wrap64 (-(Int.tmod (-(u : Int)) 10)) = ((u % 10 : Nat) : Int) := by
      rw [Int.neg_tmod]
      have : Int.tmod (u : Int) 10 = ((u % 10 : Nat) : Int) := rfl
      rw [this]
      unfold wrap64
      omega
    have hm1 : wrap64 (((u % 10 : Nat) : Int) + 1) = ((u % 10 : Nat) : Int) + 1 := by unfold wrap64; omega
    have hd : wrap64 (Int.tdiv (-(u : Int)) 10) = -((u / 10 : Nat) : Int) := by
      rw [Int.neg_tdiv]
      have : Int.tdiv (u : Int) 10 = ((u / 10 : Nat) : Int) := rfl
      rw [this]
      unfold wrap64
      omega
    have hq := Nat.mod_lt u (by omega : 10 > 0)
    rw [moultref1_digits.fL_eq, hm, hm1, hd, dig_int _ hq]
    by_cases h : u < 10
    · rw [if_pos (by omega), if_pos (by omega), if_pos (by omega), if_pos (by omega), decDigits_one h]
      have : u % 10 = u := by omega
      rw [this]
    · rw [if_neg (by omega), ih (u / 10) (by omega) (by omega)]
      simp only [Option.bind_some]
      rw [if_pos (by omega), if_pos (by omega), if_pos (by omega)]
      have hl : (decDigits (u / 10)).length ≤ 21 := by
        have := itoa_length_le ((u / 10 : Nat) : Int) (by omega) (by omega)
        rw [itoa_nonneg] at this
        exact this
      have hs : (⟨(decDigits (u / 10)).toArray⟩ : ByteArray).size = (decDigits (u / 10)).length := by simp [← ByteArray.size_data]
      have hs1 : (⟨#[UInt8.ofNat (48 + u % 10)]⟩ : ByteArray).size = 1 := rfl
      rw [hs, hs1, if_pos (by omega)]
      rw [show (⟨#[UInt8.ofNat (48 + u % 10)]⟩ : ByteArray) = ⟨[UInt8.ofNat (48 + u % 10)].toArray⟩ from rfl, ba_app]
      rw [show decDigits u = decDigits (u / 10) ++ [UInt8.ofNat (48 + u % 10)] by rw [decDigits, dif_neg h]]
theorem decimal_eq (n : Int) (hn : Wide n) : moultref1_Decimal.fL n = some ⟨(itoa n).toArray⟩ := by
  unfold Wide at hn
  rw [moultref1_Decimal.fL_eq]
  unfold itoa
  by_cases h : n < 0
  · rw [if_pos h, if_pos h]
    have e : n = -((n.natAbs : Nat) : Int) := by omega
    have hd := digits_eq n.natAbs (by omega)
    rw [← e] at hd
    rw [hd]
    simp only [Option.bind_some]
    have hl := itoa_length_le n hn.1 hn.2
    unfold itoa at hl
    rw [if_pos h] at hl
    have hs : (⟨(decDigits n.natAbs).toArray⟩ : ByteArray).size = (decDigits n.natAbs).length := by simp [← ByteArray.size_data]
    rw [hs, if_pos (by simp at hl; omega)]
    rw [show (⟨#[45]⟩ : ByteArray) = ⟨[45].toArray⟩ from rfl, ba_app]
    rfl
  · rw [if_neg h, if_neg h]
    have e : wrap64 (-n) = -((n.toNat : Nat) : Int) := by unfold wrap64; omega
    rw [e, digits_eq n.toNat (by omega)]
    rfl
def nums (l : List UInt8) : List Int := l.map fun c => (c.toNat : Int)
theorem nums_app (l m : List UInt8) : nums (l ++ m) = nums l ++ nums m := by simp [nums]
theorem strOf_nums (l : List UInt8) : strOfNums (nums l) = ⟨l.toArray⟩ := by
  unfold strOfNums nums
  have e : ((fun n : Int => UInt8.ofNat n.toNat) ∘ fun c : UInt8 => (c.toNat : Int)) = id := by funext c; simp
  simp [e]
theorem hexb : ∀ q : Fin 16, bt (⟨#[48, 49, 50, 51, 52, 53, 54, 55, 56, 57, 97, 98, 99, 100, 101, 102]⟩ : ByteArray) (q.val : Int) = ((hexd q.val).toNat : Int) := by decide +kernel
theorem quoted_loop (s : ByteArray) (sign : UInt8) (hs : s.size ≤ 1000000) : ∀ (n i : Nat) (acc : List UInt8), n = s.size - i → i ≤ s.size → acc.length ≤ 4 * i + 1 → moultref1_quoted.l0L s (sign.toNat : Int) (nums acc) (i : Int) = some ⟨(acc ++ (s.data.toList.drop i).flatMap (esc sign) ++ [sign]).toArray⟩ := by
  intro n
  have hss : s.data.size = s.size := rfl
  have hlen : ∀ l : List UInt8, (nums l).length = l.length := fun l => by simp [nums]
  induction n with
  | zero =>
    intro i acc hn hi ha
    rw [moultref1_quoted.l0L_eq, if_neg (by omega), hlen, if_pos (by omega), List.drop_eq_nil_of_le (by rw [Array.length_toList]; omega)]
    rw [show nums acc ++ [(sign.toNat : Int)] = nums (acc ++ [sign]) by simp [nums], strOf_nums]
    simp
  | succ n ih =>
    intro i acc hn hi ha
    have hia : i < s.size := by omega
    have hd : s.data.toList.drop i = s.data[i]'(by omega) :: s.data.toList.drop (i + 1) := by
      rw [List.drop_eq_getElem_cons (by rw [Array.length_toList]; omega)]; rfl
    have hb : bt s (i : Int) = ((s.data[i]'(by omega)).toNat : Int) := by
      simp [bt, ByteArray.get!, getElem!_pos, hss, hia]; rfl
    have hw : wrap64 ((i : Int) + 1) = ((i + 1 : Nat) : Int) := by unfold wrap64; omega
    rw [hd]
    generalize s.data[i]'(by omega) = c at hd hb
    have step : ∀ m : List UInt8, m.length ≤ 4 → esc sign c = m → moultref1_quoted.l0L s (sign.toNat : Int) (nums acc ++ nums m) (wrap64 ((i : Int) + 1)) = some ⟨(acc ++ (c :: s.data.toList.drop (i + 1)).flatMap (esc sign) ++ [sign]).toArray⟩ := by
      intro m hm he
      rw [hw, ← nums_app, ih (i + 1) (acc ++ m) (by omega) (by omega) (by simp; omega), List.flatMap_cons, he]
      simp
    have hj : ∀ x : Bool, x = decide (c = sign ∨ c = 92) → moultref1_quoted.j1L s (sign.toNat : Int) (nums acc) (i : Int) (c.toNat : Int) x = some ⟨(acc ++ (c :: s.data.toList.drop (i + 1)).flatMap (esc sign) ++ [sign]).toArray⟩ := by
      intro x hx
      rw [moultref1_quoted.j1L_eq]
      by_cases h1 : c = sign ∨ c = 92
      · rw [hx, decide_eq_true h1, if_pos rfl]
        simp only [Option.bind_some]
        rw [if_pos (by rw [hlen]; simp; omega)]
        exact step [92, c] (by simp) (by unfold esc; rw [if_pos h1])
      · rw [hx, decide_eq_false h1, if_neg (by decide)]
        have hc : c.toNat < 256 := c.toNat_lt
        have e1 : (Int.tdiv (c.toNat : Int) 16) % 256 = ((c.toNat / 16 : Nat) : Int) := by
          have : Int.tdiv (c.toNat : Int) 16 = ((c.toNat / 16 : Nat) : Int) := rfl
          rw [this]; omega
        have e2 : Int.tmod (c.toNat : Int) 16 = ((c.toNat % 16 : Nat) : Int) := rfl
        have b1 := hexb ⟨c.toNat / 16, by omega⟩
        have b2 := hexb ⟨c.toNat % 16, by omega⟩
        simp only at b1 b2
        rw [e1, e2, b1, b2]
        have hx4 : ¬ (32 ≤ c ∧ c ≤ 126) → esc sign c = [92, 120, hexd (c.toNat / 16), hexd (c.toNat % 16)] := by
          intro h2; unfold esc; rw [if_neg h1, if_neg h2]
        have l32 : (32 : UInt8) ≤ c ↔ 32 ≤ c.toNat := UInt8.le_iff_toNat_le
        have l126 : c ≤ (126 : UInt8) ↔ c.toNat ≤ 126 := UInt8.le_iff_toNat_le
        by_cases h3 : (c.toNat : Int) ≥ 32
        · rw [if_pos h3]
          by_cases h4 : (c.toNat : Int) ≤ 126
          · rw [if_pos h4, if_pos (by rw [hlen]; omega)]
            exact step [c] (by simp) (by unfold esc; rw [if_neg h1, if_pos ⟨l32.mpr (by omega), l126.mpr (by omega)⟩])
          · rw [if_neg h4, if_pos (by omega), if_pos (by omega), if_pos (by omega), if_pos (by omega)]
            simp only [Option.bind_some]
            rw [if_pos (by rw [hlen]; simp; omega)]
            exact step _ (by simp) (hx4 (by rintro ⟨_, h⟩; have := l126.mp h; omega))
        · rw [if_neg h3, if_pos (by omega), if_pos (by omega), if_pos (by omega), if_pos (by omega)]
          simp only [Option.bind_some]
          rw [if_pos (by rw [hlen]; simp; omega)]
          exact step _ (by simp) (hx4 (by rintro ⟨h, _⟩; have := l32.mp h; omega))
    rw [moultref1_quoted.l0L_eq, if_pos (by omega), if_pos (by omega), hb]
    by_cases h1 : (c.toNat : Int) = (sign.toNat : Int)
    · rw [if_pos h1]
      exact hj true (by have : c = sign := UInt8.toNat_inj.mp (by omega); simp [this])
    · rw [if_neg h1]
      refine hj _ ?_
      have h2 : ¬ c = sign := by rintro rfl; exact h1 rfl
      rw [Bool.eq_iff_iff]
      simp only [beq_iff_eq, decide_eq_true_eq, h2, false_or]
      constructor
      · intro h; exact UInt8.toNat_inj.mp (by have : c.toNat = 92 := by omega
                                              rw [this]; rfl)
      · rintro rfl; rfl
theorem quoted_eq (s : ByteArray) (sign : UInt8) (hs : s.size ≤ 1000000) : moultref1_quoted.fL s (sign.toNat : Int) = some ⟨(qt sign s.data.toList).toArray⟩ := by
  have h := quoted_loop s sign hs s.size 0 [sign] (by omega) (by omega) (by simp)
  rw [moultref1_quoted.fL_eq]
  rw [List.drop_zero] at h
  exact h
theorem ref_rgt (k n : Int) (s : ByteArray) : moultref1_Right.f k n s = some (rgt k n s.data.toList) := by
  unfold moultref1_Right.f rgt
  have e : (s.toList == ([] : List UInt8)) = decide (s.data.toList = []) := by rw [toL, Bool.eq_iff_iff]; simp
  simp only [e, len_rgt]
  by_cases h1 : k = 1
  · by_cases hn : n = 0
    · simp [h1, hn]
    · by_cases hn1 : n = 1
      · simp [h1, hn1]
      · simp [h1, hn, hn1]; intro _; omega
  by_cases h2 : k = 2
  · by_cases ha : n ≥ -32768 <;> by_cases hb : n ≤ 32767 <;> simp [h2, ha, hb] <;> omega
  by_cases h3 : k = 3
  · by_cases ha : n ≥ -2147483648 <;> by_cases hb : n ≤ 2147483647 <;> simp [h3, ha, hb] <;> omega
  by_cases h4 : k = 4
  · simp [h4]
  by_cases h5 : k = 5
  · by_cases hn : n = 0 <;> simp [h5, hn] <;> omega
  by_cases h6 : k = 6
  · by_cases hn : n = 0 <;> simp [h6, hn] <;> omega
  simp [h1, h2, h3, h4, h5, h6]
end Go.Proofs.YtnedhbnbhedgeaaDoor.Val
