/- The plain laws of value: what is printed is read back. -/
import Derived.Test.YtnedhbnbhedgeaaDoorPv
import Derived.Lib.ItoaMem
import Derived.Lib.ItoaLen
import Derived.Lib.AtoiAll
set_option linter.unusedVariables false
set_option linter.unusedSimpArgs false
namespace Go.Proofs.YtnedhbnbhedgeaaDoor.Val
open Go.RowKit Go.Proofs.YtnedhbnbhedgeaaDoor Go.Proofs.YtnedhbnbhedgeaaDoor.PAll Go.Proofs.YtnedhbnbhedgeaaDoorW.PrintWords Go.Lib
/-! ### Numerals -/
theorem parse_app (r : List UInt8) : ∀ (l : List UInt8) (acc v : Nat), parseUint10 acc l = .ok v → parseUint10 acc (l ++ r) = parseUint10 v r
  | [], acc, v, h => by simp only [parseUint10] at h; injection h with h; subst h; rfl
  | c :: l, acc, v, h => by
    simp only [parseUint10, List.cons_append] at h ⊢
    split at h
    · rename_i h1
      rw [if_pos h1]
      split at h
      · cases h
      · rename_i h2
        rw [if_neg h2]
        split at h
        · cases h
        · rename_i h3
          rw [if_neg h3]
          exact parse_app r l _ v h
    · cases h
theorem dig_nat {d : Nat} (h : d < 10) : (UInt8.ofNat (48 + d)).toNat = 48 + d := by simp; omega
theorem dec_parse (u : Nat) : u < 18446744073709551616 → parseUint10 0 (decDigits u) = .ok u := by
  induction u using Nat.strongRecOn with
  | _ u ih =>
    intro hu
    by_cases h : u < 10
    · rw [decDigits_one h]
      simp only [parseUint10, dig_nat h]
      rw [if_pos (by omega), if_neg (by omega), if_neg (by omega)]
      congr 1
      omega
    · rw [decDigits, dif_neg h, parse_app _ _ _ _ (ih (u / 10) (by omega) (by omega))]
      simp only [parseUint10, dig_nat (Nat.mod_lt u (by omega : 10 > 0))]
      rw [if_pos (by omega), if_neg (by omega), if_neg (by omega)]
      congr 1
      omega
theorem dec_ne (u : Nat) : decDigits u ≠ [] := by
  rw [decDigits]
  split <;> simp
theorem dec_all (u : Nat) : ∀ c ∈ decDigits u, 48 ≤ c.toNat ∧ c.toNat ≤ 57 := by
  induction u using Nat.strongRecOn with
  | _ u ih =>
    by_cases h : u < 10
    · rw [decDigits_one h]
      intro c hc
      obtain rfl := List.mem_singleton.mp hc
      rw [dig_nat h]; omega
    · rw [decDigits, dif_neg h]
      intro c hc
      rcases List.mem_append.mp hc with hc | hc
      · exact ih (u / 10) (by omega) c hc
      · obtain rfl := List.mem_singleton.mp hc
        have := Nat.mod_lt u (by omega : 10 > 0)
        rw [dig_nat this]; omega
theorem atoi_itoa (n : Int) (h0 : -9223372036854775808 ≤ n) (h1 : n ≤ 9223372036854775807) : atoiAll (itoa n) = .ok n := by
  unfold itoa
  by_cases hn : n < 0
  · rw [if_pos hn]
    have hp : parseMag (decDigits n.natAbs) = .ok n.natAbs := by
      unfold parseMag
      rw [if_neg (dec_ne _), dec_parse _ (by omega)]
    simp only [atoiAll]
    rw [if_pos (Or.inr (by decide)), hp]
    have c45 : ((45 : UInt8).toNat = 45) = True := eq_true (by decide)
    simp only [c45, not_true_eq_false, false_and, if_false, true_and, if_true]
    rw [if_neg (by omega)]
    congr 1
    omega
  · rw [if_neg hn]
    have hp : parseMag (decDigits n.toNat) = .ok n.toNat := by
      unfold parseMag
      rw [if_neg (dec_ne _), dec_parse _ (by omega)]
    cases hd : decDigits n.toNat with
    | nil => exact absurd hd (dec_ne _)
    | cons c r =>
      have hc := dec_all n.toNat c (by rw [hd]; simp)
      rw [hd] at hp
      simp only [atoiAll]
      rw [if_neg (by omega), hp]
      have : ¬ c.toNat = 45 := by omega
      simp only [this, not_false_eq_true, true_and, false_and, if_false]
      rw [if_neg (by omega)]
      congr 1
      omega
theorem itoa_head (n : Int) : ∃ c r, itoa n = c :: r ∧ (c.toNat = 45 ∨ 48 ≤ c.toNat ∧ c.toNat ≤ 57) := by
  unfold itoa
  by_cases hn : n < 0
  · rw [if_pos hn]; exact ⟨45, _, rfl, Or.inl (by decide)⟩
  · rw [if_neg hn]
    cases hd : decDigits n.toNat with
    | nil => exact absurd hd (dec_ne _)
    | cons c r => exact ⟨c, r, rfl, Or.inr (dec_all n.toNat c (by rw [hd]; simp))⟩
theorem itoa_last (n : Int) : ∃ l c, itoa n = l ++ [c] ∧ 48 ≤ c.toNat ∧ c.toNat ≤ 57 := by
  have hd : ∀ u, ∃ l c, decDigits u = l ++ [c] ∧ 48 ≤ c.toNat ∧ c.toNat ≤ 57 := by
    intro u
    have h := List.dropLast_concat_getLast (dec_ne u)
    exact ⟨_, _, h.symm, dec_all u _ (List.getLast_mem (dec_ne u))⟩
  unfold itoa
  by_cases hn : n < 0
  · rw [if_pos hn]
    obtain ⟨l, c, h, hc⟩ := hd n.natAbs
    exact ⟨45 :: l, c, by rw [h]; rfl, hc⟩
  · rw [if_neg hn]; exact hd _
/-! ### Suffixes -/
theorem suf_snoc (l : List UInt8) (c d : UInt8) : hasSuffix (l ++ [c]) [d] = decide (c = d) := by
  unfold hasSuffix
  rw [Bool.eq_iff_iff, List.isSuffixOf_iff_suffix, decide_eq_true_eq]
  constructor
  · rintro ⟨t, h⟩
    have := congrArg List.getLast? h
    simpa using this.symm
  · rintro rfl; exact ⟨l, rfl⟩
theorem trim_snoc (l : List UInt8) (c : UInt8) : trimSuffix (l ++ [c]) [c] = l := by
  unfold trimSuffix
  rw [suf_snoc]
  simp
theorem kind_s (l : List UInt8) : kindOf (l ++ [115]) = (l, 2) := by
  unfold kindOf
  rw [suf_snoc, trim_snoc]; simp
theorem kind_i (l : List UInt8) : kindOf (l ++ [105]) = (l, 3) := by
  unfold kindOf
  rw [suf_snoc, suf_snoc, trim_snoc]; simp
theorem kind_n (l : List UInt8) (c : UInt8) (h : c ≠ 115) (h2 : c ≠ 105) : kindOf (l ++ [c]) = (l ++ [c], 4) := by
  unfold kindOf
  rw [suf_snoc, suf_snoc]; simp [h, h2]
/-! ### Quoted texts -/
theorem hex_idx : ∀ q : Fin 16, Lib.indexByte hexl (hexd q.val) = (q.val : Int) := by decide +kernel
theorem unq_esc (sign : UInt8) (hs : sign = 39 ∨ sign = 34) : ∀ l : List UInt8, unq sign (l.flatMap (esc sign)) = some l
  | [] => rfl
  | x :: l => by
    have ih := unq_esc sign hs l
    have s92 : ¬ (92 : UInt8) = sign := by rcases hs with rfl | rfl <;> decide
    have s120 : ¬ (120 : UInt8) = sign := by rcases hs with rfl | rfl <;> decide
    rw [List.flatMap_cons]
    unfold esc
    by_cases h1 : x = sign ∨ x = 92
    · rw [if_pos h1]
      show unq sign (92 :: x :: l.flatMap (esc sign)) = _
      rw [unq_cons, if_neg (by rintro (h | h | h); exact s92 h; exact absurd h (by decide); exact absurd h (by decide)), if_neg (by simp)]
      simp only [if_pos h1, ih, Option.map_some]
    · rw [if_neg h1]
      have h1a : ¬ x = sign := fun h => h1 (Or.inl h)
      have h1b : ¬ x = 92 := fun h => h1 (Or.inr h)
      by_cases h2 : 32 ≤ x ∧ x ≤ 126
      · rw [if_pos h2]
        show unq sign (x :: l.flatMap (esc sign)) = _
        rw [unq_cons, if_neg (by rintro (h | h | h); exact h1a h; exact absurd h2.1 (UInt8.not_le.mpr h); exact absurd h2.2 (UInt8.not_le.mpr h)), if_pos h1b, ih]
        rfl
      · rw [if_neg h2]
        show unq sign (92 :: 120 :: hexd (x.toNat / 16) :: hexd (x.toNat % 16) :: l.flatMap (esc sign)) = _
        have hx : x.toNat < 256 := x.toNat_lt
        have i1 := hex_idx ⟨x.toNat / 16, by omega⟩
        have i2 := hex_idx ⟨x.toNat % 16, by omega⟩
        simp only at i1 i2
        rw [unq_cons, if_neg (by rintro (h | h | h); exact s92 h; exact absurd h (by decide); exact absurd h (by decide)), if_neg (by simp)]
        simp only []
        rw [if_neg (by rintro (h | h); exact s120 h; exact absurd h (by decide)), if_neg (by simp)]
        simp only [i1, i2]
        rw [if_neg (by omega), ih]
        simp only [Option.map_some, Int.toNat_natCast]
        congr 2
        apply UInt8.toNat_inj.mp
        simp
        omega
theorem rdl_qt (sign : UInt8) (hs : sign = 39 ∨ sign = 34) (l : List UInt8) : rdl (qt sign l) = (if sign = 39 then 5 else 6, 0, ⟨l.toArray⟩, true) := by
  have e : qt sign l = sign :: (l.flatMap (esc sign) ++ [sign]) := rfl
  rw [e]
  simp only [rdl]
  rw [if_neg (by rcases hs with rfl | rfl <;> simp), if_neg (by rcases hs with rfl | rfl <;> simp), if_pos hs, if_neg (by simp)]
  have ht : (l.flatMap (esc sign) ++ [sign]).take ((l.flatMap (esc sign) ++ [sign]).length - 1) = l.flatMap (esc sign) := by simp
  rw [ht, uqs_some (unq_esc sign hs l)]
theorem rdl_num (l : List UInt8) (h : ∃ c r, l = c :: r ∧ (c.toNat = 45 ∨ 48 ≤ c.toNat ∧ c.toNat ≤ 57)) : rdl l = ((kindOf l).2, (atoiN (kindOf l).1).1, ⟨#[]⟩, (atoiN (kindOf l).1).2) := by
  obtain ⟨c, r, rfl, hc⟩ := h
  simp only [rdl]
  have hn : ∀ m : UInt8, 58 ≤ m.toNat ∨ m.toNat < 45 → c ≠ m := by rintro m hm rfl; omega
  rw [if_neg (by intro h; injection h with h _; exact hn 110 (by decide) h), if_neg (by intro h; injection h with h _; exact hn 121 (by decide) h), if_neg (by rintro (h | h); exact hn 39 (by decide) h; exact hn 34 (by decide) h)]
/-! ### Right values -/
def rgt (k n : Int) (s : List UInt8) : Bool :=
  if k = 1 then decide (s = [] ∧ 0 ≤ n ∧ n ≤ 1) else if k = 2 then decide (s = [] ∧ -32768 ≤ n ∧ n ≤ 32767) else if k = 3 then decide (s = [] ∧ -2147483648 ≤ n ∧ n ≤ 2147483647)
  else if k = 4 then decide (s = []) else if k = 5 then decide (n = 0 ∧ s.length ≤ 32) else if k = 6 then decide (n = 0 ∧ s.length ≤ 1000) else false
theorem within_rgt (k n : Int) (s : ByteArray) (a b : Int) : value_within.f k n s a b = some (decide (s.data.toList = [] ∧ a ≤ n ∧ n ≤ b)) := by
  unfold value_within.f
  rw [toL]
  by_cases h : s.data.toList = []
  · by_cases h2 : n ≥ a
    · rw [if_pos h, if_pos h2]; simp [h, h2]
    · rw [if_pos h, if_neg h2]; simp [h]; omega
  · rw [if_neg h]; simp [h]
theorem len_rgt (s : ByteArray) : s.data.toList.length = s.size := by simp
theorem rgt_eq (k n : Int) (s : ByteArray) : value_Right.f k n s = some (rgt k n s.data.toList) := by
  unfold value_Right.f rgt
  simp only [within_rgt, Option.bind_some, len_rgt, toL]
  by_cases h1 : k = 1
  · simp [h1]
  by_cases h2 : k = 2
  · simp [h2]
  by_cases h3 : k = 3
  · simp [h3]
  by_cases h4 : k = 4
  · simp [h4]; rw [Bool.eq_iff_iff]; simp
  by_cases h5 : k = 5
  · by_cases hn : n = 0 <;> simp [h5, hn] <;> omega
  by_cases h6 : k = 6
  · by_cases hn : n = 0 <;> simp [h6, hn] <;> omega
  simp [h1, h2, h3, h4, h5, h6]
/-! ### The print -/
def prl (k n : Int) (s : List UInt8) : List UInt8 :=
  if k = 1 then (if n = 0 then [110, 111] else [121, 101, 115]) else if k = 2 then itoa n ++ [115] else if k = 3 then itoa n ++ [105] else if k = 4 then itoa n else if k = 5 then qt 39 s else qt 34 s
def pr (k n : Int) (s : List UInt8) : List UInt8 := if rgt k n s = true then prl k n s else []
theorem ba_eta (s : ByteArray) : (⟨s.data.toList.toArray⟩ : ByteArray) = s := by cases s; simp
theorem ba_app (l m : List UInt8) : (⟨l.toArray⟩ : ByteArray) ++ (⟨m.toArray⟩ : ByteArray) = ⟨(l ++ m).toArray⟩ := by
  apply ByteArray.ext
  simp [ByteArray.data_append]
theorem qt_len (sign : UInt8) (l : List UInt8) : (qt sign l).length ≤ 4 * l.length + 2 := by
  have := qpre_len sign l
  unfold qt
  simp
  omega
def Wide (n : Int) : Prop := -9223372036854775808 ≤ n ∧ n ≤ 9223372036854775807
theorem print_eq (k n : Int) (s : ByteArray) (hn : Wide n) : value_Print.f k n s = some ⟨(pr k n s.data.toList).toArray⟩ := by
  unfold value_Print.f pr
  rw [rgt_eq]
  simp only [Option.bind_some]
  by_cases hr : rgt k n s.data.toList = true
  · rw [if_pos hr, if_pos hr]
    have hi : strconv_Itoa.f n = some ⟨(itoa n).toArray⟩ := by unfold strconv_Itoa.f; rw [if_pos (show -9223372036854775808 ≤ n ∧ n ≤ 9223372036854775807 from hn)]
    rw [hi]
    simp only [Option.bind_some]
    have hl := itoa_length_le n hn.1 hn.2
    have hsz : (⟨(itoa n).toArray⟩ : ByteArray).size = (itoa n).length := by simp [← ByteArray.size_data]
    unfold prl
    by_cases h1 : k = 1
    · rw [if_pos h1, if_pos h1]
      split <;> rfl
    · rw [if_neg h1, if_neg h1]
      by_cases h2 : k = 2
      · rw [if_pos h2, if_pos h2, hsz, if_pos (by omega)]
        rw [show (⟨#[115]⟩ : ByteArray) = ⟨[115].toArray⟩ from rfl, ba_app]
      · rw [if_neg h2, if_neg h2]
        by_cases h3 : k = 3
        · rw [if_pos h3, if_pos h3, hsz, if_pos (by omega)]
          rw [show (⟨#[105]⟩ : ByteArray) = ⟨[105].toArray⟩ from rfl, ba_app]
        · rw [if_neg h3, if_neg h3]
          by_cases h4 : k = 4
          · rw [if_pos h4, if_pos h4]
          · rw [if_neg h4, if_neg h4]
            have hs : s.size ≤ 1000 := by
              unfold rgt at hr
              rw [if_neg h1, if_neg h2, if_neg h3, if_neg h4, len_rgt] at hr
              split at hr
              · have := of_decide_eq_true hr; omega
              · split at hr
                · have := of_decide_eq_true hr; omega
                · cases hr
            by_cases h5 : k = 5
            · rw [if_pos h5, if_pos h5]
              unfold value_quote.f
              rw [if_pos ⟨by omega, by omega, by omega⟩]
              rfl
            · rw [if_neg h5, if_neg h5]
              unfold value_quote.f
              rw [if_pos ⟨by omega, by omega, by omega⟩]
              rfl
  · rw [if_neg hr, if_neg hr]
theorem atoiN_itoa (n : Int) (hn : Wide n) : atoiN (itoa n) = (n, true) := by
  unfold atoiN
  rw [atoi_itoa n hn.1 hn.2]
/-- What is printed of a right value is read as the value. -/
theorem rdl_prl (k n : Int) (s : List UInt8) (hn : Wide n) (hr : rgt k n s = true) : rdl (prl k n s) = (k, n, ⟨s.toArray⟩, true) := by
  unfold rgt at hr
  unfold prl
  by_cases h1 : k = 1
  · rw [if_pos h1] at hr ⊢
    obtain ⟨rfl, h0, hm⟩ := of_decide_eq_true hr
    by_cases hz : n = 0
    · rw [if_pos hz]; subst hz; subst h1; rfl
    · rw [if_neg hz]; obtain rfl : n = 1 := by omega
      subst h1; rfl
  · rw [if_neg h1] at hr ⊢
    have hh := itoa_head n
    have hha : ∀ m, ∃ c r, itoa n ++ m = c :: r ∧ (c.toNat = 45 ∨ 48 ≤ c.toNat ∧ c.toNat ≤ 57) := by
      obtain ⟨c, r, h, hc⟩ := hh
      exact fun m => ⟨c, r ++ m, by rw [h]; rfl, hc⟩
    by_cases h2 : k = 2
    · rw [if_pos h2] at hr ⊢
      obtain ⟨rfl, _, _⟩ := of_decide_eq_true hr
      rw [rdl_num _ (hha _), kind_s, atoiN_itoa n hn, h2]
    · rw [if_neg h2] at hr ⊢
      by_cases h3 : k = 3
      · rw [if_pos h3] at hr ⊢
        obtain ⟨rfl, _, _⟩ := of_decide_eq_true hr
        rw [rdl_num _ (hha _), kind_i, atoiN_itoa n hn, h3]
      · rw [if_neg h3] at hr ⊢
        by_cases h4 : k = 4
        · rw [if_pos h4] at hr ⊢
          obtain rfl := of_decide_eq_true hr
          rw [rdl_num _ hh]
          obtain ⟨l, c, hl, hc⟩ := itoa_last n
          have hk : kindOf (itoa n) = (itoa n, 4) := by
            rw [hl]
            exact kind_n l c (by rintro rfl; exact absurd hc.2 (by decide)) (by rintro rfl; exact absurd hc.2 (by decide))
          rw [hk, atoiN_itoa n hn, h4]
        · rw [if_neg h4] at hr ⊢
          by_cases h5 : k = 5
          · rw [if_pos h5] at hr ⊢
            obtain ⟨rfl, _⟩ := of_decide_eq_true hr
            rw [rdl_qt 39 (Or.inl rfl), h5]; rfl
          · rw [if_neg h5] at hr ⊢
            by_cases h6 : k = 6
            · rw [if_pos h6] at hr
              obtain ⟨rfl, _⟩ := of_decide_eq_true hr
              rw [rdl_qt 34 (Or.inr rfl), h6]; rfl
            · rw [if_neg h6] at hr; cases hr
theorem prl_len (k n : Int) (s : List UInt8) (hn : Wide n) (hs : s.length ≤ 3000) : (prl k n s).length ≤ 20000 := by
  have hl := itoa_length_le n hn.1 hn.2
  have h1 := qt_len 39 s
  have h2 := qt_len 34 s
  unfold prl
  split
  · split <;> simp
  · split
    · simp; omega
    · split
      · simp; omega
      · split
        · omega
        · split <;> omega
end Go.Proofs.YtnedhbnbhedgeaaDoor.Val
