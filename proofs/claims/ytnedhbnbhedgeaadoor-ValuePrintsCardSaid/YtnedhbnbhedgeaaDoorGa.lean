/- The contracts of strings.Compare, strconv.Itoa, value.quote and value.read, in the form of the printed contracts; those that read a
   variable of the library's have the premise Laid as their last one. -/
import Derived.Test.YtnedhbnbhedgeaaDoorPAllx0
import Derived.Test.YtnedhbnbhedgeaaDoorRe
set_option linter.unusedVariables false
set_option linter.unusedSimpArgs false
namespace Go.Proofs.YtnedhbnbhedgeaaDoor
open Go.RowKit Go.Proofs.YtnedhbnbhedgeaaDoor.PAll Go.Proofs.YtnedhbnbhedgeaaDoorW.PrintWords

def strings_Compare.f (a0 : ByteArray) (a1 : ByteArray) : Option Int := some (Lib.compareBytes a0.data.toList a1.data.toList)
theorem strings_Compare.calls (a0 : ByteArray) (a1 : ByteArray) (r : Int) (w : World) (h : strings_Compare.f a0 a1 = some r) :
    Calls Tryd.prog 22 #[.string a0, .string a1] w fun e w' => e = .returned (.int .i64 r) ∧ Drawn0 w w' := by
  cases h
  refine (Tryd.strings_Compare a0 a1 w).mono ?_
  rintro e w' ⟨rfl, rfl⟩
  exact ⟨rfl, Drawn0.refl _⟩

def strconv_Itoa.f (a0 : Int) : Option ByteArray := if -9223372036854775808 ≤ a0 ∧ a0 ≤ 9223372036854775807 then some ⟨(Lib.itoa a0).toArray⟩ else none
theorem strconv_Itoa.calls (a0 : Int) (r : ByteArray) (w : World) (h : strconv_Itoa.f a0 = some r) (hG : Laid w) :
    Calls Tryd.prog 24 #[.int .i64 a0] w fun e w' => e = .returned (.string r) ∧ Below w.heap.size w w' := by
  unfold strconv_Itoa.f at h
  split at h
  case isFalse => cases h
  case isTrue hlt =>
  cases h
  refine (Tryd.strconv_Itoa a0 hlt.1 hlt.2 w hG.tab).mono ?_
  rintro e w' ⟨rfl, k, os, rfl⟩
  exact ⟨rfl, ⟨rfl, rfl, rfl, by show w.heap.size ≤ (w.heap ++ os).size; rw [Array.size_append]; omega, fun j hj => by show (w.heap ++ os)[j]? = _; rw [Array.getElem?_append_left hj]⟩⟩

def value_quote.f (a0 : ByteArray) (a1 : Int) : Option ByteArray := if a0.size ≤ 1000000 ∧ 0 ≤ a1 ∧ a1 < 256 then some ⟨(qt a1.toNat.toUInt8 a0.data.toList).toArray⟩ else none
theorem value_quote.calls (a0 : ByteArray) (a1 : Int) (r : ByteArray) (w : World) (h : value_quote.f a0 a1 = some r) :
    Calls Tryd.prog 25 #[.string a0, .int .u8 a1] w fun e w' => e = .returned (.string r) ∧ Below w.heap.size w w' := by
  unfold value_quote.f at h
  split at h
  case isFalse => cases h
  case isTrue hlt =>
  cases h
  have h1 := quote_calls a0 a1.toNat.toUInt8 w hlt.1
  have h2 : ((a1.toNat.toUInt8.toNat : Nat) : Int) = a1 := by
    have : a1.toNat.toUInt8.toNat = a1.toNat % 256 := by simp
    rw [this]; omega
  rw [h2] at h1
  exact h1

/-- What value.read reads. -/
def rdl (l : List UInt8) : Int × Int × ByteArray × Bool := match l with
  | [] => (0, 0, ⟨#[]⟩, false)
  | c :: t => if c :: t = [110, 111] then (1, 0, ⟨#[]⟩, true) else if c :: t = [121, 101, 115] then (1, 1, ⟨#[]⟩, true)
    else if c = 39 ∨ c = 34 then (if t = [] ∨ t.getLast? ≠ some c then (0, 0, ⟨#[]⟩, false) else (if c = 39 then 5 else 6, 0, (uqs c (t.take (t.length - 1))).1, (uqs c (t.take (t.length - 1))).2))
    else ((kindOf (c :: t)).2, (atoiN (kindOf (c :: t)).1).1, ⟨#[]⟩, (atoiN (kindOf (c :: t)).1).2)

theorem toL (s : ByteArray) : s.toList = s.data.toList := by
  have hz : ∀ n m (r : List UInt8), n + m = s.size → ByteArray.toList.loop s m r = r.reverse ++ s.data.toList.drop m := by
    intro n
    induction n with
    | zero =>
      intro m r h
      rw [ByteArray.toList.loop, if_neg (by omega)]
      rw [List.drop_eq_nil_of_le (by simp; omega)]
      simp
    | succ n ih =>
      intro m r h
      rw [ByteArray.toList.loop, if_pos (by omega), ih (m + 1) _ (by omega)]
      have hm : m < s.data.toList.length := by simp; omega
      rw [List.drop_eq_getElem_cons hm]
      have : s.get! m = s.data.toList[m] := by
        simp [ByteArray.get!]
        rw [getElem!_pos s.data m (by rw [ByteArray.size_data]; omega)]
      simp [this]
  have := hz s.size 0 [] (by omega)
  simpa [ByteArray.toList] using this

def value_read.f (a0 : ByteArray) : Option (Int × Int × ByteArray × Bool) := if a0.size ≤ 1000000 then some (rdl a0.data.toList) else none
theorem value_read.calls (a0 : ByteArray) (r1 : Int) (r2 : Int) (r3 : ByteArray) (r4 : Bool) (w : World) (h : value_read.f a0 = some (r1, r2, r3, r4)) (hG : Laid w) :
    Calls Tryd.prog 28 #[.string a0] w fun e w' => e = .returned (.tuple #[.agg #[.int .i64 r1, .int .i64 r2, .string r3], .bool r4]) ∧ Below w.heap.size w w' := by
  unfold value_read.f at h
  split at h
  case isFalse => cases h
  case isTrue hs =>
  have ht := toL a0
  have hsz : a0.size = a0.data.toList.length := by simp [ByteArray.size_data]
  rcases hl : a0.data.toList with _ | ⟨c, t⟩
  · have he : a0 = ⟨#[]⟩ := by
      cases a0 with
      | mk d => simp at hl; simp [hl]
    rw [hl] at h
    obtain ⟨rfl, rfl, rfl, rfl⟩ : (0 : Int) = r1 ∧ (0 : Int) = r2 ∧ (⟨#[]⟩ : ByteArray) = r3 ∧ false = r4 := by simpa [rdl] using h
    subst he
    exact read_empty w
  · rw [hl] at h hsz
    have hne : ¬ a0.toList = [] := by rw [ht, hl]; simp
    have hs0 : 0 < a0.size := by rw [hsz]; simp
    have h0 : a0[0] = c := by
      have : a0.data.toList[0]'(by rw [hl]; simp) = c := by simp [hl]
      simpa [ByteArray.getElem_eq_getElem_data] using this
    by_cases hno : a0.toList = [110, 111]
    · have he : a0 = ⟨#[110, 111]⟩ := by
        cases a0 with
        | mk d => rw [toL] at hno; simp at hno; exact congrArg ByteArray.mk (Array.toList_inj.mp (by simpa using hno))
      have hct : c :: t = [110, 111] := by rw [← hl, ← ht]; exact hno
      rw [hct] at h
      obtain ⟨rfl, rfl, rfl, rfl⟩ : (1 : Int) = r1 ∧ (0 : Int) = r2 ∧ (⟨#[]⟩ : ByteArray) = r3 ∧ true = r4 := by simpa [rdl] using h
      rw [he]
      exact read_no w
    · by_cases hyes : a0.toList = [121, 101, 115]
      · have he : a0 = ⟨#[121, 101, 115]⟩ := by
          cases a0 with
          | mk d => rw [toL] at hyes; exact congrArg ByteArray.mk (Array.toList_inj.mp (by simpa using hyes))
        have hct : c :: t = [121, 101, 115] := by rw [← hl, ← ht]; exact hyes
        rw [hct] at h
        obtain ⟨rfl, rfl, rfl, rfl⟩ : (1 : Int) = r1 ∧ (1 : Int) = r2 ∧ (⟨#[]⟩ : ByteArray) = r3 ∧ true = r4 := by simpa [rdl] using h
        rw [he]
        exact read_yes w
      · have n1 : ¬ c :: t = [110, 111] := by rw [← hl, ← ht]; exact hno
        have n2 : ¬ c :: t = [121, 101, 115] := by rw [← hl, ← ht]; exact hyes
        have hr : rdl (c :: t) = (r1, r2, r3, r4) := by simpa using h
        clear h
        simp only [rdl] at hr
        rw [if_neg n1, if_neg n2] at hr
        have hmid : (a0.data.toList.drop 1).take (a0.size - 2) = t.take (t.length - 1) := by
          rw [hl, hsz]
          simp
        have hi : ∀ x : UInt8, ∀ n : Nat, n < 256 → (((x.toNat : Int) == (n : Int)) = decide (x = n.toUInt8)) := by
          intro x n hn
          rw [Bool.eq_iff_iff]
          simp only [beq_iff_eq, decide_eq_true_eq]
          constructor
          · intro h1
            have h1 : x.toNat = n := by omega
            apply UInt8.toNat_inj.mp
            rw [h1]; simp; omega
          · rintro rfl
            simp; omega
        have hlast : ∀ h2 : 2 ≤ a0.size, t.getLast? = some (a0[a0.size - 1]'(by omega)) := by
          intro h2
          have e1 : a0[a0.size - 1]'(by omega) = (c :: t)[a0.size - 1]'(by rw [hsz] ; simp) := by
            have : a0[a0.size - 1]'(by omega) = a0.data.toList[a0.size - 1]'(by rw [hl, hsz]; simp) := by simp [ByteArray.getElem_eq_getElem_data]
            rw [this]
            simp only [hl]
          rw [e1]
          have hq : t.length ≠ 0 := by rw [hsz] at h2; simp at h2; omega
          rw [List.getLast?_eq_getElem?]
          rw [List.getElem?_eq_getElem (by omega)]
          congr 1
          have hsz' : a0.size - 1 = (t.length - 1) + 1 := by rw [hsz]; simp; omega
          simp only [hsz', List.getElem_cons_succ]
        have hsz1 : t = [] → a0.size = 1 := by rintro rfl; rw [hsz]; rfl
        have hsz2 : t ≠ [] → 2 ≤ a0.size := by
          intro h1
          rw [hsz]
          cases t with
          | nil => exact absurd rfl h1
          | cons _ _ => simp
        by_cases c39 : c = 39
        · rw [if_pos (Or.inl c39)] at hr
          have k1 : ((a0[0].toNat : Int) == 39) = true := by rw [h0, c39]; decide
          have k2 : ((a0[0].toNat : Int) == 34) = false := by rw [h0, c39]; decide
          by_cases ct : t = []
          · rw [if_pos (Or.inl ct)] at hr
            simp only [Prod.mk.injEq] at hr
            obtain ⟨rfl, rfl, rfl, rfl⟩ := hr
            exact read_bad1 a0 w hs (hsz1 ct) hs0 hne hno hyes k1 k2
          · have h2 := hsz2 ct
            by_cases cl : a0[a0.size - 1]'(by omega) = c
            · rw [if_neg (by rw [hlast h2, cl]; simp [ct])] at hr
              simp only [Prod.mk.injEq] at hr
              obtain ⟨rfl, rfl, rfl, rfl⟩ := hr
              have := read_quoted a0 w hs h2 hne hno hyes k1 k2 (by rw [cl, h0]; simp)
              rw [hmid, h0] at this
              rw [if_pos c39]
              exact this
            · rw [if_pos (Or.inr (by rw [hlast h2]; simpa using cl))] at hr
              simp only [Prod.mk.injEq] at hr
              obtain ⟨rfl, rfl, rfl, rfl⟩ := hr
              refine read_bad3 a0 w hs h2 hne hno hyes k1 k2 ?_
              rw [h0, bne_iff_ne]
              intro h9
              exact cl (UInt8.toNat_inj.mp (by omega))
        · by_cases c34 : c = 34
          · rw [if_pos (Or.inr c34)] at hr
            have k1 : ((a0[0].toNat : Int) == 39) = false := by rw [h0, c34]; decide
            have k2 : ((a0[0].toNat : Int) == 34) = true := by rw [h0, c34]; decide
            by_cases ct : t = []
            · rw [if_pos (Or.inl ct)] at hr
              simp only [Prod.mk.injEq] at hr
              obtain ⟨rfl, rfl, rfl, rfl⟩ := hr
              exact read_bad2 a0 w hs (hsz1 ct) hs0 hne hno hyes k1 k2
            · have h2 := hsz2 ct
              by_cases cl : a0[a0.size - 1]'(by omega) = c
              · rw [if_neg (by rw [hlast h2, cl]; simp [ct])] at hr
                simp only [Prod.mk.injEq] at hr
                obtain ⟨rfl, rfl, rfl, rfl⟩ := hr
                have := read_quoted2 a0 w hs h2 hne hno hyes k1 k2 (by rw [cl, h0]; simp)
                rw [hmid, h0] at this
                rw [if_neg c39]
                exact this
              · rw [if_pos (Or.inr (by rw [hlast h2]; simpa using cl))] at hr
                simp only [Prod.mk.injEq] at hr
                obtain ⟨rfl, rfl, rfl, rfl⟩ := hr
                refine read_bad4 a0 w hs h2 hne hno hyes k1 k2 ?_
                rw [h0, bne_iff_ne]
                intro h9
                exact cl (UInt8.toNat_inj.mp (by omega))
          · rw [if_neg (by rintro (h1 | h1); exact c39 h1; exact c34 h1)] at hr
            simp only [Prod.mk.injEq] at hr
            obtain ⟨rfl, rfl, rfl, rfl⟩ := hr
            have := read_num a0 w hG hs hs0 hne hno hyes (by rw [h0]; exact (hi c 39 (by omega)).trans (by simpa using c39)) (by rw [h0]; exact (hi c 34 (by omega)).trans (by simpa using c34))
            rw [hl] at this
            exact this
end Go.Proofs.YtnedhbnbhedgeaaDoor
