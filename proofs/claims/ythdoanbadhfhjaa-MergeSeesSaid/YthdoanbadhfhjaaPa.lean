/- The plain laws of merge, part a: the order of entries; rows that stand; what is put in. -/
import Derived.Test.YthdoanbadhfhjaaPAllx0
import Derived.Lib.Bytealg
namespace Go.Proofs.Ythdoanbadhfhjaa.Mrg
open Go.Proofs.Ythdoanbadhfhjaa.PAll

/-! ### Keys -/
theorem cmp_or : ∀ (a b : List UInt8), Lib.compareBytes a b = -1 ∨ Lib.compareBytes a b = 0 ∨ Lib.compareBytes a b = 1
  | [], [] => by simp [Lib.compareBytes]
  | [], _ :: _ => by simp [Lib.compareBytes]
  | _ :: _, [] => by simp [Lib.compareBytes]
  | a :: l, b :: m => by
    have ih := cmp_or l m
    simp only [Lib.compareBytes]
    split
    · simp
    · split
      · simp
      · exact ih
theorem cmp_zero : ∀ (a b : List UInt8), Lib.compareBytes a b = 0 ↔ a = b
  | [], [] => by simp [Lib.compareBytes]
  | [], _ :: _ => by simp [Lib.compareBytes]
  | _ :: _, [] => by simp [Lib.compareBytes]
  | a :: l, b :: m => by
    have ih := cmp_zero l m
    simp only [Lib.compareBytes, List.cons.injEq]
    split
    · rename_i h
      constructor
      · intro e; cases e
      · rintro ⟨rfl, _⟩; exact absurd h (UInt8.lt_irrefl a)
    · rename_i h
      split
      · rename_i h2
        constructor
        · intro e; cases e
        · rintro ⟨rfl, _⟩; exact absurd h2 (UInt8.lt_irrefl a)
      · rename_i h2
        have : a = b := UInt8.le_antisymm (UInt8.not_lt.mp h2) (UInt8.not_lt.mp h)
        rw [ih]
        exact ⟨fun e => ⟨this, e⟩, fun e => e.2⟩
theorem cmp_self (a : List UInt8) : Lib.compareBytes a a = 0 := (cmp_zero a a).mpr rfl
theorem cmp_flip : ∀ (a b : List UInt8), Lib.compareBytes a b = - Lib.compareBytes b a
  | [], [] => by simp [Lib.compareBytes]
  | [], _ :: _ => by simp [Lib.compareBytes]
  | _ :: _, [] => by simp [Lib.compareBytes]
  | a :: l, b :: m => by
    have ih := cmp_flip l m
    simp only [Lib.compareBytes]
    by_cases h : a < b
    · have h2 : ¬ b < a := fun h2 => absurd (UInt8.lt_trans h h2) (UInt8.lt_irrefl a)
      simp [h, h2]
    · by_cases h2 : b < a
      · simp [h, h2]
      · simp [h, h2, ih]
theorem cmp_trans : ∀ (a b c : List UInt8), Lib.compareBytes a b < 0 → Lib.compareBytes b c < 0 → Lib.compareBytes a c < 0
  | [], [], _ => by simp [Lib.compareBytes]
  | [], _ :: _, [] => by simp [Lib.compareBytes]
  | [], _ :: _, _ :: _ => by simp [Lib.compareBytes]
  | _ :: _, [], _ => by simp [Lib.compareBytes]
  | _ :: _, _ :: _, [] => by simp [Lib.compareBytes]
  | a :: l, b :: m, c :: n => by
    have ih := cmp_trans l m n
    simp only [Lib.compareBytes]
    intro h1 h2
    by_cases x1 : a < b
    · by_cases x2 : b < c
      · rw [if_pos (UInt8.lt_trans x1 x2)]; decide
      · rw [if_neg x2] at h2
        by_cases x3 : c < b
        · rw [if_pos x3] at h2; exact absurd h2 (by decide)
        · have : b = c := UInt8.le_antisymm (UInt8.not_lt.mp x3) (UInt8.not_lt.mp x2)
          subst this
          rw [if_pos x1]; decide
    · rw [if_neg x1] at h1
      by_cases x3 : b < a
      · rw [if_pos x3] at h1; exact absurd h1 (by decide)
      · have : a = b := UInt8.le_antisymm (UInt8.not_lt.mp x3) (UInt8.not_lt.mp x1)
        subst this
        rw [if_neg x3] at h1
        by_cases x2 : a < c
        · rw [if_pos x2]; decide
        · rw [if_neg x2] at h2 ⊢
          by_cases x4 : c < a
          · rw [if_pos x4] at h2; exact absurd h2 (by decide)
          · rw [if_neg x4] at h2 ⊢
            exact ih h1 h2

/-! ### Entries -/
/-- How the keys of two entries stand. -/
def kc (a b : S36) : Int := Lib.compareBytes a.f0.data.toList b.f0.data.toList
theorem kc_zero (a b : S36) : kc a b = 0 ↔ a.f0 = b.f0 := by
  unfold kc
  rw [cmp_zero]
  constructor
  · intro h
    have h2 : a.f0.data = b.f0.data := Array.toList_inj.mp h
    cases ha : a.f0; cases hb : b.f0
    rw [ha, hb] at h2
    exact congrArg _ h2
  · intro h; rw [h]
theorem kc_flip (a b : S36) : kc a b = - kc b a := cmp_flip _ _
theorem kc_or (a b : S36) : kc a b = -1 ∨ kc a b = 0 ∨ kc a b = 1 := cmp_or _ _
theorem kc_trans {a b c : S36} (h1 : kc a b < 0) (h2 : kc b c < 0) : kc a c < 0 := cmp_trans _ _ _ h1 h2
theorem kc_congr {a b c : S36} (h : a.f0 = b.f0) : kc a c = kc b c := by unfold kc; rw [h]
theorem kc_congr' {a b c : S36} (h : a.f0 = b.f0) : kc c a = kc c b := by unfold kc; rw [h]
/-- The order of rows: by key; of one key the newest first. -/
def lt (a b : S36) : Bool := decide (kc a b < 0 ∨ kc a b = 0 ∧ b.f1 < a.f1)
/-- Two entries that stand alike. -/
def eqk (a b : S36) : Prop := a.f0 = b.f0 ∧ a.f1 = b.f1
theorem lt_iff (a b : S36) : lt a b = true ↔ kc a b < 0 ∨ a.f0 = b.f0 ∧ b.f1 < a.f1 := by
  unfold lt; rw [decide_eq_true_iff, kc_zero]
theorem lt_irrefl (a : S36) : ¬ lt a a = true := by
  rw [lt_iff]
  have := (kc_zero a a).mpr rfl
  omega
theorem lt_trans {a b c : S36} (h1 : lt a b = true) (h2 : lt b c = true) : lt a c = true := by
  rw [lt_iff] at *
  rcases h1 with h1 | ⟨e1, h1⟩
  · rcases h2 with h2 | ⟨e2, h2⟩
    · exact .inl (kc_trans h1 h2)
    · exact .inl (by rw [← kc_congr' e2]; exact h1)
  · rcases h2 with h2 | ⟨e2, h2⟩
    · exact .inl (by rw [kc_congr e1]; exact h2)
    · exact .inr ⟨e1.trans e2, by omega⟩
theorem lt_asymm {a b : S36} (h1 : lt a b = true) : ¬ lt b a = true := fun h2 => lt_irrefl a (lt_trans h1 h2)
theorem lt_tri (a b : S36) : lt a b = true ∨ lt b a = true ∨ eqk a b := by
  rw [lt_iff, lt_iff]
  unfold eqk
  have h1 := kc_or a b
  have h2 := kc_flip a b
  have h3 := kc_zero a b
  rcases h1 with h | h | h
  · exact .inl (.inl (by omega))
  · have he := h3.mp h
    rcases Int.lt_trichotomy a.f1 b.f1 with g | g | g
    · exact .inr (.inl (.inr ⟨he.symm, g⟩))
    · exact .inr (.inr ⟨he, g⟩)
    · exact .inl (.inr ⟨he, g⟩)
  · exact .inr (.inl (.inl (by omega)))
theorem eqk_refl (a : S36) : eqk a a := ⟨rfl, rfl⟩
theorem eqk_symm {a b : S36} (h : eqk a b) : eqk b a := ⟨h.1.symm, h.2.symm⟩
theorem eqk_trans {a b c : S36} (h : eqk a b) (g : eqk b c) : eqk a c := ⟨h.1.trans g.1, h.2.trans g.2⟩
theorem eqk_not_lt {a b : S36} (h : eqk a b) : ¬ lt a b = true := by
  rw [lt_iff]
  have := (kc_zero a b).mpr h.1
  have := h.2
  omega
theorem not_eqk_of_lt {a b : S36} (h : lt a b = true) : ¬ eqk a b := fun e => eqk_not_lt e h
theorem eqk_of_not {a b : S36} (h1 : ¬ lt a b = true) (h2 : ¬ lt b a = true) : eqk a b := by
  rcases lt_tri a b with h | h | h
  · exact absurd h h1
  · exact absurd h h2
  · exact h
theorem lt_congr {a b c : S36} (h : eqk a b) : lt a c = lt b c := by unfold lt; rw [kc_congr h.1, h.2]
theorem lt_congr' {a b c : S36} (h : eqk a b) : lt c a = lt c b := by unfold lt; rw [kc_congr' h.1, h.2]

/-! ### Rows that stand -/
def Std (l : List S36) : Prop := l.Pairwise (fun a b => lt a b = true)
theorem Std.nil : Std [] := List.Pairwise.nil
theorem Std.tail {a : S36} {l : List S36} (h : Std (a :: l)) : Std l := (List.pairwise_cons.mp h).2
theorem Std.head {a : S36} {l : List S36} (h : Std (a :: l)) : ∀ x ∈ l, lt a x = true := (List.pairwise_cons.mp h).1
theorem std_ext : ∀ {l m : List S36}, Std l → Std m → (∀ x, x ∈ l ↔ x ∈ m) → l = m
  | [], [], _, _, _ => rfl
  | [], b :: m, _, _, h => absurd ((h b).mpr (by simp)) (by simp)
  | a :: l, [], _, _, h => absurd ((h a).mp (by simp)) (by simp)
  | a :: l, b :: m, hl, hm, h => by
    have hab : a = b := by
      have h1 := (h a).mp (by simp)
      have h2 := (h b).mpr (by simp)
      rcases List.mem_cons.mp h1 with e | e
      · exact e
      · rcases List.mem_cons.mp h2 with e2 | e2
        · exact e2.symm
        · exact absurd (hl.head b e2) (lt_asymm (hm.head a e))
    subst hab
    have : l = m := std_ext hl.tail hm.tail (fun x => by
      have hx := h x
      simp only [List.mem_cons] at hx
      constructor
      · intro e
        rcases hx.mp (.inr e) with e2 | e2
        · subst e2; exact absurd (hl.head x e) (lt_irrefl x)
        · exact e2
      · intro e
        rcases hx.mpr (.inr e) with e2 | e2
        · subst e2; exact absurd (hm.head x e) (lt_irrefl x)
        · exact e2)
    rw [this]
theorem std_one {l : List S36} (h : Std l) {a b : S36} (ha : a ∈ l) (hb : b ∈ l) (e : eqk a b) : a = b := by
  induction l with
  | nil => cases ha
  | cons c l ih =>
    rcases List.mem_cons.mp ha with e1 | e1
    · rcases List.mem_cons.mp hb with e2 | e2
      · rw [e1, e2]
      · subst e1; exact absurd (h.head b e2) (eqk_not_lt e)
    · rcases List.mem_cons.mp hb with e2 | e2
      · subst e2; exact absurd (h.head a e1) (eqk_not_lt (eqk_symm e))
      · exact ih h.tail e1 e2

/-! ### What is put in -/
def ins : List S36 → S36 → List S36
  | [], e => [e]
  | a :: l, e => if lt a e then a :: ins l e else if lt e a then e :: a :: l else a :: l
theorem mem_ins {l : List S36} (hl : Std l) (e x : S36) : x ∈ ins l e ↔ x ∈ l ∨ (x = e ∧ ∀ a ∈ l, ¬ eqk a e) := by
  induction l with
  | nil => simp [ins]
  | cons a l ih =>
    have ih := ih hl.tail
    unfold ins
    by_cases h1 : lt a e = true
    · rw [if_pos h1]
      rw [List.forall_mem_cons]
      simp only [List.mem_cons, ih]
      have := not_eqk_of_lt h1
      constructor
      · rintro (h | h | h)
        · exact .inl (.inl h)
        · exact .inl (.inr h)
        · exact .inr ⟨h.1, this, h.2⟩
      · rintro ((h | h) | h)
        · exact .inl h
        · exact .inr (.inl h)
        · exact .inr (.inr ⟨h.1, h.2.2⟩)
    · rw [if_neg h1]
      by_cases h2 : lt e a = true
      · rw [if_pos h2]
        have h3 : ∀ b ∈ a :: l, ¬ eqk b e := by
          intro b hb he
          rcases List.mem_cons.mp hb with rfl | hb
          · exact not_eqk_of_lt h2 (eqk_symm he)
          · exact not_eqk_of_lt (lt_trans h2 (hl.head b hb)) (eqk_symm he)
        simp only [List.mem_cons]
        constructor
        · rintro (h | h | h)
          · exact .inr ⟨h, fun b hb => h3 b (List.mem_cons.mpr hb)⟩
          · exact .inl (.inl h)
          · exact .inl (.inr h)
        · rintro ((h | h) | h)
          · exact .inr (.inl h)
          · exact .inr (.inr h)
          · exact .inl h.1
      · rw [if_neg h2]
        constructor
        · exact fun h => .inl h
        · rintro (h | h)
          · exact h
          · exact absurd (eqk_of_not h1 h2) (h.2 a (by simp))
theorem std_ins {l : List S36} (hl : Std l) (e : S36) : Std (ins l e) := by
  induction l with
  | nil => exact List.pairwise_singleton _ _
  | cons a l ih =>
    have ih := ih hl.tail
    have hm := fun x => mem_ins hl.tail e x
    unfold ins
    by_cases h1 : lt a e = true
    · rw [if_pos h1]
      refine List.pairwise_cons.mpr ⟨fun x hx => ?_, ih⟩
      rcases (hm x).mp hx with h | h
      · exact hl.head x h
      · rw [h.1]; exact h1
    · rw [if_neg h1]
      by_cases h2 : lt e a = true
      · rw [if_pos h2]
        refine List.pairwise_cons.mpr ⟨fun x hx => ?_, hl⟩
        rcases List.mem_cons.mp hx with rfl | h
        · exact h2
        · exact lt_trans h2 (hl.head x h)
      · rw [if_neg h2]; exact hl
/-- x is the first of those of a row that stand alike. -/
def fst1 : List S36 → S36 → Prop
  | [], _ => False
  | e :: l, x => x = e ∨ (¬ eqk e x ∧ fst1 l x)
theorem std_fold {M : List S36} : ∀ {A : List S36}, Std A → Std (M.foldl ins A) := by
  induction M with
  | nil => exact fun h => h
  | cons e M ih => exact fun h => ih (std_ins h e)
theorem mem_fold {M : List S36} : ∀ {A : List S36}, Std A → ∀ x, x ∈ M.foldl ins A ↔ x ∈ A ∨ (fst1 M x ∧ ∀ a ∈ A, ¬ eqk a x) := by
  induction M with
  | nil => intro A _ x; simp [fst1]
  | cons e M ih =>
    intro A hA x
    rw [List.foldl_cons, ih (std_ins hA e) x, mem_ins hA]
    have hm : (∀ a ∈ ins A e, ¬ eqk a x) ↔ (∀ a ∈ A, ¬ eqk a x) ∧ ((∀ a ∈ A, ¬ eqk a e) → ¬ eqk e x) := by
      constructor
      · intro h
        exact ⟨fun a ha => h a ((mem_ins hA e a).mpr (.inl ha)), fun g => h e ((mem_ins hA e e).mpr (.inr ⟨rfl, g⟩))⟩
      · rintro ⟨h, g⟩ a ha
        rcases (mem_ins hA e a).mp ha with h1 | h1
        · exact h a h1
        · rw [h1.1]; exact g h1.2
    rw [hm]
    simp only [fst1]
    constructor
    · rintro ((h | ⟨rfl, h⟩) | ⟨h1, h2, h3⟩)
      · exact .inl h
      · exact .inr ⟨.inl rfl, h⟩
      · refine .inr ⟨.inr ⟨?_, h1⟩, h2⟩
        intro he
        exact h3 (fun a ha g => h2 a ha (eqk_trans g he)) he
    · rintro (h | ⟨(rfl | ⟨h1, h2⟩), h3⟩)
      · exact .inl (.inl h)
      · exact .inl (.inr ⟨rfl, h3⟩)
      · exact .inr ⟨h2, h3, fun _ => h1⟩
theorem fst1_std {l : List S36} (h : Std l) (x : S36) : fst1 l x ↔ x ∈ l := by
  induction l with
  | nil => simp [fst1]
  | cons a l ih =>
    simp only [fst1, List.mem_cons, ih h.tail]
    constructor
    · rintro (h1 | h1)
      · exact .inl h1
      · exact .inr h1.2
    · rintro (h1 | h1)
      · exact .inl h1
      · exact .inr ⟨not_eqk_of_lt (h.head x h1), h1⟩
/-- The row of some entries. -/
def row (M : List S36) : List S36 := M.foldl ins []
theorem std_row (M : List S36) : Std (row M) := std_fold Std.nil
theorem mem_row (M : List S36) (x : S36) : x ∈ row M ↔ fst1 M x := by
  unfold row; rw [mem_fold Std.nil]; simp
theorem fold_row {A : List S36} (hA : Std A) (M : List S36) : (row M).foldl ins A = M.foldl ins A := by
  refine std_ext (std_fold hA) (std_fold hA) (fun x => ?_)
  rw [mem_fold hA, mem_fold hA, fst1_std (std_row M), mem_row]
theorem row_std {l : List S36} (h : Std l) : row l = l := std_ext (std_row l) h (fun x => by rw [mem_row, fst1_std h])
theorem row_append (A B : List S36) : row (A ++ B) = (row B).foldl ins (row A) := by
  rw [fold_row (std_row A)]; unfold row; rw [List.foldl_append]
theorem fst1_mem {l : List S36} {x : S36} (h : fst1 l x) : x ∈ l := by
  induction l with
  | nil => exact h.elim
  | cons a l ih =>
    rcases h with h | h
    · rw [h]; simp
    · exact List.mem_cons_of_mem _ (ih h.2)
theorem fst1_ex {l : List S36} {x : S36} (h : x ∈ l) : ∃ y, fst1 l y ∧ eqk y x := by
  induction l with
  | nil => cases h
  | cons a l ih =>
    by_cases e : eqk a x
    · exact ⟨a, .inl rfl, e⟩
    · rcases List.mem_cons.mp h with rfl | h
      · exact absurd (eqk_refl _) e
      · obtain ⟨y, h1, h2⟩ := ih h
        refine ⟨y, .inr ⟨fun g => e (eqk_trans g h2), h1⟩, h2⟩

/-! ### Two rows as one -/
def two : List S36 → List S36 → List S36
  | [], b => b
  | x :: a, [] => x :: a
  | x :: a, y :: b => if lt x y then x :: two a (y :: b) else if lt y x then y :: two (x :: a) b else two (x :: a) b
termination_by a b => a.length + b.length
theorem mem_two : ∀ (a b : List S36), Std a → Std b → ∀ x, x ∈ two a b ↔ x ∈ a ∨ (x ∈ b ∧ ∀ y ∈ a, ¬ eqk y x)
  | [], b, _, _, x => by simp [two]
  | x :: a, [], _, _, z => by simp [two]
  | x :: a, y :: b, ha, hb, z => by
    unfold two
    by_cases h1 : lt x y = true
    · rw [if_pos h1, List.mem_cons, mem_two a (y :: b) ha.tail hb z]
      simp only [List.forall_mem_cons]
      have h3 : z ∈ y :: b → ¬ eqk x z := by
        intro hz
        rcases List.mem_cons.mp hz with rfl | hz
        · exact not_eqk_of_lt h1
        · exact not_eqk_of_lt (lt_trans h1 (hb.head z hz))
      constructor
      · rintro (h | h | h)
        · exact .inl (by simp [h])
        · exact .inl (by simp [h])
        · exact .inr ⟨h.1, h3 h.1, h.2⟩
      · rintro (h | h)
        · rcases List.mem_cons.mp h with h | h
          · exact .inl h
          · exact .inr (.inl h)
        · exact .inr (.inr ⟨h.1, h.2.2⟩)
    · rw [if_neg h1]
      by_cases h2 : lt y x = true
      · rw [if_pos h2, List.mem_cons, mem_two (x :: a) b ha hb.tail z]
        have h3 : ∀ w ∈ x :: a, ¬ eqk w y := by
          intro w hw e
          rcases List.mem_cons.mp hw with rfl | hw
          · exact not_eqk_of_lt h2 (eqk_symm e)
          · exact not_eqk_of_lt (lt_trans h2 (ha.head w hw)) (eqk_symm e)
        constructor
        · rintro (h | h | h)
          · subst h; exact .inr ⟨by simp, h3⟩
          · exact .inl h
          · exact .inr ⟨by simp [h.1], h.2⟩
        · rintro (h | h)
          · exact .inr (.inl h)
          · rcases List.mem_cons.mp h.1 with e | e
            · exact .inl e
            · exact .inr (.inr ⟨e, h.2⟩)
      · rw [if_neg h2, mem_two (x :: a) b ha hb.tail z]
        constructor
        · rintro (h | h)
          · exact .inl h
          · exact .inr ⟨by simp [h.1], h.2⟩
        · rintro (h | h)
          · exact .inl h
          · rcases List.mem_cons.mp h.1 with e | e
            · subst e; exact absurd (eqk_of_not h1 h2) (h.2 x (by simp))
            · exact .inr ⟨e, h.2⟩
termination_by a b => a.length + b.length
theorem std_two : ∀ (a b : List S36), Std a → Std b → Std (two a b)
  | [], b, _, hb => by unfold two; exact hb
  | x :: a, [], ha, _ => by unfold two; exact ha
  | x :: a, y :: b, ha, hb => by
    unfold two
    by_cases h1 : lt x y = true
    · rw [if_pos h1]
      refine List.pairwise_cons.mpr ⟨fun z hz => ?_, std_two a (y :: b) ha.tail hb⟩
      rcases (mem_two a (y :: b) ha.tail hb z).mp hz with h | h
      · exact ha.head z h
      · rcases List.mem_cons.mp h.1 with rfl | e
        · exact h1
        · exact lt_trans h1 (hb.head z e)
    · rw [if_neg h1]
      by_cases h2 : lt y x = true
      · rw [if_pos h2]
        refine List.pairwise_cons.mpr ⟨fun z hz => ?_, std_two (x :: a) b ha hb.tail⟩
        rcases (mem_two (x :: a) b ha hb.tail z).mp hz with h | h
        · rcases List.mem_cons.mp h with rfl | e
          · exact h2
          · exact lt_trans h2 (ha.head z e)
        · exact hb.head z h.1
      · rw [if_neg h2]; exact std_two (x :: a) b ha hb.tail
termination_by a b => a.length + b.length
theorem two_eq {a b : List S36} (ha : Std a) (hb : Std b) : two a b = b.foldl ins a := by
  refine std_ext (std_two a b ha hb) (std_fold ha) (fun x => ?_)
  rw [mem_two a b ha hb, mem_fold ha, fst1_std hb]
theorem two_row (A B : List S36) : two (row A) (row B) = row (A ++ B) := by rw [two_eq (std_row A) (std_row B), row_append]
end Go.Proofs.Ythdoanbadhfhjaa.Mrg
