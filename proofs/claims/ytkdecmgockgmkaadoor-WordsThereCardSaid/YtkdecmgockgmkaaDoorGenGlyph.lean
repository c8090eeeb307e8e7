/- The plain law of characters in bytes: how many bytes the character at a place has, the places where characters start, columns, and what fills a width; no program in sight. -/
import Derived.Test.YtkdecmgockgmkaaDoorGenBase
import Derived.Lib.DecodeNEq
namespace Go.Proofs.YtkdecmgockgmkaaDoor.Gen
set_option linter.unusedVariables false
set_option linter.unusedSimpArgs false
open Go Go.RowKit

def cont (c : Int) : Prop := 128 ≤ c ∧ c ≤ 191
instance (c : Int) : Decidable (cont c) := inferInstanceAs (Decidable (128 ≤ c ∧ c ≤ 191))
/-- The bytes that a first byte calls for. -/
def need (b : Int) : Nat := if 194 ≤ b ∧ b ≤ 223 then 2 else if 224 ≤ b ∧ b ≤ 239 then 3 else if 240 ≤ b ∧ b ≤ 244 then 4 else 1
def lo2 (b : Int) : Int := if b = 224 then 160 else if b = 240 then 144 else 128
def hi2 (b : Int) : Int := if b = 237 then 159 else if b = 244 then 143 else 191
/-- The character's bytes at the head of a list. -/
def gsz : List Int → Nat
  | [] => 0
  | [_] => 1
  | [b, c] => if need b = 2 ∧ lo2 b ≤ c ∧ c ≤ hi2 b then 2 else 1
  | [b, c, d] => if need b = 2 ∧ lo2 b ≤ c ∧ c ≤ hi2 b then 2 else if need b = 3 ∧ lo2 b ≤ c ∧ c ≤ hi2 b ∧ cont d then 3 else 1
  | b :: c :: d :: e :: _ => if need b = 2 ∧ lo2 b ≤ c ∧ c ≤ hi2 b then 2 else if need b = 3 ∧ lo2 b ≤ c ∧ c ≤ hi2 b ∧ cont d then 3 else if need b = 4 ∧ lo2 b ≤ c ∧ c ≤ hi2 b ∧ cont d ∧ cont e then 4 else 1

theorem lo2_ge (b : Int) : 128 ≤ lo2 b := by unfold lo2; (repeat' split) <;> omega
theorem hi2_le (b : Int) : hi2 b ≤ 191 := by unfold hi2; (repeat' split) <;> omega
theorem need_cont {b : Int} (h : cont b) : need b = 1 := by unfold cont at h; unfold need; (repeat' split) <;> omega

theorem gsz_le (q : List Int) : gsz q ≤ q.length ∧ gsz q ≤ 4 := by
  match q with
  | [] => simp [gsz]
  | [_] => simp [gsz]
  | [b, c] => simp only [gsz, List.length_cons, List.length_nil]; split <;> omega
  | [b, c, d] => simp only [gsz, List.length_cons, List.length_nil]; (repeat' split) <;> omega
  | b :: c :: d :: e :: t => simp only [gsz, List.length_cons]; (repeat' split) <;> omega

theorem gsz_pos {q : List Int} (h : q ≠ []) : 1 ≤ gsz q := by
  match q with
  | [] => exact absurd rfl h
  | [_] => simp [gsz]
  | [b, c] => simp only [gsz]; split <;> omega
  | [b, c, d] => simp only [gsz]; (repeat' split) <;> omega
  | b :: c :: d :: e :: t => simp only [gsz]; (repeat' split) <;> omega

theorem gsz_of_cont {b : Int} {t : List Int} (h : cont b) : gsz (b :: t) = 1 := by
  have hn := need_cont h
  match t with
  | [] => rfl
  | [c] => simp [gsz, hn]
  | [c, d] => simp [gsz, hn]
  | c :: d :: e :: t => simp [gsz, hn]

theorem gsz_cont (q : List Int) (i : Nat) (h1 : 1 ≤ i) (h2 : i < gsz q) : ∃ h : i < q.length, cont q[i] := by
  have hl := (gsz_le q).1
  refine ⟨by omega, ?_⟩
  match q with
  | [] => simp [gsz] at h2
  | [_] => simp only [gsz] at h2; omega
  | [b, c] =>
    have := lo2_ge b; have := hi2_le b
    simp only [gsz] at h2; split at h2
    · have : i = 1 := by omega
      subst this; unfold cont; simp; omega
    · omega
  | [b, c, d] =>
    have := lo2_ge b; have := hi2_le b
    simp only [gsz] at h2
    repeat' split at h2
    · have : i = 1 := by omega
      subst this; unfold cont; simp; omega
    · rename_i h3
      have : i = 1 ∨ i = 2 := by omega
      rcases this with rfl | rfl
      · unfold cont; simp; omega
      · exact h3.2.2.2
    · omega
  | b :: c :: d :: e :: t =>
    have := lo2_ge b; have := hi2_le b
    simp only [gsz] at h2
    repeat' split at h2
    · have : i = 1 := by omega
      subst this; unfold cont; simp; omega
    · rename_i h3
      have : i = 1 ∨ i = 2 := by omega
      rcases this with rfl | rfl
      · unfold cont; simp; omega
      · exact h3.2.2.2
    · rename_i h3
      have : i = 1 ∨ i = 2 ∨ i = 3 := by omega
      rcases this with rfl | rfl | rfl
      · unfold cont; simp; omega
      · exact h3.2.2.2.1
      · exact h3.2.2.2.2
    · omega

theorem gsz_append (q r : List Int) (h : 2 ≤ gsz q) : gsz (q ++ r) = gsz q := by
  match q with
  | [] => simp [gsz] at h
  | [_] => simp only [gsz] at h; omega
  | [b, c] =>
    simp only [gsz] at h ⊢; split at h
    · rename_i h3
      rw [if_pos h3]
      match r with
      | [] => simp [h3, gsz]
      | [x] => simp [h3, gsz]
      | x :: y :: r => simp [h3, gsz]
    · omega
  | [b, c, d] =>
    simp only [gsz] at h ⊢
    match r with
    | [] => simp [gsz]
    | x :: r =>
      simp only [List.cons_append, List.nil_append, gsz]
      repeat' split
      all_goals first | rfl | (exfalso; repeat' split at h <;> omega) | omega
      all_goals simp_all
  | b :: c :: d :: e :: t => simp only [List.cons_append, gsz]

theorem gsz_take (q : List Int) (m : Nat) (h : gsz q ≤ m) : gsz (q.take m) = gsz q := by
  by_cases h0 : q = []
  · subst h0; simp
  · have hp := gsz_pos h0
    have hl := gsz_le q
    have hne : q.take m ≠ [] := by
      intro e
      rcases List.take_eq_nil_iff.1 e with e | e
      · omega
      · exact h0 e
    have hp' := gsz_pos hne
    by_cases h2 : 2 ≤ gsz (q.take m)
    · have := gsz_append _ (q.drop m) h2
      rw [List.take_append_drop] at this
      omega
    · by_cases h3 : 2 ≤ gsz q
      · exfalso
        -- a whole character lies within the taken bytes
        match q, m with
        | [], _ => exact h0 rfl
        | _, 0 => omega
        | _, 1 => omega
        | [_], _ => simp only [gsz] at h3; omega
        | [b, c], m + 2 => simp only [List.take_succ_cons, List.take_nil] at h2; omega
        | [b, c, d], 2 =>
          simp only [List.take_succ_cons, List.take_zero, gsz] at h2 h3 h
          repeat' split at h3
          all_goals first | omega | simp_all
        | [b, c, d], m + 3 => simp only [List.take_succ_cons, List.take_nil] at h2; omega
        | b :: c :: d :: e :: t, 2 =>
          simp only [List.take_succ_cons, List.take_zero, gsz] at h2 h3 h
          repeat' split at h3
          all_goals first | omega | simp_all
        | b :: c :: d :: e :: t, 3 =>
          simp only [List.take_succ_cons, List.take_zero, gsz] at h2 h3 h
          repeat' split at h3
          all_goals first | omega | simp_all
        | b :: c :: d :: e :: t, m + 4 => simp only [List.take_succ_cons, gsz] at h2 h3; omega
      · omega

theorem gsz_head_cont {q : List Int} (h : 0 < q.length) (hc : cont q[0]) : gsz q = 1 := by
  cases q with
  | nil => simp at h
  | cons b t => exact gsz_of_cont hc

/-- Where a character starts, counted from the head. -/
inductive Bd (p : List Int) : Nat → Prop
  | zero : Bd p 0
  | next {x : Nat} : Bd p x → x < p.length → Bd p (x + gsz (p.drop x))

theorem gd_le (p : List Int) (x : Nat) (h : x ≤ p.length) : x + gsz (p.drop x) ≤ p.length := by
  have := (gsz_le (p.drop x)).1
  simp only [List.length_drop] at this; omega
theorem gd_pos (p : List Int) (x : Nat) (h : x < p.length) : 1 ≤ gsz (p.drop x) := gsz_pos (by simp; omega)
theorem gd_four (p : List Int) (x : Nat) : gsz (p.drop x) ≤ 4 := (gsz_le _).2

theorem Bd.le {p : List Int} {x : Nat} (h : Bd p x) : x ≤ p.length := by
  induction h with
  | zero => omega
  | next _ hx _ => exact gd_le _ _ (by omega)

/-- Every place ahead of a start lies in a character that ends by that start. -/
theorem Bd.cover {p : List Int} {x : Nat} (h : Bd p x) : ∀ i, i < x → ∃ b, Bd p b ∧ b ≤ i ∧ i < b + gsz (p.drop b) ∧ b + gsz (p.drop b) ≤ x := by
  induction h with
  | zero => intro i hi; omega
  | @next y hy hl ih =>
    intro i hi
    by_cases h : i < y
    · obtain ⟨b, h1, h2, h3, h4⟩ := ih i h
      exact ⟨b, h1, h2, h3, by omega⟩
    · exact ⟨y, hy, by omega, hi, Nat.le_refl _⟩

theorem cont_in {p : List Int} {b i : Nat} (h1 : b < i) (h2 : i < b + gsz (p.drop b)) : ∃ h : i < p.length, cont p[i] := by
  obtain ⟨h, hc⟩ := gsz_cont (p.drop b) (i - b) (by omega) (by omega)
  simp only [List.length_drop] at h
  refine ⟨by omega, ?_⟩
  rw [List.getElem_drop] at hc
  simp only [show b + (i - b) = i by omega] at hc
  exact hc

theorem gd_cont {p : List Int} {i : Nat} (h : i < p.length) (hc : cont p[i]) : gsz (p.drop i) = 1 := by
  rw [drop_at p i h]; exact gsz_of_cont hc

/-- No character ahead of a start reaches past it. -/
theorem Bd.clear {p : List Int} {x : Nat} (h : Bd p x) (i : Nat) (hi : i < x) : i + gsz (p.drop i) ≤ x := by
  obtain ⟨b, h1, h2, h3, h4⟩ := h.cover i hi
  rcases Nat.lt_or_ge b i with hb | hb
  · obtain ⟨hl, hc⟩ := cont_in hb h3
    rw [gd_cont hl hc]; omega
  · have : b = i := by omega
    subst this; exact h4

/-- The starts are told by the same bytes when later bytes are cut off at a start. -/
theorem Bd.take {p : List Int} {x : Nat} (h : Bd p x) {b : Nat} (hb : Bd p b) (hbx : b ≤ x) : Bd (p.take x) b := by
  induction hb with
  | zero => exact .zero
  | @next y hy hl ih =>
    have hxl := h.le
    have hlt : y < x := by have := gd_pos p y hl; omega
    have hc := h.clear y hlt
    have e : gsz ((p.take x).drop y) = gsz (p.drop y) := by
      rw [List.drop_take]; exact gsz_take _ _ (by omega)
    have := Bd.next (p := p.take x) (ih (by omega)) (by simp only [List.length_take]; omega)
    rw [e] at this
    exact this

/-- How many bytes the last character has. -/
def lsz (q : List Int) : Nat :=
  if q = [] then 0
  else if 2 ≤ q.length ∧ gsz (q.drop (q.length - 2)) = 2 then 2
  else if 3 ≤ q.length ∧ gsz (q.drop (q.length - 3)) = 3 then 3
  else if 4 ≤ q.length ∧ gsz (q.drop (q.length - 4)) = 4 then 4
  else 1

theorem lsz_bd {p : List Int} {x : Nat} (h : Bd p x) (hx : x < p.length) : lsz (p.take (x + gsz (p.drop x))) = gsz (p.drop x) := by
  have hp := gd_pos p x hx
  have hf := gd_four p x
  have hle := gd_le p x (by omega)
  have hnx := h.next hx
  generalize hn : gsz (p.drop x) = n at *
  have hlen : (p.take (x + n)).length = x + n := by simp only [List.length_take]; omega
  have hne : p.take (x + n) ≠ [] := by intro e; rw [e] at hlen; simp at hlen; omega
  have key : ∀ m, 2 ≤ m → m ≤ x + n → gsz ((p.take (x + n)).drop (x + n - m)) = m → m = n := by
    intro m h1 h2 h3
    rw [List.drop_take] at h3
    have h4 := gsz_append ((p.drop (x + n - m)).take (x + n - (x + n - m))) ((p.drop (x + n - m)).drop (x + n - (x + n - m))) (by omega)
    rw [List.take_append_drop, h3] at h4
    rcases Nat.lt_trichotomy m n with hm | hm | hm
    · obtain ⟨hl, hc⟩ := cont_in (p := p) (b := x) (i := x + n - m) (by omega) (by omega)
      rw [gd_cont hl hc] at h4; omega
    · exact hm
    · have := h.clear (x + n - m) (by omega)
      rw [h4] at this; omega
  have self : 2 ≤ n → gsz ((p.take (x + n)).drop (x + n - n)) = n := by
    intro _
    rw [List.drop_take, show x + n - n = x by omega, show x + n - x = n by omega, gsz_take _ _ (by omega), hn]
  unfold lsz
  rw [if_neg hne, hlen]
  by_cases c2 : 2 ≤ x + n ∧ gsz ((p.take (x + n)).drop (x + n - 2)) = 2
  · rw [if_pos c2]; exact key 2 (by omega) c2.1 c2.2
  · rw [if_neg c2]
    by_cases c3 : 3 ≤ x + n ∧ gsz ((p.take (x + n)).drop (x + n - 3)) = 3
    · rw [if_pos c3]; exact key 3 (by omega) c3.1 c3.2
    · rw [if_neg c3]
      by_cases c4 : 4 ≤ x + n ∧ gsz ((p.take (x + n)).drop (x + n - 4)) = 4
      · rw [if_pos c4]; exact key 4 (by omega) c4.1 c4.2
      · rw [if_neg c4]
        have : n = 1 ∨ n = 2 ∨ n = 3 ∨ n = 4 := by omega
        rcases this with rfl | rfl | rfl | rfl
        · rfl
        · exact absurd ⟨by omega, self (by omega)⟩ c2
        · exact absurd ⟨by omega, self (by omega)⟩ c3
        · exact absurd ⟨by omega, self (by omega)⟩ c4

/-- Where the character that a place lies in starts. -/
def flo (p : List Int) (a : Nat) : Nat :=
  if 1 ≤ a ∧ a < a - 1 + gsz (p.drop (a - 1)) then a - 1
  else if 2 ≤ a ∧ a < a - 2 + gsz (p.drop (a - 2)) then a - 2
  else if 3 ≤ a ∧ a < a - 3 + gsz (p.drop (a - 3)) then a - 3
  else a

theorem flo_bd {p : List Int} {b : Nat} (h : Bd p b) (hb : b < p.length) (a : Nat) (h1 : b ≤ a) (h2 : a < b + gsz (p.drop b)) : flo p a = b := by
  have hf := gd_four p b
  have none : ∀ j, 1 ≤ j → j ≤ a → a < a - j + gsz (p.drop (a - j)) → a - j = b := by
    intro j h3 h4 h5
    rcases Nat.lt_trichotomy (a - j) b with h6 | h6 | h6
    · have := h.clear (a - j) h6; omega
    · exact h6
    · obtain ⟨hl, hc⟩ := cont_in (p := p) (b := b) (i := a - j) h6 (by omega)
      rw [gd_cont hl hc] at h5; omega
  unfold flo
  by_cases c1 : 1 ≤ a ∧ a < a - 1 + gsz (p.drop (a - 1))
  · rw [if_pos c1]; exact none 1 (by omega) c1.1 c1.2
  · rw [if_neg c1]
    by_cases c2 : 2 ≤ a ∧ a < a - 2 + gsz (p.drop (a - 2))
    · rw [if_pos c2]; exact none 2 (by omega) c2.1 c2.2
    · rw [if_neg c2]
      by_cases c3 : 3 ≤ a ∧ a < a - 3 + gsz (p.drop (a - 3))
      · rw [if_pos c3]; exact none 3 (by omega) c3.1 c3.2
      · rw [if_neg c3]
        have : a = b ∨ a = b + 1 ∨ a = b + 2 ∨ a = b + 3 := by omega
        rcases this with h | h | h | h
        · exact h
        · exact absurd ⟨by omega, by rw [show a - 1 = b by omega]; omega⟩ c1
        · exact absurd ⟨by omega, by rw [show a - 2 = b by omega]; omega⟩ c2
        · exact absurd ⟨by omega, by rw [show a - 3 = b by omega]; omega⟩ c3

theorem flo_self {p : List Int} {b : Nat} (h : Bd p b) : flo p b = b := by
  unfold flo
  rw [if_neg (fun c => by have := h.clear (b - 1) (by omega); omega), if_neg (fun c => by have := h.clear (b - 2) (by omega); omega), if_neg (fun c => by have := h.clear (b - 3) (by omega); omega)]

/-- The starts of the characters, from a place on. -/
def startsF : Nat → List Int → Nat → List Nat
  | 0, _, _ => []
  | n + 1, p, x => if x < p.length then x :: startsF n p (x + gsz (p.drop x)) else []
def starts (p : List Int) : List Nat := startsF p.length p 0

theorem startsF_fuel (p : List Int) (n : Nat) : ∀ (m x : Nat), p.length ≤ x + n → p.length ≤ x + m → startsF n p x = startsF m p x := by
  induction n with
  | zero =>
    intro m x h1 h2
    cases m with
    | zero => rfl
    | succ m => simp only [startsF]; rw [if_neg (by omega)]
  | succ n ih =>
    intro m x h1 h2
    cases m with
    | zero => simp only [startsF]; rw [if_neg (by omega)]
    | succ m =>
      simp only [startsF]
      by_cases h : x < p.length
      · have := gd_pos p x h
        rw [if_pos h, if_pos h, ih m _ (by omega) (by omega)]
      · rw [if_neg h, if_neg h]

/-- All starts, each with its character. -/
theorem Bd.end_ (p : List Int) : Bd p p.length := by
  have : ∀ n x, Bd p x → p.length ≤ x + n → Bd p p.length := by
    intro n
    induction n with
    | zero => intro x h h1; have := h.le; rwa [show p.length = x by omega]
    | succ n ih =>
      intro x h h1
      by_cases hx : x < p.length
      · have := gd_pos p x hx
        exact ih _ (h.next hx) (by omega)
      · have := h.le; rwa [show p.length = x by omega]
  exact this p.length 0 .zero (by omega)

/-- The number of characters. -/
def cntF : Nat → List Int → Nat
  | 0, _ => 0
  | n + 1, q => if q = [] then 0 else 1 + cntF n (q.drop (gsz q))
def cnt (q : List Int) : Nat := cntF q.length q

theorem cntF_fuel (n : Nat) : ∀ (m : Nat) (q : List Int), q.length ≤ n → q.length ≤ m → cntF n q = cntF m q := by
  induction n with
  | zero =>
    intro m q h1 h2
    have : q = [] := List.eq_nil_of_length_eq_zero (by omega)
    subst this
    cases m <;> simp [cntF]
  | succ n ih =>
    intro m q h1 h2
    cases m with
    | zero =>
      have : q = [] := List.eq_nil_of_length_eq_zero (by omega)
      subst this; simp [cntF]
    | succ m =>
      simp only [cntF]
      by_cases h : q = []
      · rw [if_pos h, if_pos h]
      · have := gsz_pos h
        have : q.length ≠ 0 := fun e => h (List.eq_nil_of_length_eq_zero e)
        rw [if_neg h, if_neg h, ih m _ (by simp; omega) (by simp; omega)]

theorem cnt_nil : cnt [] = 0 := rfl
theorem cnt_cons {q : List Int} (h : q ≠ []) : cnt q = 1 + cnt (q.drop (gsz q)) := by
  have hl : q.length ≠ 0 := fun e => h (List.eq_nil_of_length_eq_zero e)
  obtain ⟨n, hn⟩ : ∃ n, q.length = n + 1 := ⟨q.length - 1, by omega⟩
  have := gsz_pos h
  unfold cnt
  rw [hn]
  simp only [cntF]
  rw [if_neg h, cntF_fuel n (q.drop (gsz q)).length _ (by simp; omega) (Nat.le_refl _)]

theorem cnt_conts (n : Nat) : ∀ q : List Int, n ≤ q.length → (∀ i (h : i < q.length), i < n → cont q[i]) → cnt q = n + cnt (q.drop n) := by
  induction n with
  | zero => intro q _ _; simp
  | succ n ih =>
    intro q hl hc
    have hne : q ≠ [] := by rintro rfl; simp at hl
    have h0 : gsz q = 1 := gsz_head_cont (by omega) (hc 0 (by omega) (by omega))
    rw [cnt_cons hne, h0, ih (q.drop 1) (by simp; omega) (fun i h hi => by
      rw [List.getElem_drop]
      exact hc (1 + i) (by simp at h; omega) (by omega)), List.drop_drop]
    rw [show 1 + n = n + 1 by omega]; omega

/-- Two texts joined have as many characters as both, or up to three fewer. -/
theorem cnt_join (n : Nat) : ∀ (a b : List Int), a.length ≤ n → cnt (a ++ b) ≤ cnt a + cnt b ∧ cnt a + cnt b ≤ cnt (a ++ b) + 3 := by
  induction n with
  | zero =>
    intro a b h
    have : a = [] := List.eq_nil_of_length_eq_zero (by omega)
    subst this; simp [cnt_nil]
  | succ n ih =>
    intro a b h
    by_cases ha : a = []
    · subst ha; simp [cnt_nil]
    · have hal : a.length ≠ 0 := fun e => ha (List.eq_nil_of_length_eq_zero e)
      have hab : a ++ b ≠ [] := by simp [ha]
      have hp := gsz_pos hab
      have hpa := gsz_pos ha
      have hl4 := gsz_le (a ++ b)
      by_cases hg : gsz (a ++ b) ≤ a.length
      · have e : gsz a = gsz (a ++ b) := by
          have := gsz_take (a ++ b) a.length hg
          rwa [List.take_left] at this
        rw [cnt_cons hab, cnt_cons ha, ← e, List.drop_append_of_le_length (by omega)]
        have := ih (a.drop (gsz a)) b (by simp; omega)
        omega
      · -- a character that begins in the one ends in the other
        have h1 : gsz a = 1 := by
          rcases Nat.lt_or_ge (gsz a) 2 with h | h
          · omega
          · have := gsz_append a b h; have := (gsz_le a).1; omega
        simp only [List.length_append] at hl4
        have ca : cnt a = a.length := by
          rw [cnt_cons ha, h1, cnt_conts (a.length - 1) (a.drop 1) (by simp) (fun i h _ => by
            obtain ⟨h', hc⟩ := gsz_cont (a ++ b) (1 + i) (by omega) (by simp at h; omega)
            rw [List.getElem_append_left (by simp at h; omega)] at hc
            rw [List.getElem_drop]; exact hc), List.drop_drop, List.drop_eq_nil_of_le (by omega), cnt_nil]
          omega
        have cb : cnt b = gsz (a ++ b) - a.length + cnt (b.drop (gsz (a ++ b) - a.length)) :=
          cnt_conts _ _ (by omega) (fun i h hi => by
            obtain ⟨h', hc⟩ := gsz_cont (a ++ b) (a.length + i) (by omega) (by omega)
            rw [List.getElem_append_right (by omega)] at hc
            simp only [show a.length + i - a.length = i by omega] at hc
            exact hc)
        have cj : cnt (a ++ b) = 1 + cnt (b.drop (gsz (a ++ b) - a.length)) := by
          rw [cnt_cons hab, List.drop_append, List.drop_eq_nil_of_le (by omega), List.nil_append]
        omega

theorem starts_cnt (p : List Int) (n : Nat) : ∀ x, x ≤ p.length → p.length ≤ x + n → (startsF n p x).length = cnt (p.drop x) := by
  induction n with
  | zero => intro x h1 h2; rw [List.drop_eq_nil_of_le (by omega)]; rfl
  | succ n ih =>
    intro x h1 h2
    simp only [startsF]
    by_cases h : x < p.length
    · have := gd_pos p x h
      have := gd_le p x h1
      rw [if_pos h, List.length_cons, ih _ (by omega) (by omega), cnt_cons (q := p.drop x) (by simp; omega), List.drop_drop]
      omega
    · rw [if_neg h, List.drop_eq_nil_of_le (by omega)]; rfl

theorem startsF_bd (p : List Int) (n : Nat) : ∀ x, Bd p x → ∀ y ∈ startsF n p x, Bd p y ∧ x ≤ y ∧ y < p.length := by
  induction n with
  | zero => intro x _ y hy; simp [startsF] at hy
  | succ n ih =>
    intro x hx y hy
    simp only [startsF] at hy
    by_cases h : x < p.length
    · rw [if_pos h, List.mem_cons] at hy
      rcases hy with rfl | hy
      · exact ⟨hx, Nat.le_refl _, h⟩
      · have := ih _ (hx.next h) y hy
        exact ⟨this.1, by omega, this.2.2⟩
    · rw [if_neg h] at hy; simp at hy

end Go.Proofs.YtkdecmgockgmkaaDoor.Gen
