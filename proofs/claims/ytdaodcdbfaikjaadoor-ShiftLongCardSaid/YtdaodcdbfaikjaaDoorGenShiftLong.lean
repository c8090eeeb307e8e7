/- Plain lemmas of this claim: no program in sight. -/
import Derived.Lib.DecodeNEq
import Derived.Test.YtdaodcdbfaikjaaDoorWMore
import Derived.Test.YtdaodcdbfaikjaaDoorWWords
namespace Go.Proofs.YtdaodcdbfaikjaaDoor.Gen
open Go Go.RowKit Go.Proofs.YtdaodcdbfaikjaaDoorW.PrintWords Go.Proofs.YtdaodcdbfaikjaaDoorW.PrintMore

theorem wid {x : Int} (h0 : -9223372036854775808 ≤ x) (h1 : x ≤ 9223372036854775807) : wrap64 x = x := by
  unfold wrap64; omega

theorem wnat {n : Nat} (h : n ≤ 9223372036854775806) : wrap64 ((n : Int) + 1) = ((n + 1 : Nat) : Int) := by
  unfold wrap64; omega

theorem wadd {a b : Nat} (h : a + b ≤ 9223372036854775806) : wrap64 ((a : Int) + (b : Int)) = ((a + b : Nat) : Int) := by
  unfold wrap64; omega

theorem wsub {a b : Nat} (h : b ≤ a) (h2 : a ≤ 9223372036854775806) : wrap64 ((a : Int) - (b : Int)) = ((a - b : Nat) : Int) := by
  unfold wrap64; omega

def Bytes (l : List Int) : Prop := ∀ x ∈ l, 0 ≤ x ∧ x ≤ 255

theorem u8_of {x : Int} (h : (Lit.int .u8 x).wf = true) : 0 ≤ x ∧ x ≤ 255 := by
  simp [Lit.wf, IntKind.min, IntKind.max, IntKind.bits, IntKind.signed] at h
  omega

theorem bytes_of {l : List Int} (h : ∀ x ∈ l, (Lit.int .u8 x).wf = true) : Bytes l := fun x hx => u8_of (h x hx)

theorem i64_of {x : Int} (h : (Lit.int .i64 x).wf = true) : -9223372036854775808 ≤ x ∧ x ≤ 9223372036854775807 := by
  simp [Lit.wf, IntKind.min, IntKind.max, IntKind.bits, IntKind.signed] at h
  omega

theorem rd_nat (p : List Int) (i : Nat) (h : i < p.length) : rd p (i : Int) = p[i] := by
  simp [rd, h]

theorem ex_succ {k n : Nat} (h : n < k) : ∃ m, k = m + 1 := ⟨k - 1, by omega⟩

theorem drop_at {α : Type} (p : List α) (i : Nat) (h : i < p.length) : p.drop i = p[i] :: p.drop (i + 1) :=
  List.drop_eq_getElem_cons h

/-- A place as the program sees it: no less than none, no more than the text's end. -/
def clip (p : List Int) (a : Int) : Nat := min a.toNat p.length
theorem mn_clip (p : List Int) (a : Int) : mn (mx a 0) (p.length : Int) = (clip p a : Int) := by unfold mn mx clip; (repeat' split) <;> omega
theorem clip_le (p : List Int) (a : Int) : clip p a ≤ p.length := by unfold clip; omega
/-- A tab's width, 1 at least. -/
def tb (x : Int) : Nat := (max x 1).toNat
theorem mx_tb (x : Int) : mx x 1 = (tb x : Int) := by
  unfold mx tb; split <;> omega
theorem tb_pos (x : Int) : 0 < tb x := by unfold tb; omega
/-- Places as the program's numbers. -/
def zs (l : List Nat) : List Int := l.map fun (n : Nat) => (n : Int)
theorem zs_len (l : List Nat) : (zs l).length = l.length := by simp [zs]
theorem rd_zs (l : List Nat) (i : Nat) (h : i < l.length) : rd (zs l) (i : Int) = (l[i] : Int) := by simp [zs, rd, h]

end Go.Proofs.YtdaodcdbfaikjaaDoor.Gen

namespace Go.Proofs.YtdaodcdbfaikjaaDoor.Gen
set_option linter.unusedVariables false
set_option linter.unusedSimpArgs false
open Go Go.RowKit

def cont (c : Int) : Prop := 128 ≤ c ∧ c ≤ 191
instance (c : Int) : Decidable (cont c) := inferInstanceAs (Decidable (128 ≤ c ∧ c ≤ 191))
/-- The bytes that a first byte calls for. -/
def need (b : Int) : Nat := if 194 ≤ b ∧ b ≤ 223 then 2 else if 224 ≤ b ∧ b ≤ 239 then 3 else if 240 ≤ b ∧ b ≤ 244 then 4 else 1
def lo2 (b : Int) : Int := if b = 224 then 160 else if b = 240 then 144 else 128
def hi2 (b : Int) : Int := if b = 237 then 159 else if b = 244 then 143 else 191
/-- The character's bytes at the head of a list. -/
def gsz : List Int → Nat
  | [] => 0
  | [_] => 1
  | [b, c] => if need b = 2 ∧ lo2 b ≤ c ∧ c ≤ hi2 b then 2 else 1
  | [b, c, d] => if need b = 2 ∧ lo2 b ≤ c ∧ c ≤ hi2 b then 2 else if need b = 3 ∧ lo2 b ≤ c ∧ c ≤ hi2 b ∧ cont d then 3 else 1
  | b :: c :: d :: e :: _ => if need b = 2 ∧ lo2 b ≤ c ∧ c ≤ hi2 b then 2 else if need b = 3 ∧ lo2 b ≤ c ∧ c ≤ hi2 b ∧ cont d then 3 else if need b = 4 ∧ lo2 b ≤ c ∧ c ≤ hi2 b ∧ cont d ∧ cont e then 4 else 1

theorem lo2_ge (b : Int) : 128 ≤ lo2 b := by unfold lo2; (repeat' split) <;> omega
theorem hi2_le (b : Int) : hi2 b ≤ 191 := by unfold hi2; (repeat' split) <;> omega
theorem need_cont {b : Int} (h : cont b) : need b = 1 := by unfold cont at h; unfold need; (repeat' split) <;> omega

theorem gsz_le (q : List Int) : gsz q ≤ q.length ∧ gsz q ≤ 4 := by
  match q with
  | [] => simp [gsz]
  | [_] => simp [gsz]
  | [b, c] => simp only [gsz, List.length_cons, List.length_nil]; split <;> omega
  | [b, c, d] => simp only [gsz, List.length_cons, List.length_nil]; (repeat' split) <;> omega
  | b :: c :: d :: e :: t => simp only [gsz, List.length_cons]; (repeat' split) <;> omega

theorem gsz_pos {q : List Int} (h : q ≠ []) : 1 ≤ gsz q := by
  match q with
  | [] => exact absurd rfl h
  | [_] => simp [gsz]
  | [b, c] => simp only [gsz]; split <;> omega
  | [b, c, d] => simp only [gsz]; (repeat' split) <;> omega
  | b :: c :: d :: e :: t => simp only [gsz]; (repeat' split) <;> omega

theorem gsz_of_cont {b : Int} {t : List Int} (h : cont b) : gsz (b :: t) = 1 := by
  have hn := need_cont h
  match t with
  | [] => rfl
  | [c] => simp [gsz, hn]
  | [c, d] => simp [gsz, hn]
  | c :: d :: e :: t => simp [gsz, hn]

theorem gsz_cont (q : List Int) (i : Nat) (h1 : 1 ≤ i) (h2 : i < gsz q) : ∃ h : i < q.length, cont q[i] := by
  have hl := (gsz_le q).1
  refine ⟨by omega, ?_⟩
  match q with
  | [] => simp [gsz] at h2
  | [_] => simp only [gsz] at h2; omega
  | [b, c] =>
    have := lo2_ge b; have := hi2_le b
    simp only [gsz] at h2; split at h2
    · have : i = 1 := by omega
      subst this; unfold cont; simp; omega
    · omega
  | [b, c, d] =>
    have := lo2_ge b; have := hi2_le b
    simp only [gsz] at h2
    repeat' split at h2
    · have : i = 1 := by omega
      subst this; unfold cont; simp; omega
    · rename_i h3
      have : i = 1 ∨ i = 2 := by omega
      rcases this with rfl | rfl
      · unfold cont; simp; omega
      · exact h3.2.2.2
    · omega
  | b :: c :: d :: e :: t =>
    have := lo2_ge b; have := hi2_le b
    simp only [gsz] at h2
    repeat' split at h2
    · have : i = 1 := by omega
      subst this; unfold cont; simp; omega
    · rename_i h3
      have : i = 1 ∨ i = 2 := by omega
      rcases this with rfl | rfl
      · unfold cont; simp; omega
      · exact h3.2.2.2
    · rename_i h3
      have : i = 1 ∨ i = 2 ∨ i = 3 := by omega
      rcases this with rfl | rfl | rfl
      · unfold cont; simp; omega
      · exact h3.2.2.2.1
      · exact h3.2.2.2.2
    · omega

theorem gsz_append (q r : List Int) (h : 2 ≤ gsz q) : gsz (q ++ r) = gsz q := by
  match q with
  | [] => simp [gsz] at h
  | [_] => simp only [gsz] at h; omega
  | [b, c] =>
    simp only [gsz] at h ⊢; split at h
    · rename_i h3
      rw [if_pos h3]
      match r with
      | [] => simp [h3, gsz]
      | [x] => simp [h3, gsz]
      | x :: y :: r => simp [h3, gsz]
    · omega
  | [b, c, d] =>
    simp only [gsz] at h ⊢
    match r with
    | [] => simp [gsz]
    | x :: r =>
      simp only [List.cons_append, List.nil_append, gsz]
      repeat' split
      all_goals first | rfl | (exfalso; repeat' split at h <;> omega) | omega
      all_goals simp_all
  | b :: c :: d :: e :: t => simp only [List.cons_append, gsz]

theorem gsz_take (q : List Int) (m : Nat) (h : gsz q ≤ m) : gsz (q.take m) = gsz q := by
  by_cases h0 : q = []
  · subst h0; simp
  · have hp := gsz_pos h0
    have hl := gsz_le q
    have hne : q.take m ≠ [] := by
      intro e
      rcases List.take_eq_nil_iff.1 e with e | e
      · omega
      · exact h0 e
    have hp' := gsz_pos hne
    by_cases h2 : 2 ≤ gsz (q.take m)
    · have := gsz_append _ (q.drop m) h2
      rw [List.take_append_drop] at this
      omega
    · by_cases h3 : 2 ≤ gsz q
      · exfalso
        -- a whole character lies within the taken bytes
        match q, m with
        | [], _ => exact h0 rfl
        | _, 0 => omega
        | _, 1 => omega
        | [_], _ => simp only [gsz] at h3; omega
        | [b, c], m + 2 => simp only [List.take_succ_cons, List.take_nil] at h2; omega
        | [b, c, d], 2 =>
          simp only [List.take_succ_cons, List.take_zero, gsz] at h2 h3 h
          repeat' split at h3
          all_goals first | omega | simp_all
        | [b, c, d], m + 3 => simp only [List.take_succ_cons, List.take_nil] at h2; omega
        | b :: c :: d :: e :: t, 2 =>
          simp only [List.take_succ_cons, List.take_zero, gsz] at h2 h3 h
          repeat' split at h3
          all_goals first | omega | simp_all
        | b :: c :: d :: e :: t, 3 =>
          simp only [List.take_succ_cons, List.take_zero, gsz] at h2 h3 h
          repeat' split at h3
          all_goals first | omega | simp_all
        | b :: c :: d :: e :: t, m + 4 => simp only [List.take_succ_cons, gsz] at h2 h3; omega
      · omega

theorem gsz_head_cont {q : List Int} (h : 0 < q.length) (hc : cont q[0]) : gsz q = 1 := by
  cases q with
  | nil => simp at h
  | cons b t => exact gsz_of_cont hc

/-- Where a character starts, counted from the head. -/
inductive Bd (p : List Int) : Nat → Prop
  | zero : Bd p 0
  | next {x : Nat} : Bd p x → x < p.length → Bd p (x + gsz (p.drop x))

theorem gd_le (p : List Int) (x : Nat) (h : x ≤ p.length) : x + gsz (p.drop x) ≤ p.length := by
  have := (gsz_le (p.drop x)).1
  simp only [List.length_drop] at this; omega
theorem gd_pos (p : List Int) (x : Nat) (h : x < p.length) : 1 ≤ gsz (p.drop x) := gsz_pos (by simp; omega)
theorem gd_four (p : List Int) (x : Nat) : gsz (p.drop x) ≤ 4 := (gsz_le _).2

theorem Bd.le {p : List Int} {x : Nat} (h : Bd p x) : x ≤ p.length := by
  induction h with
  | zero => omega
  | next _ hx _ => exact gd_le _ _ (by omega)

/-- Every place ahead of a start lies in a character that ends by that start. -/
theorem Bd.cover {p : List Int} {x : Nat} (h : Bd p x) : ∀ i, i < x → ∃ b, Bd p b ∧ b ≤ i ∧ i < b + gsz (p.drop b) ∧ b + gsz (p.drop b) ≤ x := by
  induction h with
  | zero => intro i hi; omega
  | @next y hy hl ih =>
    intro i hi
    by_cases h : i < y
    · obtain ⟨b, h1, h2, h3, h4⟩ := ih i h
      exact ⟨b, h1, h2, h3, by omega⟩
    · exact ⟨y, hy, by omega, hi, Nat.le_refl _⟩

theorem cont_in {p : List Int} {b i : Nat} (h1 : b < i) (h2 : i < b + gsz (p.drop b)) : ∃ h : i < p.length, cont p[i] := by
  obtain ⟨h, hc⟩ := gsz_cont (p.drop b) (i - b) (by omega) (by omega)
  simp only [List.length_drop] at h
  refine ⟨by omega, ?_⟩
  rw [List.getElem_drop] at hc
  simp only [show b + (i - b) = i by omega] at hc
  exact hc

theorem gd_cont {p : List Int} {i : Nat} (h : i < p.length) (hc : cont p[i]) : gsz (p.drop i) = 1 := by
  rw [drop_at p i h]; exact gsz_of_cont hc

/-- No character ahead of a start reaches past it. -/
theorem Bd.clear {p : List Int} {x : Nat} (h : Bd p x) (i : Nat) (hi : i < x) : i + gsz (p.drop i) ≤ x := by
  obtain ⟨b, h1, h2, h3, h4⟩ := h.cover i hi
  rcases Nat.lt_or_ge b i with hb | hb
  · obtain ⟨hl, hc⟩ := cont_in hb h3
    rw [gd_cont hl hc]; omega
  · have : b = i := by omega
    subst this; exact h4

/-- The starts are told by the same bytes when later bytes are cut off at a start. -/
theorem Bd.take {p : List Int} {x : Nat} (h : Bd p x) {b : Nat} (hb : Bd p b) (hbx : b ≤ x) : Bd (p.take x) b := by
  induction hb with
  | zero => exact .zero
  | @next y hy hl ih =>
    have hxl := h.le
    have hlt : y < x := by have := gd_pos p y hl; omega
    have hc := h.clear y hlt
    have e : gsz ((p.take x).drop y) = gsz (p.drop y) := by
      rw [List.drop_take]; exact gsz_take _ _ (by omega)
    have := Bd.next (p := p.take x) (ih (by omega)) (by simp only [List.length_take]; omega)
    rw [e] at this
    exact this

/-- How many bytes the last character has. -/
def lsz (q : List Int) : Nat :=
  if q = [] then 0
  else if 2 ≤ q.length ∧ gsz (q.drop (q.length - 2)) = 2 then 2
  else if 3 ≤ q.length ∧ gsz (q.drop (q.length - 3)) = 3 then 3
  else if 4 ≤ q.length ∧ gsz (q.drop (q.length - 4)) = 4 then 4
  else 1

theorem lsz_bd {p : List Int} {x : Nat} (h : Bd p x) (hx : x < p.length) : lsz (p.take (x + gsz (p.drop x))) = gsz (p.drop x) := by
  have hp := gd_pos p x hx
  have hf := gd_four p x
  have hle := gd_le p x (by omega)
  have hnx := h.next hx
  generalize hn : gsz (p.drop x) = n at *
  have hlen : (p.take (x + n)).length = x + n := by simp only [List.length_take]; omega
  have hne : p.take (x + n) ≠ [] := by intro e; rw [e] at hlen; simp at hlen; omega
  have key : ∀ m, 2 ≤ m → m ≤ x + n → gsz ((p.take (x + n)).drop (x + n - m)) = m → m = n := by
    intro m h1 h2 h3
    rw [List.drop_take] at h3
    have h4 := gsz_append ((p.drop (x + n - m)).take (x + n - (x + n - m))) ((p.drop (x + n - m)).drop (x + n - (x + n - m))) (by omega)
    rw [List.take_append_drop, h3] at h4
    rcases Nat.lt_trichotomy m n with hm | hm | hm
    · obtain ⟨hl, hc⟩ := cont_in (p := p) (b := x) (i := x + n - m) (by omega) (by omega)
      rw [gd_cont hl hc] at h4; omega
    · exact hm
    · have := h.clear (x + n - m) (by omega)
      rw [h4] at this; omega
  have self : 2 ≤ n → gsz ((p.take (x + n)).drop (x + n - n)) = n := by
    intro _
    rw [List.drop_take, show x + n - n = x by omega, show x + n - x = n by omega, gsz_take _ _ (by omega), hn]
  unfold lsz
  rw [if_neg hne, hlen]
  by_cases c2 : 2 ≤ x + n ∧ gsz ((p.take (x + n)).drop (x + n - 2)) = 2
  · rw [if_pos c2]; exact key 2 (by omega) c2.1 c2.2
  · rw [if_neg c2]
    by_cases c3 : 3 ≤ x + n ∧ gsz ((p.take (x + n)).drop (x + n - 3)) = 3
    · rw [if_pos c3]; exact key 3 (by omega) c3.1 c3.2
    · rw [if_neg c3]
      by_cases c4 : 4 ≤ x + n ∧ gsz ((p.take (x + n)).drop (x + n - 4)) = 4
      · rw [if_pos c4]; exact key 4 (by omega) c4.1 c4.2
      · rw [if_neg c4]
        have : n = 1 ∨ n = 2 ∨ n = 3 ∨ n = 4 := by omega
        rcases this with rfl | rfl | rfl | rfl
        · rfl
        · exact absurd ⟨by omega, self (by omega)⟩ c2
        · exact absurd ⟨by omega, self (by omega)⟩ c3
        · exact absurd ⟨by omega, self (by omega)⟩ c4

/-- Where the character that a place lies in starts. -/
def flo (p : List Int) (a : Nat) : Nat :=
  if 1 ≤ a ∧ a < a - 1 + gsz (p.drop (a - 1)) then a - 1
  else if 2 ≤ a ∧ a < a - 2 + gsz (p.drop (a - 2)) then a - 2
  else if 3 ≤ a ∧ a < a - 3 + gsz (p.drop (a - 3)) then a - 3
  else a

theorem flo_bd {p : List Int} {b : Nat} (h : Bd p b) (hb : b < p.length) (a : Nat) (h1 : b ≤ a) (h2 : a < b + gsz (p.drop b)) : flo p a = b := by
  have hf := gd_four p b
  have none : ∀ j, 1 ≤ j → j ≤ a → a < a - j + gsz (p.drop (a - j)) → a - j = b := by
    intro j h3 h4 h5
    rcases Nat.lt_trichotomy (a - j) b with h6 | h6 | h6
    · have := h.clear (a - j) h6; omega
    · exact h6
    · obtain ⟨hl, hc⟩ := cont_in (p := p) (b := b) (i := a - j) h6 (by omega)
      rw [gd_cont hl hc] at h5; omega
  unfold flo
  by_cases c1 : 1 ≤ a ∧ a < a - 1 + gsz (p.drop (a - 1))
  · rw [if_pos c1]; exact none 1 (by omega) c1.1 c1.2
  · rw [if_neg c1]
    by_cases c2 : 2 ≤ a ∧ a < a - 2 + gsz (p.drop (a - 2))
    · rw [if_pos c2]; exact none 2 (by omega) c2.1 c2.2
    · rw [if_neg c2]
      by_cases c3 : 3 ≤ a ∧ a < a - 3 + gsz (p.drop (a - 3))
      · rw [if_pos c3]; exact none 3 (by omega) c3.1 c3.2
      · rw [if_neg c3]
        have : a = b ∨ a = b + 1 ∨ a = b + 2 ∨ a = b + 3 := by omega
        rcases this with h | h | h | h
        · exact h
        · exact absurd ⟨by omega, by rw [show a - 1 = b by omega]; omega⟩ c1
        · exact absurd ⟨by omega, by rw [show a - 2 = b by omega]; omega⟩ c2
        · exact absurd ⟨by omega, by rw [show a - 3 = b by omega]; omega⟩ c3

theorem flo_self {p : List Int} {b : Nat} (h : Bd p b) : flo p b = b := by
  unfold flo
  rw [if_neg (fun c => by have := h.clear (b - 1) (by omega); omega), if_neg (fun c => by have := h.clear (b - 2) (by omega); omega), if_neg (fun c => by have := h.clear (b - 3) (by omega); omega)]

/-- The starts of the characters, from a place on. -/
def startsF : Nat → List Int → Nat → List Nat
  | 0, _, _ => []
  | n + 1, p, x => if x < p.length then x :: startsF n p (x + gsz (p.drop x)) else []
def starts (p : List Int) : List Nat := startsF p.length p 0

theorem startsF_fuel (p : List Int) (n : Nat) : ∀ (m x : Nat), p.length ≤ x + n → p.length ≤ x + m → startsF n p x = startsF m p x := by
  induction n with
  | zero =>
    intro m x h1 h2
    cases m with
    | zero => rfl
    | succ m => simp only [startsF]; rw [if_neg (by omega)]
  | succ n ih =>
    intro m x h1 h2
    cases m with
    | zero => simp only [startsF]; rw [if_neg (by omega)]
    | succ m =>
      simp only [startsF]
      by_cases h : x < p.length
      · have := gd_pos p x h
        rw [if_pos h, if_pos h, ih m _ (by omega) (by omega)]
      · rw [if_neg h, if_neg h]

/-- All starts, each with its character. -/
theorem Bd.end_ (p : List Int) : Bd p p.length := by
  have : ∀ n x, Bd p x → p.length ≤ x + n → Bd p p.length := by
    intro n
    induction n with
    | zero => intro x h h1; have := h.le; rwa [show p.length = x by omega]
    | succ n ih =>
      intro x h h1
      by_cases hx : x < p.length
      · have := gd_pos p x hx
        exact ih _ (h.next hx) (by omega)
      · have := h.le; rwa [show p.length = x by omega]
  exact this p.length 0 .zero (by omega)

/-- The number of characters. -/
def cntF : Nat → List Int → Nat
  | 0, _ => 0
  | n + 1, q => if q = [] then 0 else 1 + cntF n (q.drop (gsz q))
def cnt (q : List Int) : Nat := cntF q.length q

theorem cntF_fuel (n : Nat) : ∀ (m : Nat) (q : List Int), q.length ≤ n → q.length ≤ m → cntF n q = cntF m q := by
  induction n with
  | zero =>
    intro m q h1 h2
    have : q = [] := List.eq_nil_of_length_eq_zero (by omega)
    subst this
    cases m <;> simp [cntF]
  | succ n ih =>
    intro m q h1 h2
    cases m with
    | zero =>
      have : q = [] := List.eq_nil_of_length_eq_zero (by omega)
      subst this; simp [cntF]
    | succ m =>
      simp only [cntF]
      by_cases h : q = []
      · rw [if_pos h, if_pos h]
      · have := gsz_pos h
        have : q.length ≠ 0 := fun e => h (List.eq_nil_of_length_eq_zero e)
        rw [if_neg h, if_neg h, ih m _ (by simp; omega) (by simp; omega)]

theorem cnt_nil : cnt [] = 0 := rfl
theorem cnt_cons {q : List Int} (h : q ≠ []) : cnt q = 1 + cnt (q.drop (gsz q)) := by
  have hl : q.length ≠ 0 := fun e => h (List.eq_nil_of_length_eq_zero e)
  obtain ⟨n, hn⟩ : ∃ n, q.length = n + 1 := ⟨q.length - 1, by omega⟩
  have := gsz_pos h
  unfold cnt
  rw [hn]
  simp only [cntF]
  rw [if_neg h, cntF_fuel n (q.drop (gsz q)).length _ (by simp; omega) (Nat.le_refl _)]

theorem cnt_conts (n : Nat) : ∀ q : List Int, n ≤ q.length → (∀ i (h : i < q.length), i < n → cont q[i]) → cnt q = n + cnt (q.drop n) := by
  induction n with
  | zero => intro q _ _; simp
  | succ n ih =>
    intro q hl hc
    have hne : q ≠ [] := by rintro rfl; simp at hl
    have h0 : gsz q = 1 := gsz_head_cont (by omega) (hc 0 (by omega) (by omega))
    rw [cnt_cons hne, h0, ih (q.drop 1) (by simp; omega) (fun i h hi => by
      rw [List.getElem_drop]
      exact hc (1 + i) (by simp at h; omega) (by omega)), List.drop_drop]
    rw [show 1 + n = n + 1 by omega]; omega

/-- Two texts joined have as many characters as both, or up to three fewer. -/
theorem cnt_join (n : Nat) : ∀ (a b : List Int), a.length ≤ n → cnt (a ++ b) ≤ cnt a + cnt b ∧ cnt a + cnt b ≤ cnt (a ++ b) + 3 := by
  induction n with
  | zero =>
    intro a b h
    have : a = [] := List.eq_nil_of_length_eq_zero (by omega)
    subst this; simp [cnt_nil]
  | succ n ih =>
    intro a b h
    by_cases ha : a = []
    · subst ha; simp [cnt_nil]
    · have hal : a.length ≠ 0 := fun e => ha (List.eq_nil_of_length_eq_zero e)
      have hab : a ++ b ≠ [] := by simp [ha]
      have hp := gsz_pos hab
      have hpa := gsz_pos ha
      have hl4 := gsz_le (a ++ b)
      by_cases hg : gsz (a ++ b) ≤ a.length
      · have e : gsz a = gsz (a ++ b) := by
          have := gsz_take (a ++ b) a.length hg
          rwa [List.take_left] at this
        rw [cnt_cons hab, cnt_cons ha, ← e, List.drop_append_of_le_length (by omega)]
        have := ih (a.drop (gsz a)) b (by simp; omega)
        omega
      · -- a character that begins in the one ends in the other
        have h1 : gsz a = 1 := by
          rcases Nat.lt_or_ge (gsz a) 2 with h | h
          · omega
          · have := gsz_append a b h; have := (gsz_le a).1; omega
        simp only [List.length_append] at hl4
        have ca : cnt a = a.length := by
          rw [cnt_cons ha, h1, cnt_conts (a.length - 1) (a.drop 1) (by simp) (fun i h _ => by
            obtain ⟨h', hc⟩ := gsz_cont (a ++ b) (1 + i) (by omega) (by simp at h; omega)
            rw [List.getElem_append_left (by simp at h; omega)] at hc
            rw [List.getElem_drop]; exact hc), List.drop_drop, List.drop_eq_nil_of_le (by omega), cnt_nil]
          omega
        have cb : cnt b = gsz (a ++ b) - a.length + cnt (b.drop (gsz (a ++ b) - a.length)) :=
          cnt_conts _ _ (by omega) (fun i h hi => by
            obtain ⟨h', hc⟩ := gsz_cont (a ++ b) (a.length + i) (by omega) (by omega)
            rw [List.getElem_append_right (by omega)] at hc
            simp only [show a.length + i - a.length = i by omega] at hc
            exact hc)
        have cj : cnt (a ++ b) = 1 + cnt (b.drop (gsz (a ++ b) - a.length)) := by
          rw [cnt_cons hab, List.drop_append, List.drop_eq_nil_of_le (by omega), List.nil_append]
        omega

theorem starts_cnt (p : List Int) (n : Nat) : ∀ x, x ≤ p.length → p.length ≤ x + n → (startsF n p x).length = cnt (p.drop x) := by
  induction n with
  | zero => intro x h1 h2; rw [List.drop_eq_nil_of_le (by omega)]; rfl
  | succ n ih =>
    intro x h1 h2
    simp only [startsF]
    by_cases h : x < p.length
    · have := gd_pos p x h
      have := gd_le p x h1
      rw [if_pos h, List.length_cons, ih _ (by omega) (by omega), cnt_cons (q := p.drop x) (by simp; omega), List.drop_drop]
      omega
    · rw [if_neg h, List.drop_eq_nil_of_le (by omega)]; rfl

theorem startsF_bd (p : List Int) (n : Nat) : ∀ x, Bd p x → ∀ y ∈ startsF n p x, Bd p y ∧ x ≤ y ∧ y < p.length := by
  induction n with
  | zero => intro x _ y hy; simp [startsF] at hy
  | succ n ih =>
    intro x hx y hy
    simp only [startsF] at hy
    by_cases h : x < p.length
    · rw [if_pos h, List.mem_cons] at hy
      rcases hy with rfl | hy
      · exact ⟨hx, Nat.le_refl _, h⟩
      · have := ih _ (hx.next h) y hy
        exact ⟨this.1, by omega, this.2.2⟩
    · rw [if_neg h] at hy; simp at hy

end Go.Proofs.YtdaodcdbfaikjaaDoor.Gen

namespace Go.Proofs.YtdaodcdbfaikjaaDoor.Gen
open Go Go.RowKit
set_option linter.unusedVariables false
set_option linter.unusedSimpArgs false

/-- The column behind a byte. -/
def stp (c b t : Nat) : Nat := if b = 9 then c + t - c % t else c + 1
theorem stp_gt (c b t : Nat) (h : 0 < t) : c < stp c b t := by
  unfold stp; have := Nat.mod_lt c h; split <;> omega
theorem stp_le (c b t : Nat) (h : 0 < t) : stp c b t ≤ c + t := by
  unfold stp; split <;> omega

/-- The column behind a text. -/
def widF : Nat → List Int → Nat → Nat → Nat
  | 0, _, c, _ => c
  | n + 1, q, c, t => match q with
    | [] => c
    | b :: r => widF n ((b :: r).drop (gsz (b :: r))) (stp c b.toNat t) t
def wid_ (q : List Int) (c t : Nat) : Nat := widF q.length q c t

theorem widF_fuel (n : Nat) : ∀ (m : Nat) (q : List Int) (c t : Nat), q.length ≤ n → q.length ≤ m → widF n q c t = widF m q c t := by
  induction n with
  | zero =>
    intro m q c t h1 h2
    have : q = [] := List.eq_nil_of_length_eq_zero (by omega)
    subst this
    cases m <;> simp [widF]
  | succ n ih =>
    intro m q c t h1 h2
    cases m with
    | zero =>
      have : q = [] := List.eq_nil_of_length_eq_zero (by omega)
      subst this; simp [widF]
    | succ m =>
      cases q with
      | nil => rfl
      | cons b r =>
        have := gsz_pos (q := b :: r) (by simp)
        simp only [widF]
        exact ih m _ _ _ (by simp only [List.length_drop]; simp only [List.length_cons] at *; omega) (by simp only [List.length_drop]; simp only [List.length_cons] at *; omega)

theorem wid_nil (c t : Nat) : wid_ [] c t = c := rfl
theorem wid_cons (b : Int) (r : List Int) (c t : Nat) : wid_ (b :: r) c t = wid_ ((b :: r).drop (gsz (b :: r))) (stp c b.toNat t) t := by
  have := gsz_pos (q := b :: r) (by simp)
  unfold wid_
  simp only [List.length_cons, widF]
  exact widF_fuel _ _ _ _ _ (by simp only [List.length_drop, List.length_cons]; omega) (Nat.le_refl _)
theorem wid_at (p : List Int) (x : Nat) (h : x < p.length) (c t : Nat) : wid_ (p.drop x) c t = wid_ (p.drop (x + gsz (p.drop x))) (stp c p[x].toNat t) t := by
  rw [← List.drop_drop, drop_at p x h, wid_cons]

theorem wid_le (n : Nat) : ∀ (q : List Int) (c t : Nat), q.length ≤ n → 0 < t → c ≤ wid_ q c t ∧ wid_ q c t ≤ c + q.length * t ∧ (q ≠ [] → c < wid_ q c t) := by
  induction n with
  | zero =>
    intro q c t h h0
    have : q = [] := List.eq_nil_of_length_eq_zero (by omega)
    subst this; simp [wid_nil]
  | succ n ih =>
    intro q c t h h0
    cases q with
    | nil => simp [wid_nil]
    | cons b r =>
      have hp := gsz_pos (q := b :: r) (by simp)
      have h1 := stp_gt c b.toNat t h0
      have h2 := stp_le c b.toNat t h0
      have := ih ((b :: r).drop (gsz (b :: r))) (stp c b.toNat t) t (by simp only [List.length_drop]; simp only [List.length_cons] at *; omega) h0
      rw [wid_cons]
      simp only [List.length_drop, List.length_cons] at *
      have hm : (r.length + 1 - gsz (b :: r)) * t ≤ r.length * t := Nat.mul_le_mul_right t (by omega)
      rw [Nat.add_mul, Nat.one_mul]
      omega

/-- A text's width is its parts', told at a start. -/
theorem wid_split {p : List Int} {f : Nat} (hf : Bd p f) (t : Nat) : ∀ x c, Bd p x → x ≤ f → wid_ (p.drop x) c t = wid_ (p.drop f) (wid_ ((p.take f).drop x) c t) t := by
  have : ∀ n x c, Bd p x → x ≤ f → f ≤ x + n → wid_ (p.drop x) c t = wid_ (p.drop f) (wid_ ((p.take f).drop x) c t) t := by
    intro n
    induction n with
    | zero =>
      intro x c hx h1 h2
      have : x = f := by omega
      subst this
      rw [List.drop_eq_nil_of_le (as := List.take x p) (by simp; omega), wid_nil]
    | succ n ih =>
      intro x c hx h1 h2
      have hfl := hf.le
      rcases Nat.lt_or_ge x f with h | h
      · have hlt : x < p.length := by omega
        have hg := gd_pos p x hlt
        have hc := hf.clear x h
        have hlt' : x < (p.take f).length := by simp only [List.length_take]; omega
        have e : gsz ((p.take f).drop x) = gsz (p.drop x) := by rw [List.drop_take]; exact gsz_take _ _ (by omega)
        rw [wid_at p x hlt, wid_at (p.take f) x hlt', e, List.getElem_take]
        exact ih _ _ (hx.next hlt) hc (by omega)
      · have : x = f := by omega
        subst this
        rw [List.drop_eq_nil_of_le (as := List.take x p) (by simp; omega), wid_nil]
  intro x c hx h
  exact this f x c hx h (by omega)

theorem wid_take {p : List Int} {x : Nat} (h : Bd p x) (hx : x < p.length) (c t : Nat) : wid_ (p.take (x + gsz (p.drop x))) c t = stp (wid_ (p.take x) c t) p[x].toNat t := by
  have hg := gd_pos p x hx
  have hle := gd_le p x (by omega)
  have hn := h.next hx
  have h1 := hn.take h (by omega)
  have h2 := wid_split h1 t 0 c .zero (by omega)
  have hlt : x < (p.take (x + gsz (p.drop x))).length := by simp only [List.length_take]; omega
  have e : gsz ((p.take (x + gsz (p.drop x))).drop x) = gsz (p.drop x) := by rw [List.drop_take]; exact gsz_take _ _ (by omega)
  simp only [List.drop_zero] at h2
  rw [h2, wid_at _ x hlt, e, List.getElem_take, List.drop_eq_nil_of_le (by simp only [List.length_take]; omega), wid_nil, List.take_take, Nat.min_eq_left (by omega)]

/-- The place that a column is in, from a place on whose column is told. -/
def atF : Nat → List Int → Nat → Nat → Nat → Nat → Nat
  | 0, p, _, _, _, _ => p.length
  | n + 1, p, x, c, col, t => if h : x < p.length then (if col < stp c p[x].toNat t then x else atF n p (x + gsz (p.drop x)) (stp c p[x].toNat t) col t) else p.length

theorem atF_fuel (p : List Int) (col t : Nat) (n : Nat) : ∀ (m x c : Nat), p.length ≤ x + n → p.length ≤ x + m → atF n p x c col t = atF m p x c col t := by
  induction n with
  | zero =>
    intro m x c h1 h2
    cases m with
    | zero => rfl
    | succ m => simp only [atF]; rw [dif_neg (by omega)]
  | succ n ih =>
    intro m x c h1 h2
    cases m with
    | zero => simp only [atF]; rw [dif_neg (by omega)]
    | succ m =>
      simp only [atF]
      by_cases h : x < p.length
      · have := gd_pos p x h
        rw [dif_pos h, dif_pos h, ih m _ _ (by omega) (by omega)]
      · rw [dif_neg h, dif_neg h]

def at_ (p : List Int) (col t : Nat) : Nat := atF p.length p 0 0 col t

theorem atF_spec (p : List Int) (col t : Nat) (n : Nat) : ∀ x, Bd p x → p.length ≤ x + n → wid_ (p.take x) 0 t ≤ col →
    Bd p (atF n p x (wid_ (p.take x) 0 t) col t) ∧ wid_ (p.take (atF n p x (wid_ (p.take x) 0 t) col t)) 0 t ≤ col ∧
    (∀ h : atF n p x (wid_ (p.take x) 0 t) col t < p.length, col < wid_ (p.take (atF n p x (wid_ (p.take x) 0 t) col t + gsz (p.drop (atF n p x (wid_ (p.take x) 0 t) col t)))) 0 t) := by
  induction n with
  | zero =>
    intro x hx h1 h2
    have : x = p.length := by have := hx.le; omega
    subst this
    simp only [atF]
    exact ⟨hx, h2, fun h => by omega⟩
  | succ n ih =>
    intro x hx h1 h2
    simp only [atF]
    by_cases h : x < p.length
    · have hg := gd_pos p x h
      have hw := wid_take hx h 0 t
      simp only [dif_pos h]
      by_cases hc : col < stp (wid_ (p.take x) 0 t) p[x].toNat t
      · simp only [if_pos hc]
        exact ⟨hx, h2, fun _ => by rw [hw]; exact hc⟩
      · simp only [if_neg hc]
        have := ih _ (hx.next h) (by omega) (by rw [hw]; omega)
        rw [hw] at this
        exact this
    · have : x = p.length := by have := hx.le; omega
      subst this
      simp only [dif_neg h]
      exact ⟨hx, h2, fun h => by omega⟩

/-- Blanks that fill a width. -/
def fillF : Nat → Nat → Nat → Nat → Bool → List Int
  | 0, _, _, _, _ => []
  | n + 1, c, w, t, sp => if c < w then (if sp = false ∧ stp c 9 t ≤ w ∧ c + 1 < stp c 9 t then 9 :: fillF n (stp c 9 t) w t sp else 32 :: fillF n (c + 1) w t sp) else []
def fill (c w t : Nat) (sp : Bool) : List Int := fillF (w - c) c w t sp

theorem fillF_fuel (w t : Nat) (sp : Bool) (n : Nat) : ∀ (m c : Nat), w ≤ c + n → w ≤ c + m → fillF n c w t sp = fillF m c w t sp := by
  induction n with
  | zero =>
    intro m c h1 h2
    cases m with
    | zero => rfl
    | succ m => simp only [fillF]; rw [if_neg (by omega)]
  | succ n ih =>
    intro m c h1 h2
    cases m with
    | zero => simp only [fillF]; rw [if_neg (by omega)]
    | succ m =>
      simp only [fillF]
      by_cases h : c < w
      · rw [if_pos h, if_pos h]
        by_cases h3 : sp = false ∧ stp c 9 t ≤ w ∧ c + 1 < stp c 9 t
        · rw [if_pos h3, if_pos h3, ih m _ (by omega) (by omega)]
        · rw [if_neg h3, if_neg h3, ih m _ (by omega) (by omega)]
      · rw [if_neg h, if_neg h]

theorem fillF_len (w t : Nat) (sp : Bool) (n : Nat) : ∀ c, (fillF n c w t sp).length ≤ n := by
  induction n with
  | zero => intro c; simp [fillF]
  | succ n ih =>
    intro c
    simp only [fillF]
    (repeat' split) <;> simp only [List.length_cons, List.length_nil]
    · have := ih (stp c 9 t); omega
    · have := ih (c + 1); omega
    · omega

/-- A blank is one character. -/
theorem gsz_low {b : Int} (t : List Int) (h : b < 194) : gsz (b :: t) = 1 := by
  have hn : need b = 1 := by unfold need; rw [if_neg (by omega), if_neg (by omega), if_neg (by omega)]
  match t with
  | [] => rfl
  | [c] => simp [gsz, hn]
  | [c, d] => simp [gsz, hn]
  | c :: d :: e :: t => simp [gsz, hn]

theorem wid_low {b : Int} (r : List Int) (h : b < 194) (c t : Nat) : wid_ (b :: r) c t = wid_ r (stp c b.toNat t) t := by
  rw [wid_cons, gsz_low r h]; rfl

/-- What fills a width is as wide. -/
theorem fillF_wid (w t : Nat) (sp : Bool) (n : Nat) : ∀ c, c ≤ w → w ≤ c + n → wid_ (fillF n c w t sp) c t = w := by
  induction n with
  | zero => intro c h1 h2; simp only [fillF]; rw [wid_nil]; omega
  | succ n ih =>
    intro c h1 h2
    simp only [fillF]
    by_cases h : c < w
    · rw [if_pos h]
      by_cases h3 : sp = false ∧ stp c 9 t ≤ w ∧ c + 1 < stp c 9 t
      · rw [if_pos h3, wid_low _ (by omega)]
        exact ih _ h3.2.1 (by omega)
      · rw [if_neg h3, wid_low _ (by omega)]
        exact ih (c + 1) (by omega) (by omega)
    · rw [if_neg h, wid_nil]; omega

theorem fillF_mem (w t : Nat) (sp : Bool) (n : Nat) : ∀ c, ∀ x ∈ fillF n c w t sp, (x = 32 ∨ x = 9) ∧ (sp = true → x = 32) := by
  induction n with
  | zero => intro c x hx; simp [fillF] at hx
  | succ n ih =>
    intro c x hx
    simp only [fillF] at hx
    by_cases h : c < w
    · rw [if_pos h] at hx
      by_cases h3 : sp = false ∧ stp c 9 t ≤ w ∧ c + 1 < stp c 9 t
      · rw [if_pos h3, List.mem_cons] at hx
        rcases hx with rfl | hx
        · exact ⟨.inr rfl, fun e => by rw [h3.1] at e; cases e⟩
        · exact ih _ x hx
      · rw [if_neg h3, List.mem_cons] at hx
        rcases hx with rfl | hx
        · exact ⟨.inl rfl, fun _ => rfl⟩
        · exact ih _ x hx
    · rw [if_neg h] at hx; simp at hx

/-- How many bytes fill a width. -/
def fl (c w t : Nat) : Nat := (fill c w t false).length

theorem fl_end (c w t : Nat) (h : w ≤ c) : fl c w t = 0 := by
  unfold fl fill; rw [show w - c = 0 by omega]; rfl
theorem fl_step (c w t : Nat) (h : c < w) (ht : 0 < t) : fl c w t = 1 + (if stp c 9 t ≤ w ∧ c + 1 < stp c 9 t then fl (stp c 9 t) w t else fl (c + 1) w t) := by
  have hg := stp_gt c 9 t ht
  unfold fl fill
  obtain ⟨n, hn⟩ : ∃ n, w - c = n + 1 := ⟨w - c - 1, by omega⟩
  rw [hn]
  simp only [fillF, if_pos h]
  by_cases h3 : stp c 9 t ≤ w ∧ c + 1 < stp c 9 t
  · rw [if_pos ⟨by trivial, h3⟩, if_pos h3, List.length_cons, fillF_fuel w t false n (w - stp c 9 t) _ (by omega) (by omega)]; omega
  · rw [if_neg (fun e => h3 e.2), if_neg h3, List.length_cons, fillF_fuel w t false n (w - (c + 1)) _ (by omega) (by omega)]; omega

theorem stp_same (c t : Nat) (ht : 0 < t) (h : c + 1 < stp c 9 t) : stp (c + 1) 9 t = stp c 9 t := by
  have hs : ∀ x, stp x 9 t = x + t - x % t := fun x => by unfold stp; rw [if_pos rfl]
  rw [hs] at h
  rw [hs, hs]
  have h1 := Nat.mod_lt c ht
  have e : (c + 1) % t = c % t + 1 := by
    have hd := Nat.div_add_mod c t
    have : (c + 1) = (c % t + 1) + t * (c / t) := by omega
    rw [this, Nat.add_mul_mod_self_left, Nat.mod_eq_of_lt (by omega)]
  rw [e]; omega

theorem fl_succ (c w t : Nat) (h : c < w) (ht : 0 < t) : fl (c + 1) w t ≤ fl c w t := by
  rw [fl_step c w t h ht]
  by_cases h3 : stp c 9 t ≤ w ∧ c + 1 < stp c 9 t
  · rw [if_pos h3, fl_step (c + 1) w t (by omega) ht, stp_same c t ht h3.2]
    by_cases h4 : c + 1 + 1 < stp c 9 t
    · rw [if_pos ⟨h3.1, h4⟩]; omega
    · rw [if_neg (fun e => h4 e.2), show c + 1 + 1 = stp c 9 t by omega]; omega
  · rw [if_neg h3]; omega

theorem fl_mono (w t : Nat) (ht : 0 < t) (n : Nat) : ∀ c, c + n ≤ w → fl (c + n) w t ≤ fl c w t := by
  induction n with
  | zero => intro c _; exact Nat.le_refl _
  | succ n ih =>
    intro c h
    have h1 := fl_succ c w t (by omega) ht
    have h2 := ih (c + 1) (by omega)
    rw [show c + (n + 1) = c + 1 + n by omega]; omega

theorem fl_blank (c w t b : Nat) (hb : b = 32 ∨ b = 9) (ht : 0 < t) (h : stp c b t ≤ w) : fl c w t ≤ 1 + fl (stp c b t) w t := by
  have hg := stp_gt c b t ht
  have hg9 := stp_gt c 9 t ht
  rw [fl_step c w t (by omega) ht]
  rcases hb with rfl | rfl
  · have e : stp c 32 t = c + 1 := rfl
    rw [e]
    by_cases h3 : stp c 9 t ≤ w ∧ c + 1 < stp c 9 t
    · rw [if_pos h3]
      have := fl_mono w t ht (stp c 9 t - (c + 1)) (c + 1) (by omega)
      rw [show c + 1 + (stp c 9 t - (c + 1)) = stp c 9 t by omega] at this
      omega
    · rw [if_neg h3]; omega
  · by_cases h3 : stp c 9 t ≤ w ∧ c + 1 < stp c 9 t
    · rw [if_pos h3]; omega
    · rw [if_neg h3, show stp c 9 t = c + 1 by omega]; omega

/-- No blanks fill a width with fewer bytes. -/
theorem fl_least (t : Nat) (ht : 0 < t) (s : List Int) : ∀ c, (∀ x ∈ s, x = 32 ∨ x = 9) → fl c (wid_ s c t) t ≤ s.length := by
  induction s with
  | nil => intro c _; rw [wid_nil, fl_end _ _ _ (Nat.le_refl _)]; simp
  | cons b r ih =>
    intro c h
    have hb := h b (by simp)
    rw [wid_low r (by omega)]
    have := ih (stp c b.toNat t) (fun x hx => h x (by simp [hx]))
    have hb' : b.toNat = 32 ∨ b.toNat = 9 := by omega
    have hle := (wid_le r.length r (stp c b.toNat t) t (Nat.le_refl _) ht).1
    have := fl_blank c (wid_ r (stp c b.toNat t) t) t b.toNat hb' ht hle
    simp only [List.length_cons]; omega

end Go.Proofs.YtdaodcdbfaikjaaDoor.Gen

namespace Go.Proofs.YtdaodcdbfaikjaaDoor.Gen
open Go Go.RowKit

/-- The class of a byte. -/
def cls (c : Int) : Int :=
  if c = 32 ∨ c = 9 then 0 else if c = 10 then 1
  else if 128 ≤ c ∨ c = 95 ∨ (48 ≤ c ∧ c ≤ 57) ∨ (65 ≤ c ∧ c ≤ 90) ∨ (97 ≤ c ∧ c ≤ 122) then 2 else 3

/-- A blank, or a line's end. -/
def ws (c : Int) : Prop := c = 32 ∨ c = 9 ∨ c = 10
instance (c : Int) : Decidable (ws c) := inferInstanceAs (Decidable (c = 32 ∨ c = 9 ∨ c = 10))

theorem cls_ws {c : Int} : cls c ≤ 1 ↔ ws c := by
  unfold cls ws
  repeat' split
  all_goals omega

theorem cls_big {c : Int} (h : ¬ ws c) : 2 ≤ cls c := by
  rcases Int.lt_or_le (cls c) 2 with h' | h'
  · exact absurd (cls_ws.1 (by omega)) h
  · exact h'

theorem cls_bd (c : Int) : 0 ≤ cls c ∧ cls c ≤ 3 := by
  unfold cls
  repeat' split
  all_goals omega

abbrev NN := Nat × Nat

/-- One byte more. -/
def stepS (l : List NN) (i : Nat) (c : Int) : List NN :=
  if ws c then l else match l.getLast? with
    | some (a, n) => if a + n = i then l.dropLast ++ [(a, n + 1)] else l ++ [(i, 1)]
    | none => l ++ [(i, 1)]

def solG : List NN → Nat → List Int → List NN
  | l, _, [] => l
  | l, i, c :: t => solG (stepS l i c) (i + 1) t

def sol (p : List Int) : List NN := solG [] 0 p

theorem stepS_ws {l : List NN} {i : Nat} {c : Int} (h : ws c) : stepS l i c = l := by simp [stepS, h]
theorem stepS_nil {i : Nat} {c : Int} (h : ¬ ws c) : stepS [] i c = [(i, 1)] := by simp [stepS, h]
theorem stepS_last {l : List NN} {a n i : Nat} {c : Int} (h : ¬ ws c) (e : a + n = i) : stepS (l ++ [(a, n)]) i c = l ++ [(a, n + 1)] := by simp [stepS, h, e]
theorem stepS_new {l : List NN} {a n i : Nat} {c : Int} (h : ¬ ws c) (e : a + n ≠ i) : stepS (l ++ [(a, n)]) i c = l ++ [(a, n)] ++ [(i, 1)] := by simp [stepS, h, e]

theorem solG_append (x y : List Int) : ∀ (l : List NN) (i : Nat), solG l i (x ++ y) = solG (solG l i x) (i + x.length) y := by
  induction x with
  | nil => intro l i; simp [solG]
  | cons c t ih => intro l i; simp only [List.cons_append, solG, ih, List.length_cons]; rw [show i + 1 + t.length = i + (t.length + 1) by omega]

theorem solG_ws (g : List Int) (hg : ∀ c ∈ g, ws c) : ∀ (l : List NN) (i : Nat), solG l i g = l := by
  induction g with
  | nil => intro l i; rfl
  | cons c t ih =>
    intro l i
    simp only [solG]
    rw [stepS_ws (hg c (by simp)), ih (fun c hc => hg c (by simp [hc]))]

/-- The last piece ends ahead of a place. -/
def EndsB (l : List NN) (i : Nat) : Prop := ∀ l' a n, l = l' ++ [(a, n)] → a + n < i

theorem solG_on (s : List Int) (hs : ∀ c ∈ s, ¬ ws c) : ∀ (l : List NN) (a n : Nat), solG (l ++ [(a, n)]) (a + n) s = l ++ [(a, n + s.length)] := by
  induction s with
  | nil => intro l a n; rfl
  | cons c t ih =>
    intro l a n
    simp only [solG]
    rw [stepS_last (hs c (by simp)) rfl, Nat.add_assoc, ih (fun c hc => hs c (by simp [hc])), List.length_cons, Nat.add_right_comm, Nat.add_assoc n]

theorem solG_piece (s : List Int) (hs : ∀ c ∈ s, ¬ ws c) (h0 : s ≠ []) (l : List NN) (i : Nat) (hl : EndsB l i) : solG l i s = l ++ [(i, s.length)] := by
  cases s with
  | nil => exact absurd rfl h0
  | cons c t =>
    simp only [solG]
    have e : stepS l i c = l ++ [(i, 1)] := by
      rcases List.eq_nil_or_concat l with rfl | ⟨l', ⟨a, n⟩, rfl⟩
      · exact stepS_nil (hs c (by simp))
      · have := hl l' a n (by simp)
        simp only [List.concat_eq_append]
        exact stepS_new (hs c (by simp)) (by omega)
    rw [e, solG_on t (fun c hc => hs c (by simp [hc])), List.length_cons, Nat.add_comm]

/-- A text as gaps and pieces. -/
abbrev GP := List Int × List Int
def flat (D : List GP) : List Int := D.flatMap fun d => d.1 ++ d.2
def offs : Nat → List GP → List NN
  | _, [] => []
  | o, (g, s) :: t => (o + g.length, s.length) :: offs (o + g.length + s.length) t
def VD : Bool → List GP → Prop
  | _, [] => True
  | b, (g, s) :: t => (∀ c ∈ g, ws c) ∧ (b = false → g ≠ []) ∧ s ≠ [] ∧ (∀ c ∈ s, ¬ ws c) ∧ VD false t

theorem flat_cons (g s : List Int) (t : List GP) : flat ((g, s) :: t) = g ++ (s ++ flat t) := by simp [flat]

theorem Ends_snoc {l : List NN} {a n i : Nat} (h : a + n < i) : EndsB (l ++ [(a, n)]) i := by
  intro l' a' n' e
  have := List.append_inj_right' e rfl
  simp at this
  omega

theorem sol_flat (D : List GP) : ∀ (b : Bool) (last : List Int) (l : List NN) (i : Nat), VD b D → (∀ c ∈ last, ws c) → (b = true → EndsB l i) → (b = false → EndsB l (i + 1)) → solG l i (flat D ++ last) = l ++ offs i D := by
  induction D with
  | nil => intro b last l i _ hw _ _; simp [flat, offs, solG_ws last hw]
  | cons d t ih =>
    obtain ⟨g, s⟩ := d
    intro b last l i hD hw h1 h2
    obtain ⟨hg, hb, hs0, hs, ht⟩ := hD
    rw [flat_cons, List.append_assoc, solG_append, solG_ws g hg, List.append_assoc, solG_append, solG_piece s hs hs0]
    · rw [ih false last _ _ ht hw (by simp) (fun _ => Ends_snoc (by omega))]
      simp [offs]
    · intro l' a n e
      cases b with
      | true => have := h1 rfl l' a n e; omega
      | false =>
        have := h2 rfl l' a n e
        have : g.length ≠ 0 := by simpa using hb rfl
        omega

theorem sol_offs {D : List GP} {last : List Int} (hD : VD true D) (hw : ∀ c ∈ last, ws c) : sol (flat D ++ last) = offs 0 D := by
  have := sol_flat D true last [] 0 hD hw (fun _ l' a n e => by simp at e) (by simp)
  simpa [sol] using this

theorem takeW (q : Int → Bool) (p : List Int) : p = p.takeWhile q ++ p.dropWhile q := List.takeWhile_append_dropWhile.symm

theorem dropW_head (q : Int → Bool) (p : List Int) {c : Int} {t : List Int} (h : p.dropWhile q = c :: t) : q c = false := by
  induction p with
  | nil => simp at h
  | cons a p ih =>
    rw [List.dropWhile_cons] at h
    cases hq : q a with
    | true => rw [hq] at h; exact ih h
    | false => rw [hq] at h; simp at h; obtain ⟨rfl, rfl⟩ := h; exact hq

theorem decomp (n : Nat) : ∀ p : List Int, p.length ≤ n → ∃ D last, p = flat D ++ last ∧ VD true D ∧ (∀ c ∈ last, ws c) ∧ ((∀ c t, p = c :: t → ws c) → VD false D) := by
  induction n with
  | zero =>
    intro p hp
    have : p = [] := List.eq_nil_of_length_eq_zero (by omega)
    subst this
    exact ⟨[], [], rfl, trivial, by simp, fun _ => trivial⟩
  | succ n ih =>
    intro p hp
    have e := takeW (fun c => decide (ws c)) p
    generalize hg : p.takeWhile (fun c => decide (ws c)) = g at e
    generalize hr : p.dropWhile (fun c => decide (ws c)) = r at e
    have hgw : ∀ c ∈ g, ws c := by
      intro c hc; rw [← hg] at hc
      have := List.all_takeWhile (p := fun c => decide (ws c)) (l := p)
      rw [List.all_eq_true] at this
      simpa using this c hc
    cases r with
    | nil => exact ⟨[], g, by simpa [flat] using e, trivial, hgw, fun _ => trivial⟩
    | cons c t =>
      have hc : ¬ ws c := by simpa using dropW_head _ p hr
      have e2 := takeW (fun c => !decide (ws c)) t
      generalize hs : t.takeWhile (fun c => !decide (ws c)) = s at e2
      generalize hu : t.dropWhile (fun c => !decide (ws c)) = u at e2
      have hsw : ∀ c ∈ s, ¬ ws c := by
        intro c hc; rw [← hs] at hc
        have := List.all_takeWhile (p := fun c => !decide (ws c)) (l := t)
        rw [List.all_eq_true] at this
        simpa using this c hc
      have hlen : u.length ≤ n := by
        have := congrArg List.length e
        have := congrArg List.length e2
        simp at *
        omega
      obtain ⟨D, last, h1, h2, h3, h4⟩ := ih u hlen
      have hV : VD false D := h4 (fun c' t' he => by
        subst he
        simpa using dropW_head _ t hu)
      refine ⟨(g, c :: s) :: D, last, ?_, ⟨hgw, by simp, by simp, ?_, hV⟩, h3, fun hh => ⟨hgw, fun _ => ?_, by simp, ?_, hV⟩⟩
      · rw [e, e2, flat_cons, h1]; simp
      · intro x hx; rcases List.mem_cons.1 hx with rfl | hx
        · exact hc
        · exact hsw x hx
      · rintro rfl
        exact hc (hh c t (by simpa using e))
      · intro x hx; rcases List.mem_cons.1 hx with rfl | hx
        · exact hc
        · exact hsw x hx

theorem decomp_of (p : List Int) : ∃ D last, p = flat D ++ last ∧ VD true D ∧ (∀ c ∈ last, ws c) := by
  obtain ⟨D, last, h1, h2, h3, _⟩ := decomp p.length p (Nat.le_refl _)
  exact ⟨D, last, h1, h2, h3⟩

/-- Where a place is. -/
def place (at_ : Int) : List NN → List NN → Int → Int
  | [], _, e => e
  | _ :: _, [], e => e
  | (a, n) :: f, (b, _) :: t, e => if at_ < a then b else if at_ < a + n then b + at_ - a else place at_ f t e

/-- All pieces lie within so many bytes. -/
def Within (l : List NN) (m : Nat) : Prop := ∀ x ∈ l, x.1 + x.2 ≤ m

theorem stepS_within {l : List NN} {i : Nat} {c : Int} (h : Within l i) : Within (stepS l i c) (i + 1) := by
  have h' : Within l (i + 1) := fun x hx => by have := h x hx; omega
  by_cases hw : ws c
  · rw [stepS_ws hw]; exact h'
  · rcases List.eq_nil_or_concat l with rfl | ⟨l', ⟨a, n⟩, rfl⟩
    · rw [stepS_nil hw]; intro x hx; simp at hx; subst hx; simp
    · simp only [List.concat_eq_append] at *
      by_cases e : a + n = i
      · rw [stepS_last hw e]
        intro x hx
        rcases List.mem_append.1 hx with hx | hx
        · exact h' x (by simp [hx])
        · simp at hx; subst hx; simp; omega
      · rw [stepS_new hw e]
        intro x hx
        rcases List.mem_append.1 hx with hx | hx
        · exact h' x hx
        · simp at hx; subst hx; simp

theorem solG_within (t : List Int) : ∀ (l : List NN) (i : Nat), Within l i → Within (solG l i t) (i + t.length) := by
  induction t with
  | nil => intro l i h; exact h
  | cons c t ih =>
    intro l i h
    have := ih _ _ (stepS_within (c := c) h)
    simp only [solG, List.length_cons]
    rw [show i + (t.length + 1) = i + 1 + t.length by omega]
    exact this

theorem sol_within (p : List Int) : Within (sol p) p.length := by
  have := solG_within p [] 0 (fun x hx => by simp at hx)
  simpa [sol] using this

theorem stepS_length {l : List NN} {i : Nat} {c : Int} : (stepS l i c).length ≤ l.length + 1 := by
  by_cases hw : ws c
  · rw [stepS_ws hw]; omega
  · rcases List.eq_nil_or_concat l with rfl | ⟨l', ⟨a, n⟩, rfl⟩
    · rw [stepS_nil hw]; simp
    · simp only [List.concat_eq_append] at *
      by_cases e : a + n = i
      · rw [stepS_last hw e]; simp
      · rw [stepS_new hw e]; simp

theorem solG_length (t : List Int) : ∀ (l : List NN) (i : Nat), (solG l i t).length ≤ l.length + t.length := by
  induction t with
  | nil => intro l i; exact Nat.le_refl _
  | cons c t ih =>
    intro l i
    have := ih (stepS l i c) (i + 1)
    have := stepS_length (l := l) (i := i) (c := c)
    simp only [solG, List.length_cons]
    omega

theorem sol_length (p : List Int) : (sol p).length ≤ p.length := by
  have := solG_length p [] 0
  simpa [sol] using this

/-- The pieces' bytes. -/
def cut (p : List Int) (x : NN) : List Int := (p.take (x.1 + x.2)).drop x.1
def texts (p : List Int) : List (List Int) := (sol p).map (cut p)

theorem texts_offs (D : List GP) : ∀ (pre last : List Int), (offs pre.length D).map (cut (pre ++ (flat D ++ last))) = D.map (·.2) := by
  induction D with
  | nil => intro pre last; rfl
  | cons d t ih =>
    obtain ⟨g, s⟩ := d
    intro pre last
    have h := ih (pre ++ g ++ s) last
    simp only [List.length_append] at h
    simp only [offs, List.map_cons, flat_cons]
    have e : pre ++ (g ++ (s ++ flat t) ++ last) = pre ++ g ++ s ++ (flat t ++ last) := by simp
    rw [e, h]
    congr 1
    simp only [cut]
    have e1 : pre.length + g.length + s.length = (pre ++ g ++ s).length := by simp only [List.length_append]
    rw [e1, List.take_left]
    have e2 : pre.length + g.length = (pre ++ g).length := by simp
    rw [e2, List.drop_left]

theorem texts_flat {D : List GP} {last : List Int} (hD : VD true D) (hw : ∀ c ∈ last, ws c) : texts (flat D ++ last) = D.map (·.2) := by
  unfold texts
  rw [sol_offs hD hw]
  simpa using texts_offs D [] last

theorem strOfNums_inj {a b : List Int} (ha : Bytes a) (hb : Bytes b) (h : (strOfNums a).toList = (strOfNums b).toList) : a = b := by
  rw [ByteArray.toList_eq, ByteArray.toList_eq] at h
  simp only [strOfNums] at h
  induction a generalizing b with
  | nil => cases b with
    | nil => rfl
    | cons _ _ => simp at h
  | cons x a ih => cases b with
    | nil => simp at h
    | cons y b =>
      simp only [List.map_cons, List.cons.injEq] at h
      obtain ⟨h1, h2⟩ := h
      have hx := ha x (by simp)
      have hy := hb y (by simp)
      have h3 := congrArg UInt8.toNat h1
      rw [UInt8.toNat_ofNat', UInt8.toNat_ofNat'] at h3
      rw [ih (fun z hz => ha z (by simp [hz])) (fun z hz => hb z (by simp [hz])) h2]
      congr 1
      omega

theorem bytes_cut {p : List Int} (h : Bytes p) (x : NN) : Bytes (cut p x) := fun y hy => h y (List.mem_of_mem_take (List.mem_of_mem_drop hy))

/-- Places and pieces: what a text and one with the same pieces tell. -/
theorem offs_length (D : List GP) : ∀ o, (offs o D).length = D.length := by
  induction D with
  | nil => intro o; rfl
  | cons d t ih => obtain ⟨g, s⟩ := d; intro o; simp [offs, ih]

theorem flat_len (g s : List Int) (t : List GP) : (flat ((g, s) :: t)).length = g.length + s.length + (flat t).length := by
  rw [flat_cons]; simp only [List.length_append]; omega

theorem place_ge (D : List GP) : ∀ (D' : List GP) (o o' : Nat) (e at_ : Int), D.map (·.2) = D'.map (·.2) → ((o' + (flat D').length : Nat) : Int) ≤ e → (o' : Int) ≤ place at_ (offs o D) (offs o' D') e ∧ place at_ (offs o D) (offs o' D') e ≤ e := by
  induction D with
  | nil =>
    intro D' o o' e at_ hm he
    cases D' with
    | nil => simp only [offs, place]; omega
    | cons d t => simp at hm
  | cons d t ih =>
    obtain ⟨g, s⟩ := d
    intro D' o o' e at_ hm he
    cases D' with
    | nil => simp at hm
    | cons d' t' =>
      obtain ⟨g', s'⟩ := d'
      simp only [List.map_cons, List.cons.injEq] at hm
      obtain ⟨rfl, hm⟩ := hm
      rw [flat_len] at he
      have := ih t' (o + g.length + s.length) (o' + g'.length + s.length) e at_ hm (by omega)
      simp only [offs, place]
      split
      · omega
      · split <;> omega

theorem place_mono (D : List GP) : ∀ (D' : List GP) (o o' : Nat) (e a b : Int), D.map (·.2) = D'.map (·.2) → ((o' + (flat D').length : Nat) : Int) ≤ e → a ≤ b → place a (offs o D) (offs o' D') e ≤ place b (offs o D) (offs o' D') e := by
  induction D with
  | nil =>
    intro D' o o' e a b hm he hab
    simp [offs, place]
  | cons d t ih =>
    obtain ⟨g, s⟩ := d
    intro D' o o' e a b hm he hab
    cases D' with
    | nil => simp at hm
    | cons d' t' =>
      obtain ⟨g', s'⟩ := d'
      simp only [List.map_cons, List.cons.injEq] at hm
      obtain ⟨rfl, hm⟩ := hm
      rw [flat_len] at he
      have h1 := ih t' (o + g.length + s.length) (o' + g'.length + s.length) e a b hm (by omega) hab
      have h2 := place_ge t t' (o + g.length + s.length) (o' + g'.length + s.length) e b hm (by omega)
      simp only [offs, place]
      repeat' split
      all_goals omega

theorem place_back (D : List GP) : ∀ (D' : List GP) (o o' : Nat) (e e' a : Int) (v : Bool), D.map (·.2) = D'.map (·.2) → VD v D → ((o' + (flat D').length : Nat) : Int) ≤ e' →
    place (place a (offs o D) (offs o' D') e') (offs o' D') (offs o D) e = place a (offs o D) (offs o D) e := by
  induction D with
  | nil =>
    intro D' o o' e e' a v hm hv he
    cases D' with
    | nil => rfl
    | cons d t => simp at hm
  | cons d t ih =>
    obtain ⟨g, s⟩ := d
    intro D' o o' e e' a v hm hv he
    cases D' with
    | nil => simp at hm
    | cons d' t' =>
      obtain ⟨g', s'⟩ := d'
      simp only [List.map_cons, List.cons.injEq] at hm
      obtain ⟨rfl, hm⟩ := hm
      rw [flat_len] at he
      have h1 := ih t' (o + g.length + s.length) (o' + g'.length + s.length) e e' a false hm hv.2.2.2.2 (by omega)
      have h2 := place_ge t t' (o + g.length + s.length) (o' + g'.length + s.length) e' a hm (by omega)
      have h0 : 0 < s.length := List.length_pos_iff.2 hv.2.2.1
      simp only [offs, place]
      rw [← h1]
      generalize place a (offs (o + g.length + s.length) t) (offs (o' + g'.length + s.length) t') e' = z at h2
      by_cases c1 : a < ((o + g.length : Nat) : Int)
      · simp only [if_pos c1]
        rw [if_neg (by omega), if_pos (by omega)]; omega
      · simp only [if_neg c1]
        by_cases c2 : a < ((o + g.length : Nat) : Int) + (s.length : Int)
        · simp only [if_pos c2]
          rw [if_neg (by omega), if_pos (by omega)]; omega
        · simp only [if_neg c2]
          rw [if_neg (by omega), if_neg (by omega)]

theorem place_here (D : List GP) : ∀ (o : Nat) (e a : Int), a ≤ e → a ≤ place a (offs o D) (offs o D) e := by
  induction D with
  | nil => intro o e a h; exact h
  | cons d t ih =>
    obtain ⟨g, s⟩ := d
    intro o e a h
    have := ih (o + g.length + s.length) e a h
    simp only [offs, place]
    repeat' split
    all_goals omega

theorem place_self (D : List GP) : ∀ (o m : Nat) (e : Int) (last : List Int) (v : Bool), VD v D → (∀ c ∈ last, ws c) → (h : m < (flat D ++ last).length) → ¬ ws ((flat D ++ last)[m]) → place ((o + m : Nat) : Int) (offs o D) (offs o D) e = ((o + m : Nat) : Int) := by
  induction D with
  | nil =>
    intro o m e last v _ hl h hn
    exact absurd (hl _ (by simp [flat])) hn
  | cons d t ih =>
    obtain ⟨g, s⟩ := d
    intro o m e last v hv hl h hn
    obtain ⟨hg, _, _, hs, ht⟩ := hv
    simp only [offs, place]
    have he : flat ((g, s) :: t) ++ last = g ++ (s ++ (flat t ++ last)) := by rw [flat_cons]; simp
    by_cases c1 : m < g.length
    · exfalso
      refine hn (hg _ ?_)
      simp only [he]
      rw [List.getElem_append_left c1]
      exact List.getElem_mem _
    · rw [if_neg (by omega)]
      by_cases c2 : m < g.length + s.length
      · rw [if_pos (by omega)]; omega
      · rw [if_neg (by omega)]
        have hlen := h
        rw [he] at hlen
        simp only [List.length_append] at hlen
        have := ih (o + g.length + s.length) (m - g.length - s.length) e last false ht hl (by simp only [List.length_append]; omega) (by
          refine fun hh => hn ?_
          simp only [he]
          rw [List.getElem_append_right (by omega), List.getElem_append_right (by omega)]
          exact hh)
        rw [show o + g.length + s.length + (m - g.length - s.length) = o + m by omega] at this
        exact this

theorem VD_snoc (g s : List Int) (hg : ∀ c ∈ g, ws c) (hs0 : s ≠ []) (hs : ∀ c ∈ s, ¬ ws c) (D : List GP) : ∀ (v : Bool), VD v D → (D = [] → v = false → g ≠ []) → (D ≠ [] → g ≠ []) → VD v (D ++ [(g, s)]) := by
  induction D with
  | nil => intro v _ h _; exact ⟨hg, h rfl, hs0, hs, trivial⟩
  | cons d t ih =>
    obtain ⟨g', s'⟩ := d
    intro v hv _ h
    exact ⟨hv.1, hv.2.1, hv.2.2.1, hv.2.2.2.1, ih false hv.2.2.2.2 (fun _ _ => h (by simp)) (fun _ => h (by simp))⟩

theorem flat_snoc (D : List GP) (g s : List Int) : flat (D ++ [(g, s)]) = flat D ++ (g ++ s) := by simp [flat]

theorem VD_texts {D : List GP} {v : Bool} (h : VD v D) : ∀ s ∈ D.map (·.2), s ≠ [] ∧ ∀ c ∈ s, ¬ ws c := by
  induction D generalizing v with
  | nil => simp
  | cons d t ih =>
    obtain ⟨g, s⟩ := d
    intro x hx
    simp only [List.map_cons, List.mem_cons] at hx
    rcases hx with rfl | hx
    · exact ⟨h.2.2.1, h.2.2.2.1⟩
    · exact ih h.2.2.2.2 x hx

theorem texts_good (p : List Int) : ∀ s ∈ texts p, s ≠ [] ∧ ∀ c ∈ s, ¬ ws c := by
  obtain ⟨D, last, rfl, hD, hl⟩ := decomp_of p
  rw [texts_flat hD hl]
  exact VD_texts hD

/-- A byte that is no blank, set ahead, changes the pieces. -/
theorem texts_ahead (x : Int) (hx : ¬ ws x) (q : List Int) : texts (x :: q) ≠ texts q := by
  obtain ⟨D, last, rfl, hD, hl⟩ := decomp_of q
  rw [texts_flat hD hl]
  cases D with
  | nil =>
    have : x :: (flat [] ++ last) = flat [([], [x])] ++ last := by simp [flat]
    rw [this, texts_flat (D := [([], [x])]) ⟨by simp, by simp, by simp, by simpa using hx, trivial⟩ hl]
    simp
  | cons d t =>
    obtain ⟨g, s⟩ := d
    by_cases hg : g = []
    · subst hg
      have : x :: (flat (([], s) :: t) ++ last) = flat (([], x :: s) :: t) ++ last := by simp [flat]
      rw [this, texts_flat (D := ([], x :: s) :: t) ⟨by simp, by simp, by simp, (by
        intro c hc; rcases List.mem_cons.1 hc with rfl | hc
        · exact hx
        · exact hD.2.2.2.1 c hc), hD.2.2.2.2⟩ hl]
      intro h
      have := congrArg List.length (List.cons.inj h).1
      simp at this
    · have : x :: (flat ((g, s) :: t) ++ last) = flat (([], [x]) :: (g, s) :: t) ++ last := by simp [flat]
      rw [this, texts_flat (D := ([], [x]) :: (g, s) :: t) ⟨by simp, by simp, by simp, by simpa using hx, hD.1, fun _ => hg, hD.2.2.1, hD.2.2.2.1, hD.2.2.2.2⟩ hl]
      intro h
      have := congrArg List.length h
      simp at this

theorem cut_len (p : List Int) (x : NN) (h : x.1 + x.2 ≤ p.length) : (cut p x).length = x.2 := by
  simp only [cut, List.length_drop, List.length_take]; omega

theorem cut_rd (p : List Int) (x : NN) (h : x.1 + x.2 ≤ p.length) (d : Nat) (hd : d < x.2) : (cut p x)[d]? = some (p[x.1 + d]'(by omega)) := by
  simp only [cut, List.getElem?_drop, List.getElem?_take]
  rw [if_pos (by omega), List.getElem?_eq_getElem (by omega)]

/-- The facts about two texts with the same pieces. -/
theorem alike_facts {p q : List Int} (h : texts p = texts q) : ∃ D last D' last', p = flat D ++ last ∧ VD true D ∧ (∀ c ∈ last, ws c) ∧ q = flat D' ++ last' ∧ VD true D' ∧ (∀ c ∈ last', ws c) ∧ D.map (·.2) = D'.map (·.2) ∧ sol p = offs 0 D ∧ sol q = offs 0 D' := by
  obtain ⟨D, last, rfl, hD, hl⟩ := decomp_of p
  obtain ⟨D', last', rfl, hD', hl'⟩ := decomp_of q
  rw [texts_flat hD hl, texts_flat hD' hl'] at h
  exact ⟨D, last, D', last', rfl, hD, hl, rfl, hD', hl', h, sol_offs hD hl, sol_offs hD' hl'⟩

theorem alike_mono {p q : List Int} (h : texts p = texts q) (a b : Int) (hab : a ≤ b) : place a (sol p) (sol q) (q.length : Int) ≤ place b (sol p) (sol q) (q.length : Int) := by
  obtain ⟨D, last, D', last', rfl, hD, hl, rfl, hD', hl', hm, e1, e2⟩ := alike_facts h
  rw [e1, e2]
  exact place_mono D D' 0 0 _ a b hm (by simp only [List.length_append]; omega) hab

theorem alike_bd {p q : List Int} (h : texts p = texts q) (a : Int) : 0 ≤ place a (sol p) (sol q) (q.length : Int) ∧ place a (sol p) (sol q) (q.length : Int) ≤ (q.length : Int) := by
  obtain ⟨D, last, D', last', rfl, hD, hl, rfl, hD', hl', hm, e1, e2⟩ := alike_facts h
  rw [e1, e2]
  have := place_ge D D' 0 0 (((flat D' ++ last').length : Nat) : Int) a hm (by simp only [List.length_append]; omega)
  omega

theorem alike_back {p q : List Int} (h : texts p = texts q) (a : Int) : place (place a (sol p) (sol q) (q.length : Int)) (sol q) (sol p) (p.length : Int) = place a (sol p) (sol p) (p.length : Int) := by
  obtain ⟨D, last, D', last', rfl, hD, hl, rfl, hD', hl', hm, e1, e2⟩ := alike_facts h
  rw [e1, e2]
  exact place_back D D' 0 0 _ _ a true hm hD (by simp only [List.length_append]; omega)

theorem here_ge (p : List Int) (a : Int) (h : a ≤ (p.length : Int)) : a ≤ place a (sol p) (sol p) (p.length : Int) := by
  obtain ⟨D, last, rfl, hD, hl⟩ := decomp_of p
  rw [sol_offs hD hl]
  exact place_here D 0 _ a h

theorem here_self (p : List Int) (m : Nat) (h : m < p.length) (hn : ¬ ws p[m]) : place (m : Int) (sol p) (sol p) (p.length : Int) = (m : Int) := by
  obtain ⟨D, last, rfl, hD, hl⟩ := decomp_of p
  rw [sol_offs hD hl]
  have := place_self D 0 m (((flat D ++ last).length : Nat) : Int) last true hD hl h hn
  simpa using this

end Go.Proofs.YtdaodcdbfaikjaaDoor.Gen

namespace Go.Proofs.YtdaodcdbfaikjaaDoor.Gen
open Go Go.RowKit
set_option linter.unusedVariables false
set_option linter.unusedSimpArgs false

/-- The runs of a text that begins at a place. -/
def rn : Nat → List Int → List NN
  | _, [] => []
  | o, c :: t => match t, rn (o + 1) t with
    | d :: _, (a, n) :: r => if cls c = cls d then (o, n + 1) :: r else (o, 1) :: (a, n) :: r
    | _, _ => [(o, 1)]

theorem rn_one (o : Nat) (c : Int) : rn o [c] = [(o, 1)] := rfl
theorem rn_ne (o : Nat) (c : Int) (t : List Int) : rn o (c :: t) ≠ [] := by
  simp only [rn]
  split
  · split <;> simp
  · simp
theorem rn_cons (o : Nat) (c d : Int) (t : List Int) : ∃ a n r, rn (o + 1) (d :: t) = (a, n) :: r ∧ rn o (c :: d :: t) = if cls c = cls d then (o, n + 1) :: r else (o, 1) :: (a, n) :: r := by
  have h := rn_ne (o + 1) d t
  generalize he : rn (o + 1) (d :: t) = L at h
  cases L with
  | nil => exact absurd rfl h
  | cons x r =>
    obtain ⟨a, n⟩ := x
    refine ⟨a, n, r, rfl, ?_⟩
    rw [show rn o (c :: d :: t) = (match d :: t, rn (o + 1) (d :: t) with | d :: _, (a, n) :: r => if cls c = cls d then (o, n + 1) :: r else (o, 1) :: (a, n) :: r | _, _ => [(o, 1)]) from rfl, he]

/-- The runs lie one behind the other over the whole text. -/
def Cov (p : List Int) : Nat → List NN → Prop
  | o, [] => o = p.length
  | o, (a, n) :: r => a = o ∧ 1 ≤ n ∧ o + n ≤ p.length ∧ (∀ i, o ≤ i → (h : i < o + n) → ∀ (h1 : i < p.length) (h2 : o < p.length), cls p[i] = cls p[o]) ∧ (∀ (h1 : o + n < p.length) (h2 : o + n - 1 < p.length), cls p[o + n] ≠ cls p[o + n - 1]) ∧ Cov p (o + n) r

theorem cov_rn (p : List Int) (m : Nat) : ∀ o, o + m = p.length → Cov p o (rn o (p.drop o)) := by
  induction m with
  | zero => intro o h; rw [List.drop_eq_nil_of_le (by omega)]; simp only [rn, Cov]; omega
  | succ m ih =>
    intro o h
    have hlt : o < p.length := by omega
    have hnext := ih (o + 1) (by omega)
    rw [drop_at p o hlt]
    by_cases h1 : o + 1 < p.length
    · rw [drop_at p (o + 1) h1] at hnext ⊢
      obtain ⟨a, n, r, e1, e2⟩ := rn_cons o p[o] p[o + 1] (p.drop (o + 1 + 1))
      rw [e1] at hnext
      rw [e2]
      obtain ⟨ha, hn, hle, hsame, hdiff, hr⟩ := hnext
      by_cases hc : cls p[o] = cls p[o + 1]
      · rw [if_pos hc]
        refine ⟨rfl, by omega, by omega, ?_, ?_, ?_⟩
        · intro i h2 h3 h4 h5
          rcases Nat.lt_or_ge o i with h6 | h6
          · rw [hsame i (by omega) (by omega) h4 h1, ← hc]
          · have : i = o := by omega
            subst this; rfl
        · intro h2 h3
          have := hdiff (by omega) (by omega)
          simp only [show o + 1 + n = o + (n + 1) by omega] at this
          exact this
        · rw [show o + (n + 1) = o + 1 + n by omega]; exact hr
      · rw [if_neg hc]
        refine ⟨rfl, by omega, by omega, ?_, ?_, ha, hn, hle, hsame, hdiff, hr⟩
        · intro i h2 h3 h4 h5
          have : i = o := by omega
          subst this; rfl
        · intro h2 h3
          simp only [show o + 1 - 1 = o by omega]
          exact fun e => hc e.symm
    · rw [List.drop_eq_nil_of_le (by omega), rn_one]
      refine ⟨rfl, by omega, by omega, ?_, ?_, ?_⟩
      · intro i h2 h3 h4 h5
        have : i = o := by omega
        subst this; rfl
      · intro h2 h3; omega
      · simp only [Cov]; omega

/-- One byte more at the end. -/
theorem rn_snoc (x : List Int) (c : Int) : ∀ o (h : x ≠ []), ∃ l a n, rn o x = l ++ [(a, n)] ∧ rn o (x ++ [c]) = if cls (x.getLast h) = cls c then l ++ [(a, n + 1)] else l ++ [(a, n)] ++ [(o + x.length, 1)] := by
  induction x with
  | nil => intro o h; exact absurd rfl h
  | cons d t ih =>
    intro o h
    cases t with
    | nil =>
      refine ⟨[], o, 1, rfl, ?_⟩
      obtain ⟨a, n, r, e1, e2⟩ := rn_cons o d c []
      rw [rn_one, List.cons.injEq, Prod.mk.injEq] at e1
      obtain ⟨⟨rfl, rfl⟩, rfl⟩ := e1
      rw [List.cons_append, List.nil_append, e2]
      simp
    | cons e t =>
      obtain ⟨l, a, n, h1, h2⟩ := ih (o + 1) (by simp)
      obtain ⟨a1, n1, r1, e1, e2⟩ := rn_cons o d e t
      obtain ⟨a2, n2, r2, f1, f2⟩ := rn_cons o d e (t ++ [c])
      rw [List.cons_append] at h2
      rw [h2] at f1
      rw [h1] at e1
      rw [List.cons_append, List.cons_append, f2, e2]
      have hl : (d :: e :: t).getLast h = (e :: t).getLast (by simp) := List.getLast_cons (by simp)
      rw [hl]
      cases l with
      | nil =>
        simp only [List.nil_append, List.cons.injEq, Prod.mk.injEq] at e1
        obtain ⟨⟨rfl, rfl⟩, rfl⟩ := e1
        by_cases hc : cls ((e :: t).getLast (by simp)) = cls c
        · simp only [hc, if_true, List.nil_append, List.cons.injEq, Prod.mk.injEq] at f1
          obtain ⟨⟨rfl, rfl⟩, rfl⟩ := f1
          by_cases hd : cls d = cls e
          · exact ⟨[], o, n + 1, by simp [hd], by simp [hc, hd]⟩
          · exact ⟨[(o, 1)], a, n, by simp [hd], by simp [hc, hd]⟩
        · simp only [hc, if_false, List.nil_append, List.cons_append, List.cons.injEq, Prod.mk.injEq] at f1
          obtain ⟨⟨rfl, rfl⟩, rfl⟩ := f1
          by_cases hd : cls d = cls e
          · exact ⟨[], o, n + 1, by simp [hd], by simp [hc, hd]; omega⟩
          · exact ⟨[(o, 1)], a, n, by simp [hd], by simp [hc, hd]; omega⟩
      | cons y l =>
        obtain ⟨ya, yn⟩ := y
        simp only [List.cons_append, List.cons.injEq, Prod.mk.injEq] at e1
        obtain ⟨⟨rfl, rfl⟩, rfl⟩ := e1
        by_cases hc : cls ((e :: t).getLast (by simp)) = cls c
        · simp only [hc, if_true, List.cons_append, List.cons.injEq, Prod.mk.injEq] at f1
          obtain ⟨⟨rfl, rfl⟩, rfl⟩ := f1
          by_cases hd : cls d = cls e
          · exact ⟨(o, yn + 1) :: l, a, n, by simp [hd], by simp [hc, hd]⟩
          · exact ⟨(o, 1) :: (ya, yn) :: l, a, n, by simp [hd], by simp [hc, hd]⟩
        · simp only [hc, if_false, List.cons_append, List.cons.injEq, Prod.mk.injEq] at f1
          obtain ⟨⟨rfl, rfl⟩, rfl⟩ := f1
          by_cases hd : cls d = cls e
          · exact ⟨(o, yn + 1) :: l, a, n, by simp [hd], by simp [hc, hd]; omega⟩
          · exact ⟨(o, 1) :: (ya, yn) :: l, a, n, by simp [hd], by simp [hc, hd]; omega⟩

/-- What holds of every run. -/
theorem cov_mem (p : List Int) (L : List NN) : ∀ o, Cov p o L → ∀ x ∈ L, o ≤ x.1 ∧ 1 ≤ x.2 ∧ x.1 + x.2 ≤ p.length := by
  induction L with
  | nil => intro o _ x hx; simp at hx
  | cons y r ih =>
    obtain ⟨a, n⟩ := y
    intro o h x hx
    obtain ⟨ha, hn, hle, _, _, hr⟩ := h
    rcases List.mem_cons.1 hx with rfl | hx
    · exact ⟨by simp only; omega, hn, by simp only; omega⟩
    · have := ih _ hr x hx; exact ⟨by omega, this.2⟩

theorem rn_mem (p : List Int) : ∀ x ∈ rn 0 p, 1 ≤ x.2 ∧ x.1 + x.2 ≤ p.length := by
  have := cov_rn p p.length 0 (by omega)
  simp only [List.drop_zero] at this
  exact fun x hx => (cov_mem p _ 0 this x hx).2

theorem rn_length (q : List Int) : ∀ o, (rn o q).length ≤ q.length := by
  induction q with
  | nil => intro o; simp [rn]
  | cons c t ih =>
    intro o
    cases t with
    | nil => simp [rn]
    | cons d t =>
      obtain ⟨a, n, r, e1, e2⟩ := rn_cons o c d t
      have := ih (o + 1)
      rw [e1] at this
      rw [e2]
      simp only [List.length_cons] at *
      split <;> simp only [List.length_cons] <;> omega

/-- The starts ascend. -/
def Asc (L : List NN) : Prop := L.Pairwise fun x y => x.1 < y.1
theorem cov_asc (p : List Int) (L : List NN) : ∀ o, Cov p o L → Asc L := by
  induction L with
  | nil => intro o _; exact List.Pairwise.nil
  | cons y r ih =>
    obtain ⟨a, n⟩ := y
    intro o h
    obtain ⟨ha, hn, hle, _, _, hr⟩ := h
    exact List.Pairwise.cons (fun x hx => by have := cov_mem p r _ hr x hx; simp only; omega) (ih _ hr)
theorem rn_asc (p : List Int) : Asc (rn 0 p) := by
  have := cov_rn p p.length 0 (by omega)
  simp only [List.drop_zero] at this
  exact cov_asc p _ 0 this

/-- The runs that are words. -/
def wrds (p : List Int) : List NN := (rn 0 p).filter fun x => decide (2 ≤ cls (p.getD x.1 0))
theorem wrds_asc (p : List Int) : Asc (wrds p) := (rn_asc p).filter _
theorem wrds_mem (p : List Int) : ∀ x ∈ wrds p, 1 ≤ x.2 ∧ x.1 + x.2 ≤ p.length := fun x hx => rn_mem p x (List.mem_filter.1 hx).1

/-- The first start behind a place. -/
def fwd (len : Nat) (a : Int) : List NN → Int
  | [] => (len : Int)
  | x :: r => if (x.1 : Int) > a then (x.1 : Int) else fwd len a r
/-- The last start ahead of a place. -/
def bck (a : Int) : Int → List NN → Int
  | d, [] => d
  | d, x :: r => bck a (if (x.1 : Int) < a then (x.1 : Int) else d) r

/-- How many runs. -/
theorem rn_len_cons (o : Nat) (c d : Int) (t : List Int) : (rn o (c :: d :: t)).length = (rn (o + 1) (d :: t)).length + if cls c = cls d then 0 else 1 := by
  obtain ⟨a, n, r, e1, e2⟩ := rn_cons o c d t
  rw [e1, e2]
  split <;> simp
theorem rn_len_off (q : List Int) : ∀ o o', (rn o q).length = (rn o' q).length := by
  induction q with
  | nil => intro o o'; rfl
  | cons c t ih =>
    intro o o'
    cases t with
    | nil => rfl
    | cons d t => rw [rn_len_cons, rn_len_cons, ih (o + 1) (o' + 1)]
theorem rn_len_append (a b : List Int) (ha : a ≠ []) (hb : b ≠ []) : ∀ o, (rn o (a ++ b)).length + (if cls (a.getLast ha) = cls (b.head hb) then 1 else 0) = (rn o a).length + (rn 0 b).length := by
  induction a with
  | nil => exact absurd rfl ha
  | cons c t ih =>
    intro o
    cases t with
    | nil =>
      cases b with
      | nil => exact absurd rfl hb
      | cons d b =>
        have e1 : (rn o ([c] ++ d :: b)).length = (rn 0 (d :: b)).length + if cls c = cls d then 0 else 1 := by
          rw [List.cons_append, List.nil_append, rn_len_cons, rn_len_off (d :: b) (o + 1) 0]
        rw [e1, rn_one, List.length_singleton]
        by_cases hcd : cls c = cls d
        · rw [if_pos hcd, if_pos (show cls ([c].getLast ha) = cls ((d :: b).head hb) from hcd)]; omega
        · rw [if_neg hcd, if_neg (show ¬ cls ([c].getLast ha) = cls ((d :: b).head hb) from hcd)]; omega
    | cons e t =>
      have := ih (by simp) (o + 1)
      rw [List.cons_append, List.cons_append, rn_len_cons, rn_len_cons, List.getLast_cons (by simp)]
      rw [List.cons_append] at this
      omega

theorem cls_nl {c : Int} : cls c = 1 ↔ c = 10 := by
  unfold cls
  repeat' split
  all_goals omega

/-- The bytes in pieces and the blanks are all bytes. -/
def sumN (l : List NN) : Nat := (l.map (·.2)).sum
theorem sumN_append (a b : List NN) : sumN (a ++ b) = sumN a + sumN b := by simp [sumN]
theorem stepS_sum (l : List NN) (i : Nat) (c : Int) : sumN (stepS l i c) = sumN l + if ws c then 0 else 1 := by
  by_cases hw : ws c
  · rw [stepS_ws hw, if_pos hw]; omega
  · rw [if_neg hw]
    rcases List.eq_nil_or_concat l with rfl | ⟨l', ⟨a, n⟩, rfl⟩
    · rw [stepS_nil hw]; simp [sumN]
    · simp only [List.concat_eq_append]
      by_cases e : a + n = i
      · rw [stepS_last hw e, sumN_append, sumN_append]; simp [sumN]; omega
      · rw [stepS_new hw e, sumN_append (l' ++ [(a, n)])]; simp [sumN]
def nws (t : List Int) : Nat := (t.filter fun c => decide (ws c)).length
theorem solG_sum (t : List Int) : ∀ (l : List NN) (i : Nat), sumN (solG l i t) + nws t = sumN l + t.length := by
  induction t with
  | nil => intro l i; simp [solG, nws]
  | cons c t ih =>
    intro l i
    have h := ih (stepS l i c) (i + 1)
    rw [stepS_sum] at h
    simp only [solG, List.length_cons]
    unfold nws at h ⊢
    by_cases hw : ws c
    · rw [if_pos hw] at h
      rw [List.filter_cons_of_pos (by simpa using hw), List.length_cons]; omega
    · rw [if_neg hw] at h
      rw [List.filter_cons_of_neg (by simpa using hw)]; omega
theorem sol_sum (p : List Int) : sumN (sol p) + nws p = p.length := by
  have := solG_sum p [] 0
  simpa [sol, sumN] using this

/-- Pieces ahead of a line's end and behind it. -/
theorem sol_apart (a b : List Int) : (sol (a ++ 10 :: b)).length = (sol a).length + (sol b).length := by
  obtain ⟨D, last, rfl, hD, hl⟩ := decomp_of b
  have h1 : sol (a ++ 10 :: (flat D ++ last)) = solG (sol a) (a.length + 1) (flat D ++ last) := by
    unfold sol
    rw [solG_append]
    simp only [solG]
    rw [stepS_ws (.inr (.inr rfl)), Nat.zero_add]
  have hw := sol_within a
  have h2 := sol_flat D true last (sol a) (a.length + 1) hD hl (fun _ l' x n e => by have := hw (x, n) (by simp [e]); simp at this; omega) (by simp)
  rw [h1, h2, List.length_append, offs_length, sol_offs hD hl, offs_length]

end Go.Proofs.YtdaodcdbfaikjaaDoor.Gen

namespace Go.Proofs.YtdaodcdbfaikjaaDoor.Gen
open Go Go.RowKit
set_option linter.unusedVariables false
set_option linter.unusedSimpArgs false

/-- The lines of a text, without their ends. -/
def lns : List Int → List (List Int)
  | [] => [[]]
  | c :: t => if c = 10 then [] :: lns t else match lns t with
    | l :: r => (c :: l) :: r
    | [] => [[c]]

theorem lns_ne (p : List Int) : lns p ≠ [] := by
  cases p with
  | nil => simp [lns]
  | cons c t =>
    simp only [lns]
    split
    · simp
    · split <;> simp

theorem lns_ex (p : List Int) : ∃ l r, lns p = l :: r := by
  have := lns_ne p
  cases h : lns p with
  | nil => exact absurd h this
  | cons l r => exact ⟨l, r, rfl⟩

theorem lns_nl (t : List Int) : lns (10 :: t) = [] :: lns t := by simp [lns]
theorem lns_cons {c : Int} (h : c ≠ 10) {t : List Int} {l : List Int} {r : List (List Int)} (e : lns t = l :: r) : lns (c :: t) = (c :: l) :: r := by simp [lns, h, e]

/-- Lines as one text. -/
def jn : List (List Int) → List Int
  | [] => []
  | [l] => l
  | l :: m :: r => l ++ 10 :: jn (m :: r)

theorem jn_cons (l : List Int) {r : List (List Int)} (h : r ≠ []) : jn (l :: r) = l ++ 10 :: jn r := by
  cases r with
  | nil => exact absurd rfl h
  | cons m r => rfl

theorem jn_cons_cons (c : Int) (l : List Int) (r : List (List Int)) : jn ((c :: l) :: r) = c :: jn (l :: r) := by
  cases r <;> rfl

theorem jn_lns (p : List Int) : jn (lns p) = p := by
  induction p with
  | nil => rfl
  | cons c t ih =>
    by_cases h : c = 10
    · subst h; rw [lns_nl, jn_cons _ (lns_ne t), ih]; rfl
    · obtain ⟨l, r, e⟩ := lns_ex t
      rw [lns_cons h e, jn_cons_cons, ← e, ih]

/-- No line has an end in it. -/
theorem lns_free (p : List Int) : ∀ l ∈ lns p, ∀ c ∈ l, c ≠ 10 := by
  induction p with
  | nil => intro l hl; simp [lns] at hl; subst hl; simp
  | cons c t ih =>
    by_cases h : c = 10
    · subst h; rw [lns_nl]
      intro l hl
      rcases List.mem_cons.1 hl with rfl | hl
      · simp
      · exact ih l hl
    · obtain ⟨l, r, e⟩ := lns_ex t
      rw [lns_cons h e]
      rw [e] at ih
      intro m hm
      rcases List.mem_cons.1 hm with rfl | hm
      · intro x hx
        rcases List.mem_cons.1 hx with rfl | hx
        · exact h
        · exact ih l (by simp) x hx
      · exact ih m (by simp [hm])

theorem lns_one {a : List Int} (h : ∀ c ∈ a, c ≠ 10) : lns a = [a] := by
  induction a with
  | nil => rfl
  | cons c t ih => exact lns_cons (h c (by simp)) (ih fun x hx => h x (by simp [hx]))

/-- A text parted: the last line of the one part and the first of the other are one line. -/
theorem lns_append (a b : List Int) : ∀ {A x y B}, lns a = A ++ [x] → lns b = y :: B → lns (a ++ b) = A ++ (x ++ y) :: B := by
  induction a with
  | nil =>
    intro A x y B h1 h2
    cases A with
    | nil => simp [lns] at h1; subst h1; simpa using h2
    | cons m A => simp [lns] at h1
  | cons c t ih =>
    intro A x y B h1 h2
    by_cases h : c = 10
    · subst h
      rw [lns_nl] at h1
      rw [List.cons_append, lns_nl]
      cases A with
      | nil =>
        simp only [List.nil_append, List.cons.injEq] at h1
        exact absurd h1.2 (lns_ne t)
      | cons m A =>
        simp only [List.cons_append, List.cons.injEq] at h1
        obtain ⟨rfl, h1⟩ := h1
        rw [ih h1 h2]; rfl
    · obtain ⟨l, r, e⟩ := lns_ex t
      rw [lns_cons h e] at h1
      cases A with
      | nil =>
        simp only [List.nil_append, List.cons.injEq] at h1
        obtain ⟨rfl, rfl⟩ := h1
        rw [List.cons_append, lns_cons h (ih (A := []) (x := l) (by simpa using e) h2)]; rfl
      | cons m A =>
        simp only [List.cons_append, List.cons.injEq] at h1
        obtain ⟨rfl, rfl⟩ := h1
        rw [List.cons_append, lns_cons h (ih (A := l :: A) (x := x) (by simpa using e) h2)]; rfl

theorem lns_last (a : List Int) : ∃ A x, lns a = A ++ [x] := by
  rcases List.eq_nil_or_concat (lns a) with h | ⟨A, x, h⟩
  · exact absurd h (lns_ne a)
  · exact ⟨A, x, by simpa using h⟩

theorem lns_mid (a b : List Int) : lns (a ++ 10 :: b) = lns a ++ lns b := by
  obtain ⟨A, x, h⟩ := lns_last a
  rw [lns_append a (10 :: b) h (lns_nl b), h]; simp

/-- Lines without ends in them, joined, are the lines of what they make. -/
theorem lns_jn {L : List (List Int)} (h0 : L ≠ []) (h : ∀ l ∈ L, ∀ c ∈ l, c ≠ 10) : lns (jn L) = L := by
  induction L with
  | nil => exact absurd rfl h0
  | cons l r ih =>
    cases r with
    | nil => exact lns_one (h l (by simp))
    | cons m r =>
      rw [jn_cons l (by simp), lns_mid, lns_one (h l (by simp)), ih (by simp) fun k hk => h k (by simp [hk])]; rfl

/-- How many line ends. -/
def nls (p : List Int) : Nat := (p.filter fun c => decide (c = 10)).length
theorem nls_append (a b : List Int) : nls (a ++ b) = nls a + nls b := by simp [nls]
theorem nls_le (p : List Int) : nls p ≤ p.length := List.length_filter_le _ _
theorem nls_cons (c : Int) (t : List Int) : nls (c :: t) = (if c = 10 then 1 else 0) + nls t := by
  unfold nls
  by_cases h : c = 10
  · simp [h]; omega
  · simp [h]
theorem lns_count (p : List Int) : (lns p).length = nls p + 1 := by
  induction p with
  | nil => rfl
  | cons c t ih =>
    rw [nls_cons]
    by_cases h : c = 10
    · subst h; rw [lns_nl, List.length_cons, ih]; simp; omega
    · obtain ⟨l, r, e⟩ := lns_ex t
      rw [lns_cons h e, if_neg h, Nat.zero_add, ← ih, e]; rfl

/-- Where each line begins, and how many bytes it has. -/
def spo : Nat → List (List Int) → List NN
  | _, [] => []
  | o, l :: r => (o, l.length) :: spo (o + l.length + 1) r
def spans (p : List Int) : List NN := spo 0 (lns p)
/-- The bytes of lines, with their ends. -/
def off : List (List Int) → Nat
  | [] => 0
  | l :: r => l.length + 1 + off r

theorem spo_length (L : List (List Int)) : ∀ o, (spo o L).length = L.length := by
  induction L with
  | nil => intro o; rfl
  | cons l r ih => intro o; simp [spo, ih]
theorem spans_length (p : List Int) : (spans p).length = nls p + 1 := by rw [spans, spo_length, lns_count]
theorem off_append (A B : List (List Int)) : off (A ++ B) = off A + off B := by
  induction A with
  | nil => simp [off]
  | cons l r ih => simp only [List.cons_append, off, ih]; omega
theorem jn_length {L : List (List Int)} (h : L ≠ []) : (jn L).length + 1 = off L := by
  induction L with
  | nil => exact absurd rfl h
  | cons l r ih =>
    cases r with
    | nil => simp [jn, off]
    | cons m r =>
      rw [jn_cons l (by simp), List.length_append, List.length_cons]
      have := ih (by simp)
      simp only [off] at *
      omega
theorem off_lns (p : List Int) : off (lns p) = p.length + 1 := by
  have := jn_length (lns_ne p)
  rw [jn_lns] at this; omega
theorem spo_append (A B : List (List Int)) : ∀ o, spo o (A ++ B) = spo o A ++ spo (o + off A) B := by
  induction A with
  | nil => intro o; simp [spo, off]
  | cons l r ih => intro o; simp only [List.cons_append, spo, off, ih]; rw [show o + l.length + 1 + off r = o + (l.length + 1 + off r) by omega]
theorem spo_get {L : List (List Int)} {i : Nat} (h : i < L.length) (o : Nat) : (spo o L)[i]'(by rw [spo_length]; exact h) = (o + off (L.take i), L[i].length) := by
  induction L generalizing i o with
  | nil => simp at h
  | cons l r ih =>
    cases i with
    | zero => simp [spo, off]
    | succ i =>
      simp only [spo, List.getElem_cons_succ, List.take_succ_cons, off]
      rw [ih (by simpa using h)]
      congr 1; omega
theorem jn_append {A B : List (List Int)} (hA : A ≠ []) (hB : B ≠ []) : jn (A ++ B) = jn A ++ 10 :: jn B := by
  induction A with
  | nil => exact absurd rfl hA
  | cons l r ih =>
    cases r with
    | nil => rw [List.cons_append, List.nil_append, jn_cons l hB]; rfl
    | cons m r =>
      rw [List.cons_append, jn_cons l (by simp), ih (by simp), jn_cons l (by simp)]; simp
theorem jn_drop {L : List (List Int)} {i : Nat} (h : i < L.length) : (jn L).drop (off (L.take i)) = jn (L.drop i) := by
  induction L generalizing i with
  | nil => simp at h
  | cons l r ih =>
    cases i with
    | zero => simp [off]
    | succ i =>
      have hr : r ≠ [] := by rintro rfl; simp at h
      rw [jn_cons l hr, List.take_succ_cons, off, List.drop_succ_cons, ← ih (by simpa using h)]
      rw [show l.length + 1 + off (r.take i) = l.length + (1 + off (r.take i)) by omega, ← List.drop_drop, List.drop_left, Nat.add_comm 1, List.drop_succ_cons]

/-- A line at its place. -/
theorem line_drop {p : List Int} {i : Nat} (h : i < (lns p).length) : p.drop (off ((lns p).take i)) = jn ((lns p).drop i) := by
  have := jn_drop h
  rwa [jn_lns] at this
theorem jn_take (l : List Int) (r : List (List Int)) : (jn (l :: r)).take l.length = l := by
  cases r with
  | nil => simp [jn]
  | cons m r => rw [jn_cons l (by simp), List.take_left]
theorem off_le {p : List Int} {i : Nat} (h : i < (lns p).length) : off ((lns p).take i) + (lns p)[i].length ≤ p.length := by
  have h1 := off_lns p
  have h2 := off_append ((lns p).take i) ((lns p).drop i)
  rw [List.take_append_drop, List.drop_eq_getElem_cons h] at h2
  simp only [off] at h2
  omega
theorem line_cut {p : List Int} {i : Nat} (h : i < (lns p).length) : cut p (off ((lns p).take i), (lns p)[i].length) = (lns p)[i] := by
  unfold cut
  simp only
  rw [List.drop_take, line_drop h, List.drop_eq_getElem_cons h, show off ((lns p).take i) + (lns p)[i].length - off ((lns p).take i) = (lns p)[i].length by omega, jn_take]

/-- In which line a place is. -/
def row (p : List Int) (a : Nat) : Nat := nls (p.take a)
theorem row_lt (p : List Int) (a : Nat) : row p a < (lns p).length := by
  have := nls_append (p.take a) (p.drop a)
  rw [List.take_append_drop] at this
  rw [lns_count]; unfold row; omega

/-- A place parts its line. -/
theorem row_split (p : List Int) (a : Nat) (ha : a ≤ p.length) : ∃ A x y B, lns (p.take a) = A ++ [x] ∧ lns (p.drop a) = y :: B ∧ lns p = A ++ (x ++ y) :: B ∧ A.length = row p a ∧ off A + x.length = a := by
  obtain ⟨A, x, h1⟩ := lns_last (p.take a)
  obtain ⟨y, B, h2⟩ := lns_ex (p.drop a)
  have h3 := lns_append _ _ h1 h2
  rw [List.take_append_drop] at h3
  refine ⟨A, x, y, B, h1, h2, h3, ?_, ?_⟩
  · have := lns_count (p.take a)
    rw [h1] at this
    simp only [List.length_append, List.length_cons, List.length_nil] at this
    unfold row; omega
  · have := off_lns (p.take a)
    rw [h1, off_append] at this
    simp only [off, List.length_take] at this
    omega

/-- Where the line of a place begins, and how long it is. -/
theorem row_at (p : List Int) (a : Nat) (ha : a ≤ p.length) : off ((lns p).take (row p a)) ≤ a ∧ a ≤ off ((lns p).take (row p a)) + ((lns p)[row p a]'(row_lt p a)).length := by
  obtain ⟨A, x, y, B, _, _, h3, h4, h5⟩ := row_split p a ha
  have e : (lns p).take (row p a) = A := by rw [h3, ← h4, List.take_left]
  have e2 : (lns p)[row p a]'(row_lt p a) = x ++ y := by
    simp only [h3, ← h4]
    rw [List.getElem_append_right (by omega)]; simp
  rw [e, e2, List.length_append]; omega

/-- A place between a line's begin and its end is in that line. -/
theorem row_of {p : List Int} {i a : Nat} (h : i < (lns p).length) (h1 : off ((lns p).take i) ≤ a) (h2 : a ≤ off ((lns p).take i) + (lns p)[i].length) : row p a = i := by
  have hle := off_le h
  have hr := row_at p a (by omega)
  have hl := row_lt p a
  have mono : ∀ (j k : Nat) (hj : j < (lns p).length), j < k → k < (lns p).length → off ((lns p).take j) + (lns p)[j].length < off ((lns p).take k) := by
    intro j k hj hjk hk
    have h3 : (lns p).take k = (lns p).take j ++ (lns p)[j] :: ((lns p).take k).drop (j + 1) := by
      have h4 : ((lns p).take k).take j = (lns p).take j := by rw [List.take_take]; congr 1; omega
      rw [← h4]
      have h5 : ((lns p).take k)[j]'(by simp; omega) = (lns p)[j] := by simp
      rw [← h5, ← List.drop_eq_getElem_cons, List.take_append_drop]
    rw [h3, off_append]; simp only [off]; omega
  rcases Nat.lt_trichotomy (row p a) i with h3 | h3 | h3
  · have := mono _ _ hl h3 h; omega
  · exact h3
  · have := mono _ _ h h3 hl; omega

/-- The places of line ends. -/
def endsF : Nat → List Int → List Nat
  | _, [] => []
  | o, c :: t => if c = 10 then o :: endsF (o + 1) t else endsF (o + 1) t
theorem endsF_length (p : List Int) : ∀ o, (endsF o p).length = nls p := by
  induction p with
  | nil => intro o; rfl
  | cons c t ih =>
    intro o
    rw [nls_cons]
    simp only [endsF]
    split
    · rw [List.length_cons, ih]; omega
    · rw [ih]; omega
theorem endsF_bd (p : List Int) : ∀ o, ∀ x ∈ endsF o p, o ≤ x ∧ x < o + p.length := by
  induction p with
  | nil => intro o x hx; simp [endsF] at hx
  | cons c t ih =>
    intro o x hx
    simp only [endsF] at hx
    simp only [List.length_cons]
    split at hx
    · rcases List.mem_cons.1 hx with rfl | hx
      · omega
      · have := ih _ x hx; omega
    · have := ih _ x hx; omega
/-- Spans told by line ends. -/
def spe : Nat → List Nat → Nat → List NN
  | a, [], len => [(a, len - a)]
  | a, e :: r, len => (a, e - a) :: spe (e + 1) r len
theorem spe_eq (p : List Int) : ∀ (o j : Nat) (l : List Int) (r : List (List Int)), lns p = l :: r → spe o (endsF (o + j) p) (o + j + p.length) = (o, j + l.length) :: spo (o + j + l.length + 1) r := by
  induction p with
  | nil =>
    intro o j l r h
    simp only [lns, List.cons.injEq] at h
    obtain ⟨rfl, rfl⟩ := h
    simp [endsF, spe, spo]
  | cons c t ih =>
    intro o j l r h
    by_cases hc : c = 10
    · subst hc
      rw [lns_nl, List.cons.injEq] at h
      obtain ⟨rfl, rfl⟩ := h
      obtain ⟨l, r, e⟩ := lns_ex t
      have := ih (o + j + 1) 0 l r e
      simp only [endsF, if_true, spe, List.length_cons, List.length_nil, Nat.add_zero, Nat.zero_add] at *
      rw [show o + j + (t.length + 1) = o + j + 1 + t.length by omega, this, e, show o + j - o = j by omega]
      rfl
    · obtain ⟨l', r', e⟩ := lns_ex t
      rw [lns_cons hc e, List.cons.injEq] at h
      obtain ⟨rfl, rfl⟩ := h
      have := ih o (j + 1) l' r' e
      simp only [endsF, if_neg hc, List.length_cons] at *
      rw [show o + j + (t.length + 1) = o + (j + 1) + t.length by omega, show o + j + 1 = o + (j + 1) by omega, this]
      congr 1
      · rw [show j + (l'.length + 1) = j + 1 + l'.length by omega]
      · rw [show o + (j + 1) + l'.length + 1 = o + j + (l'.length + 1) + 1 by omega]
theorem spans_eq (p : List Int) : spe 0 (endsF 0 p) p.length = spans p := by
  obtain ⟨l, r, e⟩ := lns_ex p
  have := spe_eq p 0 0 l r e
  simp only [Nat.zero_add, Nat.add_zero] at this
  rw [this, spans, e]; simp [spo]

/-- How many ends are ahead of a place. -/
theorem ends_ahead (p : List Int) : ∀ o a, ((endsF o p).filter fun e => decide (e < o + a)).length = nls (p.take a) := by
  induction p with
  | nil => intro o a; simp [endsF, nls]
  | cons c t ih =>
    intro o a
    cases a with
    | zero =>
      have h0 : ∀ x ∈ endsF o (c :: t), ¬ x < o + 0 := fun x hx => by have := endsF_bd _ o x hx; omega
      rw [List.filter_eq_nil_iff.2 (fun x hx => by simpa using h0 x hx)]
      simp [nls]
    | succ a =>
      have := ih (o + 1) a
      rw [show o + 1 + a = o + (a + 1) by omega] at this
      rw [List.take_succ_cons, nls_cons]
      simp only [endsF]
      split
      · rw [List.filter_cons_of_pos (by simp), List.length_cons, this]; omega
      · rw [this]; omega

/-- The first place of a byte. -/
def fb : List Int → Int → Int
  | [], _ => -1
  | b :: t, c => if b = c then 0 else if fb t c = -1 then -1 else fb t c + 1
theorem fb_ge (p : List Int) (c : Int) : -1 ≤ fb p c ∧ fb p c < (p.length : Int) := by
  induction p with
  | nil => simp [fb]
  | cons b t ih =>
    simp only [fb, List.length_cons]
    (repeat' split) <;> omega
theorem fb_line (p : List Int) : ∀ {l : List Int} {r : List (List Int)}, lns p = l :: r → fb p 10 = if r = [] then -1 else (l.length : Int) := by
  induction p with
  | nil =>
    intro l r h
    simp only [lns, List.cons.injEq] at h
    obtain ⟨rfl, rfl⟩ := h
    rfl
  | cons b t ih =>
    intro l r h
    by_cases hb : b = 10
    · subst hb
      rw [lns_nl, List.cons.injEq] at h
      obtain ⟨rfl, rfl⟩ := h
      rw [if_neg (lns_ne t)]; simp [fb]
    · obtain ⟨l', r', e⟩ := lns_ex t
      rw [lns_cons hb e, List.cons.injEq] at h
      obtain ⟨rfl, rfl⟩ := h
      simp only [fb, if_neg hb, ih e]
      by_cases hr : r' = []
      · simp [hr]
      · rw [if_neg hr, if_neg hr, if_neg (by omega), List.length_cons]; omega

/-- A line's span by its number. -/
def sp (p : List Int) (line : Int) : Option NN := if 0 ≤ line then (spans p)[line.toNat]? else none
theorem spans_at {p : List Int} {i : Nat} (h : i < (lns p).length) : (spans p)[i]? = some (off ((lns p).take i), (lns p)[i].length) := by
  have h2 : i < (spans p).length := by rw [spans, spo_length]; exact h
  rw [List.getElem?_eq_getElem h2]
  have := spo_get h 0
  rw [Nat.zero_add] at this
  exact congrArg some this
theorem sp_in {p : List Int} {line : Int} (h0 : 0 ≤ line) (h : line.toNat < (lns p).length) : sp p line = some (off ((lns p).take line.toNat), (lns p)[line.toNat].length) := by
  unfold sp; rw [if_pos h0, spans_at h]
theorem sp_out {p : List Int} {line : Int} (h : line < 0 ∨ (lns p).length ≤ line.toNat) : sp p line = none := by
  unfold sp
  split
  · rw [List.getElem?_eq_none]; rw [spans, spo_length]; omega
  · rfl
theorem sp_row (p : List Int) (a : Nat) : sp p (row p a : Int) = some (off ((lns p).take (row p a)), ((lns p)[row p a]'(row_lt p a)).length) := by
  have := sp_in (p := p) (line := (row p a : Int)) (by omega) (by rw [Int.toNat_natCast]; exact row_lt p a)
  simpa using this
theorem off_take {L : List (List Int)} {i : Nat} (h : i < L.length) : off (L.take (i + 1)) = off (L.take i) + L[i].length + 1 := by
  rw [List.take_succ_eq_append_getElem h, off_append]; simp only [off]; omega
theorem off_last {p : List Int} {i : Nat} (h : i < (lns p).length) : (off ((lns p).take i) + (lns p)[i].length = p.length ↔ i + 1 = (lns p).length) ∧ off ((lns p).take i) + (lns p)[i].length ≤ p.length := by
  have h1 := off_lns p
  have h2 := off_append ((lns p).take (i + 1)) ((lns p).drop (i + 1))
  rw [List.take_append_drop, off_take h] at h2
  by_cases e : i + 1 = (lns p).length
  · rw [List.drop_eq_nil_of_le (by omega)] at h2
    simp only [off] at h2
    omega
  · rw [List.drop_eq_getElem_cons (by omega)] at h2
    simp only [off] at h2
    omega
theorem off_mono (L : List (List Int)) {i j : Nat} (h : i ≤ j) : off (L.take i) ≤ off (L.take j) := by
  have : L.take j = L.take i ++ (L.take j).drop i := by
    have h1 : (L.take j).take i = L.take i := by rw [List.take_take]; congr 1; omega
    conv => lhs; rw [← List.take_append_drop i (L.take j), h1]
  rw [this, off_append]; omega

/-- Whole lines, with the last one's end. -/
def whl (p : List Int) (i j : Nat) : NN := (off ((lns p).take i), min (off ((lns p).take (j + 1))) p.length - off ((lns p).take i))
theorem whl_end {p : List Int} {i j : Nat} (hij : i ≤ j) (hj : j < (lns p).length) : off ((lns p).take i) + (whl p i j).2 = min (off ((lns p).take (j + 1))) p.length ∧ off ((lns p).take i) ≤ p.length := by
  have h1 := off_mono (lns p) (show i ≤ j + 1 by omega)
  have h2 := off_le (p := p) (i := i) (by omega)
  unfold whl
  simp only
  omega
def whole (p : List Int) (a b : Int) : Option NN := if 0 ≤ min a b ∧ (max a b).toNat < (lns p).length then some (whl p (min a b).toNat (max a b).toNat) else none
theorem whole_comm (p : List Int) (a b : Int) : whole p a b = whole p b a := by
  unfold whole; rw [show min a b = min b a by omega, show max a b = max b a by omega]

/-- The last line of a text, and what begins it. -/
theorem last_line {q : List Int} {A : List (List Int)} {x : List Int} (h : lns q = A ++ [x]) : q.drop (off A) = x ∧ off A + x.length = q.length := by
  have hi : A.length < (lns q).length := by rw [h]; simp
  have h1 := line_drop hi
  have h2 := off_lns q
  rw [h, off_append] at h2
  simp only [off] at h2
  rw [h, List.take_left, List.drop_left] at h1
  exact ⟨by simpa [jn] using h1, by omega⟩
/-- The bytes of a place's line that are ahead of it. -/
def ahd (p : List Int) (a : Nat) : List Int := (p.take a).drop (off ((lns p).take (row p a)))
theorem ahead_last {p : List Int} {a : Nat} (ha : a ≤ p.length) {A : List (List Int)} {x : List Int} (h : lns (p.take a) = A ++ [x]) : ahd p a = x := by
  obtain ⟨A', x', y, B, h1, h2, h3, h4, h5⟩ := row_split p a ha
  rw [h] at h1
  obtain ⟨e1, e2⟩ := List.append_inj' h1 rfl
  have e2 : x = x' := by simpa using e2
  subst e1 e2
  unfold ahd
  rw [h3, ← h4, List.take_left]
  exact (last_line h).1

end Go.Proofs.YtdaodcdbfaikjaaDoor.Gen

namespace Go.Proofs.YtdaodcdbfaikjaaDoor.Gen
open Go Go.RowKit
set_option linter.unusedVariables false
set_option linter.unusedSimpArgs false

def bl (c : Int) : Bool := decide (c = 32 ∨ c = 9)
/-- How many blanks a line begins with. -/
def ind (l : List Int) : Nat := (l.takeWhile bl).length
theorem ind_nil : ind [] = 0 := rfl
theorem ind_cons_pos {b : Int} (h : bl b = true) (r : List Int) : ind (b :: r) = 1 + ind r := by
  unfold ind; rw [List.takeWhile_cons_of_pos h, List.length_cons]; omega
theorem ind_cons_neg {b : Int} (h : bl b = false) (r : List Int) : ind (b :: r) = 0 := by
  unfold ind; rw [List.takeWhile_cons_of_neg (by simp [h])]; rfl
theorem ind_le (l : List Int) : ind l ≤ l.length := by
  unfold ind
  have := congrArg List.length (List.takeWhile_append_dropWhile (p := bl) (l := l))
  rw [List.length_append] at this; omega
theorem ind_take (l : List Int) : l.take (ind l) = l.takeWhile bl := by
  have h := List.takeWhile_append_dropWhile (p := bl) (l := l)
  unfold ind
  conv => lhs; arg 2; rw [← h]
  rw [List.take_left]
theorem ind_drop (l : List Int) : l.drop (ind l) = l.dropWhile bl := by
  have h := List.takeWhile_append_dropWhile (p := bl) (l := l)
  unfold ind
  conv => lhs; arg 2; rw [← h]
  rw [List.drop_left]
theorem ind_blank (l : List Int) : ∀ x ∈ l.take (ind l), bl x = true := by
  rw [ind_take]
  intro x hx
  have := List.all_takeWhile (p := bl) (l := l)
  rw [List.all_eq_true] at this
  exact this x hx
theorem ind_head {l : List Int} {c : Int} {t : List Int} (h : l.drop (ind l) = c :: t) : bl c = false := by
  rw [ind_drop] at h
  induction l with
  | nil => simp at h
  | cons a p ih =>
    rw [List.dropWhile_cons] at h
    cases hq : bl a with
    | true => rw [hq] at h; exact ih h
    | false => rw [hq] at h; simp at h; obtain ⟨rfl, rfl⟩ := h; exact hq
theorem ind_all {B : List Int} (h : ∀ x ∈ B, bl x = true) : ind B = B.length := by
  unfold ind
  induction B with
  | nil => rfl
  | cons b B ih => rw [List.takeWhile_cons_of_pos (h b (by simp)), List.length_cons, List.length_cons, ih fun x hx => h x (by simp [hx])]
theorem ind_form {B : List Int} {c : Int} {r : List Int} (h : ∀ x ∈ B, bl x = true) (hc : bl c = false) : ind (B ++ c :: r) = B.length := by
  unfold ind
  rw [List.takeWhile_append_of_pos h, List.takeWhile_cons_of_neg (by simp [hc])]; simp
theorem ind_ex {s : List Int} (h : ind s ≠ s.length) : ∃ B c r, s = B ++ c :: r ∧ (∀ x ∈ B, bl x = true) ∧ bl c = false ∧ ind s = B.length := by
  have hl := ind_le s
  cases hd : s.drop (ind s) with
  | nil =>
    have := congrArg List.length hd
    rw [List.length_drop, List.length_nil] at this; omega
  | cons c r =>
    refine ⟨s.take (ind s), c, r, ?_, ind_blank s, ind_head hd, ?_⟩
    · rw [← hd, List.take_append_drop]
    · rw [List.length_take]; omega

theorem fill_blank (w t : Nat) (ex : Bool) (c : Nat) : ∀ x ∈ fill c w t ex, bl x = true := fun x hx => by
  have := (fillF_mem w t ex (w - c) c x hx).1
  unfold bl; simpa using this
theorem fill_wid (w t : Nat) (ex : Bool) (c : Nat) (h : c ≤ w) : wid_ (fill c w t ex) c t = w := fillF_wid w t ex (w - c) c h (by omega)
theorem fill_len (w t : Nat) (ex : Bool) (c : Nat) : (fill c w t ex).length ≤ w - c := fillF_len w t ex (w - c) c

/-- A line whose indent is so much further in. -/
def shf (s : List Int) (d : Int) (t : Nat) (ex : Bool) : List Int :=
  if ind s = s.length then s else fill 0 (((wid_ (s.take (ind s)) 0 t : Nat) : Int) + d).toNat t ex ++ s.drop (ind s)
def canon (s : List Int) (t : Nat) (ex : Bool) : Prop := ind s = s.length ∨ fill 0 (wid_ (s.take (ind s)) 0 t) t ex = s.take (ind s)
instance (s : List Int) (t : Nat) (ex : Bool) : Decidable (canon s t ex) := inferInstanceAs (Decidable (_ ∨ _))

theorem shf_bare {s : List Int} (h : ind s = s.length) (d : Int) (t : Nat) (ex : Bool) : shf s d t ex = s := by simp [shf, h]
theorem shf_form {B : List Int} {c : Int} {r : List Int} (h : ∀ x ∈ B, bl x = true) (hc : bl c = false) (d : Int) (t : Nat) (ex : Bool) :
    shf (B ++ c :: r) d t ex = fill 0 (((wid_ B 0 t : Nat) : Int) + d).toNat t ex ++ c :: r := by
  unfold shf
  rw [ind_form h hc, List.take_left, List.drop_left, if_neg (by simp)]
theorem shf_two (s : List Int) (a b : Int) (t : Nat) (ex : Bool) : shf (shf s a t ex) b t ex = if ind s = s.length then s else fill 0 ((((((wid_ (s.take (ind s)) 0 t : Nat) : Int) + a).toNat : Nat) : Int) + b).toNat t ex ++ s.drop (ind s) := by
  by_cases h : ind s = s.length
  · rw [if_pos h, shf_bare h, shf_bare h]
  · rw [if_neg h]
    obtain ⟨B, c, r, rfl, hB, hc, hi⟩ := ind_ex h
    rw [shf_form hB hc, shf_form (fill_blank _ _ _ _) hc, fill_wid _ _ _ _ (by omega), hi, List.take_left, List.drop_left]
theorem shf_canon (s : List Int) (d : Int) (t : Nat) (ex : Bool) : canon (shf s d t ex) t ex := by
  by_cases h : ind s = s.length
  · rw [shf_bare h]; exact .inl h
  · obtain ⟨B, c, r, rfl, hB, hc, hi⟩ := ind_ex h
    rw [shf_form hB hc]
    refine .inr ?_
    rw [ind_form (fill_blank _ _ _ _) hc, List.take_left, fill_wid _ _ _ _ (by omega)]
theorem shf_add (s : List Int) (a b : Int) (ha : 0 ≤ a) (t : Nat) (ex : Bool) : shf (shf s a t ex) b t ex = shf s (a + b) t ex := by
  rw [shf_two]
  unfold shf
  split
  · rfl
  · congr 2; omega
theorem shf_zero {s : List Int} {t : Nat} {ex : Bool} (h : canon s t ex) : shf s 0 t ex = s := by
  rcases h with h | h
  · exact shf_bare h _ _ _
  · unfold shf
    split
    · rfl
    · rw [show (((wid_ (s.take (ind s)) 0 t : Nat) : Int) + 0).toNat = wid_ (s.take (ind s)) 0 t by omega, h, List.take_append_drop]
theorem shf_ind {s : List Int} (h : ind s ≠ s.length) (d : Int) (t : Nat) (ex : Bool) :
    ind (shf s d t ex) = (fill 0 (((wid_ (s.take (ind s)) 0 t : Nat) : Int) + d).toNat t ex).length ∧ (shf s d t ex).drop (ind (shf s d t ex)) = s.drop (ind s) ∧ wid_ ((shf s d t ex).take (ind (shf s d t ex))) 0 t = (((wid_ (s.take (ind s)) 0 t : Nat) : Int) + d).toNat := by
  obtain ⟨B, c, r, rfl, hB, hc, hi⟩ := ind_ex h
  rw [shf_form hB hc, hi, ind_form (fill_blank _ _ _ _) hc, List.take_left, List.take_left, List.drop_left, List.drop_left, fill_wid _ _ _ _ (by omega)]
  exact ⟨rfl, rfl, rfl⟩
theorem shf_len (s : List Int) (d : Int) (t : Nat) (ex : Bool) : (shf s d t ex).length ≤ s.length + (((wid_ (s.take (ind s)) 0 t : Nat) : Int) + d).toNat := by
  unfold shf
  split
  · omega
  · have := fill_len (((wid_ (s.take (ind s)) 0 t : Nat) : Int) + d).toNat t ex 0
    rw [List.length_append, List.length_drop]; omega
theorem bytes_fill (c w t : Nat) (ex : Bool) : Bytes (fill c w t ex) := fun x hx => by
  have := (fillF_mem w t ex (w - c) c x hx).1
  omega
theorem bytes_shf {s : List Int} (h : Bytes s) (d : Int) (t : Nat) (ex : Bool) : Bytes (shf s d t ex) := by
  unfold shf
  split
  · exact h
  · intro x hx
    rcases List.mem_append.1 hx with hx | hx
    · exact bytes_fill _ _ _ _ x hx
    · exact h x (List.mem_of_mem_drop hx)

/-- How often a line goes, at most. -/
def lim (x : Int) : Int := if x > 9999 then 9999 else if x < -9999 then -9999 else x

end Go.Proofs.YtdaodcdbfaikjaaDoor.Gen

namespace Go.Proofs.YtdaodcdbfaikjaaDoor.Gen
open Go Go.RowKit
set_option linter.unusedVariables false
set_option linter.unusedSimpArgs false

theorem texts_gap {g : List Int} (hg : ∀ c ∈ g, ws c) (q : List Int) : texts (g ++ q) = texts q := by
  obtain ⟨D, last, rfl, hD, hl⟩ := decomp_of q
  cases D with
  | nil =>
    have e : g ++ (flat [] ++ last) = flat [] ++ (g ++ last) := by simp [flat]
    rw [e, texts_flat (D := []) trivial (fun c hc => by
      rcases List.mem_append.1 hc with h | h
      · exact hg c h
      · exact hl c h), texts_flat (D := []) trivial hl]
  | cons d t =>
    obtain ⟨g', s⟩ := d
    have e : g ++ (flat ((g', s) :: t) ++ last) = flat ((g ++ g', s) :: t) ++ last := by simp [flat]
    rw [e, texts_flat (D := (g ++ g', s) :: t) ⟨fun c hc => by
      rcases List.mem_append.1 hc with h | h
      · exact hg c h
      · exact hD.1 c h, by simp, hD.2.2.1, hD.2.2.2.1, hD.2.2.2.2⟩ hl, texts_flat hD hl]
    rfl
theorem VD_join (D : List GP) : ∀ (v : Bool) {g s : List Int} {t : List GP}, VD v D → (∀ c ∈ g, ws c) → g ≠ [] → s ≠ [] → (∀ c ∈ s, ¬ ws c) → VD false t → VD v (D ++ (g, s) :: t) := by
  induction D with
  | nil => intro v g s t _ hg h0 hs0 hs ht; exact ⟨hg, fun _ => h0, hs0, hs, ht⟩
  | cons d D ih =>
    obtain ⟨g', s'⟩ := d
    intro v g s t hD hg h0 hs0 hs ht
    exact ⟨hD.1, hD.2.1, hD.2.2.1, hD.2.2.2.1, ih false hD.2.2.2.2 hg h0 hs0 hs ht⟩
theorem flat_append (D E : List GP) : flat (D ++ E) = flat D ++ flat E := by simp [flat]
/-- Pieces ahead of a line's end and behind it. -/
theorem texts_apart (a b : List Int) : texts (a ++ 10 :: b) = texts a ++ texts b := by
  obtain ⟨D, last, rfl, hD, hl⟩ := decomp_of a
  obtain ⟨D', last', rfl, hD', hl'⟩ := decomp_of b
  have h10 : ws 10 := .inr (.inr rfl)
  cases D' with
  | nil =>
    have e : flat D ++ last ++ 10 :: (flat [] ++ last') = flat D ++ (last ++ 10 :: last') := by simp [flat]
    rw [e, texts_flat hD (fun c hc => by
      rcases List.mem_append.1 hc with h | h
      · exact hl c h
      · rcases List.mem_cons.1 h with rfl | h
        · exact h10
        · exact hl' c h), texts_flat hD hl, texts_flat (D := []) trivial hl']
    simp
  | cons d t =>
    obtain ⟨g, s⟩ := d
    have e : flat D ++ last ++ 10 :: (flat ((g, s) :: t) ++ last') = flat (D ++ (last ++ 10 :: g, s) :: t) ++ last' := by simp [flat]
    rw [e, texts_flat (D := D ++ (last ++ 10 :: g, s) :: t) (VD_join D true hD (fun c hc => by
      rcases List.mem_append.1 hc with h | h
      · exact hl c h
      · rcases List.mem_cons.1 h with rfl | h
        · exact h10
        · exact hD'.1 c h) (by simp) hD'.2.2.1 hD'.2.2.2.1 hD'.2.2.2.2) hl', texts_flat hD hl, texts_flat hD' hl']
    simp
theorem texts_jn {L : List (List Int)} (h : L ≠ []) : texts (jn L) = L.flatMap texts := by
  induction L with
  | nil => exact absurd rfl h
  | cons l r ih =>
    cases r with
    | nil => simp [jn]
    | cons m r => rw [jn_cons _ (by simp), texts_apart, ih (by simp)]; rfl
theorem bl_ws {c : Int} (h : bl c = true) : ws c := by
  unfold bl at h; unfold ws; have := of_decide_eq_true h; omega
theorem texts_shf (l : List Int) (d : Int) (t : Nat) (ex : Bool) : texts (shf l d t ex) = texts l := by
  by_cases h : ind l = l.length
  · rw [shf_bare h]
  · obtain ⟨B, c, r, rfl, hB, hc, hi⟩ := ind_ex h
    rw [shf_form hB hc, texts_gap (fun x hx => bl_ws (fill_blank _ _ _ _ x hx)), texts_gap (fun x hx => bl_ws (hB x hx))]
theorem free_shf {l : List Int} (h : ∀ c ∈ l, c ≠ 10) (d : Int) (t : Nat) (ex : Bool) : ∀ c ∈ shf l d t ex, c ≠ 10 := by
  intro c hc
  unfold shf at hc
  split at hc
  · exact h c hc
  · rcases List.mem_append.1 hc with hc | hc
    · have := (fillF_mem _ t ex _ _ c hc).1; omega
    · exact h c (List.mem_of_mem_drop hc)

/-- All lines so much further in. -/
def shs (p : List Int) (d : Int) (t : Nat) (ex : Bool) : List Int := jn ((lns p).map fun l => shf l d t ex)
theorem lns_shs (p : List Int) (d : Int) (t : Nat) (ex : Bool) : lns (shs p d t ex) = (lns p).map fun l => shf l d t ex := by
  refine lns_jn (by simpa using lns_ne p) ?_
  intro l hl c hc
  obtain ⟨x, hx, rfl⟩ := List.mem_map.1 hl
  exact free_shf (lns_free p x hx) d t ex c hc
theorem texts_shs (p : List Int) (d : Int) (t : Nat) (ex : Bool) : texts (shs p d t ex) = texts p := by
  unfold shs
  rw [texts_jn (by simpa using lns_ne p), List.flatMap_map]
  conv => rhs; rw [← jn_lns p, texts_jn (lns_ne p)]
  rw [List.flatMap_def, List.flatMap_def]
  congr 1
  exact List.map_congr_left fun l _ => texts_shf l d t ex
theorem nls_shs (p : List Int) (d : Int) (t : Nat) (ex : Bool) : nls (shs p d t ex) = nls p := by
  have h1 := lns_count (shs p d t ex)
  have h2 := lns_count p
  rw [lns_shs, List.length_map] at h1
  omega
theorem shf_small (l : List Int) (d : Int) (t : Nat) (ex : Bool) (h0 : 0 < t) (ht : t ≤ 16) (N : Nat) (hd : d ≤ N) : (shf l d t ex).length ≤ 17 * l.length + N := by
  have h1 := shf_len l d t ex
  have h2 := (wid_le _ (l.take (ind l)) 0 t (Nat.le_refl _) h0).2.1
  have h3 := Nat.mul_le_mul (show (l.take (ind l)).length ≤ l.length by simp only [List.length_take]; omega) ht
  omega
theorem off_map_le (f : List Int → List Int) (N : Nat) (L : List (List Int)) (h : ∀ l ∈ L, (f l).length ≤ 17 * l.length + N) : off (L.map f) ≤ 17 * off L + N * L.length := by
  induction L with
  | nil => simp [off]
  | cons l r ih =>
    have h1 := h l (by simp)
    have h2 := ih fun m hm => h m (by simp [hm])
    simp only [List.map_cons, off, List.length_cons, Nat.mul_add, Nat.mul_one]
    omega
theorem jn_mono (L : List (List Int)) (i : Nat) (hi : i < L.length) : (jn (L.take (i + 1))).length ≤ (jn L).length := by
  have h1 := jn_length (L := L.take (i + 1)) (by intro e; have := congrArg List.length e; simp only [List.length_take, List.length_nil] at this; omega)
  have h2 := jn_length (L := L) (by rintro rfl; simp at hi)
  have h3 := off_mono L (show i + 1 ≤ L.length by omega)
  rw [List.take_length] at h3
  omega
theorem jn_succ (L : List (List Int)) (i : Nat) (h : i < L.length) : jn (L.take (i + 1)) = if i = 0 then L[i] else jn (L.take i) ++ 10 :: L[i] := by
  rw [List.take_succ_eq_append_getElem h]
  by_cases h0 : i = 0
  · subst h0; simp [jn]
  · rw [if_neg h0, jn_append (by intro e; have := congrArg List.length e; simp only [List.length_take, List.length_nil] at this; omega) (by simp)]; rfl

end Go.Proofs.YtdaodcdbfaikjaaDoor.Gen

namespace Go.Proofs.YtdaodcdbfaikjaaDoor.Gen
open Go Go.RowKit Go.Proofs.YtdaodcdbfaikjaaDoorW.PrintWords Go.Proofs.YtdaodcdbfaikjaaDoorW.PrintMore
set_option linter.unusedVariables false
set_option linter.unusedSimpArgs false

theorem bytesOf_bytes (s : ByteArray) : Bytes (bytesOf s) := by
  intro x hx
  simp only [bytesOf, List.mem_map] at hx
  obtain ⟨b, _, rfl⟩ := hx
  have := b.toNat_lt
  omega
theorem str_bytesOf (s : ByteArray) : strOfNums (bytesOf s) = s := by
  apply ByteArray.ext
  apply Array.toList_inj.1
  rw [strOfNums_data, bytesOf, List.map_map]
  conv => rhs; rw [← List.map_id s.data.toList]
  refine List.map_congr_left fun b _ => ?_
  simp
theorem bytesOf_str {l : List Int} (h : Bytes l) : bytesOf (strOfNums l) = l := by
  rw [bytesOf, strOfNums_data, List.map_map]
  conv => rhs; rw [← List.map_id l]
  refine List.map_congr_left fun x hx => ?_
  have := h x hx
  simp only [Function.comp, id, UInt8.toNat_ofNat']
  omega
theorem bytesOf_inj {s t : ByteArray} (h : bytesOf s = bytesOf t) : s = t := by
  rw [← str_bytesOf s, h, str_bytesOf]
theorem bytesOf_extract (s : ByteArray) (a b : Nat) : bytesOf (s.extract a b) = ((bytesOf s).take b).drop a := by
  simp only [bytesOf, ByteArray.data_extract, Array.toList_extract, List.extract_eq_take_drop, ← List.map_take, ← List.map_drop]
  rw [List.drop_take]
theorem bytesOf_append (s t : ByteArray) : bytesOf (s ++ t) = bytesOf s ++ bytesOf t := by
  simp [bytesOf]
theorem bt_get (s : ByteArray) (i : Nat) (h : i < (bytesOf s).length) : bt s (i : Int) = (bytesOf s)[i] := by
  have hs : i < s.size := by rwa [bytesOf_length] at h
  unfold bt
  simp only [Int.toNat_natCast]
  rw [dif_pos hs]
  simp [bytesOf]
  rfl
theorem str_append (a b : List Int) : strOfNums a ++ strOfNums b = strOfNums (a ++ b) := by
  apply ByteArray.ext
  apply Array.toList_inj.1
  simp [strOfNums]
theorem str_extract (l : List Int) (a b : Nat) : (strOfNums l).extract a b = strOfNums ((l.take b).drop a) := by
  apply ByteArray.ext
  apply Array.toList_inj.1
  simp only [strOfNums, ByteArray.data_extract, Array.toList_extract, List.extract_eq_take_drop, ← List.map_take, ← List.map_drop]
  rw [List.drop_take]
theorem str_inj {a b : List Int} (ha : Bytes a) (hb : Bytes b) : strOfNums a = strOfNums b ↔ a = b :=
  ⟨fun h => by rw [← bytesOf_str ha, h, bytesOf_str hb], fun h => by rw [h]⟩

end Go.Proofs.YtdaodcdbfaikjaaDoor.Gen
