/- Plain lemmas of this claim: no program in sight. -/
import Derived.Lib.DecodeNEq
import Derived.Test.YtloafpnniooliaaDoorWMore
import Derived.Test.YtloafpnniooliaaDoorWWords
namespace Go.Proofs.YtloafpnniooliaaDoor.Gen
open Go Go.RowKit Go.Proofs.YtloafpnniooliaaDoorW.PrintWords Go.Proofs.YtloafpnniooliaaDoorW.PrintMore
theorem wid {x : Int} (h0 : -9223372036854775808 ≤ x) (h1 : x ≤ 9223372036854775807) : wrap64 x = x := by
 unfold wrap64; omega
theorem wnat {n : Nat} (h : n ≤ 9223372036854775806) : wrap64 ((n : Int) + 1) = ((n + 1 : Nat) : Int) := by
 unfold wrap64; omega
def Bytes (l : List Int) : Prop := ∀ x ∈ l, 0 ≤ x ∧ x ≤ 255
theorem u8_of {x : Int} (h : (Lit.int .u8 x).wf = true) : 0 ≤ x ∧ x ≤ 255 := by
 simp [Lit.wf, IntKind.min, IntKind.max, IntKind.bits, IntKind.signed] at h
 omega
theorem bytes_of {l : List Int} (h : ∀ x ∈ l, (Lit.int .u8 x).wf = true) : Bytes l := fun x hx => u8_of (h x hx)
theorem rd_nat (p : List Int) (i : Nat) (h : i < p.length) : rd p (i : Int) = p[i] := by
 simp [rd, h]
theorem ex_succ {k n : Nat} (h : n < k) : ∃ m, k = m + 1 := ⟨k - 1, by omega⟩
theorem drop_at {α : Type} (p : List α) (i : Nat) (h : i < p.length) : p.drop i = p[i] :: p.drop (i + 1) :=
 List.drop_eq_getElem_cons h
def clip (p : List Int) (a : Int) : Nat := min a.toNat p.length
theorem clip_le (p : List Int) (a : Int) : clip p a ≤ p.length := by unfold clip; omega
def zs (l : List Nat) : List Int := l.map fun (n : Nat) => (n : Int)
theorem zs_len (l : List Nat) : (zs l).length = l.length := by simp [zs]
theorem rd_zs (l : List Nat) (i : Nat) (h : i < l.length) : rd (zs l) (i : Int) = (l[i] : Int) := by simp [zs, rd, h]
end Go.Proofs.YtloafpnniooliaaDoor.Gen
namespace Go.Proofs.YtloafpnniooliaaDoor.Gen
set_option linter.unusedVariables false
set_option linter.unusedSimpArgs false
open Go Go.RowKit
def cont (c : Int) : Prop := 128 ≤ c ∧ c ≤ 191
instance (c : Int) : Decidable (cont c) := inferInstanceAs (Decidable (128 ≤ c ∧ c ≤ 191))
def need (b : Int) : Nat := if 194 ≤ b ∧ b ≤ 223 then 2 else if 224 ≤ b ∧ b ≤ 239 then 3 else if 240 ≤ b ∧ b ≤ 244 then 4 else 1
def lo2 (b : Int) : Int := if b = 224 then 160 else if b = 240 then 144 else 128
def hi2 (b : Int) : Int := if b = 237 then 159 else if b = 244 then 143 else 191
def gsz : List Int → Nat
 | [] => 0
 | [_] => 1
 | [b, c] => if need b = 2 ∧ lo2 b ≤ c ∧ c ≤ hi2 b then 2 else 1
 | [b, c, d] => if need b = 2 ∧ lo2 b ≤ c ∧ c ≤ hi2 b then 2 else if need b = 3 ∧ lo2 b ≤ c ∧ c ≤ hi2 b ∧ cont d then 3 else 1
 | b :: c :: d :: e :: _ => if need b = 2 ∧ lo2 b ≤ c ∧ c ≤ hi2 b then 2 else if need b = 3 ∧ lo2 b ≤ c ∧ c ≤ hi2 b ∧ cont d then 3 else if need b = 4 ∧ lo2 b ≤ c ∧ c ≤ hi2 b ∧ cont d ∧ cont e then 4 else 1
theorem lo2_ge (b : Int) : 128 ≤ lo2 b := by unfold lo2; (repeat' split) <;> omega
theorem hi2_le (b : Int) : hi2 b ≤ 191 := by unfold hi2; (repeat' split) <;> omega
theorem need_cont {b : Int} (h : cont b) : need b = 1 := by unfold cont at h; unfold need; (repeat' split) <;> omega
theorem gsz_le (q : List Int) : gsz q ≤ q.length ∧ gsz q ≤ 4 := by
 match q with
 | [] => simp [gsz]
 | [_] => simp [gsz]
 | [b, c] => simp only [gsz, List.length_cons, List.length_nil]; split <;> omega
 | [b, c, d] => simp only [gsz, List.length_cons, List.length_nil]; (repeat' split) <;> omega
 | b :: c :: d :: e :: t => simp only [gsz, List.length_cons]; (repeat' split) <;> omega
theorem gsz_pos {q : List Int} (h : q ≠ []) : 1 ≤ gsz q := by
 match q with
 | [] => exact absurd rfl h
 | [_] => simp [gsz]
 | [b, c] => simp only [gsz]; split <;> omega
 | [b, c, d] => simp only [gsz]; (repeat' split) <;> omega
 | b :: c :: d :: e :: t => simp only [gsz]; (repeat' split) <;> omega
theorem gsz_of_cont {b : Int} {t : List Int} (h : cont b) : gsz (b :: t) = 1 := by
 have hn := need_cont h
 match t with
 | [] => rfl
 | [c] => simp [gsz, hn]
 | [c, d] => simp [gsz, hn]
 | c :: d :: e :: t => simp [gsz, hn]
theorem gsz_cont (q : List Int) (i : Nat) (h1 : 1 ≤ i) (h2 : i < gsz q) : ∃ h : i < q.length, cont q[i] := by
 have hl := (gsz_le q).1
 refine ⟨by omega, ?_⟩
 match q with
 | [] => simp [gsz] at h2
 | [_] => simp only [gsz] at h2; omega
 | [b, c] =>
  have := lo2_ge b; have := hi2_le b
  simp only [gsz] at h2; split at h2
  ·have : i = 1 := by omega
   subst this; unfold cont; simp; omega
  ·omega
 | [b, c, d] =>
  have := lo2_ge b; have := hi2_le b
  simp only [gsz] at h2
  repeat' split at h2
  ·have : i = 1 := by omega
   subst this; unfold cont; simp; omega
  ·rename_i h3
   have : i = 1 ∨ i = 2 := by omega
   rcases this with rfl | rfl
   ·unfold cont; simp; omega
   ·exact h3.2.2.2
  ·omega
 | b :: c :: d :: e :: t =>
  have := lo2_ge b; have := hi2_le b
  simp only [gsz] at h2
  repeat' split at h2
  ·have : i = 1 := by omega
   subst this; unfold cont; simp; omega
  ·rename_i h3
   have : i = 1 ∨ i = 2 := by omega
   rcases this with rfl | rfl
   ·unfold cont; simp; omega
   ·exact h3.2.2.2
  ·rename_i h3
   have : i = 1 ∨ i = 2 ∨ i = 3 := by omega
   rcases this with rfl | rfl | rfl
   ·unfold cont; simp; omega
   ·exact h3.2.2.2.1
   ·exact h3.2.2.2.2
  ·omega
theorem gsz_append (q r : List Int) (h : 2 ≤ gsz q) : gsz (q ++ r) = gsz q := by
 match q with
 | [] => simp [gsz] at h
 | [_] => simp only [gsz] at h; omega
 | [b, c] =>
  simp only [gsz] at h ⊢; split at h
  ·rename_i h3
   rw [if_pos h3]
   match r with
   | [] => simp [h3, gsz]
   | [x] => simp [h3, gsz]
   | x :: y :: r => simp [h3, gsz]
  ·omega
 | [b, c, d] =>
  simp only [gsz] at h ⊢
  match r with
  | [] => simp [gsz]
  | x :: r =>
   simp only [List.cons_append, List.nil_append, gsz]
   repeat' split
   all_goals first | rfl | (exfalso; repeat' split at h <;> omega) | omega
   all_goals simp_all
 | b :: c :: d :: e :: t => simp only [List.cons_append, gsz]
theorem gsz_take (q : List Int) (m : Nat) (h : gsz q ≤ m) : gsz (q.take m) = gsz q := by
 by_cases h0 : q = []
 ·subst h0; simp
 ·have hp := gsz_pos h0
  have hl := gsz_le q
  have hne : q.take m ≠ [] := by
   intro e
   rcases List.take_eq_nil_iff.1 e with e | e
   ·omega
   ·exact h0 e
  have hp' := gsz_pos hne
  by_cases h2 : 2 ≤ gsz (q.take m)
  ·have := gsz_append _ (q.drop m) h2
   rw [List.take_append_drop] at this
   omega
  ·by_cases h3 : 2 ≤ gsz q
   ·exfalso
    match q, m with
    | [], _ => exact h0 rfl
    | _, 0 => omega
    | _, 1 => omega
    | [_], _ => simp only [gsz] at h3; omega
    | [b, c], m + 2 => simp only [List.take_succ_cons, List.take_nil] at h2; omega
    | [b, c, d], 2 =>
     simp only [List.take_succ_cons, List.take_zero, gsz] at h2 h3 h
     repeat' split at h3
     all_goals first | omega | simp_all
    | [b, c, d], m + 3 => simp only [List.take_succ_cons, List.take_nil] at h2; omega
    | b :: c :: d :: e :: t, 2 =>
     simp only [List.take_succ_cons, List.take_zero, gsz] at h2 h3 h
     repeat' split at h3
     all_goals first | omega | simp_all
    | b :: c :: d :: e :: t, 3 =>
     simp only [List.take_succ_cons, List.take_zero, gsz] at h2 h3 h
     repeat' split at h3
     all_goals first | omega | simp_all
    | b :: c :: d :: e :: t, m + 4 => simp only [List.take_succ_cons, gsz] at h2 h3; omega
   ·omega
theorem gsz_head_cont {q : List Int} (h : 0 < q.length) (hc : cont q[0]) : gsz q = 1 := by
 cases q with
 | nil => simp at h
 | cons b t => exact gsz_of_cont hc
inductive Bd (p : List Int) : Nat → Prop
 | zero : Bd p 0
 | next {x : Nat} : Bd p x → x < p.length → Bd p (x + gsz (p.drop x))
theorem gd_le (p : List Int) (x : Nat) (h : x ≤ p.length) : x + gsz (p.drop x) ≤ p.length := by
 have := (gsz_le (p.drop x)).1
 simp only [List.length_drop] at this; omega
theorem gd_pos (p : List Int) (x : Nat) (h : x < p.length) : 1 ≤ gsz (p.drop x) := gsz_pos (by simp; omega)
theorem gd_four (p : List Int) (x : Nat) : gsz (p.drop x) ≤ 4 := (gsz_le _).2
theorem Bd.le {p : List Int} {x : Nat} (h : Bd p x) : x ≤ p.length := by
 induction h with
 | zero => omega
 | next _ hx _ => exact gd_le _ _ (by omega)
theorem Bd.cover {p : List Int} {x : Nat} (h : Bd p x) : ∀ i, i < x → ∃ b, Bd p b ∧ b ≤ i ∧ i < b + gsz (p.drop b) ∧ b + gsz (p.drop b) ≤ x := by
 induction h with
 | zero => intro i hi; omega
 | @next y hy hl ih =>
  intro i hi
  by_cases h : i < y
  ·obtain ⟨b, h1, h2, h3, h4⟩ := ih i h
   exact ⟨b, h1, h2, h3, by omega⟩
  ·exact ⟨y, hy, by omega, hi, Nat.le_refl _⟩
theorem cont_in {p : List Int} {b i : Nat} (h1 : b < i) (h2 : i < b + gsz (p.drop b)) : ∃ h : i < p.length, cont p[i] := by
 obtain ⟨h, hc⟩ := gsz_cont (p.drop b) (i - b) (by omega) (by omega)
 simp only [List.length_drop] at h
 refine ⟨by omega, ?_⟩
 rw [List.getElem_drop] at hc
 simp only [show b + (i - b) = i by omega] at hc
 exact hc
theorem gd_cont {p : List Int} {i : Nat} (h : i < p.length) (hc : cont p[i]) : gsz (p.drop i) = 1 := by
 rw [drop_at p i h]; exact gsz_of_cont hc
theorem Bd.clear {p : List Int} {x : Nat} (h : Bd p x) (i : Nat) (hi : i < x) : i + gsz (p.drop i) ≤ x := by
 obtain ⟨b, h1, h2, h3, h4⟩ := h.cover i hi
 rcases Nat.lt_or_ge b i with hb | hb
 ·obtain ⟨hl, hc⟩ := cont_in hb h3
  rw [gd_cont hl hc]; omega
 ·have : b = i := by omega
  subst this; exact h4
theorem Bd.take {p : List Int} {x : Nat} (h : Bd p x) {b : Nat} (hb : Bd p b) (hbx : b ≤ x) : Bd (p.take x) b := by
 induction hb with
 | zero => exact .zero
 | @next y hy hl ih =>
  have hxl := h.le
  have hlt : y < x := by have := gd_pos p y hl; omega
  have hc := h.clear y hlt
  have e : gsz ((p.take x).drop y) = gsz (p.drop y) := by
   rw [List.drop_take]; exact gsz_take _ _ (by omega)
  have := Bd.next (p := p.take x) (ih (by omega)) (by simp only [List.length_take]; omega)
  rw [e] at this
  exact this
def lsz (q : List Int) : Nat :=
 if q = [] then 0
 else if 2 ≤ q.length ∧ gsz (q.drop (q.length - 2)) = 2 then 2
 else if 3 ≤ q.length ∧ gsz (q.drop (q.length - 3)) = 3 then 3
 else if 4 ≤ q.length ∧ gsz (q.drop (q.length - 4)) = 4 then 4
 else 1
def flo (p : List Int) (a : Nat) : Nat :=
 if 1 ≤ a ∧ a < a - 1 + gsz (p.drop (a - 1)) then a - 1
 else if 2 ≤ a ∧ a < a - 2 + gsz (p.drop (a - 2)) then a - 2
 else if 3 ≤ a ∧ a < a - 3 + gsz (p.drop (a - 3)) then a - 3
 else a
theorem flo_bd {p : List Int} {b : Nat} (h : Bd p b) (hb : b < p.length) (a : Nat) (h1 : b ≤ a) (h2 : a < b + gsz (p.drop b)) : flo p a = b := by
 have hf := gd_four p b
 have none : ∀ j, 1 ≤ j → j ≤ a → a < a - j + gsz (p.drop (a - j)) → a - j = b := by
  intro j h3 h4 h5
  rcases Nat.lt_trichotomy (a - j) b with h6 | h6 | h6
  ·have := h.clear (a - j) h6; omega
  ·exact h6
  ·obtain ⟨hl, hc⟩ := cont_in (p := p) (b := b) (i := a - j) h6 (by omega)
   rw [gd_cont hl hc] at h5; omega
 unfold flo
 by_cases c1 : 1 ≤ a ∧ a < a - 1 + gsz (p.drop (a - 1))
 ·rw [if_pos c1]; exact none 1 (by omega) c1.1 c1.2
 ·rw [if_neg c1]
  by_cases c2 : 2 ≤ a ∧ a < a - 2 + gsz (p.drop (a - 2))
  ·rw [if_pos c2]; exact none 2 (by omega) c2.1 c2.2
  ·rw [if_neg c2]
   by_cases c3 : 3 ≤ a ∧ a < a - 3 + gsz (p.drop (a - 3))
   ·rw [if_pos c3]; exact none 3 (by omega) c3.1 c3.2
   ·rw [if_neg c3]
    have : a = b ∨ a = b + 1 ∨ a = b + 2 ∨ a = b + 3 := by omega
    rcases this with h | h | h | h
    ·exact h
    ·exact absurd ⟨by omega, by rw [show a - 1 = b by omega]; omega⟩ c1
    ·exact absurd ⟨by omega, by rw [show a - 2 = b by omega]; omega⟩ c2
    ·exact absurd ⟨by omega, by rw [show a - 3 = b by omega]; omega⟩ c3
theorem flo_self {p : List Int} {b : Nat} (h : Bd p b) : flo p b = b := by
 unfold flo
 rw [if_neg (fun c => by have := h.clear (b - 1) (by omega); omega), if_neg (fun c => by have := h.clear (b - 2) (by omega); omega), if_neg (fun c => by have := h.clear (b - 3) (by omega); omega)]
def startsF : Nat → List Int → Nat → List Nat
 | 0, _, _ => []
 | n + 1, p, x => if x < p.length then x :: startsF n p (x + gsz (p.drop x)) else []
def starts (p : List Int) : List Nat := startsF p.length p 0
theorem Bd.end_ (p : List Int) : Bd p p.length := by
 have : ∀ n x, Bd p x → p.length ≤ x + n → Bd p p.length := by
  intro n
  induction n with
  | zero => intro x h h1; have := h.le; rwa [show p.length = x by omega]
  | succ n ih =>
   intro x h h1
   by_cases hx : x < p.length
   ·have := gd_pos p x hx
    exact ih _ (h.next hx) (by omega)
   ·have := h.le; rwa [show p.length = x by omega]
 exact this p.length 0 .zero (by omega)
end Go.Proofs.YtloafpnniooliaaDoor.Gen
namespace Go.Proofs.YtloafpnniooliaaDoor.Gen
open Go Go.RowKit
def cls (c : Int) : Int :=
 if c = 32 ∨ c = 9 then 0 else if c = 10 then 1
 else if 128 ≤ c ∨ c = 95 ∨ (48 ≤ c ∧ c ≤ 57) ∨ (65 ≤ c ∧ c ≤ 90) ∨ (97 ≤ c ∧ c ≤ 122) then 2 else 3
def ws (c : Int) : Prop := c = 32 ∨ c = 9 ∨ c = 10
instance (c : Int) : Decidable (ws c) := inferInstanceAs (Decidable (c = 32 ∨ c = 9 ∨ c = 10))
abbrev NN := Nat × Nat
end Go.Proofs.YtloafpnniooliaaDoor.Gen
namespace Go.Proofs.YtloafpnniooliaaDoor.Gen
open Go Go.RowKit
set_option linter.unusedVariables false
set_option linter.unusedSimpArgs false
def rn : Nat → List Int → List NN
 | _, [] => []
 | o, c :: t => match t, rn (o + 1) t with
  | d :: _, (a, n) :: r => if cls c = cls d then (o, n + 1) :: r else (o, 1) :: (a, n) :: r
  | _, _ => [(o, 1)]
theorem rn_one (o : Nat) (c : Int) : rn o [c] = [(o, 1)] := rfl
theorem rn_ne (o : Nat) (c : Int) (t : List Int) : rn o (c :: t) ≠ [] := by
 simp only [rn]
 split
 ·split <;> simp
 ·simp
theorem rn_cons (o : Nat) (c d : Int) (t : List Int) : ∃ a n r, rn (o + 1) (d :: t) = (a, n) :: r ∧ rn o (c :: d :: t) = if cls c = cls d then (o, n + 1) :: r else (o, 1) :: (a, n) :: r := by
 have h := rn_ne (o + 1) d t
 generalize he : rn (o + 1) (d :: t) = L at h
 cases L with
 | nil => exact absurd rfl h
 | cons x r =>
  obtain ⟨a, n⟩ := x
  refine ⟨a, n, r, rfl, ?_⟩
  rw [show rn o (c :: d :: t) = (match d :: t, rn (o + 1) (d :: t) with | d :: _, (a, n) :: r => if cls c = cls d then (o, n + 1) :: r else (o, 1) :: (a, n) :: r | _, _ => [(o, 1)]) from rfl, he]
def Cov (p : List Int) : Nat → List NN → Prop
 | o, [] => o = p.length
 | o, (a, n) :: r => a = o ∧ 1 ≤ n ∧ o + n ≤ p.length ∧ (∀ i, o ≤ i → (h : i < o + n) → ∀ (h1 : i < p.length) (h2 : o < p.length), cls p[i] = cls p[o]) ∧ (∀ (h1 : o + n < p.length) (h2 : o + n - 1 < p.length), cls p[o + n] ≠ cls p[o + n - 1]) ∧ Cov p (o + n) r
theorem cov_rn (p : List Int) (m : Nat) : ∀ o, o + m = p.length → Cov p o (rn o (p.drop o)) := by
 induction m with
 | zero => intro o h; rw [List.drop_eq_nil_of_le (by omega)]; simp only [rn, Cov]; omega
 | succ m ih =>
  intro o h
  have hlt : o < p.length := by omega
  have hnext := ih (o + 1) (by omega)
  rw [drop_at p o hlt]
  by_cases h1 : o + 1 < p.length
  ·rw [drop_at p (o + 1) h1] at hnext ⊢
   obtain ⟨a, n, r, e1, e2⟩ := rn_cons o p[o] p[o + 1] (p.drop (o + 1 + 1))
   rw [e1] at hnext
   rw [e2]
   obtain ⟨ha, hn, hle, hsame, hdiff, hr⟩ := hnext
   by_cases hc : cls p[o] = cls p[o + 1]
   ·rw [if_pos hc]
    refine ⟨rfl, by omega, by omega, ?_, ?_, ?_⟩
    ·intro i h2 h3 h4 h5
     rcases Nat.lt_or_ge o i with h6 | h6
     ·rw [hsame i (by omega) (by omega) h4 h1, ← hc]
     ·have : i = o := by omega
      subst this; rfl
    ·intro h2 h3
     have := hdiff (by omega) (by omega)
     simp only [show o + 1 + n = o + (n + 1) by omega] at this
     exact this
    ·rw [show o + (n + 1) = o + 1 + n by omega]; exact hr
   ·rw [if_neg hc]
    refine ⟨rfl, by omega, by omega, ?_, ?_, ha, hn, hle, hsame, hdiff, hr⟩
    ·intro i h2 h3 h4 h5
     have : i = o := by omega
     subst this; rfl
    ·intro h2 h3
     simp only [show o + 1 - 1 = o by omega]
     exact fun e => hc e.symm
  ·rw [List.drop_eq_nil_of_le (by omega), rn_one]
   refine ⟨rfl, by omega, by omega, ?_, ?_, ?_⟩
   ·intro i h2 h3 h4 h5
    have : i = o := by omega
    subst this; rfl
   ·intro h2 h3; omega
   ·simp only [Cov]; omega
theorem rn_snoc (x : List Int) (c : Int) : ∀ o (h : x ≠ []), ∃ l a n, rn o x = l ++ [(a, n)] ∧ rn o (x ++ [c]) = if cls (x.getLast h) = cls c then l ++ [(a, n + 1)] else l ++ [(a, n)] ++ [(o + x.length, 1)] := by
 induction x with
 | nil => intro o h; exact absurd rfl h
 | cons d t ih =>
  intro o h
  cases t with
  | nil =>
   refine ⟨[], o, 1, rfl, ?_⟩
   obtain ⟨a, n, r, e1, e2⟩ := rn_cons o d c []
   rw [rn_one, List.cons.injEq, Prod.mk.injEq] at e1
   obtain ⟨⟨rfl, rfl⟩, rfl⟩ := e1
   rw [List.cons_append, List.nil_append, e2]
   simp
  | cons e t =>
   obtain ⟨l, a, n, h1, h2⟩ := ih (o + 1) (by simp)
   obtain ⟨a1, n1, r1, e1, e2⟩ := rn_cons o d e t
   obtain ⟨a2, n2, r2, f1, f2⟩ := rn_cons o d e (t ++ [c])
   rw [List.cons_append] at h2
   rw [h2] at f1
   rw [h1] at e1
   rw [List.cons_append, List.cons_append, f2, e2]
   have hl : (d :: e :: t).getLast h = (e :: t).getLast (by simp) := List.getLast_cons (by simp)
   rw [hl]
   cases l with
   | nil =>
    simp only [List.nil_append, List.cons.injEq, Prod.mk.injEq] at e1
    obtain ⟨⟨rfl, rfl⟩, rfl⟩ := e1
    by_cases hc : cls ((e :: t).getLast (by simp)) = cls c
    ·simp only [hc, if_true, List.nil_append, List.cons.injEq, Prod.mk.injEq] at f1
     obtain ⟨⟨rfl, rfl⟩, rfl⟩ := f1
     by_cases hd : cls d = cls e
     ·exact ⟨[], o, n + 1, by simp [hd], by simp [hc, hd]⟩
     ·exact ⟨[(o, 1)], a, n, by simp [hd], by simp [hc, hd]⟩
    ·simp only [hc, if_false, List.nil_append, List.cons_append, List.cons.injEq, Prod.mk.injEq] at f1
     obtain ⟨⟨rfl, rfl⟩, rfl⟩ := f1
     by_cases hd : cls d = cls e
     ·exact ⟨[], o, n + 1, by simp [hd], by simp [hc, hd]; omega⟩
     ·exact ⟨[(o, 1)], a, n, by simp [hd], by simp [hc, hd]; omega⟩
   | cons y l =>
    obtain ⟨ya, yn⟩ := y
    simp only [List.cons_append, List.cons.injEq, Prod.mk.injEq] at e1
    obtain ⟨⟨rfl, rfl⟩, rfl⟩ := e1
    by_cases hc : cls ((e :: t).getLast (by simp)) = cls c
    ·simp only [hc, if_true, List.cons_append, List.cons.injEq, Prod.mk.injEq] at f1
     obtain ⟨⟨rfl, rfl⟩, rfl⟩ := f1
     by_cases hd : cls d = cls e
     ·exact ⟨(o, yn + 1) :: l, a, n, by simp [hd], by simp [hc, hd]⟩
     ·exact ⟨(o, 1) :: (ya, yn) :: l, a, n, by simp [hd], by simp [hc, hd]⟩
    ·simp only [hc, if_false, List.cons_append, List.cons.injEq, Prod.mk.injEq] at f1
     obtain ⟨⟨rfl, rfl⟩, rfl⟩ := f1
     by_cases hd : cls d = cls e
     ·exact ⟨(o, yn + 1) :: l, a, n, by simp [hd], by simp [hc, hd]; omega⟩
     ·exact ⟨(o, 1) :: (ya, yn) :: l, a, n, by simp [hd], by simp [hc, hd]; omega⟩
theorem cov_mem (p : List Int) (L : List NN) : ∀ o, Cov p o L → ∀ x ∈ L, o ≤ x.1 ∧ 1 ≤ x.2 ∧ x.1 + x.2 ≤ p.length := by
 induction L with
 | nil => intro o _ x hx; simp at hx
 | cons y r ih =>
  obtain ⟨a, n⟩ := y
  intro o h x hx
  obtain ⟨ha, hn, hle, _, _, hr⟩ := h
  rcases List.mem_cons.1 hx with rfl | hx
  ·exact ⟨by simp only; omega, hn, by simp only; omega⟩
  ·have := ih _ hr x hx; exact ⟨by omega, this.2⟩
theorem rn_mem (p : List Int) : ∀ x ∈ rn 0 p, 1 ≤ x.2 ∧ x.1 + x.2 ≤ p.length := by
 have := cov_rn p p.length 0 (by omega)
 simp only [List.drop_zero] at this
 exact fun x hx => (cov_mem p _ 0 this x hx).2
theorem rn_length (q : List Int) : ∀ o, (rn o q).length ≤ q.length := by
 induction q with
 | nil => intro o; simp [rn]
 | cons c t ih =>
  intro o
  cases t with
  | nil => simp [rn]
  | cons d t =>
   obtain ⟨a, n, r, e1, e2⟩ := rn_cons o c d t
   have := ih (o + 1)
   rw [e1] at this
   rw [e2]
   simp only [List.length_cons] at *
   split <;> simp only [List.length_cons] <;> omega
def wrds (p : List Int) : List NN := (rn 0 p).filter fun x => decide (2 ≤ cls (p.getD x.1 0))
theorem wrds_mem (p : List Int) : ∀ x ∈ wrds p, 1 ≤ x.2 ∧ x.1 + x.2 ≤ p.length := fun x hx => rn_mem p x (List.mem_filter.1 hx).1
def fwd (len : Nat) (a : Int) : List NN → Int
 | [] => (len : Int)
 | x :: r => if (x.1 : Int) > a then (x.1 : Int) else fwd len a r
def bck (a : Int) : Int → List NN → Int
 | d, [] => d
 | d, x :: r => bck a (if (x.1 : Int) < a then (x.1 : Int) else d) r
theorem take_last (p : List Int) (i : Nat) (h0 : 0 < i) (h : i ≤ p.length) (hne : p.take i ≠ []) : (p.take i).getLast hne = p[i - 1]'(by omega) := by
 rw [List.getLast_eq_getElem, List.getElem_take]
 simp only [List.length_take, show min i p.length - 1 = i - 1 by omega]
end Go.Proofs.YtloafpnniooliaaDoor.Gen
namespace Go.Proofs.YtloafpnniooliaaDoor.Gen
open Go Go.RowKit
set_option linter.unusedVariables false
set_option linter.unusedSimpArgs false
def lns : List Int → List (List Int)
 | [] => [[]]
 | c :: t => if c = 10 then [] :: lns t else match lns t with
  | l :: r => (c :: l) :: r
  | [] => [[c]]
def spo : Nat → List (List Int) → List NN
 | _, [] => []
 | o, l :: r => (o, l.length) :: spo (o + l.length + 1) r
def spans (p : List Int) : List NN := spo 0 (lns p)
def sp (p : List Int) (line : Int) : Option NN := if 0 ≤ line then (spans p)[line.toNat]? else none
end Go.Proofs.YtloafpnniooliaaDoor.Gen
namespace Go.Proofs.YtloafpnniooliaaDoor.Gen
open Go Go.RowKit
set_option linter.unusedVariables false
set_option linter.unusedSimpArgs false
def stp (c b t : Nat) : Nat := if b = 9 then c + t - c % t else c + 1
def widF : Nat → List Int → Nat → Nat → Nat
 | 0, _, c, _ => c
 | n + 1, q, c, t => match q with
  | [] => c
  | b :: r => widF n ((b :: r).drop (gsz (b :: r))) (stp c b.toNat t) t
def wid_ (q : List Int) (c t : Nat) : Nat := widF q.length q c t
def fillF : Nat → Nat → Nat → Nat → Bool → List Int
 | 0, _, _, _, _ => []
 | n + 1, c, w, t, sp => if c < w then (if sp = false ∧ stp c 9 t ≤ w ∧ c + 1 < stp c 9 t then 9 :: fillF n (stp c 9 t) w t sp else 32 :: fillF n (c + 1) w t sp) else []
def fill (c w t : Nat) (sp : Bool) : List Int := fillF (w - c) c w t sp
end Go.Proofs.YtloafpnniooliaaDoor.Gen
namespace Go.Proofs.YtloafpnniooliaaDoor.Gen
open Go Go.RowKit
set_option linter.unusedVariables false
set_option linter.unusedSimpArgs false
def bl (c : Int) : Bool := decide (c = 32 ∨ c = 9)
def ind (l : List Int) : Nat := (l.takeWhile bl).length
def canon (s : List Int) (t : Nat) (ex : Bool) : Prop := ind s = s.length ∨ fill 0 (wid_ (s.take (ind s)) 0 t) t ex = s.take (ind s)
instance (s : List Int) (t : Nat) (ex : Bool) : Decidable (canon s t ex) := inferInstanceAs (Decidable (_ ∨ _))
end Go.Proofs.YtloafpnniooliaaDoor.Gen
namespace Go.Proofs.YtloafpnniooliaaDoor.Gen
open Go Go.RowKit
set_option linter.unusedVariables false
set_option linter.unusedSimpArgs false
end Go.Proofs.YtloafpnniooliaaDoor.Gen
namespace Go.Proofs.YtloafpnniooliaaDoor.Gen
open Go Go.RowKit
set_option linter.unusedVariables false
set_option linter.unusedSimpArgs false
theorem flo_facts {p : List Int} {a : Nat} (ha : a ≤ p.length) : Bd p (flo p a) ∧ flo p a ≤ a ∧ (a < flo p a + gsz (p.drop (flo p a)) ∨ a = p.length ∧ flo p a = p.length) := by
 by_cases h : a < p.length
 ·obtain ⟨b, h1, h2, h3, h4⟩ := (Bd.end_ p).cover a h
  have hb : b < p.length := by omega
  rw [flo_bd h1 hb a h2 h3]
  exact ⟨h1, h2, .inl h3⟩
 ·have e : a = p.length := by omega
  subst e
  rw [flo_self (Bd.end_ p)]
  exact ⟨Bd.end_ p, Nat.le_refl _, .inr ⟨rfl, rfl⟩⟩
def itr (f : Nat → Option Nat) : Nat → Nat → Option Nat
 | 0, a => some a
 | n + 1, a => (f a).bind (itr f n)
end Go.Proofs.YtloafpnniooliaaDoor.Gen
