/- Plain lemmas of this claim: no program in sight. -/
import Derived.Lib.DecodeNEq
import Derived.Test.YtloafpnniooliaaDoorWMore
import Derived.Test.YtloafpnniooliaaDoorWWords
namespace Go.Proofs.YtloafpnniooliaaDoor.Gen
open Go Go.RowKit Go.Proofs.YtloafpnniooliaaDoorW.PrintWords Go.Proofs.YtloafpnniooliaaDoorW.PrintMore
theorem wid {x : Int} (h0 : -9223372036854775808 ≤ x) (h1 : x ≤ 9223372036854775807) : wrap64 x = x := by
 unfold wrap64; omega
theorem wnat {n : Nat} (h : n ≤ 9223372036854775806) : wrap64 ((n : Int) + 1) = ((n + 1 : Nat) : Int) := by
 unfold wrap64; omega
theorem wadd {a b : Nat} (h : a + b ≤ 9223372036854775806) : wrap64 ((a : Int) + (b : Int)) = ((a + b : Nat) : Int) := by
 unfold wrap64; omega
theorem wsub {a b : Nat} (h : b ≤ a) (h2 : a ≤ 9223372036854775806) : wrap64 ((a : Int) - (b : Int)) = ((a - b : Nat) : Int) := by
 unfold wrap64; omega
def Bytes (l : List Int) : Prop := ∀ x ∈ l, 0 ≤ x ∧ x ≤ 255
theorem u8_of {x : Int} (h : (Lit.int .u8 x).wf = true) : 0 ≤ x ∧ x ≤ 255 := by
 simp [Lit.wf, IntKind.min, IntKind.max, IntKind.bits, IntKind.signed] at h
 omega
theorem bytes_of {l : List Int} (h : ∀ x ∈ l, (Lit.int .u8 x).wf = true) : Bytes l := fun x hx => u8_of (h x hx)
theorem i64_of {x : Int} (h : (Lit.int .i64 x).wf = true) : -9223372036854775808 ≤ x ∧ x ≤ 9223372036854775807 := by
 simp [Lit.wf, IntKind.min, IntKind.max, IntKind.bits, IntKind.signed] at h
 omega
theorem rd_nat (p : List Int) (i : Nat) (h : i < p.length) : rd p (i : Int) = p[i] := by
 simp [rd, h]
theorem ex_succ {k n : Nat} (h : n < k) : ∃ m, k = m + 1 := ⟨k - 1, by omega⟩
theorem drop_at {α : Type} (p : List α) (i : Nat) (h : i < p.length) : p.drop i = p[i] :: p.drop (i + 1) :=
 List.drop_eq_getElem_cons h
def clip (p : List Int) (a : Int) : Nat := min a.toNat p.length
theorem mn_clip (p : List Int) (a : Int) : mn (mx a 0) (p.length : Int) = (clip p a : Int) := by unfold mn mx clip; (repeat' split) <;> omega
theorem clip_le (p : List Int) (a : Int) : clip p a ≤ p.length := by unfold clip; omega
def tb (x : Int) : Nat := (max x 1).toNat
theorem mx_tb (x : Int) : mx x 1 = (tb x : Int) := by
 unfold mx tb; split <;> omega
theorem tb_pos (x : Int) : 0 < tb x := by unfold tb; omega
def zs (l : List Nat) : List Int := l.map fun (n : Nat) => (n : Int)
theorem zs_len (l : List Nat) : (zs l).length = l.length := by simp [zs]
theorem rd_zs (l : List Nat) (i : Nat) (h : i < l.length) : rd (zs l) (i : Int) = (l[i] : Int) := by simp [zs, rd, h]
end Go.Proofs.YtloafpnniooliaaDoor.Gen
namespace Go.Proofs.YtloafpnniooliaaDoor.Gen
set_option linter.unusedVariables false
set_option linter.unusedSimpArgs false
open Go Go.RowKit
def cont (c : Int) : Prop := 128 ≤ c ∧ c ≤ 191
instance (c : Int) : Decidable (cont c) := inferInstanceAs (Decidable (128 ≤ c ∧ c ≤ 191))
def need (b : Int) : Nat := if 194 ≤ b ∧ b ≤ 223 then 2 else if 224 ≤ b ∧ b ≤ 239 then 3 else if 240 ≤ b ∧ b ≤ 244 then 4 else 1
def lo2 (b : Int) : Int := if b = 224 then 160 else if b = 240 then 144 else 128
def hi2 (b : Int) : Int := if b = 237 then 159 else if b = 244 then 143 else 191
def gsz : List Int → Nat
 | [] => 0
 | [_] => 1
 | [b, c] => if need b = 2 ∧ lo2 b ≤ c ∧ c ≤ hi2 b then 2 else 1
 | [b, c, d] => if need b = 2 ∧ lo2 b ≤ c ∧ c ≤ hi2 b then 2 else if need b = 3 ∧ lo2 b ≤ c ∧ c ≤ hi2 b ∧ cont d then 3 else 1
 | b :: c :: d :: e :: _ => if need b = 2 ∧ lo2 b ≤ c ∧ c ≤ hi2 b then 2 else if need b = 3 ∧ lo2 b ≤ c ∧ c ≤ hi2 b ∧ cont d then 3 else if need b = 4 ∧ lo2 b ≤ c ∧ c ≤ hi2 b ∧ cont d ∧ cont e then 4 else 1
theorem lo2_ge (b : Int) : 128 ≤ lo2 b := by unfold lo2; (repeat' split) <;> omega
theorem hi2_le (b : Int) : hi2 b ≤ 191 := by unfold hi2; (repeat' split) <;> omega
theorem need_cont {b : Int} (h : cont b) : need b = 1 := by unfold cont at h; unfold need; (repeat' split) <;> omega
theorem gsz_le (q : List Int) : gsz q ≤ q.length ∧ gsz q ≤ 4 := by
 match q with
 | [] => simp [gsz]
 | [_] => simp [gsz]
 | [b, c] => simp only [gsz, List.length_cons, List.length_nil]; split <;> omega
 | [b, c, d] => simp only [gsz, List.length_cons, List.length_nil]; (repeat' split) <;> omega
 | b :: c :: d :: e :: t => simp only [gsz, List.length_cons]; (repeat' split) <;> omega
theorem gsz_pos {q : List Int} (h : q ≠ []) : 1 ≤ gsz q := by
 match q with
 | [] => exact absurd rfl h
 | [_] => simp [gsz]
 | [b, c] => simp only [gsz]; split <;> omega
 | [b, c, d] => simp only [gsz]; (repeat' split) <;> omega
 | b :: c :: d :: e :: t => simp only [gsz]; (repeat' split) <;> omega
theorem gsz_of_cont {b : Int} {t : List Int} (h : cont b) : gsz (b :: t) = 1 := by
 have hn := need_cont h
 match t with
 | [] => rfl
 | [c] => simp [gsz, hn]
 | [c, d] => simp [gsz, hn]
 | c :: d :: e :: t => simp [gsz, hn]
theorem gsz_cont (q : List Int) (i : Nat) (h1 : 1 ≤ i) (h2 : i < gsz q) : ∃ h : i < q.length, cont q[i] := by
 have hl := (gsz_le q).1
 refine ⟨by omega, ?_⟩
 match q with
 | [] => simp [gsz] at h2
 | [_] => simp only [gsz] at h2; omega
 | [b, c] =>
  have := lo2_ge b; have := hi2_le b
  simp only [gsz] at h2; split at h2
  ·have : i = 1 := by omega
   subst this; unfold cont; simp; omega
  ·omega
 | [b, c, d] =>
  have := lo2_ge b; have := hi2_le b
  simp only [gsz] at h2
  repeat' split at h2
  ·have : i = 1 := by omega
   subst this; unfold cont; simp; omega
  ·rename_i h3
   have : i = 1 ∨ i = 2 := by omega
   rcases this with rfl | rfl
   ·unfold cont; simp; omega
   ·exact h3.2.2.2
  ·omega
 | b :: c :: d :: e :: t =>
  have := lo2_ge b; have := hi2_le b
  simp only [gsz] at h2
  repeat' split at h2
  ·have : i = 1 := by omega
   subst this; unfold cont; simp; omega
  ·rename_i h3
   have : i = 1 ∨ i = 2 := by omega
   rcases this with rfl | rfl
   ·unfold cont; simp; omega
   ·exact h3.2.2.2
  ·rename_i h3
   have : i = 1 ∨ i = 2 ∨ i = 3 := by omega
   rcases this with rfl | rfl | rfl
   ·unfold cont; simp; omega
   ·exact h3.2.2.2.1
   ·exact h3.2.2.2.2
  ·omega
theorem gsz_append (q r : List Int) (h : 2 ≤ gsz q) : gsz (q ++ r) = gsz q := by
 match q with
 | [] => simp [gsz] at h
 | [_] => simp only [gsz] at h; omega
 | [b, c] =>
  simp only [gsz] at h ⊢; split at h
  ·rename_i h3
   rw [if_pos h3]
   match r with
   | [] => simp [h3, gsz]
   | [x] => simp [h3, gsz]
   | x :: y :: r => simp [h3, gsz]
  ·omega
 | [b, c, d] =>
  simp only [gsz] at h ⊢
  match r with
  | [] => simp [gsz]
  | x :: r =>
   simp only [List.cons_append, List.nil_append, gsz]
   repeat' split
   all_goals first | rfl | (exfalso; repeat' split at h <;> omega) | omega
   all_goals simp_all
 | b :: c :: d :: e :: t => simp only [List.cons_append, gsz]
theorem gsz_take (q : List Int) (m : Nat) (h : gsz q ≤ m) : gsz (q.take m) = gsz q := by
 by_cases h0 : q = []
 ·subst h0; simp
 ·have hp := gsz_pos h0
  have hl := gsz_le q
  have hne : q.take m ≠ [] := by
   intro e
   rcases List.take_eq_nil_iff.1 e with e | e
   ·omega
   ·exact h0 e
  have hp' := gsz_pos hne
  by_cases h2 : 2 ≤ gsz (q.take m)
  ·have := gsz_append _ (q.drop m) h2
   rw [List.take_append_drop] at this
   omega
  ·by_cases h3 : 2 ≤ gsz q
   ·exfalso
    match q, m with
    | [], _ => exact h0 rfl
    | _, 0 => omega
    | _, 1 => omega
    | [_], _ => simp only [gsz] at h3; omega
    | [b, c], m + 2 => simp only [List.take_succ_cons, List.take_nil] at h2; omega
    | [b, c, d], 2 =>
     simp only [List.take_succ_cons, List.take_zero, gsz] at h2 h3 h
     repeat' split at h3
     all_goals first | omega | simp_all
    | [b, c, d], m + 3 => simp only [List.take_succ_cons, List.take_nil] at h2; omega
    | b :: c :: d :: e :: t, 2 =>
     simp only [List.take_succ_cons, List.take_zero, gsz] at h2 h3 h
     repeat' split at h3
     all_goals first | omega | simp_all
    | b :: c :: d :: e :: t, 3 =>
     simp only [List.take_succ_cons, List.take_zero, gsz] at h2 h3 h
     repeat' split at h3
     all_goals first | omega | simp_all
    | b :: c :: d :: e :: t, m + 4 => simp only [List.take_succ_cons, gsz] at h2 h3; omega
   ·omega
theorem gsz_head_cont {q : List Int} (h : 0 < q.length) (hc : cont q[0]) : gsz q = 1 := by
 cases q with
 | nil => simp at h
 | cons b t => exact gsz_of_cont hc
inductive Bd (p : List Int) : Nat → Prop
 | zero : Bd p 0
 | next {x : Nat} : Bd p x → x < p.length → Bd p (x + gsz (p.drop x))
theorem gd_le (p : List Int) (x : Nat) (h : x ≤ p.length) : x + gsz (p.drop x) ≤ p.length := by
 have := (gsz_le (p.drop x)).1
 simp only [List.length_drop] at this; omega
theorem gd_pos (p : List Int) (x : Nat) (h : x < p.length) : 1 ≤ gsz (p.drop x) := gsz_pos (by simp; omega)
theorem gd_four (p : List Int) (x : Nat) : gsz (p.drop x) ≤ 4 := (gsz_le _).2
theorem Bd.le {p : List Int} {x : Nat} (h : Bd p x) : x ≤ p.length := by
 induction h with
 | zero => omega
 | next _ hx _ => exact gd_le _ _ (by omega)
theorem Bd.cover {p : List Int} {x : Nat} (h : Bd p x) : ∀ i, i < x → ∃ b, Bd p b ∧ b ≤ i ∧ i < b + gsz (p.drop b) ∧ b + gsz (p.drop b) ≤ x := by
 induction h with
 | zero => intro i hi; omega
 | @next y hy hl ih =>
  intro i hi
  by_cases h : i < y
  ·obtain ⟨b, h1, h2, h3, h4⟩ := ih i h
   exact ⟨b, h1, h2, h3, by omega⟩
  ·exact ⟨y, hy, by omega, hi, Nat.le_refl _⟩
theorem cont_in {p : List Int} {b i : Nat} (h1 : b < i) (h2 : i < b + gsz (p.drop b)) : ∃ h : i < p.length, cont p[i] := by
 obtain ⟨h, hc⟩ := gsz_cont (p.drop b) (i - b) (by omega) (by omega)
 simp only [List.length_drop] at h
 refine ⟨by omega, ?_⟩
 rw [List.getElem_drop] at hc
 simp only [show b + (i - b) = i by omega] at hc
 exact hc
theorem gd_cont {p : List Int} {i : Nat} (h : i < p.length) (hc : cont p[i]) : gsz (p.drop i) = 1 := by
 rw [drop_at p i h]; exact gsz_of_cont hc
theorem Bd.clear {p : List Int} {x : Nat} (h : Bd p x) (i : Nat) (hi : i < x) : i + gsz (p.drop i) ≤ x := by
 obtain ⟨b, h1, h2, h3, h4⟩ := h.cover i hi
 rcases Nat.lt_or_ge b i with hb | hb
 ·obtain ⟨hl, hc⟩ := cont_in hb h3
  rw [gd_cont hl hc]; omega
 ·have : b = i := by omega
  subst this; exact h4
theorem Bd.take {p : List Int} {x : Nat} (h : Bd p x) {b : Nat} (hb : Bd p b) (hbx : b ≤ x) : Bd (p.take x) b := by
 induction hb with
 | zero => exact .zero
 | @next y hy hl ih =>
  have hxl := h.le
  have hlt : y < x := by have := gd_pos p y hl; omega
  have hc := h.clear y hlt
  have e : gsz ((p.take x).drop y) = gsz (p.drop y) := by
   rw [List.drop_take]; exact gsz_take _ _ (by omega)
  have := Bd.next (p := p.take x) (ih (by omega)) (by simp only [List.length_take]; omega)
  rw [e] at this
  exact this
def lsz (q : List Int) : Nat :=
 if q = [] then 0
 else if 2 ≤ q.length ∧ gsz (q.drop (q.length - 2)) = 2 then 2
 else if 3 ≤ q.length ∧ gsz (q.drop (q.length - 3)) = 3 then 3
 else if 4 ≤ q.length ∧ gsz (q.drop (q.length - 4)) = 4 then 4
 else 1
theorem lsz_bd {p : List Int} {x : Nat} (h : Bd p x) (hx : x < p.length) : lsz (p.take (x + gsz (p.drop x))) = gsz (p.drop x) := by
 have hp := gd_pos p x hx
 have hf := gd_four p x
 have hle := gd_le p x (by omega)
 have hnx := h.next hx
 generalize hn : gsz (p.drop x) = n at *
 have hlen : (p.take (x + n)).length = x + n := by simp only [List.length_take]; omega
 have hne : p.take (x + n) ≠ [] := by intro e; rw [e] at hlen; simp at hlen; omega
 have key : ∀ m, 2 ≤ m → m ≤ x + n → gsz ((p.take (x + n)).drop (x + n - m)) = m → m = n := by
  intro m h1 h2 h3
  rw [List.drop_take] at h3
  have h4 := gsz_append ((p.drop (x + n - m)).take (x + n - (x + n - m))) ((p.drop (x + n - m)).drop (x + n - (x + n - m))) (by omega)
  rw [List.take_append_drop, h3] at h4
  rcases Nat.lt_trichotomy m n with hm | hm | hm
  ·obtain ⟨hl, hc⟩ := cont_in (p := p) (b := x) (i := x + n - m) (by omega) (by omega)
   rw [gd_cont hl hc] at h4; omega
  ·exact hm
  ·have := h.clear (x + n - m) (by omega)
   rw [h4] at this; omega
 have self : 2 ≤ n → gsz ((p.take (x + n)).drop (x + n - n)) = n := by
  intro _
  rw [List.drop_take, show x + n - n = x by omega, show x + n - x = n by omega, gsz_take _ _ (by omega), hn]
 unfold lsz
 rw [if_neg hne, hlen]
 by_cases c2 : 2 ≤ x + n ∧ gsz ((p.take (x + n)).drop (x + n - 2)) = 2
 ·rw [if_pos c2]; exact key 2 (by omega) c2.1 c2.2
 ·rw [if_neg c2]
  by_cases c3 : 3 ≤ x + n ∧ gsz ((p.take (x + n)).drop (x + n - 3)) = 3
  ·rw [if_pos c3]; exact key 3 (by omega) c3.1 c3.2
  ·rw [if_neg c3]
   by_cases c4 : 4 ≤ x + n ∧ gsz ((p.take (x + n)).drop (x + n - 4)) = 4
   ·rw [if_pos c4]; exact key 4 (by omega) c4.1 c4.2
   ·rw [if_neg c4]
    have : n = 1 ∨ n = 2 ∨ n = 3 ∨ n = 4 := by omega
    rcases this with rfl | rfl | rfl | rfl
    ·rfl
    ·exact absurd ⟨by omega, self (by omega)⟩ c2
    ·exact absurd ⟨by omega, self (by omega)⟩ c3
    ·exact absurd ⟨by omega, self (by omega)⟩ c4
def flo (p : List Int) (a : Nat) : Nat :=
 if 1 ≤ a ∧ a < a - 1 + gsz (p.drop (a - 1)) then a - 1
 else if 2 ≤ a ∧ a < a - 2 + gsz (p.drop (a - 2)) then a - 2
 else if 3 ≤ a ∧ a < a - 3 + gsz (p.drop (a - 3)) then a - 3
 else a
theorem flo_bd {p : List Int} {b : Nat} (h : Bd p b) (hb : b < p.length) (a : Nat) (h1 : b ≤ a) (h2 : a < b + gsz (p.drop b)) : flo p a = b := by
 have hf := gd_four p b
 have none : ∀ j, 1 ≤ j → j ≤ a → a < a - j + gsz (p.drop (a - j)) → a - j = b := by
  intro j h3 h4 h5
  rcases Nat.lt_trichotomy (a - j) b with h6 | h6 | h6
  ·have := h.clear (a - j) h6; omega
  ·exact h6
  ·obtain ⟨hl, hc⟩ := cont_in (p := p) (b := b) (i := a - j) h6 (by omega)
   rw [gd_cont hl hc] at h5; omega
 unfold flo
 by_cases c1 : 1 ≤ a ∧ a < a - 1 + gsz (p.drop (a - 1))
 ·rw [if_pos c1]; exact none 1 (by omega) c1.1 c1.2
 ·rw [if_neg c1]
  by_cases c2 : 2 ≤ a ∧ a < a - 2 + gsz (p.drop (a - 2))
  ·rw [if_pos c2]; exact none 2 (by omega) c2.1 c2.2
  ·rw [if_neg c2]
   by_cases c3 : 3 ≤ a ∧ a < a - 3 + gsz (p.drop (a - 3))
   ·rw [if_pos c3]; exact none 3 (by omega) c3.1 c3.2
   ·rw [if_neg c3]
    have : a = b ∨ a = b + 1 ∨ a = b + 2 ∨ a = b + 3 := by omega
    rcases this with h | h | h | h
    ·exact h
    ·exact absurd ⟨by omega, by rw [show a - 1 = b by omega]; omega⟩ c1
    ·exact absurd ⟨by omega, by rw [show a - 2 = b by omega]; omega⟩ c2
    ·exact absurd ⟨by omega, by rw [show a - 3 = b by omega]; omega⟩ c3
theorem flo_self {p : List Int} {b : Nat} (h : Bd p b) : flo p b = b := by
 unfold flo
 rw [if_neg (fun c => by have := h.clear (b - 1) (by omega); omega), if_neg (fun c => by have := h.clear (b - 2) (by omega); omega), if_neg (fun c => by have := h.clear (b - 3) (by omega); omega)]
def startsF : Nat → List Int → Nat → List Nat
 | 0, _, _ => []
 | n + 1, p, x => if x < p.length then x :: startsF n p (x + gsz (p.drop x)) else []
def starts (p : List Int) : List Nat := startsF p.length p 0
theorem Bd.end_ (p : List Int) : Bd p p.length := by
 have : ∀ n x, Bd p x → p.length ≤ x + n → Bd p p.length := by
  intro n
  induction n with
  | zero => intro x h h1; have := h.le; rwa [show p.length = x by omega]
  | succ n ih =>
   intro x h h1
   by_cases hx : x < p.length
   ·have := gd_pos p x hx
    exact ih _ (h.next hx) (by omega)
   ·have := h.le; rwa [show p.length = x by omega]
 exact this p.length 0 .zero (by omega)
end Go.Proofs.YtloafpnniooliaaDoor.Gen
namespace Go.Proofs.YtloafpnniooliaaDoor.Gen
open Go Go.RowKit
set_option linter.unusedVariables false
set_option linter.unusedSimpArgs false
def stp (c b t : Nat) : Nat := if b = 9 then c + t - c % t else c + 1
theorem stp_le (c b t : Nat) (h : 0 < t) : stp c b t ≤ c + t := by
 unfold stp; split <;> omega
def widF : Nat → List Int → Nat → Nat → Nat
 | 0, _, c, _ => c
 | n + 1, q, c, t => match q with
  | [] => c
  | b :: r => widF n ((b :: r).drop (gsz (b :: r))) (stp c b.toNat t) t
def wid_ (q : List Int) (c t : Nat) : Nat := widF q.length q c t
theorem widF_fuel (n : Nat) : ∀ (m : Nat) (q : List Int) (c t : Nat), q.length ≤ n → q.length ≤ m → widF n q c t = widF m q c t := by
 induction n with
 | zero =>
  intro m q c t h1 h2
  have : q = [] := List.eq_nil_of_length_eq_zero (by omega)
  subst this
  cases m <;> simp [widF]
 | succ n ih =>
  intro m q c t h1 h2
  cases m with
  | zero =>
   have : q = [] := List.eq_nil_of_length_eq_zero (by omega)
   subst this; simp [widF]
  | succ m =>
   cases q with
   | nil => rfl
   | cons b r =>
    have := gsz_pos (q := b :: r) (by simp)
    simp only [widF]
    exact ih m _ _ _ (by simp only [List.length_drop]; simp only [List.length_cons] at *; omega) (by simp only [List.length_drop]; simp only [List.length_cons] at *; omega)
theorem wid_nil (c t : Nat) : wid_ [] c t = c := rfl
theorem wid_cons (b : Int) (r : List Int) (c t : Nat) : wid_ (b :: r) c t = wid_ ((b :: r).drop (gsz (b :: r))) (stp c b.toNat t) t := by
 have := gsz_pos (q := b :: r) (by simp)
 unfold wid_
 simp only [List.length_cons, widF]
 exact widF_fuel _ _ _ _ _ (by simp only [List.length_drop, List.length_cons]; omega) (Nat.le_refl _)
theorem wid_at (p : List Int) (x : Nat) (h : x < p.length) (c t : Nat) : wid_ (p.drop x) c t = wid_ (p.drop (x + gsz (p.drop x))) (stp c p[x].toNat t) t := by
 rw [← List.drop_drop, drop_at p x h, wid_cons]
theorem wid_split {p : List Int} {f : Nat} (hf : Bd p f) (t : Nat) : ∀ x c, Bd p x → x ≤ f → wid_ (p.drop x) c t = wid_ (p.drop f) (wid_ ((p.take f).drop x) c t) t := by
 have : ∀ n x c, Bd p x → x ≤ f → f ≤ x + n → wid_ (p.drop x) c t = wid_ (p.drop f) (wid_ ((p.take f).drop x) c t) t := by
  intro n
  induction n with
  | zero =>
   intro x c hx h1 h2
   have : x = f := by omega
   subst this
   rw [List.drop_eq_nil_of_le (as := List.take x p) (by simp; omega), wid_nil]
  | succ n ih =>
   intro x c hx h1 h2
   have hfl := hf.le
   rcases Nat.lt_or_ge x f with h | h
   ·have hlt : x < p.length := by omega
    have hg := gd_pos p x hlt
    have hc := hf.clear x h
    have hlt' : x < (p.take f).length := by simp only [List.length_take]; omega
    have e : gsz ((p.take f).drop x) = gsz (p.drop x) := by rw [List.drop_take]; exact gsz_take _ _ (by omega)
    rw [wid_at p x hlt, wid_at (p.take f) x hlt', e, List.getElem_take]
    exact ih _ _ (hx.next hlt) hc (by omega)
   ·have : x = f := by omega
    subst this
    rw [List.drop_eq_nil_of_le (as := List.take x p) (by simp; omega), wid_nil]
 intro x c hx h
 exact this f x c hx h (by omega)
theorem wid_take {p : List Int} {x : Nat} (h : Bd p x) (hx : x < p.length) (c t : Nat) : wid_ (p.take (x + gsz (p.drop x))) c t = stp (wid_ (p.take x) c t) p[x].toNat t := by
 have hg := gd_pos p x hx
 have hle := gd_le p x (by omega)
 have hn := h.next hx
 have h1 := hn.take h (by omega)
 have h2 := wid_split h1 t 0 c .zero (by omega)
 have hlt : x < (p.take (x + gsz (p.drop x))).length := by simp only [List.length_take]; omega
 have e : gsz ((p.take (x + gsz (p.drop x))).drop x) = gsz (p.drop x) := by rw [List.drop_take]; exact gsz_take _ _ (by omega)
 simp only [List.drop_zero] at h2
 rw [h2, wid_at _ x hlt, e, List.getElem_take, List.drop_eq_nil_of_le (by simp only [List.length_take]; omega), wid_nil, List.take_take, Nat.min_eq_left (by omega)]
def atF : Nat → List Int → Nat → Nat → Nat → Nat → Nat
 | 0, p, _, _, _, _ => p.length
 | n + 1, p, x, c, col, t => if h : x < p.length then (if col < stp c p[x].toNat t then x else atF n p (x + gsz (p.drop x)) (stp c p[x].toNat t) col t) else p.length
def at_ (p : List Int) (col t : Nat) : Nat := atF p.length p 0 0 col t
theorem atF_spec (p : List Int) (col t : Nat) (n : Nat) : ∀ x, Bd p x → p.length ≤ x + n → wid_ (p.take x) 0 t ≤ col →
  Bd p (atF n p x (wid_ (p.take x) 0 t) col t) ∧ wid_ (p.take (atF n p x (wid_ (p.take x) 0 t) col t)) 0 t ≤ col ∧
  (∀ h : atF n p x (wid_ (p.take x) 0 t) col t < p.length, col < wid_ (p.take (atF n p x (wid_ (p.take x) 0 t) col t + gsz (p.drop (atF n p x (wid_ (p.take x) 0 t) col t)))) 0 t) := by
 induction n with
 | zero =>
  intro x hx h1 h2
  have : x = p.length := by have := hx.le; omega
  subst this
  simp only [atF]
  exact ⟨hx, h2, fun h => by omega⟩
 | succ n ih =>
  intro x hx h1 h2
  simp only [atF]
  by_cases h : x < p.length
  ·have hg := gd_pos p x h
   have hw := wid_take hx h 0 t
   simp only [dif_pos h]
   by_cases hc : col < stp (wid_ (p.take x) 0 t) p[x].toNat t
   ·simp only [if_pos hc]
    exact ⟨hx, h2, fun _ => by rw [hw]; exact hc⟩
   ·simp only [if_neg hc]
    have := ih _ (hx.next h) (by omega) (by rw [hw]; omega)
    rw [hw] at this
    exact this
  ·have : x = p.length := by have := hx.le; omega
   subst this
   simp only [dif_neg h]
   exact ⟨hx, h2, fun h => by omega⟩
def fillF : Nat → Nat → Nat → Nat → Bool → List Int
 | 0, _, _, _, _ => []
 | n + 1, c, w, t, sp => if c < w then (if sp = false ∧ stp c 9 t ≤ w ∧ c + 1 < stp c 9 t then 9 :: fillF n (stp c 9 t) w t sp else 32 :: fillF n (c + 1) w t sp) else []
def fill (c w t : Nat) (sp : Bool) : List Int := fillF (w - c) c w t sp
theorem gsz_low {b : Int} (t : List Int) (h : b < 194) : gsz (b :: t) = 1 := by
 have hn : need b = 1 := by unfold need; rw [if_neg (by omega), if_neg (by omega), if_neg (by omega)]
 match t with
 | [] => rfl
 | [c] => simp [gsz, hn]
 | [c, d] => simp [gsz, hn]
 | c :: d :: e :: t => simp [gsz, hn]
end Go.Proofs.YtloafpnniooliaaDoor.Gen
namespace Go.Proofs.YtloafpnniooliaaDoor.Gen
open Go Go.RowKit
def cls (c : Int) : Int :=
 if c = 32 ∨ c = 9 then 0 else if c = 10 then 1
 else if 128 ≤ c ∨ c = 95 ∨ (48 ≤ c ∧ c ≤ 57) ∨ (65 ≤ c ∧ c ≤ 90) ∨ (97 ≤ c ∧ c ≤ 122) then 2 else 3
def ws (c : Int) : Prop := c = 32 ∨ c = 9 ∨ c = 10
instance (c : Int) : Decidable (ws c) := inferInstanceAs (Decidable (c = 32 ∨ c = 9 ∨ c = 10))
abbrev NN := Nat × Nat
def cut (p : List Int) (x : NN) : List Int := (p.take (x.1 + x.2)).drop x.1
end Go.Proofs.YtloafpnniooliaaDoor.Gen
namespace Go.Proofs.YtloafpnniooliaaDoor.Gen
open Go Go.RowKit
set_option linter.unusedVariables false
set_option linter.unusedSimpArgs false
def rn : Nat → List Int → List NN
 | _, [] => []
 | o, c :: t => match t, rn (o + 1) t with
  | d :: _, (a, n) :: r => if cls c = cls d then (o, n + 1) :: r else (o, 1) :: (a, n) :: r
  | _, _ => [(o, 1)]
theorem rn_one (o : Nat) (c : Int) : rn o [c] = [(o, 1)] := rfl
theorem rn_ne (o : Nat) (c : Int) (t : List Int) : rn o (c :: t) ≠ [] := by
 simp only [rn]
 split
 ·split <;> simp
 ·simp
theorem rn_cons (o : Nat) (c d : Int) (t : List Int) : ∃ a n r, rn (o + 1) (d :: t) = (a, n) :: r ∧ rn o (c :: d :: t) = if cls c = cls d then (o, n + 1) :: r else (o, 1) :: (a, n) :: r := by
 have h := rn_ne (o + 1) d t
 generalize he : rn (o + 1) (d :: t) = L at h
 cases L with
 | nil => exact absurd rfl h
 | cons x r =>
  obtain ⟨a, n⟩ := x
  refine ⟨a, n, r, rfl, ?_⟩
  rw [show rn o (c :: d :: t) = (match d :: t, rn (o + 1) (d :: t) with | d :: _, (a, n) :: r => if cls c = cls d then (o, n + 1) :: r else (o, 1) :: (a, n) :: r | _, _ => [(o, 1)]) from rfl, he]
def Cov (p : List Int) : Nat → List NN → Prop
 | o, [] => o = p.length
 | o, (a, n) :: r => a = o ∧ 1 ≤ n ∧ o + n ≤ p.length ∧ (∀ i, o ≤ i → (h : i < o + n) → ∀ (h1 : i < p.length) (h2 : o < p.length), cls p[i] = cls p[o]) ∧ (∀ (h1 : o + n < p.length) (h2 : o + n - 1 < p.length), cls p[o + n] ≠ cls p[o + n - 1]) ∧ Cov p (o + n) r
theorem cov_rn (p : List Int) (m : Nat) : ∀ o, o + m = p.length → Cov p o (rn o (p.drop o)) := by
 induction m with
 | zero => intro o h; rw [List.drop_eq_nil_of_le (by omega)]; simp only [rn, Cov]; omega
 | succ m ih =>
  intro o h
  have hlt : o < p.length := by omega
  have hnext := ih (o + 1) (by omega)
  rw [drop_at p o hlt]
  by_cases h1 : o + 1 < p.length
  ·rw [drop_at p (o + 1) h1] at hnext ⊢
   obtain ⟨a, n, r, e1, e2⟩ := rn_cons o p[o] p[o + 1] (p.drop (o + 1 + 1))
   rw [e1] at hnext
   rw [e2]
   obtain ⟨ha, hn, hle, hsame, hdiff, hr⟩ := hnext
   by_cases hc : cls p[o] = cls p[o + 1]
   ·rw [if_pos hc]
    refine ⟨rfl, by omega, by omega, ?_, ?_, ?_⟩
    ·intro i h2 h3 h4 h5
     rcases Nat.lt_or_ge o i with h6 | h6
     ·rw [hsame i (by omega) (by omega) h4 h1, ← hc]
     ·have : i = o := by omega
      subst this; rfl
    ·intro h2 h3
     have := hdiff (by omega) (by omega)
     simp only [show o + 1 + n = o + (n + 1) by omega] at this
     exact this
    ·rw [show o + (n + 1) = o + 1 + n by omega]; exact hr
   ·rw [if_neg hc]
    refine ⟨rfl, by omega, by omega, ?_, ?_, ha, hn, hle, hsame, hdiff, hr⟩
    ·intro i h2 h3 h4 h5
     have : i = o := by omega
     subst this; rfl
    ·intro h2 h3
     simp only [show o + 1 - 1 = o by omega]
     exact fun e => hc e.symm
  ·rw [List.drop_eq_nil_of_le (by omega), rn_one]
   refine ⟨rfl, by omega, by omega, ?_, ?_, ?_⟩
   ·intro i h2 h3 h4 h5
    have : i = o := by omega
    subst this; rfl
   ·intro h2 h3; omega
   ·simp only [Cov]; omega
theorem rn_snoc (x : List Int) (c : Int) : ∀ o (h : x ≠ []), ∃ l a n, rn o x = l ++ [(a, n)] ∧ rn o (x ++ [c]) = if cls (x.getLast h) = cls c then l ++ [(a, n + 1)] else l ++ [(a, n)] ++ [(o + x.length, 1)] := by
 induction x with
 | nil => intro o h; exact absurd rfl h
 | cons d t ih =>
  intro o h
  cases t with
  | nil =>
   refine ⟨[], o, 1, rfl, ?_⟩
   obtain ⟨a, n, r, e1, e2⟩ := rn_cons o d c []
   rw [rn_one, List.cons.injEq, Prod.mk.injEq] at e1
   obtain ⟨⟨rfl, rfl⟩, rfl⟩ := e1
   rw [List.cons_append, List.nil_append, e2]
   simp
  | cons e t =>
   obtain ⟨l, a, n, h1, h2⟩ := ih (o + 1) (by simp)
   obtain ⟨a1, n1, r1, e1, e2⟩ := rn_cons o d e t
   obtain ⟨a2, n2, r2, f1, f2⟩ := rn_cons o d e (t ++ [c])
   rw [List.cons_append] at h2
   rw [h2] at f1
   rw [h1] at e1
   rw [List.cons_append, List.cons_append, f2, e2]
   have hl : (d :: e :: t).getLast h = (e :: t).getLast (by simp) := List.getLast_cons (by simp)
   rw [hl]
   cases l with
   | nil =>
    simp only [List.nil_append, List.cons.injEq, Prod.mk.injEq] at e1
    obtain ⟨⟨rfl, rfl⟩, rfl⟩ := e1
    by_cases hc : cls ((e :: t).getLast (by simp)) = cls c
    ·simp only [hc, if_true, List.nil_append, List.cons.injEq, Prod.mk.injEq] at f1
     obtain ⟨⟨rfl, rfl⟩, rfl⟩ := f1
     by_cases hd : cls d = cls e
     ·exact ⟨[], o, n + 1, by simp [hd], by simp [hc, hd]⟩
     ·exact ⟨[(o, 1)], a, n, by simp [hd], by simp [hc, hd]⟩
    ·simp only [hc, if_false, List.nil_append, List.cons_append, List.cons.injEq, Prod.mk.injEq] at f1
     obtain ⟨⟨rfl, rfl⟩, rfl⟩ := f1
     by_cases hd : cls d = cls e
     ·exact ⟨[], o, n + 1, by simp [hd], by simp [hc, hd]; omega⟩
     ·exact ⟨[(o, 1)], a, n, by simp [hd], by simp [hc, hd]; omega⟩
   | cons y l =>
    obtain ⟨ya, yn⟩ := y
    simp only [List.cons_append, List.cons.injEq, Prod.mk.injEq] at e1
    obtain ⟨⟨rfl, rfl⟩, rfl⟩ := e1
    by_cases hc : cls ((e :: t).getLast (by simp)) = cls c
    ·simp only [hc, if_true, List.cons_append, List.cons.injEq, Prod.mk.injEq] at f1
     obtain ⟨⟨rfl, rfl⟩, rfl⟩ := f1
     by_cases hd : cls d = cls e
     ·exact ⟨(o, yn + 1) :: l, a, n, by simp [hd], by simp [hc, hd]⟩
     ·exact ⟨(o, 1) :: (ya, yn) :: l, a, n, by simp [hd], by simp [hc, hd]⟩
    ·simp only [hc, if_false, List.cons_append, List.cons.injEq, Prod.mk.injEq] at f1
     obtain ⟨⟨rfl, rfl⟩, rfl⟩ := f1
     by_cases hd : cls d = cls e
     ·exact ⟨(o, yn + 1) :: l, a, n, by simp [hd], by simp [hc, hd]; omega⟩
     ·exact ⟨(o, 1) :: (ya, yn) :: l, a, n, by simp [hd], by simp [hc, hd]; omega⟩
theorem cov_mem (p : List Int) (L : List NN) : ∀ o, Cov p o L → ∀ x ∈ L, o ≤ x.1 ∧ 1 ≤ x.2 ∧ x.1 + x.2 ≤ p.length := by
 induction L with
 | nil => intro o _ x hx; simp at hx
 | cons y r ih =>
  obtain ⟨a, n⟩ := y
  intro o h x hx
  obtain ⟨ha, hn, hle, _, _, hr⟩ := h
  rcases List.mem_cons.1 hx with rfl | hx
  ·exact ⟨by simp only; omega, hn, by simp only; omega⟩
  ·have := ih _ hr x hx; exact ⟨by omega, this.2⟩
theorem rn_mem (p : List Int) : ∀ x ∈ rn 0 p, 1 ≤ x.2 ∧ x.1 + x.2 ≤ p.length := by
 have := cov_rn p p.length 0 (by omega)
 simp only [List.drop_zero] at this
 exact fun x hx => (cov_mem p _ 0 this x hx).2
theorem rn_length (q : List Int) : ∀ o, (rn o q).length ≤ q.length := by
 induction q with
 | nil => intro o; simp [rn]
 | cons c t ih =>
  intro o
  cases t with
  | nil => simp [rn]
  | cons d t =>
   obtain ⟨a, n, r, e1, e2⟩ := rn_cons o c d t
   have := ih (o + 1)
   rw [e1] at this
   rw [e2]
   simp only [List.length_cons] at *
   split <;> simp only [List.length_cons] <;> omega
def wrds (p : List Int) : List NN := (rn 0 p).filter fun x => decide (2 ≤ cls (p.getD x.1 0))
theorem wrds_mem (p : List Int) : ∀ x ∈ wrds p, 1 ≤ x.2 ∧ x.1 + x.2 ≤ p.length := fun x hx => rn_mem p x (List.mem_filter.1 hx).1
def fwd (len : Nat) (a : Int) : List NN → Int
 | [] => (len : Int)
 | x :: r => if (x.1 : Int) > a then (x.1 : Int) else fwd len a r
def bck (a : Int) : Int → List NN → Int
 | d, [] => d
 | d, x :: r => bck a (if (x.1 : Int) < a then (x.1 : Int) else d) r
theorem take_last (p : List Int) (i : Nat) (h0 : 0 < i) (h : i ≤ p.length) (hne : p.take i ≠ []) : (p.take i).getLast hne = p[i - 1]'(by omega) := by
 rw [List.getLast_eq_getElem, List.getElem_take]
 simp only [List.length_take, show min i p.length - 1 = i - 1 by omega]
end Go.Proofs.YtloafpnniooliaaDoor.Gen
namespace Go.Proofs.YtloafpnniooliaaDoor.Gen
open Go Go.RowKit
set_option linter.unusedVariables false
set_option linter.unusedSimpArgs false
def lns : List Int → List (List Int)
 | [] => [[]]
 | c :: t => if c = 10 then [] :: lns t else match lns t with
  | l :: r => (c :: l) :: r
  | [] => [[c]]
theorem lns_ne (p : List Int) : lns p ≠ [] := by
 cases p with
 | nil => simp [lns]
 | cons c t =>
  simp only [lns]
  split
  ·simp
  ·split <;> simp
theorem lns_ex (p : List Int) : ∃ l r, lns p = l :: r := by
 have := lns_ne p
 cases h : lns p with
 | nil => exact absurd h this
 | cons l r => exact ⟨l, r, rfl⟩
theorem lns_nl (t : List Int) : lns (10 :: t) = [] :: lns t := by simp [lns]
theorem lns_cons {c : Int} (h : c ≠ 10) {t : List Int} {l : List Int} {r : List (List Int)} (e : lns t = l :: r) : lns (c :: t) = (c :: l) :: r := by simp [lns, h, e]
def jn : List (List Int) → List Int
 | [] => []
 | [l] => l
 | l :: m :: r => l ++ 10 :: jn (m :: r)
theorem jn_cons (l : List Int) {r : List (List Int)} (h : r ≠ []) : jn (l :: r) = l ++ 10 :: jn r := by
 cases r with
 | nil => exact absurd rfl h
 | cons m r => rfl
theorem jn_cons_cons (c : Int) (l : List Int) (r : List (List Int)) : jn ((c :: l) :: r) = c :: jn (l :: r) := by
 cases r <;> rfl
theorem jn_lns (p : List Int) : jn (lns p) = p := by
 induction p with
 | nil => rfl
 | cons c t ih =>
  by_cases h : c = 10
  ·subst h; rw [lns_nl, jn_cons _ (lns_ne t), ih]; rfl
  ·obtain ⟨l, r, e⟩ := lns_ex t
   rw [lns_cons h e, jn_cons_cons, ← e, ih]
theorem lns_free (p : List Int) : ∀ l ∈ lns p, ∀ c ∈ l, c ≠ 10 := by
 induction p with
 | nil => intro l hl; simp [lns] at hl; subst hl; simp
 | cons c t ih =>
  by_cases h : c = 10
  ·subst h; rw [lns_nl]
   intro l hl
   rcases List.mem_cons.1 hl with rfl | hl
   ·simp
   ·exact ih l hl
  ·obtain ⟨l, r, e⟩ := lns_ex t
   rw [lns_cons h e]
   rw [e] at ih
   intro m hm
   rcases List.mem_cons.1 hm with rfl | hm
   ·intro x hx
    rcases List.mem_cons.1 hx with rfl | hx
    ·exact h
    ·exact ih l (by simp) x hx
   ·exact ih m (by simp [hm])
theorem lns_one {a : List Int} (h : ∀ c ∈ a, c ≠ 10) : lns a = [a] := by
 induction a with
 | nil => rfl
 | cons c t ih => exact lns_cons (h c (by simp)) (ih fun x hx => h x (by simp [hx]))
theorem lns_append (a b : List Int) : ∀ {A x y B}, lns a = A ++ [x] → lns b = y :: B → lns (a ++ b) = A ++ (x ++ y) :: B := by
 induction a with
 | nil =>
  intro A x y B h1 h2
  cases A with
  | nil => simp [lns] at h1; subst h1; simpa using h2
  | cons m A => simp [lns] at h1
 | cons c t ih =>
  intro A x y B h1 h2
  by_cases h : c = 10
  ·subst h
   rw [lns_nl] at h1
   rw [List.cons_append, lns_nl]
   cases A with
   | nil =>
    simp only [List.nil_append, List.cons.injEq] at h1
    exact absurd h1.2 (lns_ne t)
   | cons m A =>
    simp only [List.cons_append, List.cons.injEq] at h1
    obtain ⟨rfl, h1⟩ := h1
    rw [ih h1 h2]; rfl
  ·obtain ⟨l, r, e⟩ := lns_ex t
   rw [lns_cons h e] at h1
   cases A with
   | nil =>
    simp only [List.nil_append, List.cons.injEq] at h1
    obtain ⟨rfl, rfl⟩ := h1
    rw [List.cons_append, lns_cons h (ih (A := []) (x := l) (by simpa using e) h2)]; rfl
   | cons m A =>
    simp only [List.cons_append, List.cons.injEq] at h1
    obtain ⟨rfl, rfl⟩ := h1
    rw [List.cons_append, lns_cons h (ih (A := l :: A) (x := x) (by simpa using e) h2)]; rfl
theorem lns_last (a : List Int) : ∃ A x, lns a = A ++ [x] := by
 rcases List.eq_nil_or_concat (lns a) with h | ⟨A, x, h⟩
 ·exact absurd h (lns_ne a)
 ·exact ⟨A, x, by simpa using h⟩
theorem lns_mid (a b : List Int) : lns (a ++ 10 :: b) = lns a ++ lns b := by
 obtain ⟨A, x, h⟩ := lns_last a
 rw [lns_append a (10 :: b) h (lns_nl b), h]; simp
theorem lns_jn {L : List (List Int)} (h0 : L ≠ []) (h : ∀ l ∈ L, ∀ c ∈ l, c ≠ 10) : lns (jn L) = L := by
 induction L with
 | nil => exact absurd rfl h0
 | cons l r ih =>
  cases r with
  | nil => exact lns_one (h l (by simp))
  | cons m r =>
   rw [jn_cons l (by simp), lns_mid, lns_one (h l (by simp)), ih (by simp) fun k hk => h k (by simp [hk])]; rfl
def nls (p : List Int) : Nat := (p.filter fun c => decide (c = 10)).length
theorem nls_append (a b : List Int) : nls (a ++ b) = nls a + nls b := by simp [nls]
theorem nls_le (p : List Int) : nls p ≤ p.length := List.length_filter_le _ _
theorem nls_cons (c : Int) (t : List Int) : nls (c :: t) = (if c = 10 then 1 else 0) + nls t := by
 unfold nls
 by_cases h : c = 10
 ·simp [h]; omega
 ·simp [h]
theorem lns_count (p : List Int) : (lns p).length = nls p + 1 := by
 induction p with
 | nil => rfl
 | cons c t ih =>
  rw [nls_cons]
  by_cases h : c = 10
  ·subst h; rw [lns_nl, List.length_cons, ih]; simp; omega
  ·obtain ⟨l, r, e⟩ := lns_ex t
   rw [lns_cons h e, if_neg h, Nat.zero_add, ← ih, e]; rfl
def spo : Nat → List (List Int) → List NN
 | _, [] => []
 | o, l :: r => (o, l.length) :: spo (o + l.length + 1) r
def spans (p : List Int) : List NN := spo 0 (lns p)
def off : List (List Int) → Nat
 | [] => 0
 | l :: r => l.length + 1 + off r
theorem spo_length (L : List (List Int)) : ∀ o, (spo o L).length = L.length := by
 induction L with
 | nil => intro o; rfl
 | cons l r ih => intro o; simp [spo, ih]
theorem off_append (A B : List (List Int)) : off (A ++ B) = off A + off B := by
 induction A with
 | nil => simp [off]
 | cons l r ih => simp only [List.cons_append, off, ih]; omega
theorem jn_length {L : List (List Int)} (h : L ≠ []) : (jn L).length + 1 = off L := by
 induction L with
 | nil => exact absurd rfl h
 | cons l r ih =>
  cases r with
  | nil => simp [jn, off]
  | cons m r =>
   rw [jn_cons l (by simp), List.length_append, List.length_cons]
   have := ih (by simp)
   simp only [off] at *
   omega
theorem off_lns (p : List Int) : off (lns p) = p.length + 1 := by
 have := jn_length (lns_ne p)
 rw [jn_lns] at this; omega
theorem spo_get {L : List (List Int)} {i : Nat} (h : i < L.length) (o : Nat) : (spo o L)[i]'(by rw [spo_length]; exact h) = (o + off (L.take i), L[i].length) := by
 induction L generalizing i o with
 | nil => simp at h
 | cons l r ih =>
  cases i with
  | zero => simp [spo, off]
  | succ i =>
   simp only [spo, List.getElem_cons_succ, List.take_succ_cons, off]
   rw [ih (by simpa using h)]
   congr 1; omega
theorem jn_drop {L : List (List Int)} {i : Nat} (h : i < L.length) : (jn L).drop (off (L.take i)) = jn (L.drop i) := by
 induction L generalizing i with
 | nil => simp at h
 | cons l r ih =>
  cases i with
  | zero => simp [off]
  | succ i =>
   have hr : r ≠ [] := by rintro rfl; simp at h
   rw [jn_cons l hr, List.take_succ_cons, off, List.drop_succ_cons, ← ih (by simpa using h)]
   rw [show l.length + 1 + off (r.take i) = l.length + (1 + off (r.take i)) by omega, ← List.drop_drop, List.drop_left, Nat.add_comm 1, List.drop_succ_cons]
theorem line_drop {p : List Int} {i : Nat} (h : i < (lns p).length) : p.drop (off ((lns p).take i)) = jn ((lns p).drop i) := by
 have := jn_drop h
 rwa [jn_lns] at this
theorem jn_take (l : List Int) (r : List (List Int)) : (jn (l :: r)).take l.length = l := by
 cases r with
 | nil => simp [jn]
 | cons m r => rw [jn_cons l (by simp), List.take_left]
theorem off_le {p : List Int} {i : Nat} (h : i < (lns p).length) : off ((lns p).take i) + (lns p)[i].length ≤ p.length := by
 have h1 := off_lns p
 have h2 := off_append ((lns p).take i) ((lns p).drop i)
 rw [List.take_append_drop, List.drop_eq_getElem_cons h] at h2
 simp only [off] at h2
 omega
theorem line_cut {p : List Int} {i : Nat} (h : i < (lns p).length) : cut p (off ((lns p).take i), (lns p)[i].length) = (lns p)[i] := by
 unfold cut
 simp only
 rw [List.drop_take, line_drop h, List.drop_eq_getElem_cons h, show off ((lns p).take i) + (lns p)[i].length - off ((lns p).take i) = (lns p)[i].length by omega, jn_take]
def row (p : List Int) (a : Nat) : Nat := nls (p.take a)
theorem row_lt (p : List Int) (a : Nat) : row p a < (lns p).length := by
 have := nls_append (p.take a) (p.drop a)
 rw [List.take_append_drop] at this
 rw [lns_count]; unfold row; omega
theorem row_split (p : List Int) (a : Nat) (ha : a ≤ p.length) : ∃ A x y B, lns (p.take a) = A ++ [x] ∧ lns (p.drop a) = y :: B ∧ lns p = A ++ (x ++ y) :: B ∧ A.length = row p a ∧ off A + x.length = a := by
 obtain ⟨A, x, h1⟩ := lns_last (p.take a)
 obtain ⟨y, B, h2⟩ := lns_ex (p.drop a)
 have h3 := lns_append _ _ h1 h2
 rw [List.take_append_drop] at h3
 refine ⟨A, x, y, B, h1, h2, h3, ?_, ?_⟩
 ·have := lns_count (p.take a)
  rw [h1] at this
  simp only [List.length_append, List.length_cons, List.length_nil] at this
  unfold row; omega
 ·have := off_lns (p.take a)
  rw [h1, off_append] at this
  simp only [off, List.length_take] at this
  omega
theorem row_at (p : List Int) (a : Nat) (ha : a ≤ p.length) : off ((lns p).take (row p a)) ≤ a ∧ a ≤ off ((lns p).take (row p a)) + ((lns p)[row p a]'(row_lt p a)).length := by
 obtain ⟨A, x, y, B, _, _, h3, h4, h5⟩ := row_split p a ha
 have e : (lns p).take (row p a) = A := by rw [h3, ← h4, List.take_left]
 have e2 : (lns p)[row p a]'(row_lt p a) = x ++ y := by
  simp only [h3, ← h4]
  rw [List.getElem_append_right (by omega)]; simp
 rw [e, e2, List.length_append]; omega
theorem row_of {p : List Int} {i a : Nat} (h : i < (lns p).length) (h1 : off ((lns p).take i) ≤ a) (h2 : a ≤ off ((lns p).take i) + (lns p)[i].length) : row p a = i := by
 have hle := off_le h
 have hr := row_at p a (by omega)
 have hl := row_lt p a
 have mono : ∀ (j k : Nat) (hj : j < (lns p).length), j < k → k < (lns p).length → off ((lns p).take j) + (lns p)[j].length < off ((lns p).take k) := by
  intro j k hj hjk hk
  have h3 : (lns p).take k = (lns p).take j ++ (lns p)[j] :: ((lns p).take k).drop (j + 1) := by
   have h4 : ((lns p).take k).take j = (lns p).take j := by rw [List.take_take]; congr 1; omega
   rw [← h4]
   have h5 : ((lns p).take k)[j]'(by simp; omega) = (lns p)[j] := by simp
   rw [← h5, ← List.drop_eq_getElem_cons, List.take_append_drop]
  rw [h3, off_append]; simp only [off]; omega
 rcases Nat.lt_trichotomy (row p a) i with h3 | h3 | h3
 ·have := mono _ _ hl h3 h; omega
 ·exact h3
 ·have := mono _ _ h h3 hl; omega
def fb : List Int → Int → Int
 | [], _ => -1
 | b :: t, c => if b = c then 0 else if fb t c = -1 then -1 else fb t c + 1
theorem fb_ge (p : List Int) (c : Int) : -1 ≤ fb p c ∧ fb p c < (p.length : Int) := by
 induction p with
 | nil => simp [fb]
 | cons b t ih =>
  simp only [fb, List.length_cons]
  (repeat' split) <;> omega
theorem fb_line (p : List Int) : ∀ {l : List Int} {r : List (List Int)}, lns p = l :: r → fb p 10 = if r = [] then -1 else (l.length : Int) := by
 induction p with
 | nil =>
  intro l r h
  simp only [lns, List.cons.injEq] at h
  obtain ⟨rfl, rfl⟩ := h
  rfl
 | cons b t ih =>
  intro l r h
  by_cases hb : b = 10
  ·subst hb
   rw [lns_nl, List.cons.injEq] at h
   obtain ⟨rfl, rfl⟩ := h
   rw [if_neg (lns_ne t)]; simp [fb]
  ·obtain ⟨l', r', e⟩ := lns_ex t
   rw [lns_cons hb e, List.cons.injEq] at h
   obtain ⟨rfl, rfl⟩ := h
   simp only [fb, if_neg hb, ih e]
   by_cases hr : r' = []
   ·simp [hr]
   ·rw [if_neg hr, if_neg hr, if_neg (by omega), List.length_cons]; omega
def sp (p : List Int) (line : Int) : Option NN := if 0 ≤ line then (spans p)[line.toNat]? else none
theorem spans_at {p : List Int} {i : Nat} (h : i < (lns p).length) : (spans p)[i]? = some (off ((lns p).take i), (lns p)[i].length) := by
 have h2 : i < (spans p).length := by rw [spans, spo_length]; exact h
 rw [List.getElem?_eq_getElem h2]
 have := spo_get h 0
 rw [Nat.zero_add] at this
 exact congrArg some this
theorem sp_in {p : List Int} {line : Int} (h0 : 0 ≤ line) (h : line.toNat < (lns p).length) : sp p line = some (off ((lns p).take line.toNat), (lns p)[line.toNat].length) := by
 unfold sp; rw [if_pos h0, spans_at h]
theorem sp_out {p : List Int} {line : Int} (h : line < 0 ∨ (lns p).length ≤ line.toNat) : sp p line = none := by
 unfold sp
 split
 ·rw [List.getElem?_eq_none]; rw [spans, spo_length]; omega
 ·rfl
theorem off_take {L : List (List Int)} {i : Nat} (h : i < L.length) : off (L.take (i + 1)) = off (L.take i) + L[i].length + 1 := by
 rw [List.take_succ_eq_append_getElem h, off_append]; simp only [off]; omega
theorem off_last {p : List Int} {i : Nat} (h : i < (lns p).length) : (off ((lns p).take i) + (lns p)[i].length = p.length ↔ i + 1 = (lns p).length) ∧ off ((lns p).take i) + (lns p)[i].length ≤ p.length := by
 have h1 := off_lns p
 have h2 := off_append ((lns p).take (i + 1)) ((lns p).drop (i + 1))
 rw [List.take_append_drop, off_take h] at h2
 by_cases e : i + 1 = (lns p).length
 ·rw [List.drop_eq_nil_of_le (by omega)] at h2
  simp only [off] at h2
  omega
 ·rw [List.drop_eq_getElem_cons (by omega)] at h2
  simp only [off] at h2
  omega
theorem off_mono (L : List (List Int)) {i j : Nat} (h : i ≤ j) : off (L.take i) ≤ off (L.take j) := by
 have : L.take j = L.take i ++ (L.take j).drop i := by
  have h1 : (L.take j).take i = L.take i := by rw [List.take_take]; congr 1; omega
  conv => lhs; rw [← List.take_append_drop i (L.take j), h1]
 rw [this, off_append]; omega
theorem last_line {q : List Int} {A : List (List Int)} {x : List Int} (h : lns q = A ++ [x]) : q.drop (off A) = x ∧ off A + x.length = q.length := by
 have hi : A.length < (lns q).length := by rw [h]; simp
 have h1 := line_drop hi
 have h2 := off_lns q
 rw [h, off_append] at h2
 simp only [off] at h2
 rw [h, List.take_left, List.drop_left] at h1
 exact ⟨by simpa [jn] using h1, by omega⟩
def ahd (p : List Int) (a : Nat) : List Int := (p.take a).drop (off ((lns p).take (row p a)))
theorem ahead_last {p : List Int} {a : Nat} (ha : a ≤ p.length) {A : List (List Int)} {x : List Int} (h : lns (p.take a) = A ++ [x]) : ahd p a = x := by
 obtain ⟨A', x', y, B, h1, h2, h3, h4, h5⟩ := row_split p a ha
 rw [h] at h1
 obtain ⟨e1, e2⟩ := List.append_inj' h1 rfl
 have e2 : x = x' := by simpa using e2
 subst e1 e2
 unfold ahd
 rw [h3, ← h4, List.take_left]
 exact (last_line h).1
end Go.Proofs.YtloafpnniooliaaDoor.Gen
namespace Go.Proofs.YtloafpnniooliaaDoor.Gen
open Go Go.RowKit
set_option linter.unusedVariables false
set_option linter.unusedSimpArgs false
def bl (c : Int) : Bool := decide (c = 32 ∨ c = 9)
def ind (l : List Int) : Nat := (l.takeWhile bl).length
theorem ind_nil : ind [] = 0 := rfl
theorem ind_cons_pos {b : Int} (h : bl b = true) (r : List Int) : ind (b :: r) = 1 + ind r := by
 unfold ind; rw [List.takeWhile_cons_of_pos h, List.length_cons]; omega
theorem ind_cons_neg {b : Int} (h : bl b = false) (r : List Int) : ind (b :: r) = 0 := by
 unfold ind; rw [List.takeWhile_cons_of_neg (by simp [h])]; rfl
theorem ind_le (l : List Int) : ind l ≤ l.length := by
 unfold ind
 have := congrArg List.length (List.takeWhile_append_dropWhile (p := bl) (l := l))
 rw [List.length_append] at this; omega
theorem ind_take (l : List Int) : l.take (ind l) = l.takeWhile bl := by
 have h := List.takeWhile_append_dropWhile (p := bl) (l := l)
 unfold ind
 conv => lhs; arg 2; rw [← h]
 rw [List.take_left]
theorem ind_blank (l : List Int) : ∀ x ∈ l.take (ind l), bl x = true := by
 rw [ind_take]
 intro x hx
 have := List.all_takeWhile (p := bl) (l := l)
 rw [List.all_eq_true] at this
 exact this x hx
def canon (s : List Int) (t : Nat) (ex : Bool) : Prop := ind s = s.length ∨ fill 0 (wid_ (s.take (ind s)) 0 t) t ex = s.take (ind s)
instance (s : List Int) (t : Nat) (ex : Bool) : Decidable (canon s t ex) := inferInstanceAs (Decidable (_ ∨ _))
end Go.Proofs.YtloafpnniooliaaDoor.Gen
namespace Go.Proofs.YtloafpnniooliaaDoor.Gen
open Go Go.RowKit
set_option linter.unusedVariables false
set_option linter.unusedSimpArgs false
def brl (p : List Int) (i : Nat) : Option Bool := (lns p)[i]?.map fun l => decide (ind l = l.length)
theorem brl_in {p : List Int} {i : Nat} (h : i < (lns p).length) : brl p i = some (decide (ind (lns p)[i] = (lns p)[i].length)) := by
 unfold brl; rw [List.getElem?_eq_getElem h]; rfl
theorem sp_nat {p : List Int} {r : Nat} (h : r < (lns p).length) : sp p (r : Int) = some (off ((lns p).take r), (lns p)[r].length) := by
 have := sp_in (p := p) (line := (r : Int)) (by omega) (by rw [Int.toNat_natCast]; exact h)
 simpa using this
theorem line_bytes {p : List Int} (hb : Bytes p) {i : Nat} (h : i < (lns p).length) : Bytes (lns p)[i] := fun c hc => by
 rw [← line_cut h] at hc
 exact hb c (List.mem_of_mem_take (List.mem_of_mem_drop hc))
theorem line_str {p : List Int} (hp : p.length ≤ 1000000000) {i : Nat} (h : i < (lns p).length) : (p.take (wrap64 ((off ((lns p).take i) : Int) + ((lns p)[i].length : Int)) : Int).toNat).drop ((off ((lns p).take i) : Int)).toNat = (lns p)[i] := by
 have hle := off_le h
 have hc := line_cut h
 have hw : wrap64 ((off ((lns p).take i) : Int) + ((lns p)[i].length : Int)) = ((off ((lns p).take i) + (lns p)[i].length : Nat) : Int) := by rw [wid (by omega) (by omega)]; omega
 rw [hw, Int.toNat_natCast, Int.toNat_natCast]
 exact hc
theorem cov_ex (p : List Int) (L : List NN) : ∀ o, Cov p o L → ∀ a, o ≤ a → a < p.length → ∃ x ∈ L, x.1 ≤ a ∧ a < x.1 + x.2 ∧ (x.1 + x.2 < p.length → cls (p.getD (x.1 + x.2) 0) ≠ cls (p.getD (x.1 + x.2 - 1) 0)) ∧ (x.1 = o ∨ cls (p.getD x.1 0) ≠ cls (p.getD (x.1 - 1) 0)) := by
 induction L with
 | nil => intro o h a h1 h2; have : o = p.length := h; omega
 | cons y r ih =>
  obtain ⟨x, n⟩ := y
  intro o h a h1 h2
  obtain ⟨ha, hn, hle, hc, hd, hr⟩ := h
  have hd' : x + n < p.length → cls (p.getD (x + n) 0) ≠ cls (p.getD (x + n - 1) 0) := by
   intro h
   subst ha
   have g2 : x + n - 1 < p.length := by omega
   have := hd h g2
   simpa [List.getD_eq_getElem?_getD, h, g2] using this
  by_cases hlt : a < o + n
  ·exact ⟨(x, n), by simp, by simp only; omega, by simp only; omega, hd', .inl ha⟩
  ·obtain ⟨z, hz, g1, g2, g3, g4⟩ := ih _ hr a (by omega) h2
   refine ⟨z, by simp [hz], g1, g2, g3, ?_⟩
   rcases g4 with g4 | g4
   ·right
    rw [g4, ← ha]
    exact hd' (by omega)
   ·exact .inr g4
theorem rn_ex (p : List Int) (a : Nat) (h : a < p.length) : ∃ x ∈ rn 0 p, x.1 ≤ a ∧ a < x.1 + x.2 ∧ (x.1 + x.2 < p.length → cls (p.getD (x.1 + x.2) 0) ≠ cls (p.getD (x.1 + x.2 - 1) 0)) ∧ (x.1 = 0 ∨ cls (p.getD x.1 0) ≠ cls (p.getD (x.1 - 1) 0)) := by
 have := cov_rn p p.length 0 (by omega)
 simp only [List.drop_zero] at this
 exact cov_ex p _ 0 this a (by omega) h
theorem rn_same (p : List Int) (x y : NN) (a : Nat) (hx : x ∈ rn 0 p) (hy : y ∈ rn 0 p) (h1 : x.1 ≤ a) (h2 : a < x.1 + x.2) (h3 : y.1 ≤ a) (h4 : a < y.1 + y.2) : x = y := by
 have key : ∀ (L : List NN) (o : Nat), Cov p o L → x ∈ L → y ∈ L → x = y := by
  intro L
  induction L with
  | nil => intro o _ hx; simp at hx
  | cons z r ih =>
   obtain ⟨b, n⟩ := z
   intro o h hx hy
   obtain ⟨ha, hn, hle, hc, hd, hr⟩ := h
   rcases List.mem_cons.1 hx with rfl | hx
   ·rcases List.mem_cons.1 hy with rfl | hy
    ·rfl
    ·have := cov_mem p r _ hr y hy; simp only at h1 h2; omega
   ·rcases List.mem_cons.1 hy with rfl | hy
    ·have := cov_mem p r _ hr x hx; simp only at h3 h4; omega
    ·exact ih _ hr hx hy
 have := cov_rn p p.length 0 (by omega)
 simp only [List.drop_zero] at this
 exact key _ 0 this hx hy
end Go.Proofs.YtloafpnniooliaaDoor.Gen
namespace Go.Proofs.YtloafpnniooliaaDoor.Gen
open Go Go.RowKit
set_option linter.unusedVariables false
set_option linter.unusedSimpArgs false
theorem flo_facts {p : List Int} {a : Nat} (ha : a ≤ p.length) : Bd p (flo p a) ∧ flo p a ≤ a ∧ (a < flo p a + gsz (p.drop (flo p a)) ∨ a = p.length ∧ flo p a = p.length) := by
 by_cases h : a < p.length
 ·obtain ⟨b, h1, h2, h3, h4⟩ := (Bd.end_ p).cover a h
  have hb : b < p.length := by omega
  rw [flo_bd h1 hb a h2 h3]
  exact ⟨h1, h2, .inl h3⟩
 ·have e : a = p.length := by omega
  subst e
  rw [flo_self (Bd.end_ p)]
  exact ⟨Bd.end_ p, Nat.le_refl _, .inr ⟨rfl, rfl⟩⟩
theorem flo_ge {p : List Int} {a x : Nat} (ha : a ≤ p.length) (hx : Bd p x) (h : x ≤ a) : x ≤ flo p a := by
 obtain ⟨h1, h2, h3⟩ := flo_facts ha
 by_cases g : x ≤ flo p a
 ·exact g
 ·have := hx.clear (flo p a) (by omega)
  have := hx.le
  omega
def lin (p : List Int) (r : Nat) : List Int := (lns p).getD r []
theorem lin_at {p : List Int} {r : Nat} (h : r < (lns p).length) : lin p r = (lns p)[r] := by
 unfold lin; simp [List.getD_eq_getElem?_getD, h]
def fr (p : List Int) (a : Nat) : Nat := off ((lns p).take (row p a))
def en (p : List Int) (a : Nat) : Nat := fr p a + (lin p (row p a)).length
theorem fr_en {p : List Int} {a : Nat} (ha : a ≤ p.length) : fr p a ≤ a ∧ a ≤ en p a ∧ en p a ≤ p.length := by
 have h1 := row_at p a ha
 have h2 := off_le (row_lt p a)
 unfold en fr
 rw [lin_at (row_lt p a)]
 omega
theorem row_same {p : List Int} {a b : Nat} (h1 : fr p a ≤ b) (h2 : b ≤ en p a) : row p b = row p a := by
 unfold en at h2
 unfold fr at h1 h2
 rw [lin_at (row_lt p a)] at h2
 exact row_of (row_lt p a) h1 h2
theorem fr_same {p : List Int} {a b : Nat} (h : row p b = row p a) : fr p b = fr p a ∧ en p b = en p a := by
 unfold en fr; rw [h]; exact ⟨rfl, rfl⟩
theorem lin_drop {p : List Int} {a : Nat} (ha : a ≤ p.length) : ∃ V, p.drop (fr p a) = lin p (row p a) ++ V ∧ (en p a < p.length → ∃ W, V = 10 :: W) := by
 have hr := row_lt p a
 have hol := off_last hr
 have hd := line_drop hr
 rw [List.drop_eq_getElem_cons hr, ← lin_at hr] at hd
 by_cases h : row p a + 1 = (lns p).length
 ·refine ⟨[], ?_, ?_⟩
  ·unfold fr; rw [hd, List.drop_eq_nil_of_le (by omega)]; simp [jn]
  ·intro hlt
   unfold en fr at hlt
   rw [lin_at hr] at hlt
   have := hol.1.2 h
   omega
 ·have hne : (lns p).drop (row p a + 1) ≠ [] := by
   intro e
   have := congrArg List.length e
   simp only [List.length_drop, List.length_nil] at this
   omega
  refine ⟨10 :: jn ((lns p).drop (row p a + 1)), ?_, fun _ => ⟨_, rfl⟩⟩
  unfold fr
  rw [hd, jn_cons _ hne]
theorem getD_drop (p : List Int) (o i : Nat) : (p.drop o).getD i 0 = p.getD (o + i) 0 := by
 simp [List.getD_eq_getElem?_getD, List.getElem?_drop]
theorem en_nl {p : List Int} {a : Nat} (ha : a ≤ p.length) (h : en p a < p.length) : p.getD (en p a) 0 = 10 := by
 obtain ⟨V, hV, hW⟩ := lin_drop ha
 obtain ⟨W, rfl⟩ := hW h
 have e := getD_drop p (fr p a) (lin p (row p a)).length
 rw [hV] at e
 unfold en
 rw [← e]
 simp [List.getD_eq_getElem?_getD]
theorem cont_ne {c : Int} (h : cont c) : c ≠ 10 := by unfold cont at h; omega
theorem sign_in {p : List Int} {b : Nat} (hb : b ≤ p.length) (h : b < en p b) : b + gsz (p.drop b) ≤ en p b := by
 by_cases g : b + gsz (p.drop b) ≤ en p b
 ·exact g
 ·have hle := gd_le p b hb
  have hl := en_nl hb (by omega)
  obtain ⟨h1, h2⟩ := cont_in (p := p) (b := b) (i := en p b) h (by omega)
  refine absurd ?_ (cont_ne h2)
  simpa [List.getD_eq_getElem?_getD, h1] using hl
theorem sign_one {p : List Int} {b : Nat} (h : b < p.length) (h10 : p.getD b 0 = 10) : gsz (p.drop b) = 1 := by
 rw [List.drop_eq_getElem_cons h]
 refine gsz_low _ ?_
 have : p[b] = 10 := by simpa [List.getD_eq_getElem?_getD, h] using h10
 omega
theorem last_sign {p : List Int} {a : Nat} (h : Bd p a) (h0 : 0 < a) : ∃ b, Bd p b ∧ b < a ∧ b + gsz (p.drop b) = a ∧ lsz (p.take a) = a - b ∧ a - lsz (p.take a) = b := by
 have hle := h.le
 obtain ⟨b, h1, h2, h3, h4⟩ := h.cover (a - 1) (by omega)
 have e : b + gsz (p.drop b) = a := by omega
 have hl := lsz_bd h1 (by omega)
 rw [e] at hl
 exact ⟨b, h1, by omega, e, by omega, by omega⟩
theorem sign_back {p : List Int} {a : Nat} (h : Bd p a) (h0 : fr p a < a) : fr p a ≤ a - lsz (p.take a) := by
 have hle := h.le
 obtain ⟨b, h1, h2, h3, h4, h5⟩ := last_sign h (by omega)
 rw [h5]
 have hb := fr_en (p := p) (a := b) (by omega)
 by_cases g : b < en p b
 ·have hs := sign_in (by omega) g
  have := fr_same (row_same (p := p) (a := b) (b := a) (by omega) (by omega))
  omega
 ·by_cases g2 : fr p a ≤ b
  ·exact g2
  ·have hlt : en p b < p.length := by omega
   have hn := en_nl (p := p) (a := b) (by omega) hlt
   rw [show en p b = b by omega] at hn
   have := sign_one (by omega) hn
   omega
def itr (f : Nat → Option Nat) : Nat → Nat → Option Nat
 | 0, a => some a
 | n + 1, a => (f a).bind (itr f n)
def sgn (p : List Int) (on : Bool) (a : Nat) : Option Nat := if on then (if a < en p a then some (a + gsz (p.drop a)) else none) else (if fr p a < a then some (a - lsz (p.take a)) else none)
theorem sgn_facts {p : List Int} {on : Bool} {a b : Nat} (h : Bd p a) (hs : sgn p on a = some b) : Bd p b ∧ row p b = row p a ∧ b ≠ a := by
 have hle := h.le
 have hfe := fr_en hle
 unfold sgn at hs
 cases on with
 | true =>
  rw [if_pos rfl] at hs
  split at hs
  ·rename_i g
   have hs := Option.some.inj hs
   have h1 := sign_in hle g
   have h2 := gd_pos p a (by omega)
   subst hs
   exact ⟨h.next (by omega), row_same (by omega) h1, by omega⟩
  ·simp at hs
 | false =>
  rw [if_neg (by simp)] at hs
  split at hs
  ·rename_i g
   have hs := Option.some.inj hs
   have h1 := sign_back h g
   obtain ⟨c, h2, h3, h4, h5, h6⟩ := last_sign h (by omega)
   rw [h6] at hs h1
   subst hs
   exact ⟨h2, row_same h1 (by omega), by omega⟩
  ·simp at hs
theorem itr_sgn {p : List Int} {on : Bool} (n : Nat) : ∀ {a b : Nat}, Bd p a → itr (sgn p on) n a = some b → Bd p b ∧ row p b = row p a := by
 induction n with
 | zero => intro a b h hs; have := Option.some.inj hs; subst this; exact ⟨h, rfl⟩
 | succ n ih =>
  intro a b h hs
  rw [itr] at hs
  cases e : sgn p on a with
  | none => rw [e] at hs; simp at hs
  | some c =>
   rw [e, Option.bind_some] at hs
   have h1 := sgn_facts h e
   have h2 := ih h1.1 hs
   exact ⟨h2.1, by rw [h2.2, h1.2.1]⟩
end Go.Proofs.YtloafpnniooliaaDoor.Gen
namespace Go.Proofs.YtloafpnniooliaaDoor.Gen
open Go Go.RowKit
set_option linter.unusedVariables false
set_option linter.unusedSimpArgs false
theorem bd_of {p : List Int} {j : Nat} (h : j < p.length) (hc : ¬ cont p[j]) : Bd p j := by
 obtain ⟨b, h1, h2, h3, h4⟩ := (Bd.end_ p).cover j h
 by_cases e : b = j
 ·rw [← e]; exact h1
 ·obtain ⟨g, g2⟩ := cont_in (p := p) (b := b) (i := j) (by omega) h3
  exact absurd g2 hc
theorem bd_nl {p : List Int} {j : Nat} (h : j < p.length) (h10 : p.getD j 0 = 10) : Bd p j ∧ Bd p (j + 1) := by
 have e : p[j] = 10 := by simpa [List.getD_eq_getElem?_getD, h] using h10
 have h1 : Bd p j := bd_of h (by rw [e]; unfold cont; omega)
 have h2 := sign_one h h10
 have h3 := h1.next h
 rw [h2] at h3
 exact ⟨h1, h3⟩
theorem bd_en {p : List Int} {a : Nat} (ha : a ≤ p.length) : Bd p (en p a) := by
 have hfe := fr_en ha
 by_cases h : en p a < p.length
 ·exact (bd_nl h (en_nl ha h)).1
 ·rw [show en p a = p.length by omega]; exact Bd.end_ p
theorem fr_row {p : List Int} {r : Nat} (hr : r < (lns p).length) : fr p (off ((lns p).take r)) = off ((lns p).take r) ∧ en p (off ((lns p).take r)) = off ((lns p).take r) + (lin p r).length := by
 have hle := off_le hr
 have h2 : row p (off ((lns p).take r)) = r := row_of hr (by omega) (by omega)
 unfold en fr
 rw [h2]
 exact ⟨rfl, rfl⟩
theorem bd_line {p : List Int} {r : Nat} (hr : r < (lns p).length) : Bd p (off ((lns p).take r)) := by
 cases r with
 | zero => rw [List.take_zero]; exact Bd.zero
 | succ r =>
  have h0 : r < (lns p).length := by omega
  have hle := off_le h0
  have hol := off_last h0
  have hfr := fr_row h0
  have ht := off_take h0
  have hlt : en p (off ((lns p).take r)) < p.length := by
   rw [hfr.2, lin_at h0]
   have := mt hol.1.1 (by omega)
   omega
  have h1 := bd_nl hlt (en_nl (by omega) hlt)
  rw [hfr.2, lin_at h0] at h1
  rw [ht]
  exact h1.2
theorem bd_dend {p : List Int} {r : Nat} (hr : r < (lns p).length) : Bd p (off ((lns p).take r) + (lin p r).length) := by
 have hle := off_le hr
 have h := bd_en (p := p) (a := off ((lns p).take r)) (by omega)
 rwa [(fr_row hr).2] at h
theorem gsz_line {p : List Int} {r x : Nat} (hr : r < (lns p).length) (hx : x < (lin p r).length) : gsz (p.drop (off ((lns p).take r) + x)) = gsz ((lin p r).drop x) := by
 have hle := off_le hr
 have hl := lin_at hr
 have h2 : row p (off ((lns p).take r)) = r := row_of hr (by omega) (by omega)
 have h1 : row p (off ((lns p).take r) + x) = r := row_of hr (by omega) (by rw [hl] at hx; omega)
 obtain ⟨V, hV, _⟩ := lin_drop (p := p) (a := off ((lns p).take r)) (by omega)
 unfold fr at hV
 rw [h2] at hV
 have hen : en p (off ((lns p).take r) + x) = off ((lns p).take r) + (lin p r).length := by unfold en fr; rw [h1]
 have hs := sign_in (p := p) (b := off ((lns p).take r) + x) (by rw [hl] at hx; omega) (by rw [hen]; omega)
 rw [hen] at hs
 have ht := gsz_take (p.drop (off ((lns p).take r) + x)) ((lin p r).length - x) (by omega)
 have hd : (p.drop (off ((lns p).take r) + x)).take ((lin p r).length - x) = (lin p r).drop x := by
  rw [← List.drop_drop, hV, List.drop_append_of_le_length (Nat.le_of_lt hx)]
  rw [List.take_append_of_le_length (by simp only [List.length_drop]; omega), List.take_of_length_le (by simp only [List.length_drop]; omega)]
 rw [hd] at ht
 exact ht.symm
theorem bd_in {p : List Int} {r x : Nat} (hr : r < (lns p).length) (h : Bd (lin p r) x) : Bd p (off ((lns p).take r) + x) := by
 have hle := off_le hr
 have hl := lin_at hr
 induction h with
 | zero => exact bd_line hr
 | @next y hy hlt ih =>
  have h1 := gsz_line hr hlt
  have h2 := ih.next (by rw [hl] at hlt; omega)
  rw [h1, Nat.add_assoc] at h2
  exact h2
theorem bd_ind (l : List Int) : ∀ x, x ≤ ind l → Bd l x := by
 intro x
 induction x with
 | zero => intro _; exact Bd.zero
 | succ x ih =>
  intro h
  have hil := ind_le l
  have h1 := ih (by omega)
  have hx : x < l.length := by omega
  have hb := ind_blank l l[x] (by
   rw [List.mem_take_iff_getElem]
   exact ⟨x, by omega, rfl⟩)
  have hb := of_decide_eq_true hb
  have h2 := h1.next hx
  rw [List.drop_eq_getElem_cons hx, gsz_low _ (by omega)] at h2
  exact h2
theorem bd_cls {p : List Int} {j : Nat} (h : j < p.length) (h0 : 0 < j) (hc : cls (p.getD j 0) ≠ cls (p.getD (j - 1) 0)) : Bd p j := by
 obtain ⟨b, h1, h2, h3, h4⟩ := (Bd.end_ p).cover j h
 by_cases e : b = j
 ·rw [← e]; exact h1
 ·exfalso
  have c2 : ∀ c : Int, 128 ≤ c → cls c = 2 := by
   intro c hc
   unfold cls
   rw [if_neg (by omega), if_neg (by omega), if_pos (by omega)]
  obtain ⟨g, g2⟩ := cont_in (p := p) (b := b) (i := j) (by omega) h3
  have e1 : p.getD j 0 = p[j] := by simp [List.getD_eq_getElem?_getD, h]
  have e2 : p.getD (j - 1) 0 = p[j - 1] := by simp [List.getD_eq_getElem?_getD, show j - 1 < p.length by omega]
  rw [e1, e2, c2 _ (by unfold cont at g2; omega)] at hc
  by_cases e3 : b = j - 1
  ·have hb : b < p.length := by omega
   have : 194 ≤ p[b] := by
    by_cases g3 : p[b] < 194
    ·have := gsz_low (p.drop (b + 1)) g3
     rw [← List.drop_eq_getElem_cons hb] at this
     omega
    ·omega
   have e4 : p[j - 1] = p[b] := by congr 1; omega
   rw [e4, c2 _ (by omega)] at hc
   exact hc rfl
  ·obtain ⟨g3, g4⟩ := cont_in (p := p) (b := b) (i := j - 1) (by omega) (by omega)
   rw [c2 _ (by unfold cont at g4; omega)] at hc
   exact hc rfl
theorem bd_run {p : List Int} {x : NN} (hx : x ∈ rn 0 p) : Bd p x.1 ∧ Bd p (x.1 + x.2) := by
 have hm := rn_mem p x hx
 obtain ⟨y, hy, g1, g2, g3, g4⟩ := rn_ex p x.1 (by omega)
 have e := rn_same p x y x.1 hx hy (by omega) (by omega) g1 g2
 subst e
 constructor
 ·rcases g4 with g4 | g4
  ·rw [g4]; exact Bd.zero
  ·by_cases h0 : x.1 = 0
   ·rw [h0]; exact Bd.zero
   ·exact bd_cls (by omega) (by omega) g4
 ·by_cases h : x.1 + x.2 < p.length
  ·exact bd_cls h (by omega) (g3 h)
  ·rw [show x.1 + x.2 = p.length by omega]; exact Bd.end_ p
theorem bd_wrds {p : List Int} {x : NN} (hx : x ∈ wrds p) : Bd p x.1 ∧ Bd p (x.1 + x.2) := bd_run (List.mem_filter.1 hx).1
end Go.Proofs.YtloafpnniooliaaDoor.Gen
namespace Go.Proofs.YtloafpnniooliaaDoor.Gen
open Go Go.RowKit Go.Proofs.YtloafpnniooliaaDoorW.PrintWords Go.Proofs.YtloafpnniooliaaDoorW.PrintMore
set_option linter.unusedVariables false
set_option linter.unusedSimpArgs false
theorem bytesOf_str {l : List Int} (h : Bytes l) : bytesOf (strOfNums l) = l := by
 rw [bytesOf, strOfNums_data, List.map_map]
 conv => rhs; rw [← List.map_id l]
 refine List.map_congr_left fun x hx => ?_
 have := h x hx
 simp only [Function.comp, id, UInt8.toNat_ofNat']
 omega
theorem bt_get (s : ByteArray) (i : Nat) (h : i < (bytesOf s).length) : bt s (i : Int) = (bytesOf s)[i] := by
 have hs : i < s.size := by rwa [bytesOf_length] at h
 unfold bt
 simp only [Int.toNat_natCast]
 rw [dif_pos hs]
 simp [bytesOf]
 rfl
end Go.Proofs.YtloafpnniooliaaDoor.Gen
