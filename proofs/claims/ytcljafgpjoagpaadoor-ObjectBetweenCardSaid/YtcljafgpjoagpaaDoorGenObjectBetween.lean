/- Plain lemmas of this claim: no program in sight. -/
import Derived.Lib.DecodeNEq
import Derived.Test.YtcljafgpjoagpaaDoorWMore
import Derived.Test.YtcljafgpjoagpaaDoorWWords
namespace Go.Proofs.YtcljafgpjoagpaaDoor.Gen
open Go Go.RowKit Go.Proofs.YtcljafgpjoagpaaDoorW.PrintWords Go.Proofs.YtcljafgpjoagpaaDoorW.PrintMore
theorem wid {x : Int} (h0 : -9223372036854775808 ≤ x) (h1 : x ≤ 9223372036854775807) : wrap64 x = x := by
 unfold wrap64; omega
theorem wnat {n : Nat} (h : n ≤ 9223372036854775806) : wrap64 ((n : Int) + 1) = ((n + 1 : Nat) : Int) := by
 unfold wrap64; omega
theorem wadd {a b : Nat} (h : a + b ≤ 9223372036854775806) : wrap64 ((a : Int) + (b : Int)) = ((a + b : Nat) : Int) := by
 unfold wrap64; omega
def Bytes (l : List Int) : Prop := ∀ x ∈ l, 0 ≤ x ∧ x ≤ 255
theorem u8_of {x : Int} (h : (Lit.int .u8 x).wf = true) : 0 ≤ x ∧ x ≤ 255 := by
 simp [Lit.wf, IntKind.min, IntKind.max, IntKind.bits, IntKind.signed] at h
 omega
theorem bytes_of {l : List Int} (h : ∀ x ∈ l, (Lit.int .u8 x).wf = true) : Bytes l := fun x hx => u8_of (h x hx)
theorem rd_nat (p : List Int) (i : Nat) (h : i < p.length) : rd p (i : Int) = p[i] := by
 simp [rd, h]
theorem ex_succ {k n : Nat} (h : n < k) : ∃ m, k = m + 1 := ⟨k - 1, by omega⟩
theorem drop_at {α : Type} (p : List α) (i : Nat) (h : i < p.length) : p.drop i = p[i] :: p.drop (i + 1) :=
 List.drop_eq_getElem_cons h
def clip (p : List Int) (a : Int) : Nat := min a.toNat p.length
theorem mn_clip (p : List Int) (a : Int) : mn (mx a 0) (p.length : Int) = (clip p a : Int) := by unfold mn mx clip; (repeat' split) <;> omega
theorem clip_le (p : List Int) (a : Int) : clip p a ≤ p.length := by unfold clip; omega
def zs (l : List Nat) : List Int := l.map fun (n : Nat) => (n : Int)
theorem zs_len (l : List Nat) : (zs l).length = l.length := by simp [zs]
theorem rd_zs (l : List Nat) (i : Nat) (h : i < l.length) : rd (zs l) (i : Int) = (l[i] : Int) := by simp [zs, rd, h]
end Go.Proofs.YtcljafgpjoagpaaDoor.Gen
namespace Go.Proofs.YtcljafgpjoagpaaDoor.Gen
set_option linter.unusedVariables false
set_option linter.unusedSimpArgs false
open Go Go.RowKit
def cont (c : Int) : Prop := 128 ≤ c ∧ c ≤ 191
instance (c : Int) : Decidable (cont c) := inferInstanceAs (Decidable (128 ≤ c ∧ c ≤ 191))
def need (b : Int) : Nat := if 194 ≤ b ∧ b ≤ 223 then 2 else if 224 ≤ b ∧ b ≤ 239 then 3 else if 240 ≤ b ∧ b ≤ 244 then 4 else 1
def lo2 (b : Int) : Int := if b = 224 then 160 else if b = 240 then 144 else 128
def hi2 (b : Int) : Int := if b = 237 then 159 else if b = 244 then 143 else 191
def gsz : List Int → Nat
 | [] => 0
 | [_] => 1
 | [b, c] => if need b = 2 ∧ lo2 b ≤ c ∧ c ≤ hi2 b then 2 else 1
 | [b, c, d] => if need b = 2 ∧ lo2 b ≤ c ∧ c ≤ hi2 b then 2 else if need b = 3 ∧ lo2 b ≤ c ∧ c ≤ hi2 b ∧ cont d then 3 else 1
 | b :: c :: d :: e :: _ => if need b = 2 ∧ lo2 b ≤ c ∧ c ≤ hi2 b then 2 else if need b = 3 ∧ lo2 b ≤ c ∧ c ≤ hi2 b ∧ cont d then 3 else if need b = 4 ∧ lo2 b ≤ c ∧ c ≤ hi2 b ∧ cont d ∧ cont e then 4 else 1
theorem lo2_ge (b : Int) : 128 ≤ lo2 b := by unfold lo2; (repeat' split) <;> omega
theorem hi2_le (b : Int) : hi2 b ≤ 191 := by unfold hi2; (repeat' split) <;> omega
theorem need_cont {b : Int} (h : cont b) : need b = 1 := by unfold cont at h; unfold need; (repeat' split) <;> omega
theorem gsz_le (q : List Int) : gsz q ≤ q.length ∧ gsz q ≤ 4 := by
 match q with
 | [] => simp [gsz]
 | [_] => simp [gsz]
 | [b, c] => simp only [gsz, List.length_cons, List.length_nil]; split <;> omega
 | [b, c, d] => simp only [gsz, List.length_cons, List.length_nil]; (repeat' split) <;> omega
 | b :: c :: d :: e :: t => simp only [gsz, List.length_cons]; (repeat' split) <;> omega
theorem gsz_pos {q : List Int} (h : q ≠ []) : 1 ≤ gsz q := by
 match q with
 | [] => exact absurd rfl h
 | [_] => simp [gsz]
 | [b, c] => simp only [gsz]; split <;> omega
 | [b, c, d] => simp only [gsz]; (repeat' split) <;> omega
 | b :: c :: d :: e :: t => simp only [gsz]; (repeat' split) <;> omega
theorem gsz_of_cont {b : Int} {t : List Int} (h : cont b) : gsz (b :: t) = 1 := by
 have hn := need_cont h
 match t with
 | [] => rfl
 | [c] => simp [gsz, hn]
 | [c, d] => simp [gsz, hn]
 | c :: d :: e :: t => simp [gsz, hn]
theorem gsz_cont (q : List Int) (i : Nat) (h1 : 1 ≤ i) (h2 : i < gsz q) : ∃ h : i < q.length, cont q[i] := by
 have hl := (gsz_le q).1
 refine ⟨by omega, ?_⟩
 match q with
 | [] => simp [gsz] at h2
 | [_] => simp only [gsz] at h2; omega
 | [b, c] =>
  have := lo2_ge b; have := hi2_le b
  simp only [gsz] at h2; split at h2
  ·have : i = 1 := by omega
   subst this; unfold cont; simp; omega
  ·omega
 | [b, c, d] =>
  have := lo2_ge b; have := hi2_le b
  simp only [gsz] at h2
  repeat' split at h2
  ·have : i = 1 := by omega
   subst this; unfold cont; simp; omega
  ·rename_i h3
   have : i = 1 ∨ i = 2 := by omega
   rcases this with rfl | rfl
   ·unfold cont; simp; omega
   ·exact h3.2.2.2
  ·omega
 | b :: c :: d :: e :: t =>
  have := lo2_ge b; have := hi2_le b
  simp only [gsz] at h2
  repeat' split at h2
  ·have : i = 1 := by omega
   subst this; unfold cont; simp; omega
  ·rename_i h3
   have : i = 1 ∨ i = 2 := by omega
   rcases this with rfl | rfl
   ·unfold cont; simp; omega
   ·exact h3.2.2.2
  ·rename_i h3
   have : i = 1 ∨ i = 2 ∨ i = 3 := by omega
   rcases this with rfl | rfl | rfl
   ·unfold cont; simp; omega
   ·exact h3.2.2.2.1
   ·exact h3.2.2.2.2
  ·omega
theorem gsz_append (q r : List Int) (h : 2 ≤ gsz q) : gsz (q ++ r) = gsz q := by
 match q with
 | [] => simp [gsz] at h
 | [_] => simp only [gsz] at h; omega
 | [b, c] =>
  simp only [gsz] at h ⊢; split at h
  ·rename_i h3
   rw [if_pos h3]
   match r with
   | [] => simp [h3, gsz]
   | [x] => simp [h3, gsz]
   | x :: y :: r => simp [h3, gsz]
  ·omega
 | [b, c, d] =>
  simp only [gsz] at h ⊢
  match r with
  | [] => simp [gsz]
  | x :: r =>
   simp only [List.cons_append, List.nil_append, gsz]
   repeat' split
   all_goals first | rfl | (exfalso; repeat' split at h <;> omega) | omega
   all_goals simp_all
 | b :: c :: d :: e :: t => simp only [List.cons_append, gsz]
theorem gsz_take (q : List Int) (m : Nat) (h : gsz q ≤ m) : gsz (q.take m) = gsz q := by
 by_cases h0 : q = []
 ·subst h0; simp
 ·have hp := gsz_pos h0
  have hl := gsz_le q
  have hne : q.take m ≠ [] := by
   intro e
   rcases List.take_eq_nil_iff.1 e with e | e
   ·omega
   ·exact h0 e
  have hp' := gsz_pos hne
  by_cases h2 : 2 ≤ gsz (q.take m)
  ·have := gsz_append _ (q.drop m) h2
   rw [List.take_append_drop] at this
   omega
  ·by_cases h3 : 2 ≤ gsz q
   ·exfalso
    match q, m with
    | [], _ => exact h0 rfl
    | _, 0 => omega
    | _, 1 => omega
    | [_], _ => simp only [gsz] at h3; omega
    | [b, c], m + 2 => simp only [List.take_succ_cons, List.take_nil] at h2; omega
    | [b, c, d], 2 =>
     simp only [List.take_succ_cons, List.take_zero, gsz] at h2 h3 h
     repeat' split at h3
     all_goals first | omega | simp_all
    | [b, c, d], m + 3 => simp only [List.take_succ_cons, List.take_nil] at h2; omega
    | b :: c :: d :: e :: t, 2 =>
     simp only [List.take_succ_cons, List.take_zero, gsz] at h2 h3 h
     repeat' split at h3
     all_goals first | omega | simp_all
    | b :: c :: d :: e :: t, 3 =>
     simp only [List.take_succ_cons, List.take_zero, gsz] at h2 h3 h
     repeat' split at h3
     all_goals first | omega | simp_all
    | b :: c :: d :: e :: t, m + 4 => simp only [List.take_succ_cons, gsz] at h2 h3; omega
   ·omega
inductive Bd (p : List Int) : Nat → Prop
 | zero : Bd p 0
 | next {x : Nat} : Bd p x → x < p.length → Bd p (x + gsz (p.drop x))
theorem gd_le (p : List Int) (x : Nat) (h : x ≤ p.length) : x + gsz (p.drop x) ≤ p.length := by
 have := (gsz_le (p.drop x)).1
 simp only [List.length_drop] at this; omega
theorem gd_pos (p : List Int) (x : Nat) (h : x < p.length) : 1 ≤ gsz (p.drop x) := gsz_pos (by simp; omega)
theorem Bd.le {p : List Int} {x : Nat} (h : Bd p x) : x ≤ p.length := by
 induction h with
 | zero => omega
 | next _ hx _ => exact gd_le _ _ (by omega)
theorem Bd.cover {p : List Int} {x : Nat} (h : Bd p x) : ∀ i, i < x → ∃ b, Bd p b ∧ b ≤ i ∧ i < b + gsz (p.drop b) ∧ b + gsz (p.drop b) ≤ x := by
 induction h with
 | zero => intro i hi; omega
 | @next y hy hl ih =>
  intro i hi
  by_cases h : i < y
  ·obtain ⟨b, h1, h2, h3, h4⟩ := ih i h
   exact ⟨b, h1, h2, h3, by omega⟩
  ·exact ⟨y, hy, by omega, hi, Nat.le_refl _⟩
theorem cont_in {p : List Int} {b i : Nat} (h1 : b < i) (h2 : i < b + gsz (p.drop b)) : ∃ h : i < p.length, cont p[i] := by
 obtain ⟨h, hc⟩ := gsz_cont (p.drop b) (i - b) (by omega) (by omega)
 simp only [List.length_drop] at h
 refine ⟨by omega, ?_⟩
 rw [List.getElem_drop] at hc
 simp only [show b + (i - b) = i by omega] at hc
 exact hc
theorem gd_cont {p : List Int} {i : Nat} (h : i < p.length) (hc : cont p[i]) : gsz (p.drop i) = 1 := by
 rw [drop_at p i h]; exact gsz_of_cont hc
theorem Bd.clear {p : List Int} {x : Nat} (h : Bd p x) (i : Nat) (hi : i < x) : i + gsz (p.drop i) ≤ x := by
 obtain ⟨b, h1, h2, h3, h4⟩ := h.cover i hi
 rcases Nat.lt_or_ge b i with hb | hb
 ·obtain ⟨hl, hc⟩ := cont_in hb h3
  rw [gd_cont hl hc]; omega
 ·have : b = i := by omega
  subst this; exact h4
theorem Bd.take {p : List Int} {x : Nat} (h : Bd p x) {b : Nat} (hb : Bd p b) (hbx : b ≤ x) : Bd (p.take x) b := by
 induction hb with
 | zero => exact .zero
 | @next y hy hl ih =>
  have hxl := h.le
  have hlt : y < x := by have := gd_pos p y hl; omega
  have hc := h.clear y hlt
  have e : gsz ((p.take x).drop y) = gsz (p.drop y) := by
   rw [List.drop_take]; exact gsz_take _ _ (by omega)
  have := Bd.next (p := p.take x) (ih (by omega)) (by simp only [List.length_take]; omega)
  rw [e] at this
  exact this
end Go.Proofs.YtcljafgpjoagpaaDoor.Gen
namespace Go.Proofs.YtcljafgpjoagpaaDoor.Gen
open Go Go.RowKit
def cls (c : Int) : Int :=
 if c = 32 ∨ c = 9 then 0 else if c = 10 then 1
 else if 128 ≤ c ∨ c = 95 ∨ (48 ≤ c ∧ c ≤ 57) ∨ (65 ≤ c ∧ c ≤ 90) ∨ (97 ≤ c ∧ c ≤ 122) then 2 else 3
def ws (c : Int) : Prop := c = 32 ∨ c = 9 ∨ c = 10
instance (c : Int) : Decidable (ws c) := inferInstanceAs (Decidable (c = 32 ∨ c = 9 ∨ c = 10))
abbrev NN := Nat × Nat
end Go.Proofs.YtcljafgpjoagpaaDoor.Gen
namespace Go.Proofs.YtcljafgpjoagpaaDoor.Gen
open Go Go.RowKit
set_option linter.unusedVariables false
set_option linter.unusedSimpArgs false
def rn : Nat → List Int → List NN
 | _, [] => []
 | o, c :: t => match t, rn (o + 1) t with
  | d :: _, (a, n) :: r => if cls c = cls d then (o, n + 1) :: r else (o, 1) :: (a, n) :: r
  | _, _ => [(o, 1)]
theorem rn_one (o : Nat) (c : Int) : rn o [c] = [(o, 1)] := rfl
theorem rn_ne (o : Nat) (c : Int) (t : List Int) : rn o (c :: t) ≠ [] := by
 simp only [rn]
 split
 ·split <;> simp
 ·simp
theorem rn_cons (o : Nat) (c d : Int) (t : List Int) : ∃ a n r, rn (o + 1) (d :: t) = (a, n) :: r ∧ rn o (c :: d :: t) = if cls c = cls d then (o, n + 1) :: r else (o, 1) :: (a, n) :: r := by
 have h := rn_ne (o + 1) d t
 generalize he : rn (o + 1) (d :: t) = L at h
 cases L with
 | nil => exact absurd rfl h
 | cons x r =>
  obtain ⟨a, n⟩ := x
  refine ⟨a, n, r, rfl, ?_⟩
  rw [show rn o (c :: d :: t) = (match d :: t, rn (o + 1) (d :: t) with | d :: _, (a, n) :: r => if cls c = cls d then (o, n + 1) :: r else (o, 1) :: (a, n) :: r | _, _ => [(o, 1)]) from rfl, he]
def Cov (p : List Int) : Nat → List NN → Prop
 | o, [] => o = p.length
 | o, (a, n) :: r => a = o ∧ 1 ≤ n ∧ o + n ≤ p.length ∧ (∀ i, o ≤ i → (h : i < o + n) → ∀ (h1 : i < p.length) (h2 : o < p.length), cls p[i] = cls p[o]) ∧ (∀ (h1 : o + n < p.length) (h2 : o + n - 1 < p.length), cls p[o + n] ≠ cls p[o + n - 1]) ∧ Cov p (o + n) r
theorem cov_rn (p : List Int) (m : Nat) : ∀ o, o + m = p.length → Cov p o (rn o (p.drop o)) := by
 induction m with
 | zero => intro o h; rw [List.drop_eq_nil_of_le (by omega)]; simp only [rn, Cov]; omega
 | succ m ih =>
  intro o h
  have hlt : o < p.length := by omega
  have hnext := ih (o + 1) (by omega)
  rw [drop_at p o hlt]
  by_cases h1 : o + 1 < p.length
  ·rw [drop_at p (o + 1) h1] at hnext ⊢
   obtain ⟨a, n, r, e1, e2⟩ := rn_cons o p[o] p[o + 1] (p.drop (o + 1 + 1))
   rw [e1] at hnext
   rw [e2]
   obtain ⟨ha, hn, hle, hsame, hdiff, hr⟩ := hnext
   by_cases hc : cls p[o] = cls p[o + 1]
   ·rw [if_pos hc]
    refine ⟨rfl, by omega, by omega, ?_, ?_, ?_⟩
    ·intro i h2 h3 h4 h5
     rcases Nat.lt_or_ge o i with h6 | h6
     ·rw [hsame i (by omega) (by omega) h4 h1, ← hc]
     ·have : i = o := by omega
      subst this; rfl
    ·intro h2 h3
     have := hdiff (by omega) (by omega)
     simp only [show o + 1 + n = o + (n + 1) by omega] at this
     exact this
    ·rw [show o + (n + 1) = o + 1 + n by omega]; exact hr
   ·rw [if_neg hc]
    refine ⟨rfl, by omega, by omega, ?_, ?_, ha, hn, hle, hsame, hdiff, hr⟩
    ·intro i h2 h3 h4 h5
     have : i = o := by omega
     subst this; rfl
    ·intro h2 h3
     simp only [show o + 1 - 1 = o by omega]
     exact fun e => hc e.symm
  ·rw [List.drop_eq_nil_of_le (by omega), rn_one]
   refine ⟨rfl, by omega, by omega, ?_, ?_, ?_⟩
   ·intro i h2 h3 h4 h5
    have : i = o := by omega
    subst this; rfl
   ·intro h2 h3; omega
   ·simp only [Cov]; omega
theorem rn_snoc (x : List Int) (c : Int) : ∀ o (h : x ≠ []), ∃ l a n, rn o x = l ++ [(a, n)] ∧ rn o (x ++ [c]) = if cls (x.getLast h) = cls c then l ++ [(a, n + 1)] else l ++ [(a, n)] ++ [(o + x.length, 1)] := by
 induction x with
 | nil => intro o h; exact absurd rfl h
 | cons d t ih =>
  intro o h
  cases t with
  | nil =>
   refine ⟨[], o, 1, rfl, ?_⟩
   obtain ⟨a, n, r, e1, e2⟩ := rn_cons o d c []
   rw [rn_one, List.cons.injEq, Prod.mk.injEq] at e1
   obtain ⟨⟨rfl, rfl⟩, rfl⟩ := e1
   rw [List.cons_append, List.nil_append, e2]
   simp
  | cons e t =>
   obtain ⟨l, a, n, h1, h2⟩ := ih (o + 1) (by simp)
   obtain ⟨a1, n1, r1, e1, e2⟩ := rn_cons o d e t
   obtain ⟨a2, n2, r2, f1, f2⟩ := rn_cons o d e (t ++ [c])
   rw [List.cons_append] at h2
   rw [h2] at f1
   rw [h1] at e1
   rw [List.cons_append, List.cons_append, f2, e2]
   have hl : (d :: e :: t).getLast h = (e :: t).getLast (by simp) := List.getLast_cons (by simp)
   rw [hl]
   cases l with
   | nil =>
    simp only [List.nil_append, List.cons.injEq, Prod.mk.injEq] at e1
    obtain ⟨⟨rfl, rfl⟩, rfl⟩ := e1
    by_cases hc : cls ((e :: t).getLast (by simp)) = cls c
    ·simp only [hc, if_true, List.nil_append, List.cons.injEq, Prod.mk.injEq] at f1
     obtain ⟨⟨rfl, rfl⟩, rfl⟩ := f1
     by_cases hd : cls d = cls e
     ·exact ⟨[], o, n + 1, by simp [hd], by simp [hc, hd]⟩
     ·exact ⟨[(o, 1)], a, n, by simp [hd], by simp [hc, hd]⟩
    ·simp only [hc, if_false, List.nil_append, List.cons_append, List.cons.injEq, Prod.mk.injEq] at f1
     obtain ⟨⟨rfl, rfl⟩, rfl⟩ := f1
     by_cases hd : cls d = cls e
     ·exact ⟨[], o, n + 1, by simp [hd], by simp [hc, hd]; omega⟩
     ·exact ⟨[(o, 1)], a, n, by simp [hd], by simp [hc, hd]; omega⟩
   | cons y l =>
    obtain ⟨ya, yn⟩ := y
    simp only [List.cons_append, List.cons.injEq, Prod.mk.injEq] at e1
    obtain ⟨⟨rfl, rfl⟩, rfl⟩ := e1
    by_cases hc : cls ((e :: t).getLast (by simp)) = cls c
    ·simp only [hc, if_true, List.cons_append, List.cons.injEq, Prod.mk.injEq] at f1
     obtain ⟨⟨rfl, rfl⟩, rfl⟩ := f1
     by_cases hd : cls d = cls e
     ·exact ⟨(o, yn + 1) :: l, a, n, by simp [hd], by simp [hc, hd]⟩
     ·exact ⟨(o, 1) :: (ya, yn) :: l, a, n, by simp [hd], by simp [hc, hd]⟩
    ·simp only [hc, if_false, List.cons_append, List.cons.injEq, Prod.mk.injEq] at f1
     obtain ⟨⟨rfl, rfl⟩, rfl⟩ := f1
     by_cases hd : cls d = cls e
     ·exact ⟨(o, yn + 1) :: l, a, n, by simp [hd], by simp [hc, hd]; omega⟩
     ·exact ⟨(o, 1) :: (ya, yn) :: l, a, n, by simp [hd], by simp [hc, hd]; omega⟩
theorem cov_mem (p : List Int) (L : List NN) : ∀ o, Cov p o L → ∀ x ∈ L, o ≤ x.1 ∧ 1 ≤ x.2 ∧ x.1 + x.2 ≤ p.length := by
 induction L with
 | nil => intro o _ x hx; simp at hx
 | cons y r ih =>
  obtain ⟨a, n⟩ := y
  intro o h x hx
  obtain ⟨ha, hn, hle, _, _, hr⟩ := h
  rcases List.mem_cons.1 hx with rfl | hx
  ·exact ⟨by simp only; omega, hn, by simp only; omega⟩
  ·have := ih _ hr x hx; exact ⟨by omega, this.2⟩
theorem rn_mem (p : List Int) : ∀ x ∈ rn 0 p, 1 ≤ x.2 ∧ x.1 + x.2 ≤ p.length := by
 have := cov_rn p p.length 0 (by omega)
 simp only [List.drop_zero] at this
 exact fun x hx => (cov_mem p _ 0 this x hx).2
theorem rn_length (q : List Int) : ∀ o, (rn o q).length ≤ q.length := by
 induction q with
 | nil => intro o; simp [rn]
 | cons c t ih =>
  intro o
  cases t with
  | nil => simp [rn]
  | cons d t =>
   obtain ⟨a, n, r, e1, e2⟩ := rn_cons o c d t
   have := ih (o + 1)
   rw [e1] at this
   rw [e2]
   simp only [List.length_cons] at *
   split <;> simp only [List.length_cons] <;> omega
theorem take_last (p : List Int) (i : Nat) (h0 : 0 < i) (h : i ≤ p.length) (hne : p.take i ≠ []) : (p.take i).getLast hne = p[i - 1]'(by omega) := by
 rw [List.getLast_eq_getElem, List.getElem_take]
 simp only [List.length_take, show min i p.length - 1 = i - 1 by omega]
end Go.Proofs.YtcljafgpjoagpaaDoor.Gen
namespace Go.Proofs.YtcljafgpjoagpaaDoor.Gen
open Go Go.RowKit
set_option linter.unusedVariables false
set_option linter.unusedSimpArgs false
def lns : List Int → List (List Int)
 | [] => [[]]
 | c :: t => if c = 10 then [] :: lns t else match lns t with
  | l :: r => (c :: l) :: r
  | [] => [[c]]
theorem lns_ne (p : List Int) : lns p ≠ [] := by
 cases p with
 | nil => simp [lns]
 | cons c t =>
  simp only [lns]
  split
  ·simp
  ·split <;> simp
theorem lns_ex (p : List Int) : ∃ l r, lns p = l :: r := by
 have := lns_ne p
 cases h : lns p with
 | nil => exact absurd h this
 | cons l r => exact ⟨l, r, rfl⟩
theorem lns_nl (t : List Int) : lns (10 :: t) = [] :: lns t := by simp [lns]
theorem lns_cons {c : Int} (h : c ≠ 10) {t : List Int} {l : List Int} {r : List (List Int)} (e : lns t = l :: r) : lns (c :: t) = (c :: l) :: r := by simp [lns, h, e]
def jn : List (List Int) → List Int
 | [] => []
 | [l] => l
 | l :: m :: r => l ++ 10 :: jn (m :: r)
theorem jn_cons (l : List Int) {r : List (List Int)} (h : r ≠ []) : jn (l :: r) = l ++ 10 :: jn r := by
 cases r with
 | nil => exact absurd rfl h
 | cons m r => rfl
theorem jn_cons_cons (c : Int) (l : List Int) (r : List (List Int)) : jn ((c :: l) :: r) = c :: jn (l :: r) := by
 cases r <;> rfl
theorem jn_lns (p : List Int) : jn (lns p) = p := by
 induction p with
 | nil => rfl
 | cons c t ih =>
  by_cases h : c = 10
  ·subst h; rw [lns_nl, jn_cons _ (lns_ne t), ih]; rfl
  ·obtain ⟨l, r, e⟩ := lns_ex t
   rw [lns_cons h e, jn_cons_cons, ← e, ih]
theorem lns_free (p : List Int) : ∀ l ∈ lns p, ∀ c ∈ l, c ≠ 10 := by
 induction p with
 | nil => intro l hl; simp [lns] at hl; subst hl; simp
 | cons c t ih =>
  by_cases h : c = 10
  ·subst h; rw [lns_nl]
   intro l hl
   rcases List.mem_cons.1 hl with rfl | hl
   ·simp
   ·exact ih l hl
  ·obtain ⟨l, r, e⟩ := lns_ex t
   rw [lns_cons h e]
   rw [e] at ih
   intro m hm
   rcases List.mem_cons.1 hm with rfl | hm
   ·intro x hx
    rcases List.mem_cons.1 hx with rfl | hx
    ·exact h
    ·exact ih l (by simp) x hx
   ·exact ih m (by simp [hm])
theorem lns_one {a : List Int} (h : ∀ c ∈ a, c ≠ 10) : lns a = [a] := by
 induction a with
 | nil => rfl
 | cons c t ih => exact lns_cons (h c (by simp)) (ih fun x hx => h x (by simp [hx]))
theorem lns_append (a b : List Int) : ∀ {A x y B}, lns a = A ++ [x] → lns b = y :: B → lns (a ++ b) = A ++ (x ++ y) :: B := by
 induction a with
 | nil =>
  intro A x y B h1 h2
  cases A with
  | nil => simp [lns] at h1; subst h1; simpa using h2
  | cons m A => simp [lns] at h1
 | cons c t ih =>
  intro A x y B h1 h2
  by_cases h : c = 10
  ·subst h
   rw [lns_nl] at h1
   rw [List.cons_append, lns_nl]
   cases A with
   | nil =>
    simp only [List.nil_append, List.cons.injEq] at h1
    exact absurd h1.2 (lns_ne t)
   | cons m A =>
    simp only [List.cons_append, List.cons.injEq] at h1
    obtain ⟨rfl, h1⟩ := h1
    rw [ih h1 h2]; rfl
  ·obtain ⟨l, r, e⟩ := lns_ex t
   rw [lns_cons h e] at h1
   cases A with
   | nil =>
    simp only [List.nil_append, List.cons.injEq] at h1
    obtain ⟨rfl, rfl⟩ := h1
    rw [List.cons_append, lns_cons h (ih (A := []) (x := l) (by simpa using e) h2)]; rfl
   | cons m A =>
    simp only [List.cons_append, List.cons.injEq] at h1
    obtain ⟨rfl, rfl⟩ := h1
    rw [List.cons_append, lns_cons h (ih (A := l :: A) (x := x) (by simpa using e) h2)]; rfl
theorem lns_last (a : List Int) : ∃ A x, lns a = A ++ [x] := by
 rcases List.eq_nil_or_concat (lns a) with h | ⟨A, x, h⟩
 ·exact absurd h (lns_ne a)
 ·exact ⟨A, x, by simpa using h⟩
theorem lns_mid (a b : List Int) : lns (a ++ 10 :: b) = lns a ++ lns b := by
 obtain ⟨A, x, h⟩ := lns_last a
 rw [lns_append a (10 :: b) h (lns_nl b), h]; simp
theorem lns_jn {L : List (List Int)} (h0 : L ≠ []) (h : ∀ l ∈ L, ∀ c ∈ l, c ≠ 10) : lns (jn L) = L := by
 induction L with
 | nil => exact absurd rfl h0
 | cons l r ih =>
  cases r with
  | nil => exact lns_one (h l (by simp))
  | cons m r =>
   rw [jn_cons l (by simp), lns_mid, lns_one (h l (by simp)), ih (by simp) fun k hk => h k (by simp [hk])]; rfl
def nls (p : List Int) : Nat := (p.filter fun c => decide (c = 10)).length
theorem nls_append (a b : List Int) : nls (a ++ b) = nls a + nls b := by simp [nls]
theorem nls_le (p : List Int) : nls p ≤ p.length := List.length_filter_le _ _
theorem nls_cons (c : Int) (t : List Int) : nls (c :: t) = (if c = 10 then 1 else 0) + nls t := by
 unfold nls
 by_cases h : c = 10
 ·simp [h]; omega
 ·simp [h]
theorem lns_count (p : List Int) : (lns p).length = nls p + 1 := by
 induction p with
 | nil => rfl
 | cons c t ih =>
  rw [nls_cons]
  by_cases h : c = 10
  ·subst h; rw [lns_nl, List.length_cons, ih]; simp; omega
  ·obtain ⟨l, r, e⟩ := lns_ex t
   rw [lns_cons h e, if_neg h, Nat.zero_add, ← ih, e]; rfl
def spo : Nat → List (List Int) → List NN
 | _, [] => []
 | o, l :: r => (o, l.length) :: spo (o + l.length + 1) r
def spans (p : List Int) : List NN := spo 0 (lns p)
def off : List (List Int) → Nat
 | [] => 0
 | l :: r => l.length + 1 + off r
theorem spo_length (L : List (List Int)) : ∀ o, (spo o L).length = L.length := by
 induction L with
 | nil => intro o; rfl
 | cons l r ih => intro o; simp [spo, ih]
theorem spans_length (p : List Int) : (spans p).length = nls p + 1 := by rw [spans, spo_length, lns_count]
theorem off_append (A B : List (List Int)) : off (A ++ B) = off A + off B := by
 induction A with
 | nil => simp [off]
 | cons l r ih => simp only [List.cons_append, off, ih]; omega
theorem jn_length {L : List (List Int)} (h : L ≠ []) : (jn L).length + 1 = off L := by
 induction L with
 | nil => exact absurd rfl h
 | cons l r ih =>
  cases r with
  | nil => simp [jn, off]
  | cons m r =>
   rw [jn_cons l (by simp), List.length_append, List.length_cons]
   have := ih (by simp)
   simp only [off] at *
   omega
theorem off_lns (p : List Int) : off (lns p) = p.length + 1 := by
 have := jn_length (lns_ne p)
 rw [jn_lns] at this; omega
theorem spo_get {L : List (List Int)} {i : Nat} (h : i < L.length) (o : Nat) : (spo o L)[i]'(by rw [spo_length]; exact h) = (o + off (L.take i), L[i].length) := by
 induction L generalizing i o with
 | nil => simp at h
 | cons l r ih =>
  cases i with
  | zero => simp [spo, off]
  | succ i =>
   simp only [spo, List.getElem_cons_succ, List.take_succ_cons, off]
   rw [ih (by simpa using h)]
   congr 1; omega
theorem jn_drop {L : List (List Int)} {i : Nat} (h : i < L.length) : (jn L).drop (off (L.take i)) = jn (L.drop i) := by
 induction L generalizing i with
 | nil => simp at h
 | cons l r ih =>
  cases i with
  | zero => simp [off]
  | succ i =>
   have hr : r ≠ [] := by rintro rfl; simp at h
   rw [jn_cons l hr, List.take_succ_cons, off, List.drop_succ_cons, ← ih (by simpa using h)]
   rw [show l.length + 1 + off (r.take i) = l.length + (1 + off (r.take i)) by omega, ← List.drop_drop, List.drop_left, Nat.add_comm 1, List.drop_succ_cons]
theorem line_drop {p : List Int} {i : Nat} (h : i < (lns p).length) : p.drop (off ((lns p).take i)) = jn ((lns p).drop i) := by
 have := jn_drop h
 rwa [jn_lns] at this
theorem off_le {p : List Int} {i : Nat} (h : i < (lns p).length) : off ((lns p).take i) + (lns p)[i].length ≤ p.length := by
 have h1 := off_lns p
 have h2 := off_append ((lns p).take i) ((lns p).drop i)
 rw [List.take_append_drop, List.drop_eq_getElem_cons h] at h2
 simp only [off] at h2
 omega
def row (p : List Int) (a : Nat) : Nat := nls (p.take a)
theorem row_lt (p : List Int) (a : Nat) : row p a < (lns p).length := by
 have := nls_append (p.take a) (p.drop a)
 rw [List.take_append_drop] at this
 rw [lns_count]; unfold row; omega
def endsF : Nat → List Int → List Nat
 | _, [] => []
 | o, c :: t => if c = 10 then o :: endsF (o + 1) t else endsF (o + 1) t
theorem endsF_length (p : List Int) : ∀ o, (endsF o p).length = nls p := by
 induction p with
 | nil => intro o; rfl
 | cons c t ih =>
  intro o
  rw [nls_cons]
  simp only [endsF]
  split
  ·rw [List.length_cons, ih]; omega
  ·rw [ih]; omega
theorem endsF_bd (p : List Int) : ∀ o, ∀ x ∈ endsF o p, o ≤ x ∧ x < o + p.length := by
 induction p with
 | nil => intro o x hx; simp [endsF] at hx
 | cons c t ih =>
  intro o x hx
  simp only [endsF] at hx
  simp only [List.length_cons]
  split at hx
  ·rcases List.mem_cons.1 hx with rfl | hx
   ·omega
   ·have := ih _ x hx; omega
  ·have := ih _ x hx; omega
def spe : Nat → List Nat → Nat → List NN
 | a, [], len => [(a, len - a)]
 | a, e :: r, len => (a, e - a) :: spe (e + 1) r len
theorem spe_eq (p : List Int) : ∀ (o j : Nat) (l : List Int) (r : List (List Int)), lns p = l :: r → spe o (endsF (o + j) p) (o + j + p.length) = (o, j + l.length) :: spo (o + j + l.length + 1) r := by
 induction p with
 | nil =>
  intro o j l r h
  simp only [lns, List.cons.injEq] at h
  obtain ⟨rfl, rfl⟩ := h
  simp [endsF, spe, spo]
 | cons c t ih =>
  intro o j l r h
  by_cases hc : c = 10
  ·subst hc
   rw [lns_nl, List.cons.injEq] at h
   obtain ⟨rfl, rfl⟩ := h
   obtain ⟨l, r, e⟩ := lns_ex t
   have := ih (o + j + 1) 0 l r e
   simp only [endsF, if_true, spe, List.length_cons, List.length_nil, Nat.add_zero, Nat.zero_add] at *
   rw [show o + j + (t.length + 1) = o + j + 1 + t.length by omega, this, e, show o + j - o = j by omega]
   rfl
  ·obtain ⟨l', r', e⟩ := lns_ex t
   rw [lns_cons hc e, List.cons.injEq] at h
   obtain ⟨rfl, rfl⟩ := h
   have := ih o (j + 1) l' r' e
   simp only [endsF, if_neg hc, List.length_cons] at *
   rw [show o + j + (t.length + 1) = o + (j + 1) + t.length by omega, show o + j + 1 = o + (j + 1) by omega, this]
   congr 1
   ·rw [show j + (l'.length + 1) = j + 1 + l'.length by omega]
   ·rw [show o + (j + 1) + l'.length + 1 = o + j + (l'.length + 1) + 1 by omega]
theorem spans_eq (p : List Int) : spe 0 (endsF 0 p) p.length = spans p := by
 obtain ⟨l, r, e⟩ := lns_ex p
 have := spe_eq p 0 0 l r e
 simp only [Nat.zero_add, Nat.add_zero] at this
 rw [this, spans, e]; simp [spo]
theorem ends_ahead (p : List Int) : ∀ o a, ((endsF o p).filter fun e => decide (e < o + a)).length = nls (p.take a) := by
 induction p with
 | nil => intro o a; simp [endsF, nls]
 | cons c t ih =>
  intro o a
  cases a with
  | zero =>
   have h0 : ∀ x ∈ endsF o (c :: t), ¬ x < o + 0 := fun x hx => by have := endsF_bd _ o x hx; omega
   rw [List.filter_eq_nil_iff.2 (fun x hx => by simpa using h0 x hx)]
   simp [nls]
  | succ a =>
   have := ih (o + 1) a
   rw [show o + 1 + a = o + (a + 1) by omega] at this
   rw [List.take_succ_cons, nls_cons]
   simp only [endsF]
   split
   ·rw [List.filter_cons_of_pos (by simp), List.length_cons, this]; omega
   ·rw [this]; omega
def fb : List Int → Int → Int
 | [], _ => -1
 | b :: t, c => if b = c then 0 else if fb t c = -1 then -1 else fb t c + 1
theorem fb_line (p : List Int) : ∀ {l : List Int} {r : List (List Int)}, lns p = l :: r → fb p 10 = if r = [] then -1 else (l.length : Int) := by
 induction p with
 | nil =>
  intro l r h
  simp only [lns, List.cons.injEq] at h
  obtain ⟨rfl, rfl⟩ := h
  rfl
 | cons b t ih =>
  intro l r h
  by_cases hb : b = 10
  ·subst hb
   rw [lns_nl, List.cons.injEq] at h
   obtain ⟨rfl, rfl⟩ := h
   rw [if_neg (lns_ne t)]; simp [fb]
  ·obtain ⟨l', r', e⟩ := lns_ex t
   rw [lns_cons hb e, List.cons.injEq] at h
   obtain ⟨rfl, rfl⟩ := h
   simp only [fb, if_neg hb, ih e]
   by_cases hr : r' = []
   ·simp [hr]
   ·rw [if_neg hr, if_neg hr, if_neg (by omega), List.length_cons]; omega
def sp (p : List Int) (line : Int) : Option NN := if 0 ≤ line then (spans p)[line.toNat]? else none
theorem spans_at {p : List Int} {i : Nat} (h : i < (lns p).length) : (spans p)[i]? = some (off ((lns p).take i), (lns p)[i].length) := by
 have h2 : i < (spans p).length := by rw [spans, spo_length]; exact h
 rw [List.getElem?_eq_getElem h2]
 have := spo_get h 0
 rw [Nat.zero_add] at this
 exact congrArg some this
theorem sp_in {p : List Int} {line : Int} (h0 : 0 ≤ line) (h : line.toNat < (lns p).length) : sp p line = some (off ((lns p).take line.toNat), (lns p)[line.toNat].length) := by
 unfold sp; rw [if_pos h0, spans_at h]
theorem sp_out {p : List Int} {line : Int} (h : line < 0 ∨ (lns p).length ≤ line.toNat) : sp p line = none := by
 unfold sp
 split
 ·rw [List.getElem?_eq_none]; rw [spans, spo_length]; omega
 ·rfl
theorem off_take {L : List (List Int)} {i : Nat} (h : i < L.length) : off (L.take (i + 1)) = off (L.take i) + L[i].length + 1 := by
 rw [List.take_succ_eq_append_getElem h, off_append]; simp only [off]; omega
theorem off_last {p : List Int} {i : Nat} (h : i < (lns p).length) : (off ((lns p).take i) + (lns p)[i].length = p.length ↔ i + 1 = (lns p).length) ∧ off ((lns p).take i) + (lns p)[i].length ≤ p.length := by
 have h1 := off_lns p
 have h2 := off_append ((lns p).take (i + 1)) ((lns p).drop (i + 1))
 rw [List.take_append_drop, off_take h] at h2
 by_cases e : i + 1 = (lns p).length
 ·rw [List.drop_eq_nil_of_le (by omega)] at h2
  simp only [off] at h2
  omega
 ·rw [List.drop_eq_getElem_cons (by omega)] at h2
  simp only [off] at h2
  omega
theorem off_mono (L : List (List Int)) {i j : Nat} (h : i ≤ j) : off (L.take i) ≤ off (L.take j) := by
 have : L.take j = L.take i ++ (L.take j).drop i := by
  have h1 : (L.take j).take i = L.take i := by rw [List.take_take]; congr 1; omega
  conv => lhs; rw [← List.take_append_drop i (L.take j), h1]
 rw [this, off_append]; omega
def whl (p : List Int) (i j : Nat) : NN := (off ((lns p).take i), min (off ((lns p).take (j + 1))) p.length - off ((lns p).take i))
theorem whl_end {p : List Int} {i j : Nat} (hij : i ≤ j) (hj : j < (lns p).length) : off ((lns p).take i) + (whl p i j).2 = min (off ((lns p).take (j + 1))) p.length ∧ off ((lns p).take i) ≤ p.length := by
 have h1 := off_mono (lns p) (show i ≤ j + 1 by omega)
 have h2 := off_le (p := p) (i := i) (by omega)
 unfold whl
 simp only
 omega
def whole (p : List Int) (a b : Int) : Option NN := if 0 ≤ min a b ∧ (max a b).toNat < (lns p).length then some (whl p (min a b).toNat (max a b).toNat) else none
theorem whole_comm (p : List Int) (a b : Int) : whole p a b = whole p b a := by
 unfold whole; rw [show min a b = min b a by omega, show max a b = max b a by omega]
end Go.Proofs.YtcljafgpjoagpaaDoor.Gen
namespace Go.Proofs.YtcljafgpjoagpaaDoor.Gen
open Go Go.RowKit
set_option linter.unusedVariables false
set_option linter.unusedSimpArgs false
def stp (c b t : Nat) : Nat := if b = 9 then c + t - c % t else c + 1
def widF : Nat → List Int → Nat → Nat → Nat
 | 0, _, c, _ => c
 | n + 1, q, c, t => match q with
  | [] => c
  | b :: r => widF n ((b :: r).drop (gsz (b :: r))) (stp c b.toNat t) t
def wid_ (q : List Int) (c t : Nat) : Nat := widF q.length q c t
def fillF : Nat → Nat → Nat → Nat → Bool → List Int
 | 0, _, _, _, _ => []
 | n + 1, c, w, t, sp => if c < w then (if sp = false ∧ stp c 9 t ≤ w ∧ c + 1 < stp c 9 t then 9 :: fillF n (stp c 9 t) w t sp else 32 :: fillF n (c + 1) w t sp) else []
def fill (c w t : Nat) (sp : Bool) : List Int := fillF (w - c) c w t sp
end Go.Proofs.YtcljafgpjoagpaaDoor.Gen
namespace Go.Proofs.YtcljafgpjoagpaaDoor.Gen
open Go Go.RowKit
set_option linter.unusedVariables false
set_option linter.unusedSimpArgs false
def bl (c : Int) : Bool := decide (c = 32 ∨ c = 9)
def ind (l : List Int) : Nat := (l.takeWhile bl).length
def canon (s : List Int) (t : Nat) (ex : Bool) : Prop := ind s = s.length ∨ fill 0 (wid_ (s.take (ind s)) 0 t) t ex = s.take (ind s)
instance (s : List Int) (t : Nat) (ex : Bool) : Decidable (canon s t ex) := inferInstanceAs (Decidable (_ ∨ _))
end Go.Proofs.YtcljafgpjoagpaaDoor.Gen
namespace Go.Proofs.YtcljafgpjoagpaaDoor.Gen
open Go Go.RowKit
set_option linter.unusedVariables false
set_option linter.unusedSimpArgs false
theorem whole_nat {p : List Int} {i j : Nat} (hij : i ≤ j) (hj : j < (lns p).length) : whole p (i : Int) (j : Int) = some (whl p i j) := by
 have e1 : min (i : Int) (j : Int) = (i : Int) := by omega
 have e2 : max (i : Int) (j : Int) = (j : Int) := by omega
 unfold whole
 rw [e1, e2, if_pos ⟨by omega, by rw [Int.toNat_natCast]; exact hj⟩, Int.toNat_natCast, Int.toNat_natCast]
def inn (p : List Int) (a : Int) (l : List NN) : Option NN := l.find? fun x => decide ((x.1 : Int) ≤ a ∧ a < ((x.1 + x.2 : Nat) : Int) ∧ cls (p.getD x.1 0) ≠ 1)
theorem inn_cons (p : List Int) (a : Int) (x : NN) (l : List NN) : inn p a (x :: l) = if (x.1 : Int) ≤ a ∧ a < ((x.1 + x.2 : Nat) : Int) ∧ cls (p.getD x.1 0) ≠ 1 then some x else inn p a l := by
 unfold inn
 rw [List.find?_cons]
 split
 ·rename_i h; rw [if_pos (of_decide_eq_true h)]
 ·rename_i h; rw [if_neg (of_decide_eq_false h)]
end Go.Proofs.YtcljafgpjoagpaaDoor.Gen
namespace Go.Proofs.YtcljafgpjoagpaaDoor.Gen
open Go Go.RowKit Go.Proofs.YtcljafgpjoagpaaDoorW.PrintWords Go.Proofs.YtcljafgpjoagpaaDoorW.PrintMore
set_option linter.unusedVariables false
set_option linter.unusedSimpArgs false
end Go.Proofs.YtcljafgpjoagpaaDoor.Gen
