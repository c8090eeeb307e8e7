/- Plain lemmas of this claim: no program in sight. -/
import Derived.Lib.DecodeNEq
import Derived.Test.YtcljafgpjoagpaaWMore
import Derived.Test.YtcljafgpjoagpaaWWords
namespace Go.Proofs.Ytcljafgpjoagpaa.Gen
open Go Go.RowKit Go.Proofs.YtcljafgpjoagpaaW.PrintWords Go.Proofs.YtcljafgpjoagpaaW.PrintMore

theorem wid {x : Int} (h0 : -9223372036854775808 ≤ x) (h1 : x ≤ 9223372036854775807) : wrap64 x = x := by
  unfold wrap64; omega

theorem wnat {n : Nat} (h : n ≤ 9223372036854775806) : wrap64 ((n : Int) + 1) = ((n + 1 : Nat) : Int) := by
  unfold wrap64; omega

theorem wadd {a b : Nat} (h : a + b ≤ 9223372036854775806) : wrap64 ((a : Int) + (b : Int)) = ((a + b : Nat) : Int) := by
  unfold wrap64; omega

def Bytes (l : List Int) : Prop := ∀ x ∈ l, 0 ≤ x ∧ x ≤ 255

theorem u8_of {x : Int} (h : (Lit.int .u8 x).wf = true) : 0 ≤ x ∧ x ≤ 255 := by
  simp [Lit.wf, IntKind.min, IntKind.max, IntKind.bits, IntKind.signed] at h
  omega

theorem bytes_of {l : List Int} (h : ∀ x ∈ l, (Lit.int .u8 x).wf = true) : Bytes l := fun x hx => u8_of (h x hx)

theorem rd_nat (p : List Int) (i : Nat) (h : i < p.length) : rd p (i : Int) = p[i] := by
  simp [rd, h]

theorem ex_succ {k n : Nat} (h : n < k) : ∃ m, k = m + 1 := ⟨k - 1, by omega⟩

theorem drop_at {α : Type} (p : List α) (i : Nat) (h : i < p.length) : p.drop i = p[i] :: p.drop (i + 1) :=
  List.drop_eq_getElem_cons h

/-- A place as the program sees it: no less than none, no more than the text's end. -/
def clip (p : List Int) (a : Int) : Nat := min a.toNat p.length
theorem mn_clip (p : List Int) (a : Int) : mn (mx a 0) (p.length : Int) = (clip p a : Int) := by unfold mn mx clip; (repeat' split) <;> omega
theorem clip_le (p : List Int) (a : Int) : clip p a ≤ p.length := by unfold clip; omega
/-- Places as the program's numbers. -/
def zs (l : List Nat) : List Int := l.map fun (n : Nat) => (n : Int)
theorem zs_len (l : List Nat) : (zs l).length = l.length := by simp [zs]
theorem rd_zs (l : List Nat) (i : Nat) (h : i < l.length) : rd (zs l) (i : Int) = (l[i] : Int) := by simp [zs, rd, h]

end Go.Proofs.Ytcljafgpjoagpaa.Gen

namespace Go.Proofs.Ytcljafgpjoagpaa.Gen
open Go Go.RowKit

/-- The class of a byte. -/
def cls (c : Int) : Int :=
  if c = 32 ∨ c = 9 then 0 else if c = 10 then 1
  else if 128 ≤ c ∨ c = 95 ∨ (48 ≤ c ∧ c ≤ 57) ∨ (65 ≤ c ∧ c ≤ 90) ∨ (97 ≤ c ∧ c ≤ 122) then 2 else 3

/-- A blank, or a line's end. -/
def ws (c : Int) : Prop := c = 32 ∨ c = 9 ∨ c = 10
instance (c : Int) : Decidable (ws c) := inferInstanceAs (Decidable (c = 32 ∨ c = 9 ∨ c = 10))

abbrev NN := Nat × Nat

/-- The pieces' bytes. -/
def cut (p : List Int) (x : NN) : List Int := (p.take (x.1 + x.2)).drop x.1
end Go.Proofs.Ytcljafgpjoagpaa.Gen

namespace Go.Proofs.Ytcljafgpjoagpaa.Gen
open Go Go.RowKit
set_option linter.unusedVariables false
set_option linter.unusedSimpArgs false

/-- The runs of a text that begins at a place. -/
def rn : Nat → List Int → List NN
  | _, [] => []
  | o, c :: t => match t, rn (o + 1) t with
    | d :: _, (a, n) :: r => if cls c = cls d then (o, n + 1) :: r else (o, 1) :: (a, n) :: r
    | _, _ => [(o, 1)]

theorem rn_one (o : Nat) (c : Int) : rn o [c] = [(o, 1)] := rfl
theorem rn_ne (o : Nat) (c : Int) (t : List Int) : rn o (c :: t) ≠ [] := by
  simp only [rn]
  split
  · split <;> simp
  · simp
theorem rn_cons (o : Nat) (c d : Int) (t : List Int) : ∃ a n r, rn (o + 1) (d :: t) = (a, n) :: r ∧ rn o (c :: d :: t) = if cls c = cls d then (o, n + 1) :: r else (o, 1) :: (a, n) :: r := by
  have h := rn_ne (o + 1) d t
  generalize he : rn (o + 1) (d :: t) = L at h
  cases L with
  | nil => exact absurd rfl h
  | cons x r =>
    obtain ⟨a, n⟩ := x
    refine ⟨a, n, r, rfl, ?_⟩
    rw [show rn o (c :: d :: t) = (match d :: t, rn (o + 1) (d :: t) with | d :: _, (a, n) :: r => if cls c = cls d then (o, n + 1) :: r else (o, 1) :: (a, n) :: r | _, _ => [(o, 1)]) from rfl, he]

/-- The runs lie one behind the other over the whole text. -/
def Cov (p : List Int) : Nat → List NN → Prop
  | o, [] => o = p.length
  | o, (a, n) :: r => a = o ∧ 1 ≤ n ∧ o + n ≤ p.length ∧ (∀ i, o ≤ i → (h : i < o + n) → ∀ (h1 : i < p.length) (h2 : o < p.length), cls p[i] = cls p[o]) ∧ (∀ (h1 : o + n < p.length) (h2 : o + n - 1 < p.length), cls p[o + n] ≠ cls p[o + n - 1]) ∧ Cov p (o + n) r

theorem cov_rn (p : List Int) (m : Nat) : ∀ o, o + m = p.length → Cov p o (rn o (p.drop o)) := by
  induction m with
  | zero => intro o h; rw [List.drop_eq_nil_of_le (by omega)]; simp only [rn, Cov]; omega
  | succ m ih =>
    intro o h
    have hlt : o < p.length := by omega
    have hnext := ih (o + 1) (by omega)
    rw [drop_at p o hlt]
    by_cases h1 : o + 1 < p.length
    · rw [drop_at p (o + 1) h1] at hnext ⊢
      obtain ⟨a, n, r, e1, e2⟩ := rn_cons o p[o] p[o + 1] (p.drop (o + 1 + 1))
      rw [e1] at hnext
      rw [e2]
      obtain ⟨ha, hn, hle, hsame, hdiff, hr⟩ := hnext
      by_cases hc : cls p[o] = cls p[o + 1]
      · rw [if_pos hc]
        refine ⟨rfl, by omega, by omega, ?_, ?_, ?_⟩
        · intro i h2 h3 h4 h5
          rcases Nat.lt_or_ge o i with h6 | h6
          · rw [hsame i (by omega) (by omega) h4 h1, ← hc]
          · have : i = o := by omega
            subst this; rfl
        · intro h2 h3
          have := hdiff (by omega) (by omega)
          simp only [show o + 1 + n = o + (n + 1) by omega] at this
          exact this
        · rw [show o + (n + 1) = o + 1 + n by omega]; exact hr
      · rw [if_neg hc]
        refine ⟨rfl, by omega, by omega, ?_, ?_, ha, hn, hle, hsame, hdiff, hr⟩
        · intro i h2 h3 h4 h5
          have : i = o := by omega
          subst this; rfl
        · intro h2 h3
          simp only [show o + 1 - 1 = o by omega]
          exact fun e => hc e.symm
    · rw [List.drop_eq_nil_of_le (by omega), rn_one]
      refine ⟨rfl, by omega, by omega, ?_, ?_, ?_⟩
      · intro i h2 h3 h4 h5
        have : i = o := by omega
        subst this; rfl
      · intro h2 h3; omega
      · simp only [Cov]; omega

/-- One byte more at the end. -/
theorem rn_snoc (x : List Int) (c : Int) : ∀ o (h : x ≠ []), ∃ l a n, rn o x = l ++ [(a, n)] ∧ rn o (x ++ [c]) = if cls (x.getLast h) = cls c then l ++ [(a, n + 1)] else l ++ [(a, n)] ++ [(o + x.length, 1)] := by
  induction x with
  | nil => intro o h; exact absurd rfl h
  | cons d t ih =>
    intro o h
    cases t with
    | nil =>
      refine ⟨[], o, 1, rfl, ?_⟩
      obtain ⟨a, n, r, e1, e2⟩ := rn_cons o d c []
      rw [rn_one, List.cons.injEq, Prod.mk.injEq] at e1
      obtain ⟨⟨rfl, rfl⟩, rfl⟩ := e1
      rw [List.cons_append, List.nil_append, e2]
      simp
    | cons e t =>
      obtain ⟨l, a, n, h1, h2⟩ := ih (o + 1) (by simp)
      obtain ⟨a1, n1, r1, e1, e2⟩ := rn_cons o d e t
      obtain ⟨a2, n2, r2, f1, f2⟩ := rn_cons o d e (t ++ [c])
      rw [List.cons_append] at h2
      rw [h2] at f1
      rw [h1] at e1
      rw [List.cons_append, List.cons_append, f2, e2]
      have hl : (d :: e :: t).getLast h = (e :: t).getLast (by simp) := List.getLast_cons (by simp)
      rw [hl]
      cases l with
      | nil =>
        simp only [List.nil_append, List.cons.injEq, Prod.mk.injEq] at e1
        obtain ⟨⟨rfl, rfl⟩, rfl⟩ := e1
        by_cases hc : cls ((e :: t).getLast (by simp)) = cls c
        · simp only [hc, if_true, List.nil_append, List.cons.injEq, Prod.mk.injEq] at f1
          obtain ⟨⟨rfl, rfl⟩, rfl⟩ := f1
          by_cases hd : cls d = cls e
          · exact ⟨[], o, n + 1, by simp [hd], by simp [hc, hd]⟩
          · exact ⟨[(o, 1)], a, n, by simp [hd], by simp [hc, hd]⟩
        · simp only [hc, if_false, List.nil_append, List.cons_append, List.cons.injEq, Prod.mk.injEq] at f1
          obtain ⟨⟨rfl, rfl⟩, rfl⟩ := f1
          by_cases hd : cls d = cls e
          · exact ⟨[], o, n + 1, by simp [hd], by simp [hc, hd]; omega⟩
          · exact ⟨[(o, 1)], a, n, by simp [hd], by simp [hc, hd]; omega⟩
      | cons y l =>
        obtain ⟨ya, yn⟩ := y
        simp only [List.cons_append, List.cons.injEq, Prod.mk.injEq] at e1
        obtain ⟨⟨rfl, rfl⟩, rfl⟩ := e1
        by_cases hc : cls ((e :: t).getLast (by simp)) = cls c
        · simp only [hc, if_true, List.cons_append, List.cons.injEq, Prod.mk.injEq] at f1
          obtain ⟨⟨rfl, rfl⟩, rfl⟩ := f1
          by_cases hd : cls d = cls e
          · exact ⟨(o, yn + 1) :: l, a, n, by simp [hd], by simp [hc, hd]⟩
          · exact ⟨(o, 1) :: (ya, yn) :: l, a, n, by simp [hd], by simp [hc, hd]⟩
        · simp only [hc, if_false, List.cons_append, List.cons.injEq, Prod.mk.injEq] at f1
          obtain ⟨⟨rfl, rfl⟩, rfl⟩ := f1
          by_cases hd : cls d = cls e
          · exact ⟨(o, yn + 1) :: l, a, n, by simp [hd], by simp [hc, hd]; omega⟩
          · exact ⟨(o, 1) :: (ya, yn) :: l, a, n, by simp [hd], by simp [hc, hd]; omega⟩

/-- What holds of every run. -/
theorem cov_mem (p : List Int) (L : List NN) : ∀ o, Cov p o L → ∀ x ∈ L, o ≤ x.1 ∧ 1 ≤ x.2 ∧ x.1 + x.2 ≤ p.length := by
  induction L with
  | nil => intro o _ x hx; simp at hx
  | cons y r ih =>
    obtain ⟨a, n⟩ := y
    intro o h x hx
    obtain ⟨ha, hn, hle, _, _, hr⟩ := h
    rcases List.mem_cons.1 hx with rfl | hx
    · exact ⟨by simp only; omega, hn, by simp only; omega⟩
    · have := ih _ hr x hx; exact ⟨by omega, this.2⟩

theorem rn_mem (p : List Int) : ∀ x ∈ rn 0 p, 1 ≤ x.2 ∧ x.1 + x.2 ≤ p.length := by
  have := cov_rn p p.length 0 (by omega)
  simp only [List.drop_zero] at this
  exact fun x hx => (cov_mem p _ 0 this x hx).2

theorem rn_length (q : List Int) : ∀ o, (rn o q).length ≤ q.length := by
  induction q with
  | nil => intro o; simp [rn]
  | cons c t ih =>
    intro o
    cases t with
    | nil => simp [rn]
    | cons d t =>
      obtain ⟨a, n, r, e1, e2⟩ := rn_cons o c d t
      have := ih (o + 1)
      rw [e1] at this
      rw [e2]
      simp only [List.length_cons] at *
      split <;> simp only [List.length_cons] <;> omega

theorem take_last (p : List Int) (i : Nat) (h0 : 0 < i) (h : i ≤ p.length) (hne : p.take i ≠ []) : (p.take i).getLast hne = p[i - 1]'(by omega) := by
  rw [List.getLast_eq_getElem, List.getElem_take]
  simp only [List.length_take, show min i p.length - 1 = i - 1 by omega]

end Go.Proofs.Ytcljafgpjoagpaa.Gen

namespace Go.Proofs.Ytcljafgpjoagpaa.Gen
open Go Go.RowKit
set_option linter.unusedVariables false
set_option linter.unusedSimpArgs false

/-- The lines of a text, without their ends. -/
def lns : List Int → List (List Int)
  | [] => [[]]
  | c :: t => if c = 10 then [] :: lns t else match lns t with
    | l :: r => (c :: l) :: r
    | [] => [[c]]

theorem lns_ne (p : List Int) : lns p ≠ [] := by
  cases p with
  | nil => simp [lns]
  | cons c t =>
    simp only [lns]
    split
    · simp
    · split <;> simp

theorem lns_ex (p : List Int) : ∃ l r, lns p = l :: r := by
  have := lns_ne p
  cases h : lns p with
  | nil => exact absurd h this
  | cons l r => exact ⟨l, r, rfl⟩

theorem lns_nl (t : List Int) : lns (10 :: t) = [] :: lns t := by simp [lns]
theorem lns_cons {c : Int} (h : c ≠ 10) {t : List Int} {l : List Int} {r : List (List Int)} (e : lns t = l :: r) : lns (c :: t) = (c :: l) :: r := by simp [lns, h, e]

/-- Lines as one text. -/
def jn : List (List Int) → List Int
  | [] => []
  | [l] => l
  | l :: m :: r => l ++ 10 :: jn (m :: r)

theorem jn_cons (l : List Int) {r : List (List Int)} (h : r ≠ []) : jn (l :: r) = l ++ 10 :: jn r := by
  cases r with
  | nil => exact absurd rfl h
  | cons m r => rfl

theorem jn_cons_cons (c : Int) (l : List Int) (r : List (List Int)) : jn ((c :: l) :: r) = c :: jn (l :: r) := by
  cases r <;> rfl

theorem jn_lns (p : List Int) : jn (lns p) = p := by
  induction p with
  | nil => rfl
  | cons c t ih =>
    by_cases h : c = 10
    · subst h; rw [lns_nl, jn_cons _ (lns_ne t), ih]; rfl
    · obtain ⟨l, r, e⟩ := lns_ex t
      rw [lns_cons h e, jn_cons_cons, ← e, ih]

/-- No line has an end in it. -/
theorem lns_free (p : List Int) : ∀ l ∈ lns p, ∀ c ∈ l, c ≠ 10 := by
  induction p with
  | nil => intro l hl; simp [lns] at hl; subst hl; simp
  | cons c t ih =>
    by_cases h : c = 10
    · subst h; rw [lns_nl]
      intro l hl
      rcases List.mem_cons.1 hl with rfl | hl
      · simp
      · exact ih l hl
    · obtain ⟨l, r, e⟩ := lns_ex t
      rw [lns_cons h e]
      rw [e] at ih
      intro m hm
      rcases List.mem_cons.1 hm with rfl | hm
      · intro x hx
        rcases List.mem_cons.1 hx with rfl | hx
        · exact h
        · exact ih l (by simp) x hx
      · exact ih m (by simp [hm])

theorem lns_one {a : List Int} (h : ∀ c ∈ a, c ≠ 10) : lns a = [a] := by
  induction a with
  | nil => rfl
  | cons c t ih => exact lns_cons (h c (by simp)) (ih fun x hx => h x (by simp [hx]))

/-- A text parted: the last line of the one part and the first of the other are one line. -/
theorem lns_append (a b : List Int) : ∀ {A x y B}, lns a = A ++ [x] → lns b = y :: B → lns (a ++ b) = A ++ (x ++ y) :: B := by
  induction a with
  | nil =>
    intro A x y B h1 h2
    cases A with
    | nil => simp [lns] at h1; subst h1; simpa using h2
    | cons m A => simp [lns] at h1
  | cons c t ih =>
    intro A x y B h1 h2
    by_cases h : c = 10
    · subst h
      rw [lns_nl] at h1
      rw [List.cons_append, lns_nl]
      cases A with
      | nil =>
        simp only [List.nil_append, List.cons.injEq] at h1
        exact absurd h1.2 (lns_ne t)
      | cons m A =>
        simp only [List.cons_append, List.cons.injEq] at h1
        obtain ⟨rfl, h1⟩ := h1
        rw [ih h1 h2]; rfl
    · obtain ⟨l, r, e⟩ := lns_ex t
      rw [lns_cons h e] at h1
      cases A with
      | nil =>
        simp only [List.nil_append, List.cons.injEq] at h1
        obtain ⟨rfl, rfl⟩ := h1
        rw [List.cons_append, lns_cons h (ih (A := []) (x := l) (by simpa using e) h2)]; rfl
      | cons m A =>
        simp only [List.cons_append, List.cons.injEq] at h1
        obtain ⟨rfl, rfl⟩ := h1
        rw [List.cons_append, lns_cons h (ih (A := l :: A) (x := x) (by simpa using e) h2)]; rfl

theorem lns_last (a : List Int) : ∃ A x, lns a = A ++ [x] := by
  rcases List.eq_nil_or_concat (lns a) with h | ⟨A, x, h⟩
  · exact absurd h (lns_ne a)
  · exact ⟨A, x, by simpa using h⟩

theorem lns_mid (a b : List Int) : lns (a ++ 10 :: b) = lns a ++ lns b := by
  obtain ⟨A, x, h⟩ := lns_last a
  rw [lns_append a (10 :: b) h (lns_nl b), h]; simp

/-- Lines without ends in them, joined, are the lines of what they make. -/
theorem lns_jn {L : List (List Int)} (h0 : L ≠ []) (h : ∀ l ∈ L, ∀ c ∈ l, c ≠ 10) : lns (jn L) = L := by
  induction L with
  | nil => exact absurd rfl h0
  | cons l r ih =>
    cases r with
    | nil => exact lns_one (h l (by simp))
    | cons m r =>
      rw [jn_cons l (by simp), lns_mid, lns_one (h l (by simp)), ih (by simp) fun k hk => h k (by simp [hk])]; rfl

/-- How many line ends. -/
def nls (p : List Int) : Nat := (p.filter fun c => decide (c = 10)).length
theorem nls_append (a b : List Int) : nls (a ++ b) = nls a + nls b := by simp [nls]
theorem nls_le (p : List Int) : nls p ≤ p.length := List.length_filter_le _ _
theorem nls_cons (c : Int) (t : List Int) : nls (c :: t) = (if c = 10 then 1 else 0) + nls t := by
  unfold nls
  by_cases h : c = 10
  · simp [h]; omega
  · simp [h]
theorem lns_count (p : List Int) : (lns p).length = nls p + 1 := by
  induction p with
  | nil => rfl
  | cons c t ih =>
    rw [nls_cons]
    by_cases h : c = 10
    · subst h; rw [lns_nl, List.length_cons, ih]; simp; omega
    · obtain ⟨l, r, e⟩ := lns_ex t
      rw [lns_cons h e, if_neg h, Nat.zero_add, ← ih, e]; rfl

/-- Where each line begins, and how many bytes it has. -/
def spo : Nat → List (List Int) → List NN
  | _, [] => []
  | o, l :: r => (o, l.length) :: spo (o + l.length + 1) r
def spans (p : List Int) : List NN := spo 0 (lns p)
/-- The bytes of lines, with their ends. -/
def off : List (List Int) → Nat
  | [] => 0
  | l :: r => l.length + 1 + off r

theorem spo_length (L : List (List Int)) : ∀ o, (spo o L).length = L.length := by
  induction L with
  | nil => intro o; rfl
  | cons l r ih => intro o; simp [spo, ih]
theorem spans_length (p : List Int) : (spans p).length = nls p + 1 := by rw [spans, spo_length, lns_count]
theorem off_append (A B : List (List Int)) : off (A ++ B) = off A + off B := by
  induction A with
  | nil => simp [off]
  | cons l r ih => simp only [List.cons_append, off, ih]; omega
theorem jn_length {L : List (List Int)} (h : L ≠ []) : (jn L).length + 1 = off L := by
  induction L with
  | nil => exact absurd rfl h
  | cons l r ih =>
    cases r with
    | nil => simp [jn, off]
    | cons m r =>
      rw [jn_cons l (by simp), List.length_append, List.length_cons]
      have := ih (by simp)
      simp only [off] at *
      omega
theorem off_lns (p : List Int) : off (lns p) = p.length + 1 := by
  have := jn_length (lns_ne p)
  rw [jn_lns] at this; omega
theorem spo_get {L : List (List Int)} {i : Nat} (h : i < L.length) (o : Nat) : (spo o L)[i]'(by rw [spo_length]; exact h) = (o + off (L.take i), L[i].length) := by
  induction L generalizing i o with
  | nil => simp at h
  | cons l r ih =>
    cases i with
    | zero => simp [spo, off]
    | succ i =>
      simp only [spo, List.getElem_cons_succ, List.take_succ_cons, off]
      rw [ih (by simpa using h)]
      congr 1; omega
theorem jn_drop {L : List (List Int)} {i : Nat} (h : i < L.length) : (jn L).drop (off (L.take i)) = jn (L.drop i) := by
  induction L generalizing i with
  | nil => simp at h
  | cons l r ih =>
    cases i with
    | zero => simp [off]
    | succ i =>
      have hr : r ≠ [] := by rintro rfl; simp at h
      rw [jn_cons l hr, List.take_succ_cons, off, List.drop_succ_cons, ← ih (by simpa using h)]
      rw [show l.length + 1 + off (r.take i) = l.length + (1 + off (r.take i)) by omega, ← List.drop_drop, List.drop_left, Nat.add_comm 1, List.drop_succ_cons]

/-- A line at its place. -/
theorem line_drop {p : List Int} {i : Nat} (h : i < (lns p).length) : p.drop (off ((lns p).take i)) = jn ((lns p).drop i) := by
  have := jn_drop h
  rwa [jn_lns] at this
theorem jn_take (l : List Int) (r : List (List Int)) : (jn (l :: r)).take l.length = l := by
  cases r with
  | nil => simp [jn]
  | cons m r => rw [jn_cons l (by simp), List.take_left]
theorem off_le {p : List Int} {i : Nat} (h : i < (lns p).length) : off ((lns p).take i) + (lns p)[i].length ≤ p.length := by
  have h1 := off_lns p
  have h2 := off_append ((lns p).take i) ((lns p).drop i)
  rw [List.take_append_drop, List.drop_eq_getElem_cons h] at h2
  simp only [off] at h2
  omega
theorem line_cut {p : List Int} {i : Nat} (h : i < (lns p).length) : cut p (off ((lns p).take i), (lns p)[i].length) = (lns p)[i] := by
  unfold cut
  simp only
  rw [List.drop_take, line_drop h, List.drop_eq_getElem_cons h, show off ((lns p).take i) + (lns p)[i].length - off ((lns p).take i) = (lns p)[i].length by omega, jn_take]

/-- In which line a place is. -/
def row (p : List Int) (a : Nat) : Nat := nls (p.take a)
theorem row_lt (p : List Int) (a : Nat) : row p a < (lns p).length := by
  have := nls_append (p.take a) (p.drop a)
  rw [List.take_append_drop] at this
  rw [lns_count]; unfold row; omega

/-- A place parts its line. -/
theorem row_split (p : List Int) (a : Nat) (ha : a ≤ p.length) : ∃ A x y B, lns (p.take a) = A ++ [x] ∧ lns (p.drop a) = y :: B ∧ lns p = A ++ (x ++ y) :: B ∧ A.length = row p a ∧ off A + x.length = a := by
  obtain ⟨A, x, h1⟩ := lns_last (p.take a)
  obtain ⟨y, B, h2⟩ := lns_ex (p.drop a)
  have h3 := lns_append _ _ h1 h2
  rw [List.take_append_drop] at h3
  refine ⟨A, x, y, B, h1, h2, h3, ?_, ?_⟩
  · have := lns_count (p.take a)
    rw [h1] at this
    simp only [List.length_append, List.length_cons, List.length_nil] at this
    unfold row; omega
  · have := off_lns (p.take a)
    rw [h1, off_append] at this
    simp only [off, List.length_take] at this
    omega

/-- Where the line of a place begins, and how long it is. -/
theorem row_at (p : List Int) (a : Nat) (ha : a ≤ p.length) : off ((lns p).take (row p a)) ≤ a ∧ a ≤ off ((lns p).take (row p a)) + ((lns p)[row p a]'(row_lt p a)).length := by
  obtain ⟨A, x, y, B, _, _, h3, h4, h5⟩ := row_split p a ha
  have e : (lns p).take (row p a) = A := by rw [h3, ← h4, List.take_left]
  have e2 : (lns p)[row p a]'(row_lt p a) = x ++ y := by
    simp only [h3, ← h4]
    rw [List.getElem_append_right (by omega)]; simp
  rw [e, e2, List.length_append]; omega

/-- A place between a line's begin and its end is in that line. -/
theorem row_of {p : List Int} {i a : Nat} (h : i < (lns p).length) (h1 : off ((lns p).take i) ≤ a) (h2 : a ≤ off ((lns p).take i) + (lns p)[i].length) : row p a = i := by
  have hle := off_le h
  have hr := row_at p a (by omega)
  have hl := row_lt p a
  have mono : ∀ (j k : Nat) (hj : j < (lns p).length), j < k → k < (lns p).length → off ((lns p).take j) + (lns p)[j].length < off ((lns p).take k) := by
    intro j k hj hjk hk
    have h3 : (lns p).take k = (lns p).take j ++ (lns p)[j] :: ((lns p).take k).drop (j + 1) := by
      have h4 : ((lns p).take k).take j = (lns p).take j := by rw [List.take_take]; congr 1; omega
      rw [← h4]
      have h5 : ((lns p).take k)[j]'(by simp; omega) = (lns p)[j] := by simp
      rw [← h5, ← List.drop_eq_getElem_cons, List.take_append_drop]
    rw [h3, off_append]; simp only [off]; omega
  rcases Nat.lt_trichotomy (row p a) i with h3 | h3 | h3
  · have := mono _ _ hl h3 h; omega
  · exact h3
  · have := mono _ _ h h3 hl; omega

/-- The places of line ends. -/
def endsF : Nat → List Int → List Nat
  | _, [] => []
  | o, c :: t => if c = 10 then o :: endsF (o + 1) t else endsF (o + 1) t
theorem endsF_length (p : List Int) : ∀ o, (endsF o p).length = nls p := by
  induction p with
  | nil => intro o; rfl
  | cons c t ih =>
    intro o
    rw [nls_cons]
    simp only [endsF]
    split
    · rw [List.length_cons, ih]; omega
    · rw [ih]; omega
theorem endsF_bd (p : List Int) : ∀ o, ∀ x ∈ endsF o p, o ≤ x ∧ x < o + p.length := by
  induction p with
  | nil => intro o x hx; simp [endsF] at hx
  | cons c t ih =>
    intro o x hx
    simp only [endsF] at hx
    simp only [List.length_cons]
    split at hx
    · rcases List.mem_cons.1 hx with rfl | hx
      · omega
      · have := ih _ x hx; omega
    · have := ih _ x hx; omega
/-- Spans told by line ends. -/
def spe : Nat → List Nat → Nat → List NN
  | a, [], len => [(a, len - a)]
  | a, e :: r, len => (a, e - a) :: spe (e + 1) r len
theorem spe_eq (p : List Int) : ∀ (o j : Nat) (l : List Int) (r : List (List Int)), lns p = l :: r → spe o (endsF (o + j) p) (o + j + p.length) = (o, j + l.length) :: spo (o + j + l.length + 1) r := by
  induction p with
  | nil =>
    intro o j l r h
    simp only [lns, List.cons.injEq] at h
    obtain ⟨rfl, rfl⟩ := h
    simp [endsF, spe, spo]
  | cons c t ih =>
    intro o j l r h
    by_cases hc : c = 10
    · subst hc
      rw [lns_nl, List.cons.injEq] at h
      obtain ⟨rfl, rfl⟩ := h
      obtain ⟨l, r, e⟩ := lns_ex t
      have := ih (o + j + 1) 0 l r e
      simp only [endsF, if_true, spe, List.length_cons, List.length_nil, Nat.add_zero, Nat.zero_add] at *
      rw [show o + j + (t.length + 1) = o + j + 1 + t.length by omega, this, e, show o + j - o = j by omega]
      rfl
    · obtain ⟨l', r', e⟩ := lns_ex t
      rw [lns_cons hc e, List.cons.injEq] at h
      obtain ⟨rfl, rfl⟩ := h
      have := ih o (j + 1) l' r' e
      simp only [endsF, if_neg hc, List.length_cons] at *
      rw [show o + j + (t.length + 1) = o + (j + 1) + t.length by omega, show o + j + 1 = o + (j + 1) by omega, this]
      congr 1
      · rw [show j + (l'.length + 1) = j + 1 + l'.length by omega]
      · rw [show o + (j + 1) + l'.length + 1 = o + j + (l'.length + 1) + 1 by omega]
theorem spans_eq (p : List Int) : spe 0 (endsF 0 p) p.length = spans p := by
  obtain ⟨l, r, e⟩ := lns_ex p
  have := spe_eq p 0 0 l r e
  simp only [Nat.zero_add, Nat.add_zero] at this
  rw [this, spans, e]; simp [spo]

/-- How many ends are ahead of a place. -/
theorem ends_ahead (p : List Int) : ∀ o a, ((endsF o p).filter fun e => decide (e < o + a)).length = nls (p.take a) := by
  induction p with
  | nil => intro o a; simp [endsF, nls]
  | cons c t ih =>
    intro o a
    cases a with
    | zero =>
      have h0 : ∀ x ∈ endsF o (c :: t), ¬ x < o + 0 := fun x hx => by have := endsF_bd _ o x hx; omega
      rw [List.filter_eq_nil_iff.2 (fun x hx => by simpa using h0 x hx)]
      simp [nls]
    | succ a =>
      have := ih (o + 1) a
      rw [show o + 1 + a = o + (a + 1) by omega] at this
      rw [List.take_succ_cons, nls_cons]
      simp only [endsF]
      split
      · rw [List.filter_cons_of_pos (by simp), List.length_cons, this]; omega
      · rw [this]; omega

/-- The first place of a byte. -/
def fb : List Int → Int → Int
  | [], _ => -1
  | b :: t, c => if b = c then 0 else if fb t c = -1 then -1 else fb t c + 1
theorem fb_line (p : List Int) : ∀ {l : List Int} {r : List (List Int)}, lns p = l :: r → fb p 10 = if r = [] then -1 else (l.length : Int) := by
  induction p with
  | nil =>
    intro l r h
    simp only [lns, List.cons.injEq] at h
    obtain ⟨rfl, rfl⟩ := h
    rfl
  | cons b t ih =>
    intro l r h
    by_cases hb : b = 10
    · subst hb
      rw [lns_nl, List.cons.injEq] at h
      obtain ⟨rfl, rfl⟩ := h
      rw [if_neg (lns_ne t)]; simp [fb]
    · obtain ⟨l', r', e⟩ := lns_ex t
      rw [lns_cons hb e, List.cons.injEq] at h
      obtain ⟨rfl, rfl⟩ := h
      simp only [fb, if_neg hb, ih e]
      by_cases hr : r' = []
      · simp [hr]
      · rw [if_neg hr, if_neg hr, if_neg (by omega), List.length_cons]; omega

/-- A line's span by its number. -/
def sp (p : List Int) (line : Int) : Option NN := if 0 ≤ line then (spans p)[line.toNat]? else none
theorem spans_at {p : List Int} {i : Nat} (h : i < (lns p).length) : (spans p)[i]? = some (off ((lns p).take i), (lns p)[i].length) := by
  have h2 : i < (spans p).length := by rw [spans, spo_length]; exact h
  rw [List.getElem?_eq_getElem h2]
  have := spo_get h 0
  rw [Nat.zero_add] at this
  exact congrArg some this
theorem sp_in {p : List Int} {line : Int} (h0 : 0 ≤ line) (h : line.toNat < (lns p).length) : sp p line = some (off ((lns p).take line.toNat), (lns p)[line.toNat].length) := by
  unfold sp; rw [if_pos h0, spans_at h]
theorem sp_out {p : List Int} {line : Int} (h : line < 0 ∨ (lns p).length ≤ line.toNat) : sp p line = none := by
  unfold sp
  split
  · rw [List.getElem?_eq_none]; rw [spans, spo_length]; omega
  · rfl
theorem off_take {L : List (List Int)} {i : Nat} (h : i < L.length) : off (L.take (i + 1)) = off (L.take i) + L[i].length + 1 := by
  rw [List.take_succ_eq_append_getElem h, off_append]; simp only [off]; omega
theorem off_last {p : List Int} {i : Nat} (h : i < (lns p).length) : (off ((lns p).take i) + (lns p)[i].length = p.length ↔ i + 1 = (lns p).length) ∧ off ((lns p).take i) + (lns p)[i].length ≤ p.length := by
  have h1 := off_lns p
  have h2 := off_append ((lns p).take (i + 1)) ((lns p).drop (i + 1))
  rw [List.take_append_drop, off_take h] at h2
  by_cases e : i + 1 = (lns p).length
  · rw [List.drop_eq_nil_of_le (by omega)] at h2
    simp only [off] at h2
    omega
  · rw [List.drop_eq_getElem_cons (by omega)] at h2
    simp only [off] at h2
    omega
theorem off_mono (L : List (List Int)) {i j : Nat} (h : i ≤ j) : off (L.take i) ≤ off (L.take j) := by
  have : L.take j = L.take i ++ (L.take j).drop i := by
    have h1 : (L.take j).take i = L.take i := by rw [List.take_take]; congr 1; omega
    conv => lhs; rw [← List.take_append_drop i (L.take j), h1]
  rw [this, off_append]; omega

/-- Whole lines, with the last one's end. -/
def whl (p : List Int) (i j : Nat) : NN := (off ((lns p).take i), min (off ((lns p).take (j + 1))) p.length - off ((lns p).take i))
theorem whl_end {p : List Int} {i j : Nat} (hij : i ≤ j) (hj : j < (lns p).length) : off ((lns p).take i) + (whl p i j).2 = min (off ((lns p).take (j + 1))) p.length ∧ off ((lns p).take i) ≤ p.length := by
  have h1 := off_mono (lns p) (show i ≤ j + 1 by omega)
  have h2 := off_le (p := p) (i := i) (by omega)
  unfold whl
  simp only
  omega
def whole (p : List Int) (a b : Int) : Option NN := if 0 ≤ min a b ∧ (max a b).toNat < (lns p).length then some (whl p (min a b).toNat (max a b).toNat) else none
theorem whole_comm (p : List Int) (a b : Int) : whole p a b = whole p b a := by
  unfold whole; rw [show min a b = min b a by omega, show max a b = max b a by omega]

end Go.Proofs.Ytcljafgpjoagpaa.Gen

namespace Go.Proofs.Ytcljafgpjoagpaa.Gen
set_option linter.unusedVariables false
set_option linter.unusedSimpArgs false
open Go Go.RowKit

def cont (c : Int) : Prop := 128 ≤ c ∧ c ≤ 191
instance (c : Int) : Decidable (cont c) := inferInstanceAs (Decidable (128 ≤ c ∧ c ≤ 191))
/-- The bytes that a first byte calls for. -/
def need (b : Int) : Nat := if 194 ≤ b ∧ b ≤ 223 then 2 else if 224 ≤ b ∧ b ≤ 239 then 3 else if 240 ≤ b ∧ b ≤ 244 then 4 else 1
def lo2 (b : Int) : Int := if b = 224 then 160 else if b = 240 then 144 else 128
def hi2 (b : Int) : Int := if b = 237 then 159 else if b = 244 then 143 else 191
/-- The character's bytes at the head of a list. -/
def gsz : List Int → Nat
  | [] => 0
  | [_] => 1
  | [b, c] => if need b = 2 ∧ lo2 b ≤ c ∧ c ≤ hi2 b then 2 else 1
  | [b, c, d] => if need b = 2 ∧ lo2 b ≤ c ∧ c ≤ hi2 b then 2 else if need b = 3 ∧ lo2 b ≤ c ∧ c ≤ hi2 b ∧ cont d then 3 else 1
  | b :: c :: d :: e :: _ => if need b = 2 ∧ lo2 b ≤ c ∧ c ≤ hi2 b then 2 else if need b = 3 ∧ lo2 b ≤ c ∧ c ≤ hi2 b ∧ cont d then 3 else if need b = 4 ∧ lo2 b ≤ c ∧ c ≤ hi2 b ∧ cont d ∧ cont e then 4 else 1

end Go.Proofs.Ytcljafgpjoagpaa.Gen

namespace Go.Proofs.Ytcljafgpjoagpaa.Gen
open Go Go.RowKit
set_option linter.unusedVariables false
set_option linter.unusedSimpArgs false

/-- The column behind a byte. -/
def stp (c b t : Nat) : Nat := if b = 9 then c + t - c % t else c + 1
/-- The column behind a text. -/
def widF : Nat → List Int → Nat → Nat → Nat
  | 0, _, c, _ => c
  | n + 1, q, c, t => match q with
    | [] => c
    | b :: r => widF n ((b :: r).drop (gsz (b :: r))) (stp c b.toNat t) t
def wid_ (q : List Int) (c t : Nat) : Nat := widF q.length q c t

/-- Blanks that fill a width. -/
def fillF : Nat → Nat → Nat → Nat → Bool → List Int
  | 0, _, _, _, _ => []
  | n + 1, c, w, t, sp => if c < w then (if sp = false ∧ stp c 9 t ≤ w ∧ c + 1 < stp c 9 t then 9 :: fillF n (stp c 9 t) w t sp else 32 :: fillF n (c + 1) w t sp) else []
def fill (c w t : Nat) (sp : Bool) : List Int := fillF (w - c) c w t sp

end Go.Proofs.Ytcljafgpjoagpaa.Gen

namespace Go.Proofs.Ytcljafgpjoagpaa.Gen
open Go Go.RowKit
set_option linter.unusedVariables false
set_option linter.unusedSimpArgs false

def bl (c : Int) : Bool := decide (c = 32 ∨ c = 9)
/-- How many blanks a line begins with. -/
def ind (l : List Int) : Nat := (l.takeWhile bl).length
theorem ind_nil : ind [] = 0 := rfl
theorem ind_cons_pos {b : Int} (h : bl b = true) (r : List Int) : ind (b :: r) = 1 + ind r := by
  unfold ind; rw [List.takeWhile_cons_of_pos h, List.length_cons]; omega
theorem ind_cons_neg {b : Int} (h : bl b = false) (r : List Int) : ind (b :: r) = 0 := by
  unfold ind; rw [List.takeWhile_cons_of_neg (by simp [h])]; rfl
def canon (s : List Int) (t : Nat) (ex : Bool) : Prop := ind s = s.length ∨ fill 0 (wid_ (s.take (ind s)) 0 t) t ex = s.take (ind s)
instance (s : List Int) (t : Nat) (ex : Bool) : Decidable (canon s t ex) := inferInstanceAs (Decidable (_ ∨ _))

end Go.Proofs.Ytcljafgpjoagpaa.Gen

namespace Go.Proofs.Ytcljafgpjoagpaa.Gen
open Go Go.RowKit
set_option linter.unusedVariables false
set_option linter.unusedSimpArgs false

/-- Is a line there, and of blanks alone? -/
def brl (p : List Int) (i : Nat) : Option Bool := (lns p)[i]?.map fun l => decide (ind l = l.length)
theorem brl_in {p : List Int} {i : Nat} (h : i < (lns p).length) : brl p i = some (decide (ind (lns p)[i] = (lns p)[i].length)) := by
  unfold brl; rw [List.getElem?_eq_getElem h]; rfl
theorem brl_out {p : List Int} {i : Nat} (h : (lns p).length ≤ i) : brl p i = none := by
  unfold brl; rw [List.getElem?_eq_none h]; rfl
/-- The first of the lines up to one that are so. -/
def loR (p : List Int) (b : Bool) : Nat → Nat
  | 0 => 0
  | a + 1 => if brl p a = some b then loR p b a else a + 1
/-- The last of them. -/
def hiR (p : List Int) (b : Bool) : Nat → Nat → Nat
  | 0, i => i
  | m + 1, i => if brl p (i + 1) = some b then hiR p b m (i + 1) else i
theorem loR_le (p : List Int) (b : Bool) (a : Nat) : loR p b a ≤ a := by
  induction a with
  | zero => exact Nat.le_refl _
  | succ a ih => rw [loR]; split <;> omega
theorem loR_all (p : List Int) (b : Bool) (a : Nat) : ∀ j, loR p b a ≤ j → j < a → brl p j = some b := by
  induction a with
  | zero => intro j _ h; omega
  | succ a ih =>
    intro j h1 h2
    rw [loR] at h1
    by_cases h : brl p a = some b
    · rw [if_pos h] at h1
      by_cases e : j = a
      · rw [e]; exact h
      · exact ih j h1 (by omega)
    · rw [if_neg h] at h1; omega
theorem loR_stop (p : List Int) (b : Bool) (a : Nat) : loR p b a = 0 ∨ brl p (loR p b a - 1) ≠ some b := by
  induction a with
  | zero => exact .inl rfl
  | succ a ih =>
    rw [loR]
    by_cases h : brl p a = some b
    · rw [if_pos h]; exact ih
    · rw [if_neg h]; exact .inr h
theorem loR_eq {p : List Int} {b : Bool} {a x : Nat} (h1 : x ≤ a) (h2 : ∀ j, x ≤ j → j < a → brl p j = some b) (h3 : x = 0 ∨ brl p (x - 1) ≠ some b) : loR p b a = x := by
  have g1 := loR_le p b a
  rcases Nat.lt_trichotomy (loR p b a) x with h | h | h
  · rcases h3 with h3 | h3
    · omega
    · exact absurd (loR_all p b a (x - 1) (by omega) (by omega)) h3
  · exact h
  · rcases loR_stop p b a with g | g
    · omega
    · exact absurd (h2 (loR p b a - 1) (by omega) (by omega)) g
theorem hiR_ge (p : List Int) (b : Bool) (m : Nat) : ∀ i, i ≤ hiR p b m i ∧ hiR p b m i ≤ i + m := by
  induction m with
  | zero => intro i; exact ⟨Nat.le_refl _, Nat.le_refl _⟩
  | succ m ih => intro i; have := ih (i + 1); rw [hiR]; split <;> omega
theorem hiR_all (p : List Int) (b : Bool) (m : Nat) : ∀ i j, i < j → j ≤ hiR p b m i → brl p j = some b := by
  induction m with
  | zero => intro i j h1 h2; rw [hiR] at h2; omega
  | succ m ih =>
    intro i j h1 h2
    rw [hiR] at h2
    by_cases h : brl p (i + 1) = some b
    · rw [if_pos h] at h2
      by_cases e : j = i + 1
      · rw [e]; exact h
      · exact ih (i + 1) j (by omega) h2
    · rw [if_neg h] at h2; omega
theorem hiR_stop (p : List Int) (b : Bool) (m : Nat) : ∀ i, i + m + 1 = (lns p).length → brl p (hiR p b m i + 1) ≠ some b := by
  induction m with
  | zero => intro i h; rw [hiR, brl_out (by omega)]; simp
  | succ m ih =>
    intro i h
    rw [hiR]
    by_cases g : brl p (i + 1) = some b
    · rw [if_pos g]; exact ih (i + 1) (by omega)
    · rw [if_neg g]; exact g
theorem hiR_eq {p : List Int} {b : Bool} {m i x : Nat} (hm : i + m + 1 = (lns p).length) (h1 : i ≤ x) (h2 : ∀ j, i < j → j ≤ x → brl p j = some b) (h3 : brl p (x + 1) ≠ some b) : hiR p b m i = x := by
  have g1 := hiR_ge p b m i
  rcases Nat.lt_trichotomy (hiR p b m i) x with h | h | h
  · exact absurd (h2 (hiR p b m i + 1) (by omega) (by omega)) (hiR_stop p b m i hm)
  · exact h
  · exact absurd (hiR_all p b m i (x + 1) (by omega) (by omega)) h3
theorem whole_nat {p : List Int} {i j : Nat} (hij : i ≤ j) (hj : j < (lns p).length) : whole p (i : Int) (j : Int) = some (whl p i j) := by
  have e1 : min (i : Int) (j : Int) = (i : Int) := by omega
  have e2 : max (i : Int) (j : Int) = (j : Int) := by omega
  unfold whole
  rw [e1, e2, if_pos ⟨by omega, by rw [Int.toNat_natCast]; exact hj⟩, Int.toNat_natCast, Int.toNat_natCast]
theorem line_bytes {p : List Int} (hb : Bytes p) {i : Nat} (h : i < (lns p).length) : Bytes (lns p)[i] := fun c hc => by
  rw [← line_cut h] at hc
  exact hb c (List.mem_of_mem_take (List.mem_of_mem_drop hc))
/-- Those lines' bytes. -/
def par (p : List Int) (r : Nat) (b : Bool) : NN := whl p (loR p b r) (hiR p b ((lns p).length - 1 - r) r)

/-- The first run that has a place, and is no line's end. -/
def inn (p : List Int) (a : Int) (l : List NN) : Option NN := l.find? fun x => decide ((x.1 : Int) ≤ a ∧ a < ((x.1 + x.2 : Nat) : Int) ∧ cls (p.getD x.1 0) ≠ 1)
theorem inn_cons (p : List Int) (a : Int) (x : NN) (l : List NN) : inn p a (x :: l) = if (x.1 : Int) ≤ a ∧ a < ((x.1 + x.2 : Nat) : Int) ∧ cls (p.getD x.1 0) ≠ 1 then some x else inn p a l := by
  unfold inn
  rw [List.find?_cons]
  split
  · rename_i h; rw [if_pos (of_decide_eq_true h)]
  · rename_i h; rw [if_neg (of_decide_eq_false h)]
end Go.Proofs.Ytcljafgpjoagpaa.Gen

namespace Go.Proofs.Ytcljafgpjoagpaa.Gen
open Go Go.RowKit Go.Proofs.YtcljafgpjoagpaaW.PrintWords Go.Proofs.YtcljafgpjoagpaaW.PrintMore
set_option linter.unusedVariables false
set_option linter.unusedSimpArgs false

theorem bytesOf_str {l : List Int} (h : Bytes l) : bytesOf (strOfNums l) = l := by
  rw [bytesOf, strOfNums_data, List.map_map]
  conv => rhs; rw [← List.map_id l]
  refine List.map_congr_left fun x hx => ?_
  have := h x hx
  simp only [Function.comp, id, UInt8.toNat_ofNat']
  omega
theorem bt_get (s : ByteArray) (i : Nat) (h : i < (bytesOf s).length) : bt s (i : Int) = (bytesOf s)[i] := by
  have hs : i < s.size := by rwa [bytesOf_length] at h
  unfold bt
  simp only [Int.toNat_natCast]
  rw [dif_pos hs]
  simp [bytesOf]
  rfl
end Go.Proofs.Ytcljafgpjoagpaa.Gen
