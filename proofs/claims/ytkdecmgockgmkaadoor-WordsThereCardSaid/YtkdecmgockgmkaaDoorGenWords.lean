/- The plain law of runs: a text cut where the class of its bytes changes; no program in sight. -/
import Derived.Test.YtkdecmgockgmkaaDoorGenKeep
namespace Go.Proofs.YtkdecmgockgmkaaDoor.Gen
open Go Go.RowKit
set_option linter.unusedVariables false
set_option linter.unusedSimpArgs false

/-- The runs of a text that begins at a place. -/
def rn : Nat → List Int → List NN
  | _, [] => []
  | o, c :: t => match t, rn (o + 1) t with
    | d :: _, (a, n) :: r => if cls c = cls d then (o, n + 1) :: r else (o, 1) :: (a, n) :: r
    | _, _ => [(o, 1)]

theorem rn_one (o : Nat) (c : Int) : rn o [c] = [(o, 1)] := rfl
theorem rn_ne (o : Nat) (c : Int) (t : List Int) : rn o (c :: t) ≠ [] := by
  simp only [rn]
  split
  · split <;> simp
  · simp
theorem rn_cons (o : Nat) (c d : Int) (t : List Int) : ∃ a n r, rn (o + 1) (d :: t) = (a, n) :: r ∧ rn o (c :: d :: t) = if cls c = cls d then (o, n + 1) :: r else (o, 1) :: (a, n) :: r := by
  have h := rn_ne (o + 1) d t
  generalize he : rn (o + 1) (d :: t) = L at h
  cases L with
  | nil => exact absurd rfl h
  | cons x r =>
    obtain ⟨a, n⟩ := x
    refine ⟨a, n, r, rfl, ?_⟩
    rw [show rn o (c :: d :: t) = (match d :: t, rn (o + 1) (d :: t) with | d :: _, (a, n) :: r => if cls c = cls d then (o, n + 1) :: r else (o, 1) :: (a, n) :: r | _, _ => [(o, 1)]) from rfl, he]

/-- The runs lie one behind the other over the whole text. -/
def Cov (p : List Int) : Nat → List NN → Prop
  | o, [] => o = p.length
  | o, (a, n) :: r => a = o ∧ 1 ≤ n ∧ o + n ≤ p.length ∧ (∀ i, o ≤ i → (h : i < o + n) → ∀ (h1 : i < p.length) (h2 : o < p.length), cls p[i] = cls p[o]) ∧ (∀ (h1 : o + n < p.length) (h2 : o + n - 1 < p.length), cls p[o + n] ≠ cls p[o + n - 1]) ∧ Cov p (o + n) r

theorem cov_rn (p : List Int) (m : Nat) : ∀ o, o + m = p.length → Cov p o (rn o (p.drop o)) := by
  induction m with
  | zero => intro o h; rw [List.drop_eq_nil_of_le (by omega)]; simp only [rn, Cov]; omega
  | succ m ih =>
    intro o h
    have hlt : o < p.length := by omega
    have hnext := ih (o + 1) (by omega)
    rw [drop_at p o hlt]
    by_cases h1 : o + 1 < p.length
    · rw [drop_at p (o + 1) h1] at hnext ⊢
      obtain ⟨a, n, r, e1, e2⟩ := rn_cons o p[o] p[o + 1] (p.drop (o + 1 + 1))
      rw [e1] at hnext
      rw [e2]
      obtain ⟨ha, hn, hle, hsame, hdiff, hr⟩ := hnext
      by_cases hc : cls p[o] = cls p[o + 1]
      · rw [if_pos hc]
        refine ⟨rfl, by omega, by omega, ?_, ?_, ?_⟩
        · intro i h2 h3 h4 h5
          rcases Nat.lt_or_ge o i with h6 | h6
          · rw [hsame i (by omega) (by omega) h4 h1, ← hc]
          · have : i = o := by omega
            subst this; rfl
        · intro h2 h3
          have := hdiff (by omega) (by omega)
          simp only [show o + 1 + n = o + (n + 1) by omega] at this
          exact this
        · rw [show o + (n + 1) = o + 1 + n by omega]; exact hr
      · rw [if_neg hc]
        refine ⟨rfl, by omega, by omega, ?_, ?_, ha, hn, hle, hsame, hdiff, hr⟩
        · intro i h2 h3 h4 h5
          have : i = o := by omega
          subst this; rfl
        · intro h2 h3
          simp only [show o + 1 - 1 = o by omega]
          exact fun e => hc e.symm
    · rw [List.drop_eq_nil_of_le (by omega), rn_one]
      refine ⟨rfl, by omega, by omega, ?_, ?_, ?_⟩
      · intro i h2 h3 h4 h5
        have : i = o := by omega
        subst this; rfl
      · intro h2 h3; omega
      · simp only [Cov]; omega

/-- One byte more at the end. -/
theorem rn_snoc (x : List Int) (c : Int) : ∀ o (h : x ≠ []), ∃ l a n, rn o x = l ++ [(a, n)] ∧ rn o (x ++ [c]) = if cls (x.getLast h) = cls c then l ++ [(a, n + 1)] else l ++ [(a, n)] ++ [(o + x.length, 1)] := by
  induction x with
  | nil => intro o h; exact absurd rfl h
  | cons d t ih =>
    intro o h
    cases t with
    | nil =>
      refine ⟨[], o, 1, rfl, ?_⟩
      obtain ⟨a, n, r, e1, e2⟩ := rn_cons o d c []
      rw [rn_one, List.cons.injEq, Prod.mk.injEq] at e1
      obtain ⟨⟨rfl, rfl⟩, rfl⟩ := e1
      rw [List.cons_append, List.nil_append, e2]
      simp
    | cons e t =>
      obtain ⟨l, a, n, h1, h2⟩ := ih (o + 1) (by simp)
      obtain ⟨a1, n1, r1, e1, e2⟩ := rn_cons o d e t
      obtain ⟨a2, n2, r2, f1, f2⟩ := rn_cons o d e (t ++ [c])
      rw [List.cons_append] at h2
      rw [h2] at f1
      rw [h1] at e1
      rw [List.cons_append, List.cons_append, f2, e2]
      have hl : (d :: e :: t).getLast h = (e :: t).getLast (by simp) := List.getLast_cons (by simp)
      rw [hl]
      cases l with
      | nil =>
        simp only [List.nil_append, List.cons.injEq, Prod.mk.injEq] at e1
        obtain ⟨⟨rfl, rfl⟩, rfl⟩ := e1
        by_cases hc : cls ((e :: t).getLast (by simp)) = cls c
        · simp only [hc, if_true, List.nil_append, List.cons.injEq, Prod.mk.injEq] at f1
          obtain ⟨⟨rfl, rfl⟩, rfl⟩ := f1
          by_cases hd : cls d = cls e
          · exact ⟨[], o, n + 1, by simp [hd], by simp [hc, hd]⟩
          · exact ⟨[(o, 1)], a, n, by simp [hd], by simp [hc, hd]⟩
        · simp only [hc, if_false, List.nil_append, List.cons_append, List.cons.injEq, Prod.mk.injEq] at f1
          obtain ⟨⟨rfl, rfl⟩, rfl⟩ := f1
          by_cases hd : cls d = cls e
          · exact ⟨[], o, n + 1, by simp [hd], by simp [hc, hd]; omega⟩
          · exact ⟨[(o, 1)], a, n, by simp [hd], by simp [hc, hd]; omega⟩
      | cons y l =>
        obtain ⟨ya, yn⟩ := y
        simp only [List.cons_append, List.cons.injEq, Prod.mk.injEq] at e1
        obtain ⟨⟨rfl, rfl⟩, rfl⟩ := e1
        by_cases hc : cls ((e :: t).getLast (by simp)) = cls c
        · simp only [hc, if_true, List.cons_append, List.cons.injEq, Prod.mk.injEq] at f1
          obtain ⟨⟨rfl, rfl⟩, rfl⟩ := f1
          by_cases hd : cls d = cls e
          · exact ⟨(o, yn + 1) :: l, a, n, by simp [hd], by simp [hc, hd]⟩
          · exact ⟨(o, 1) :: (ya, yn) :: l, a, n, by simp [hd], by simp [hc, hd]⟩
        · simp only [hc, if_false, List.cons_append, List.cons.injEq, Prod.mk.injEq] at f1
          obtain ⟨⟨rfl, rfl⟩, rfl⟩ := f1
          by_cases hd : cls d = cls e
          · exact ⟨(o, yn + 1) :: l, a, n, by simp [hd], by simp [hc, hd]; omega⟩
          · exact ⟨(o, 1) :: (ya, yn) :: l, a, n, by simp [hd], by simp [hc, hd]; omega⟩

/-- What holds of every run. -/
theorem cov_mem (p : List Int) (L : List NN) : ∀ o, Cov p o L → ∀ x ∈ L, o ≤ x.1 ∧ 1 ≤ x.2 ∧ x.1 + x.2 ≤ p.length := by
  induction L with
  | nil => intro o _ x hx; simp at hx
  | cons y r ih =>
    obtain ⟨a, n⟩ := y
    intro o h x hx
    obtain ⟨ha, hn, hle, _, _, hr⟩ := h
    rcases List.mem_cons.1 hx with rfl | hx
    · exact ⟨by simp only; omega, hn, by simp only; omega⟩
    · have := ih _ hr x hx; exact ⟨by omega, this.2⟩

theorem rn_mem (p : List Int) : ∀ x ∈ rn 0 p, 1 ≤ x.2 ∧ x.1 + x.2 ≤ p.length := by
  have := cov_rn p p.length 0 (by omega)
  simp only [List.drop_zero] at this
  exact fun x hx => (cov_mem p _ 0 this x hx).2

theorem rn_length (q : List Int) : ∀ o, (rn o q).length ≤ q.length := by
  induction q with
  | nil => intro o; simp [rn]
  | cons c t ih =>
    intro o
    cases t with
    | nil => simp [rn]
    | cons d t =>
      obtain ⟨a, n, r, e1, e2⟩ := rn_cons o c d t
      have := ih (o + 1)
      rw [e1] at this
      rw [e2]
      simp only [List.length_cons] at *
      split <;> simp only [List.length_cons] <;> omega

/-- The starts ascend. -/
def Asc (L : List NN) : Prop := L.Pairwise fun x y => x.1 < y.1
theorem cov_asc (p : List Int) (L : List NN) : ∀ o, Cov p o L → Asc L := by
  induction L with
  | nil => intro o _; exact List.Pairwise.nil
  | cons y r ih =>
    obtain ⟨a, n⟩ := y
    intro o h
    obtain ⟨ha, hn, hle, _, _, hr⟩ := h
    exact List.Pairwise.cons (fun x hx => by have := cov_mem p r _ hr x hx; simp only; omega) (ih _ hr)
theorem rn_asc (p : List Int) : Asc (rn 0 p) := by
  have := cov_rn p p.length 0 (by omega)
  simp only [List.drop_zero] at this
  exact cov_asc p _ 0 this

/-- The runs that are words. -/
def wrds (p : List Int) : List NN := (rn 0 p).filter fun x => decide (2 ≤ cls (p.getD x.1 0))
theorem wrds_asc (p : List Int) : Asc (wrds p) := (rn_asc p).filter _
theorem wrds_mem (p : List Int) : ∀ x ∈ wrds p, 1 ≤ x.2 ∧ x.1 + x.2 ≤ p.length := fun x hx => rn_mem p x (List.mem_filter.1 hx).1

/-- The first start behind a place. -/
def fwd (len : Nat) (a : Int) : List NN → Int
  | [] => (len : Int)
  | x :: r => if (x.1 : Int) > a then (x.1 : Int) else fwd len a r
/-- The last start ahead of a place. -/
def bck (a : Int) : Int → List NN → Int
  | d, [] => d
  | d, x :: r => bck a (if (x.1 : Int) < a then (x.1 : Int) else d) r

/-- How many runs. -/
theorem rn_len_cons (o : Nat) (c d : Int) (t : List Int) : (rn o (c :: d :: t)).length = (rn (o + 1) (d :: t)).length + if cls c = cls d then 0 else 1 := by
  obtain ⟨a, n, r, e1, e2⟩ := rn_cons o c d t
  rw [e1, e2]
  split <;> simp
theorem rn_len_off (q : List Int) : ∀ o o', (rn o q).length = (rn o' q).length := by
  induction q with
  | nil => intro o o'; rfl
  | cons c t ih =>
    intro o o'
    cases t with
    | nil => rfl
    | cons d t => rw [rn_len_cons, rn_len_cons, ih (o + 1) (o' + 1)]
theorem rn_len_append (a b : List Int) (ha : a ≠ []) (hb : b ≠ []) : ∀ o, (rn o (a ++ b)).length + (if cls (a.getLast ha) = cls (b.head hb) then 1 else 0) = (rn o a).length + (rn 0 b).length := by
  induction a with
  | nil => exact absurd rfl ha
  | cons c t ih =>
    intro o
    cases t with
    | nil =>
      cases b with
      | nil => exact absurd rfl hb
      | cons d b =>
        have e1 : (rn o ([c] ++ d :: b)).length = (rn 0 (d :: b)).length + if cls c = cls d then 0 else 1 := by
          rw [List.cons_append, List.nil_append, rn_len_cons, rn_len_off (d :: b) (o + 1) 0]
        rw [e1, rn_one, List.length_singleton]
        by_cases hcd : cls c = cls d
        · rw [if_pos hcd, if_pos (show cls ([c].getLast ha) = cls ((d :: b).head hb) from hcd)]; omega
        · rw [if_neg hcd, if_neg (show ¬ cls ([c].getLast ha) = cls ((d :: b).head hb) from hcd)]; omega
    | cons e t =>
      have := ih (by simp) (o + 1)
      rw [List.cons_append, List.cons_append, rn_len_cons, rn_len_cons, List.getLast_cons (by simp)]
      rw [List.cons_append] at this
      omega

theorem cls_nl {c : Int} : cls c = 1 ↔ c = 10 := by
  unfold cls
  repeat' split
  all_goals omega

/-- The bytes in pieces and the blanks are all bytes. -/
def sumN (l : List NN) : Nat := (l.map (·.2)).sum
theorem sumN_append (a b : List NN) : sumN (a ++ b) = sumN a + sumN b := by simp [sumN]
theorem stepS_sum (l : List NN) (i : Nat) (c : Int) : sumN (stepS l i c) = sumN l + if ws c then 0 else 1 := by
  by_cases hw : ws c
  · rw [stepS_ws hw, if_pos hw]; omega
  · rw [if_neg hw]
    rcases List.eq_nil_or_concat l with rfl | ⟨l', ⟨a, n⟩, rfl⟩
    · rw [stepS_nil hw]; simp [sumN]
    · simp only [List.concat_eq_append]
      by_cases e : a + n = i
      · rw [stepS_last hw e, sumN_append, sumN_append]; simp [sumN]; omega
      · rw [stepS_new hw e, sumN_append (l' ++ [(a, n)])]; simp [sumN]
def nws (t : List Int) : Nat := (t.filter fun c => decide (ws c)).length
theorem solG_sum (t : List Int) : ∀ (l : List NN) (i : Nat), sumN (solG l i t) + nws t = sumN l + t.length := by
  induction t with
  | nil => intro l i; simp [solG, nws]
  | cons c t ih =>
    intro l i
    have h := ih (stepS l i c) (i + 1)
    rw [stepS_sum] at h
    simp only [solG, List.length_cons]
    unfold nws at h ⊢
    by_cases hw : ws c
    · rw [if_pos hw] at h
      rw [List.filter_cons_of_pos (by simpa using hw), List.length_cons]; omega
    · rw [if_neg hw] at h
      rw [List.filter_cons_of_neg (by simpa using hw)]; omega
theorem sol_sum (p : List Int) : sumN (sol p) + nws p = p.length := by
  have := solG_sum p [] 0
  simpa [sol, sumN] using this

/-- Pieces ahead of a line's end and behind it. -/
theorem sol_apart (a b : List Int) : (sol (a ++ 10 :: b)).length = (sol a).length + (sol b).length := by
  obtain ⟨D, last, rfl, hD, hl⟩ := decomp_of b
  have h1 : sol (a ++ 10 :: (flat D ++ last)) = solG (sol a) (a.length + 1) (flat D ++ last) := by
    unfold sol
    rw [solG_append]
    simp only [solG]
    rw [stepS_ws (.inr (.inr rfl)), Nat.zero_add]
  have hw := sol_within a
  have h2 := sol_flat D true last (sol a) (a.length + 1) hD hl (fun _ l' x n e => by have := hw (x, n) (by simp [e]); simp at this; omega) (by simp)
  rw [h1, h2, List.length_append, offs_length, sol_offs hD hl, offs_length]

end Go.Proofs.YtkdecmgockgmkaaDoor.Gen
