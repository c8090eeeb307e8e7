/- What the program's functions of layer 5 (classes, pieces) compute, and the document's. -/
import Derived.Test.YtemmalkgjfdlcaaGenBase
import Derived.Test.YtemmalkgjfdlcaaGenKeep
import Derived.Test.YtemmalkgjfdlcaaPax0
import Derived.Test.YtemmalkgjfdlcaaPax1
import Derived.Test.YtemmalkgjfdlcaaPax3
namespace Go.Proofs.Ytemmalkgjfdlcaa.Ad
open Go Go.RowKit Go.Proofs.Ytemmalkgjfdlcaa.Pa Go.Proofs.YtemmalkgjfdlcaaW.PrintWords Go.Proofs.YtemmalkgjfdlcaaW.PrintLast Go.Proofs.YtemmalkgjfdlcaaW.PrintMore Go.Proofs.Ytemmalkgjfdlcaa.Gen
set_option linter.unusedVariables false
set_option linter.unusedSimpArgs false

theorem ex_succ {k n : Nat} (h : n < k) : ∃ m, k = m + 1 := ⟨k - 1, by omega⟩
def mk (x : NN) : S33 := ⟨(x.1 : Int), (x.2 : Int)⟩
theorem rd_mk (l : List NN) (i : Nat) (h : i < l.length) : rd_T33 (l.map mk) (i : Int) = mk l[i] := by
  simp [rd_T33, h]
theorem words_empty_spec (c : Int) : words_empty.f c = some (decide (c ≤ 1)) := rfl
theorem glyph_Blank_spec (c : Int) : glyph_Blank.f c = some (decide (c = 32 ∨ c = 9)) := by
  unfold glyph_Blank.f
  split
  · simp [*]
  · rw [Option.some_inj, Bool.eq_iff_iff]; simp; omega
theorem platenref01_Blank_spec (c : Int) : platenref01_Blank.f c = some (decide (c = 32 ∨ c = 9)) := by
  unfold platenref01_Blank.f
  split
  · simp [*]
  · rw [Option.some_inj, Bool.eq_iff_iff]; simp; omega
theorem words_Class_spec (c : Int) : words_Class.f c = some (cls c) := by
  unfold words_Class.f cls
  rw [glyph_Blank_spec, Option.bind_some]
  simp only [decide_eq_true_eq]
  repeat' split
  all_goals first | rfl | (exfalso; omega)
theorem platenref05_Class_spec (c : Int) : platenref05_Class.f c = some (cls c) := by
  unfold platenref05_Class.f cls
  rw [platenref01_Blank_spec, Option.bind_some]
  simp only [decide_eq_true_eq]
  repeat' split
  all_goals first | rfl | (exfalso; omega)
theorem words_Solid_l0 (p : List Int) (hp : p.length ≤ 1000000) (t : List Int) : ∀ (k : Nat) (l : List NN) (i : Nat), i + t.length = p.length → p.drop i = t → Within l i → l.length ≤ i → t.length < k →
    words_Solid.l0 k p (l.map mk) (p.length : Int) (i : Int) = some ((solG l i t).map mk) := by
  induction t with
  | nil =>
    intro k l i hi _ _ _ hk
    obtain ⟨k, rfl⟩ := ex_succ hk
    simp only [words_Solid.l0, solG, List.length_nil] at *
    rw [if_neg (by omega)]
  | cons c t ih =>
    intro k l i hi hd hw hll hk
    obtain ⟨k, rfl⟩ := ex_succ hk
    simp only [List.length_cons] at hi hk
    have hlt : i < p.length := by omega
    rw [drop_at p i hlt, List.cons.injEq] at hd
    obtain ⟨hc, hd⟩ := hd
    have hstep := stepS_within (c := c) hw
    have hsl := stepS_length (l := l) (i := i) (c := c)
    have key := ih k (stepS l i c) (i + 1) (by omega) hd hstep (by omega) (by omega)
    simp only [words_Solid.l0, solG]
    rw [if_pos (by omega), if_pos (by omega), if_pos (by omega), rd_nat p i hlt, hc, words_Class_spec, Option.bind_some, words_empty_spec, Option.bind_some, wnat (by omega), ← key]
    by_cases hws : ws c
    · rw [if_pos (by simpa [cls_ws] using hws), stepS_ws hws]
    · rw [if_neg (by simpa [cls_ws] using hws)]
      rcases List.eq_nil_or_concat l with rfl | ⟨l', ⟨a, n⟩, rfl⟩
      · rw [stepS_nil hws, if_neg (by simp [wrap64]), if_pos (by simp)]
        simp [mk]
      · simp only [List.concat_eq_append] at *
        have han := hw (a, n) (by simp)
        simp only at han
        have hlen2 : ((l' ++ [(a, n)]).map mk).length = l'.length + 1 := by simp
        have c1 : (l'.length : Int) ≥ 0 := by omega
        have c2 : 0 ≤ (l'.length : Int) := by omega
        have c3 : (l'.length : Int) < ((l'.length + 1 : Nat) : Int) := by omega
        have c5 : l'.length + 1 < 8796093022208 := by simp only [List.length_append, List.length_cons, List.length_nil] at hll; omega
        have ew : a + n = i → (a : Int) + (n : Int) = (i : Int) := fun _ => by omega
        have ew' : ¬ a + n = i → ¬ ((a : Int) + (n : Int) = (i : Int)) := fun _ => by omega
        have hwe : wrap64 ((mk (a, n)).f0 + (mk (a, n)).f1) = (a : Int) + (n : Int) := wid (x := (a : Int) + (n : Int)) (by omega) (by omega)
        have hwn : wrap64 ((mk (a, n)).f1 + 1) = ((n + 1 : Nat) : Int) := wnat (n := n) (by clear hwe; omega)
        have hlen : wrap64 (((l'.length + 1 : Nat) : Int) - 1) = (l'.length : Int) := by
          clear hwe hwn
          rw [show ((l'.length + 1 : Nat) : Int) - 1 = (l'.length : Int) by omega]
          exact wid (by omega) (by omega)
        have hrd : rd_T33 ((l' ++ [(a, n)]).map mk) (l'.length : Int) = mk (a, n) := by
          rw [rd_mk _ _ (by simp)]; simp
        rw [hlen2, hlen, hrd, if_pos c1, if_pos c2, if_pos c3, hwe, hwn]
        by_cases e : a + n = i
        · have hset : ((l' ++ [(a, n)]).map mk).set ((l'.length : Int)).toNat (⟨(mk (a, n)).f0, ((n + 1 : Nat) : Int)⟩ : S33) = (l' ++ [(a, n + 1)]).map mk := by simp [mk]
          rw [if_pos (ew e), stepS_last hws e, hset]
        · have hset : ((l' ++ [(a, n)]).map mk) ++ [(⟨(i : Int), 1⟩ : S33)] = (l' ++ [(a, n)] ++ [(i, 1)]).map mk := by simp [mk]
          rw [if_neg (ew' e), if_pos c5, stepS_new hws e, hset]

theorem words_Solid_spec (p : List Int) (hp : p.length ≤ 1000000) (k : Nat) (hk : p.length < k) : words_Solid.f k p = some ((sol p).map mk) := by
  have := words_Solid_l0 p hp p k [] 0 (by simp) (by simp) (fun x hx => by simp at hx) (by simp) hk
  simpa [words_Solid.f, sol] using this
theorem platenref05_Solid_l (p : List Int) (hp : p.length ≤ 1000000) (m : Nat) : ∀ (k : Nat) (l : List NN) (i : Nat), i + m = p.length → l.length ≤ i → 2 * m + 1 < k →
    (EndsB l i ∨ (∀ h : i < p.length, ws p[i]) → Within l i → platenref05_Solid.l0 k p (l.map mk) (i : Int) = some ((solG l i (p.drop i)).map mk)) ∧
    (∀ a : Nat, a < i → EndsB l a → Within l a → l.length ≤ a → platenref05_Solid.l1 k p (l.map mk) (i : Int) (a : Int) = some ((solG (l ++ [(a, i - a)]) i (p.drop i)).map mk)) := by
  induction m using Nat.strongRecOn with
  | _ m ih =>
    intro k l i hi hll hk
    obtain ⟨k, rfl⟩ := ex_succ hk
    constructor
    · intro he hwi
      simp only [platenref05_Solid.l0]
      by_cases hlt : i < p.length
      · rw [if_pos (by omega), if_pos (by omega), rd_nat p i hlt, platenref05_Class_spec, Option.bind_some, drop_at p i hlt]
        simp only [solG]
        by_cases hws : ws p[i]
        · rw [if_pos (by have := cls_ws.2 hws; omega), stepS_ws hws, wnat (by omega)]
          exact (ih (m - 1) (by omega) k l (i + 1) (by omega) (by omega) (by omega)).1 (.inl (fun l' a n e => by have := hwi (a, n) (by simp [e]); simp at this; omega)) (fun x hx => by have := hwi x hx; omega)
        · rw [if_neg (by have := cls_big hws; omega)]
          have he' : EndsB l i := by
            rcases he with he | he
            · exact he
            · exact absurd (he hlt) hws
          -- the inner loop's first round is at this very place
          obtain ⟨k, rfl⟩ := ex_succ (n := 0) (k := k) (by omega)
          simp only [platenref05_Solid.l1]
          rw [if_pos (by omega), if_pos (by omega), rd_nat p i hlt, platenref05_Class_spec, Option.bind_some, if_pos (by have := cls_big hws; omega), wnat (by omega)]
          have := (ih (m - 1) (by omega) k l (i + 1) (by omega) (by omega) (by omega)).2 i (by omega) he' hwi hll
          rw [this]
          rcases List.eq_nil_or_concat l with rfl | ⟨l', ⟨a, n⟩, rfl⟩
          · rw [stepS_nil hws]; simp
          · simp only [List.concat_eq_append] at *
            have := he' l' a n rfl
            rw [stepS_new hws (by omega)]; simp
      · rw [if_neg (by omega), List.drop_eq_nil_of_le (by omega)]
        simp [solG]
    · intro a ha he hwa hla
      have hrow : (l.map mk ++ [(⟨(a : Int), wrap64 ((i : Int) - (a : Int))⟩ : S33)]) = (l ++ [(a, i - a)]).map mk := by
        rw [wid (by omega) (by omega)]
        have : ((i - a : Nat) : Int) = (i : Int) - (a : Int) := by omega
        simp [mk, this]
      simp only [platenref05_Solid.l1]
      by_cases hlt : i < p.length
      · rw [if_pos (by omega), if_pos (by omega), rd_nat p i hlt, platenref05_Class_spec, Option.bind_some, wnat (by omega), drop_at p i hlt]
        simp only [solG]
        by_cases hws : ws p[i]
        · rw [if_neg (by have := cls_ws.2 hws; omega), if_pos (by simp; omega), hrow, stepS_ws hws]
          exact (ih (m - 1) (by omega) k (l ++ [(a, i - a)]) (i + 1) (by omega) (by simp; omega) (by omega)).1 (.inl (Ends_snoc (by omega))) (fun x hx => by
            rcases List.mem_append.1 hx with hx | hx
            · have := hwa x hx; omega
            · simp at hx; subst hx; simp; omega)
        · rw [if_pos (by have := cls_big hws; omega)]
          have := (ih (m - 1) (by omega) k l (i + 1) (by omega) (by omega) (by omega)).2 a (by omega) he hwa hla
          rw [this, stepS_last hws (by omega), show i + 1 - a = i - a + 1 by omega]
      · rw [if_neg (by omega), List.drop_eq_nil_of_le (by omega), if_pos (by simp; omega), hrow, wnat (by omega)]
        obtain ⟨k, rfl⟩ := ex_succ (n := 0) (k := k) (by omega)
        simp only [solG, platenref05_Solid.l0]
        rw [if_neg (by omega)]

theorem platenref05_Solid_spec (p : List Int) (hp : p.length ≤ 1000000) (k : Nat) (hk : 2 * p.length + 1 < k) : platenref05_Solid.f k p = some ((sol p).map mk) := by
  have := (platenref05_Solid_l p hp p.length k [] 0 (by simp) (by simp) hk).1 (.inl (fun l' a n e => by simp at e)) (fun x hx => by simp at hx)
  simpa [platenref05_Solid.f, sol] using this

end Go.Proofs.Ytemmalkgjfdlcaa.Ad
