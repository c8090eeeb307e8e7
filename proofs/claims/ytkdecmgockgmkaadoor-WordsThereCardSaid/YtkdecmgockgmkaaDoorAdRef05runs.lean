/- What the document's runs and words compute. -/
import Derived.Test.YtkdecmgockgmkaaDoorAdMk
import Derived.Test.YtkdecmgockgmkaaDoorAdRef05class
import Derived.Test.YtkdecmgockgmkaaDoorAdWords
import Derived.Test.YtkdecmgockgmkaaDoorGenBase
import Derived.Test.YtkdecmgockgmkaaDoorGenKeep
import Derived.Test.YtkdecmgockgmkaaDoorGenWords
import Derived.Test.YtkdecmgockgmkaaDoorPax0
import Derived.Test.YtkdecmgockgmkaaDoorPax3
namespace Go.Proofs.YtkdecmgockgmkaaDoor.Ad
open Go Go.RowKit Go.Proofs.YtkdecmgockgmkaaDoor.Pa Go.Proofs.YtkdecmgockgmkaaDoorW.PrintWords Go.Proofs.YtkdecmgockgmkaaDoorW.PrintLast Go.Proofs.YtkdecmgockgmkaaDoorW.PrintMore Go.Proofs.YtkdecmgockgmkaaDoor.Gen
set_option linter.unusedVariables false
set_option linter.unusedSimpArgs false

theorem platenref05_Runs_l0 (p : List Int) (hp : p.length ≤ 1000000) (m : Nat) : ∀ (k i a : Nat) (l : List NN), i + m = p.length + 1 → a < i → i ≤ p.length → (∀ (h1 : i - 1 < p.length) (h2 : a < p.length), cls p[i - 1] = cls p[a]) → rn 0 (p.take i) = l ++ [(a, i - a)] → m < k →
    platenref05_Runs.l0 k p (l.map mk) (a : Int) (i : Int) = some ((rn 0 p).map mk) := by
  induction m with
  | zero => intro k i a l hi ha hle _ _ _; omega
  | succ m ih =>
    intro k i a l hi ha hle hsame hl hk
    obtain ⟨k, rfl⟩ := ex_succ hk
    have hl1 := rn_length (p.take i) 0
    rw [hl] at hl1
    simp only [List.length_append, List.length_cons, List.length_nil, List.length_take] at hl1
    have hcap : (l.map mk).length < 8796093022208 := by simp only [List.length_map]; omega
    have hrow : (l.map mk ++ [(⟨(a : Int), wrap64 ((i : Int) - (a : Int))⟩ : S29)]) = (l ++ [(a, i - a)]).map mk := by
      rw [wid (by omega) (by omega)]
      have : ((i - a : Nat) : Int) = (i : Int) - (a : Int) := by omega
      simp [mk, this]
    rw [platenref05_Runs.l0, hrow]
    clear hrow
    rw [if_pos (by omega), if_pos hcap]
    by_cases hend : i = p.length
    · rw [if_pos (by omega)]
      have e1 : p.take i = p := List.take_of_length_le (by omega)
      rw [e1] at hl
      rw [← hl]
      have hw1 : wrap64 ((i : Int) + 1) = ((i + 1 : Nat) : Int) := wnat (by omega)
      rw [hw1]
      clear hw1
      obtain ⟨k, rfl⟩ : ∃ k', k = k' + 1 := ⟨k - 1, by omega⟩
      rw [platenref05_Runs.l0, if_neg (by omega)]
    · have hlt : i < p.length := by omega
      have halt : a < p.length := by omega
      have hi1 : i - 1 < p.length := by omega
      have hs := hsame hi1 halt
      have hne : p.take i ≠ [] := by intro e; have := congrArg List.length e; simp only [List.length_take, List.length_nil] at this; omega
      obtain ⟨l', a', n', h1, h2⟩ := rn_snoc (p.take i) p[i] 0 hne
      rw [take_last p i (by omega) (by omega) hne, hs] at h2
      simp only [List.length_take, Nat.zero_add] at h2
      rw [show min i p.length = i by omega] at h2
      rw [hl] at h1
      have hll := List.append_inj' h1 rfl
      obtain ⟨rfl, h3⟩ := hll
      simp only [List.cons.injEq, and_true, Prod.mk.injEq] at h3
      obtain ⟨rfl, rfl⟩ := h3
      rw [if_neg (by omega), if_pos (by omega), if_pos (by omega), rd_nat p i hlt, platenref05_Class_spec, Option.bind_some, if_pos (by omega), if_pos (by omega), rd_nat p a halt, platenref05_Class_spec, Option.bind_some]
      have hw1 : wrap64 ((i : Int) + 1) = ((i + 1 : Nat) : Int) := wnat (by omega)
      rw [hw1]
      clear hw1
      by_cases hc : cls p[a] = cls p[i]
      · rw [if_pos hc] at h2
        rw [if_pos hc.symm]
        exact ih k (i + 1) a l (by omega) (by omega) (by omega) (fun _ _ => by simp only [show i + 1 - 1 = i by omega]; exact hc.symm) (by
          rw [List.take_succ_eq_append_getElem hlt, h2, show i + 1 - a = i - a + 1 by omega]) (by omega)
      · rw [if_neg hc] at h2
        rw [if_neg (fun e => hc e.symm)]
        exact ih k (i + 1) i (l ++ [(a, i - a)]) (by omega) (by omega) (by omega) (fun _ _ => by simp only [show i + 1 - 1 = i by omega]) (by
          rw [List.take_succ_eq_append_getElem hlt, h2, show i + 1 - i = 1 by omega]) (by omega)
theorem platenref05_Runs_spec (p : List Int) (hp : p.length ≤ 1000000) (k : Nat) (hk : p.length < k) : platenref05_Runs.f k p = some ((rn 0 p).map mk) := by
  unfold platenref05_Runs.f
  cases p with
  | nil =>
    obtain ⟨k, rfl⟩ := ex_succ hk
    rw [platenref05_Runs.l0, if_neg (by simp)]; rfl
  | cons c t =>
    have := platenref05_Runs_l0 (c :: t) hp (c :: t).length k 1 0 [] (by omega) (by omega) (by simp) (fun _ _ => rfl) (by simp [rn]) hk
    simpa using this

end Go.Proofs.YtkdecmgockgmkaaDoor.Ad
