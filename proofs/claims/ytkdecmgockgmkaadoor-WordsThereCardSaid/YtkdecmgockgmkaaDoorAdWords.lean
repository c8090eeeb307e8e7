/- What the program's function that cuts a text into runs computes. -/
import Derived.Test.YtkdecmgockgmkaaDoorAdClass
import Derived.Test.YtkdecmgockgmkaaDoorAdMk
import Derived.Test.YtkdecmgockgmkaaDoorGenBase
import Derived.Test.YtkdecmgockgmkaaDoorGenKeep
import Derived.Test.YtkdecmgockgmkaaDoorGenWords
import Derived.Test.YtkdecmgockgmkaaDoorPax0
import Derived.Test.YtkdecmgockgmkaaDoorPax1
namespace Go.Proofs.YtkdecmgockgmkaaDoor.Ad
open Go Go.RowKit Go.Proofs.YtkdecmgockgmkaaDoor.Pa Go.Proofs.YtkdecmgockgmkaaDoorW.PrintWords Go.Proofs.YtkdecmgockgmkaaDoorW.PrintLast Go.Proofs.YtkdecmgockgmkaaDoorW.PrintMore Go.Proofs.YtkdecmgockgmkaaDoor.Gen
set_option linter.unusedVariables false
set_option linter.unusedSimpArgs false

theorem take_last (p : List Int) (i : Nat) (h0 : 0 < i) (h : i ≤ p.length) (hne : p.take i ≠ []) : (p.take i).getLast hne = p[i - 1]'(by omega) := by
  rw [List.getLast_eq_getElem, List.getElem_take]
  simp only [List.length_take, show min i p.length - 1 = i - 1 by omega]
theorem words_Runs_l0 (p : List Int) (hp : p.length ≤ 1000000) (m : Nat) : ∀ (k i : Nat), i + m = p.length → m < k →
    words_Runs.l0 k p ((rn 0 (p.take i)).map mk) (i : Int) = some ((rn 0 p).map mk) := by
  induction m with
  | zero =>
    intro k i hi hk
    obtain ⟨k, rfl⟩ := ex_succ hk
    rw [words_Runs.l0, if_neg (by omega), List.take_of_length_le (by omega)]
  | succ m ih =>
    intro k i hi hk
    obtain ⟨k, rfl⟩ := ex_succ hk
    have hlt : i < p.length := by omega
    have hnext := ih k (i + 1) (by omega) (by omega)
    rw [List.take_succ_eq_append_getElem hlt] at hnext
    have hw1 : wrap64 ((i : Int) + 1) = ((i + 1 : Nat) : Int) := wnat (by omega)
    rw [words_Runs.l0, hw1]
    clear hw1
    rw [if_pos (by omega)]
    by_cases h0 : i = 0
    · subst h0
      have e0 : (rn 0 (p.take 0)).map mk = [] := rfl
      rw [List.take_zero, List.nil_append, rn_one] at hnext
      rw [e0, if_neg (by simp [wrap64]), if_pos (by simp)]
      exact hnext
    · have hne : p.take i ≠ [] := by intro e; have := congrArg List.length e; simp only [List.length_take, List.length_nil] at this; omega
      obtain ⟨l, a, n, h1, h2⟩ := rn_snoc (p.take i) p[i] 0 hne
      have hl1 := rn_length (p.take i) 0
      rw [h1] at hl1
      simp only [List.length_append, List.length_cons, List.length_nil, List.length_take] at hl1
      have hmem := rn_mem (p.take i) (a, n) (by rw [h1]; simp)
      simp only [List.length_take] at hmem
      have hnb : n ≤ 1000000 := by have := hmem.2; omega
      have hi1 : i - 1 < p.length := by omega
      rw [take_last p i (by omega) (by omega) hne] at h2
      simp only [List.length_take, Nat.zero_add] at h2
      rw [show min i p.length = i by omega] at h2
      rw [h2] at hnext
      rw [h1]
      have hll : l.length ≤ 1000000 := by omega
      have hlen : wrap64 ((((l ++ [(a, n)]).map mk).length : Int) - 1) = (l.length : Int) := by
        rw [show (((l ++ [(a, n)]).map mk).length : Int) - 1 = (l.length : Int) by simp]
        exact wid (by omega) (by omega)
      have hwi : wrap64 ((i : Int) - 1) = ((i - 1 : Nat) : Int) := by
        clear hlen
        rw [show (i : Int) - 1 = ((i - 1 : Nat) : Int) by omega]; exact wid (by omega) (by omega)
      have hrd : rd_T29 ((l ++ [(a, n)]).map mk) (l.length : Int) = mk (a, n) := by
        rw [rd_mk _ _ (by simp)]; simp
      have hlen2 : (((l ++ [(a, n)]).map mk).length : Int) = ((l.length + 1 : Nat) : Int) := by simp
      have hw1 : wrap64 ((mk (a, n)).f1 + 1) = ((n + 1 : Nat) : Int) := by clear hlen hwi; exact wnat (n := n) (by omega)
      have hcap : ((l ++ [(a, n)]).map mk).length < 8796093022208 := by
        clear hlen hwi hw1
        simp only [List.length_map, List.length_append, List.length_cons, List.length_nil]; omega
      rw [hlen, hwi, hrd, hw1, if_pos hcap, hlen2]
      clear hlen hwi hw1 hlen2
      rw [if_pos (by omega), if_pos (by omega), rd_nat p i hlt, words_Class_spec, Option.bind_some, if_pos (by omega), if_pos (by omega), rd_nat p (i - 1) hi1, words_Class_spec, Option.bind_some]
      by_cases hc : cls p[i - 1] = cls p[i]
      · rw [if_pos hc] at hnext
        have hset : ((l ++ [(a, n)]).map mk).set ((l.length : Int)).toNat (⟨(mk (a, n)).f0, ((n + 1 : Nat) : Int)⟩ : S29) = (l ++ [(a, n + 1)]).map mk := by simp [mk]
        rw [if_pos hc.symm, if_pos (by omega), if_pos (by omega), hset]
        exact hnext
      · rw [if_neg hc] at hnext
        have hset : ((l ++ [(a, n)]).map mk) ++ [(⟨(i : Int), 1⟩ : S29)] = (l ++ [(a, n)] ++ [(i, 1)]).map mk := by simp [mk]
        rw [if_neg (fun e => hc e.symm), hset]
        exact hnext
theorem words_Runs_spec (p : List Int) (hp : p.length ≤ 1000000) (k : Nat) (hk : p.length < k) : words_Runs.f k p = some ((rn 0 p).map mk) := by
  have := words_Runs_l0 p hp p.length k 0 (by omega) hk
  simpa [words_Runs.f, rn] using this

end Go.Proofs.YtkdecmgockgmkaaDoor.Ad
