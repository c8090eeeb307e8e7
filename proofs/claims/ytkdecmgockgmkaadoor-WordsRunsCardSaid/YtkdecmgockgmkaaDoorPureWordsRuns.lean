/- Proved: the runs lie one behind the other over all the bytes, each of one class and as long as it can be, and are the document's, for any bytes. -/
import Derived.Test.YtkdecmgockgmkaaDoorAdClass
import Derived.Test.YtkdecmgockgmkaaDoorAdMk
import Derived.Test.YtkdecmgockgmkaaDoorAdRef05runs
import Derived.Test.YtkdecmgockgmkaaDoorAdRef05same
import Derived.Test.YtkdecmgockgmkaaDoorAdSigns05
import Derived.Test.YtkdecmgockgmkaaDoorAdWords
import Derived.Test.YtkdecmgockgmkaaDoorGenBase
import Derived.Test.YtkdecmgockgmkaaDoorGenKeep
import Derived.Test.YtkdecmgockgmkaaDoorGenWords
import Derived.Test.YtkdecmgockgmkaaDoorPax3
import Derived.Test.YtkdecmgockgmkaaDoorPax4
namespace Go.Proofs.YtkdecmgockgmkaaDoor.Pure
open Go Go.RowKit Go.Proofs.YtkdecmgockgmkaaDoor.Pa Go.Proofs.YtkdecmgockgmkaaDoorW.PrintWords Go.Proofs.YtkdecmgockgmkaaDoorW.PrintLast Go.Proofs.YtkdecmgockgmkaaDoorW.PrintMore Go.Proofs.YtkdecmgockgmkaaDoor.Gen Go.Proofs.YtkdecmgockgmkaaDoor.Ad
set_option linter.unusedVariables false
set_option linter.unusedSimpArgs false

theorem runs_loop (p : List Int) (hp : p.length ≤ 300) (S : List NN) (hS : S.length ≤ 300) (hdone : ∀ k, p.length < k → S.length < k → (platenref05_Runs.f k p).bind (fun t175 => (platenref05_Same.f k (S.map mk) t175).bind fun t178 => some t178) = some true) (L : List NN) : ∀ (k o idx : Nat), Cov p o L → S.drop idx = L → idx ≤ S.length → o ≤ p.length → 4 * (p.length - o) + 310 < k →
    platenlaw05_WordsRuns.l0 k p (S.map mk) (o : Int) (idx : Int) = some true := by
  induction L with
  | nil =>
    intro k o idx hc hd hi ho hk
    obtain ⟨k, rfl⟩ := ex_succ hk
    have := congrArg List.length hd
    simp only [List.length_drop, List.length_nil] at this
    simp only [Cov] at hc
    rw [platenlaw05_WordsRuns.l0, List.length_map, if_neg (by omega), if_pos (by omega)]
    exact hdone k (by omega) (by omega)
  | cons x r ih =>
    obtain ⟨a, n⟩ := x
    intro k o idx hc hd hi ho hk
    obtain ⟨k, rfl⟩ := ex_succ hk
    obtain ⟨ha, hn, hle, hsame, hdiff, hr⟩ := hc
    subst ha
    have hlen := congrArg List.length hd
    simp only [List.length_drop, List.length_cons] at hlen
    have hlt : idx < S.length := by omega
    rw [drop_at S idx hlt, List.cons.injEq] at hd
    obtain ⟨e1, e2⟩ := hd
    have hnext := fun k hk => ih k (a + n) (idx + 1) hr e2 (by omega) (by omega) hk
    have e0 : (mk S[idx]).f0 = (a : Int) := by rw [e1]; rfl
    have e9 : (mk S[idx]).f1 = (n : Int) := by rw [e1]; rfl
    have inner : ∀ (m : Nat) (k i : Nat), i + m = a + n → a ≤ i → 4 * (p.length - (a + n)) + 310 + m + 1 < k → platenlaw05_WordsRuns.l1 k p (S.map mk) (a : Int) (idx : Int) (i : Int) = some true := by
      intro m
      induction m with
      | zero =>
        intro k i him hai hk
        obtain ⟨k, rfl⟩ := ex_succ hk
        have hnk := hnext k (by omega)
        have w1 : wrap64 ((a : Int) + (n : Int)) = ((a + n : Nat) : Int) := by
          rw [← Int.natCast_add]; exact wid (by omega) (by omega)
        have w2 : wrap64 ((idx : Int) + 1) = ((idx + 1 : Nat) : Int) := by clear w1; exact wnat (by omega)
        have w3 : wrap64 (((a + n : Nat) : Int) - 1) = ((a + n - 1 : Nat) : Int) := by
          clear w1 w2
          rw [show ((a + n : Nat) : Int) - 1 = ((a + n - 1 : Nat) : Int) by omega]; exact wid (by omega) (by omega)
        rw [platenlaw05_WordsRuns.l1, List.length_map, rd_mk S idx hlt, e9, w1, w2, w3, hnk]
        clear w1 w2 w3 hnk
        rw [if_pos (by omega), if_pos (by omega), if_neg (by omega)]
        by_cases hend : a + n < p.length
        · have h1 : a + n - 1 < p.length := by omega
          have hd := hdiff hend h1
          rw [if_pos (by omega), if_pos (by omega), rd_nat p (a + n) hend, words_Class_spec, Option.bind_some, if_pos (by omega), if_pos (by omega), rd_nat p (a + n - 1) h1, words_Class_spec, Option.bind_some, if_neg hd]
        · rw [if_neg (by omega)]
      | succ m ihm =>
        intro k i him hai hk
        obtain ⟨k, rfl⟩ := ex_succ hk
        have hi1 : i < p.length := by omega
        have ha1 : a < p.length := by omega
        have hnk := ihm k (i + 1) (by omega) (by omega) (by omega)
        have hs := hsame i hai (by omega) hi1 ha1
        have w1 : wrap64 ((a : Int) + (n : Int)) = ((a + n : Nat) : Int) := by
          rw [← Int.natCast_add]; exact wid (by omega) (by omega)
        have w2 : wrap64 ((i : Int) + 1) = ((i + 1 : Nat) : Int) := by clear w1; exact wnat (by omega)
        rw [platenlaw05_WordsRuns.l1, List.length_map, rd_mk S idx hlt, e9, w1, w2, hnk]
        clear w1 w2 hnk
        rw [if_pos (by omega), if_pos (by omega), if_pos (by omega), if_pos (by omega), if_pos (by omega), rd_nat p i hi1, words_Class_spec, Option.bind_some, if_pos (by omega), if_pos (by omega), rd_nat p a ha1, words_Class_spec, Option.bind_some, if_pos hs]
    obtain ⟨k, rfl⟩ : ∃ k', k = k' + 1 := ⟨k - 1, by omega⟩
    have hin := inner n k a (by omega) (by omega) (by omega)
    have w1 : wrap64 ((p.length : Int) - (a : Int)) = (p.length : Int) - (a : Int) := wid (by omega) (by omega)
    rw [platenlaw05_WordsRuns.l0, List.length_map, rd_mk S idx hlt, e9, e0, w1]
    clear w1
    rw [if_pos (by omega), if_pos (by omega), if_pos rfl, if_neg (by omega), decide_eq_false (by omega), platenlaw05_WordsRuns.j2, if_neg (by simp)]
    exact hin
theorem WordsRuns : platenlaw05_WordsRuns.Pure := by
  intro p _ _ hp
  have bp := bytes_of hp
  refine ⟨5001, ?_⟩
  unfold platenlaw05_WordsRuns.f
  rw [platenlaw05_runs_spec 5001 (by omega), Option.bind_some, if_pos rfl]
  by_cases h : (p.length : Int) > 300
  · rw [decide_eq_true h, platenlaw05_WordsRuns.j0, if_pos rfl, platenlaw05_runs_spec 5000 (by omega), Option.bind_some]
  · have hl := rn_length p 0
    have hcov := cov_rn p p.length 0 (by omega)
    simp only [List.drop_zero] at hcov
    rw [decide_eq_false h, platenlaw05_WordsRuns.j0, if_neg (by simp), words_Runs_spec p (by omega) 5000 (by omega), Option.bind_some]
    exact runs_loop p (by omega) (rn 0 p) (by omega) (fun k h1 h2 => by
      rw [platenref05_Runs_spec p (by omega) k h1, Option.bind_some, platenref05_Same_spec _ _ (by omega) k h2, Option.bind_some]; simp) (rn 0 p) 5000 0 0 hcov rfl (by omega) (by omega) (by omega)

end Go.Proofs.YtkdecmgockgmkaaDoor.Pure
