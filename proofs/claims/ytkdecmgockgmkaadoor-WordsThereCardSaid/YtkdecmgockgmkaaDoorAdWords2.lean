/- What the program's and the document's functions on words compute: the next word's start, the last word's, a word's last character. -/
import Derived.Test.YtkdecmgockgmkaaDoorAdClass
import Derived.Test.YtkdecmgockgmkaaDoorAdGlyphprev
import Derived.Test.YtkdecmgockgmkaaDoorAdMk
import Derived.Test.YtkdecmgockgmkaaDoorAdRef01last
import Derived.Test.YtkdecmgockgmkaaDoorAdRef05class
import Derived.Test.YtkdecmgockgmkaaDoorAdRef05runs
import Derived.Test.YtkdecmgockgmkaaDoorAdWords
import Derived.Test.YtkdecmgockgmkaaDoorGenBase
import Derived.Test.YtkdecmgockgmkaaDoorGenGlyph
import Derived.Test.YtkdecmgockgmkaaDoorGenKeep
import Derived.Test.YtkdecmgockgmkaaDoorGenWords
import Derived.Test.YtkdecmgockgmkaaDoorPax0
import Derived.Test.YtkdecmgockgmkaaDoorPax2
import Derived.Test.YtkdecmgockgmkaaDoorPax4
import Derived.Test.YtkdecmgockgmkaaDoorPax6
import Derived.Test.YtkdecmgockgmkaaDoorPax7
namespace Go.Proofs.YtkdecmgockgmkaaDoor.Ad
open Go Go.RowKit Go.Proofs.YtkdecmgockgmkaaDoor.Pa Go.Proofs.YtkdecmgockgmkaaDoorW.PrintWords Go.Proofs.YtkdecmgockgmkaaDoorW.PrintLast Go.Proofs.YtkdecmgockgmkaaDoorW.PrintMore Go.Proofs.YtkdecmgockgmkaaDoor.Gen
set_option linter.unusedVariables false
set_option linter.unusedSimpArgs false

theorem getD_at (p : List Int) (i : Nat) (h : i < p.length) : p.getD i 0 = p[i] := by simp [List.getD_eq_getElem?_getD, h]
/-- A row's words. -/
def wf (p : List Int) (L : List NN) : List NN := L.filter fun x => decide (2 ≤ cls (p.getD x.1 0))
theorem wf_cons (p : List Int) (x : NN) (L : List NN) (h : x.1 < p.length) : wf p (x :: L) = if 2 ≤ cls p[x.1] then x :: wf p L else wf p L := by
  unfold wf
  rw [List.filter_cons, getD_at p _ h]
  simp
def Good (p : List Int) (L : List NN) : Prop := ∀ x ∈ L, 1 ≤ x.2 ∧ x.1 + x.2 ≤ p.length

theorem platenref05_Words_l0 (p : List Int) (hp : p.length ≤ 1000000) (L : List NN) (hL : Good p L) (hn : L.length ≤ 1000000) (m : Nat) : ∀ (k i : Nat) (acc : List NN), i + m = L.length → acc.length ≤ i → m < k →
    platenref05_Words.l0 k p (acc.map mk) (L.map mk) (i : Int) = some ((acc ++ wf p (L.drop i)).map mk) := by
  induction m with
  | zero =>
    intro k i acc hi ha hk
    obtain ⟨k, rfl⟩ := ex_succ hk
    rw [platenref05_Words.l0, List.length_map, if_neg (by omega), List.drop_eq_nil_of_le (by omega)]
    simp [wf]
  | succ m ih =>
    intro k i acc hi ha hk
    obtain ⟨k, rfl⟩ := ex_succ hk
    have hlt : i < L.length := by omega
    have hg := hL _ (List.getElem_mem hlt)
    have hx : L[i].1 < p.length := by omega
    have hcap : (acc.map mk).length < 8796093022208 := by simp only [List.length_map]; omega
    have hn1 := ih k (i + 1) acc (by omega) (by omega) (by omega)
    have hn2 := ih k (i + 1) (acc ++ [L[i]]) (by omega) (by simp only [List.length_append, List.length_cons, List.length_nil]; omega) (by omega)
    have hw1 : wrap64 ((i : Int) + 1) = ((i + 1 : Nat) : Int) := wnat (by omega)
    rw [platenref05_Words.l0, List.length_map, rd_mk L i hlt, hw1, if_pos hcap, hn1]
    clear hw1
    rw [if_pos (by omega), if_pos (by omega), show (mk L[i]).f0 = ((L[i].1 : Nat) : Int) from rfl, if_pos (by omega), if_pos (by omega), rd_nat p _ hx, platenref05_Class_spec, Option.bind_some, drop_at L i hlt, wf_cons p _ _ hx]
    by_cases hc : 2 ≤ cls p[L[i].1]
    · rw [if_pos hc, if_pos hc]
      have e : acc.map mk ++ [(⟨((L[i].1 : Nat) : Int), (mk L[i]).f1⟩ : S29)] = (acc ++ [L[i]]).map mk := by simp [mk]
      rw [e, hn2]; simp
    · rw [if_neg hc, if_neg hc]
theorem platenref05_Words_spec (p : List Int) (hp : p.length ≤ 1000000) (k : Nat) (hk : p.length < k) : platenref05_Words.f k p = some ((wrds p).map mk) := by
  have hl := rn_length p 0
  unfold platenref05_Words.f
  rw [platenref05_Runs_spec p hp k hk, Option.bind_some]
  have := platenref05_Words_l0 p hp (rn 0 p) (rn_mem p) (by omega) (rn 0 p).length k 0 [] (by omega) (by simp) (by omega)
  simpa [wrds, wf] using this

/-- The last character of the first word that is behind a place. -/
def lst (p : List Int) (a : Int) : List NN → Int × Bool
  | [] => ((0 : Int), false)
  | x :: r => if (x.1 : Int) + (x.2 : Int) - (lsz (p.take (x.1 + x.2)) : Int) > a then ((x.1 : Int) + (x.2 : Int) - (lsz (p.take (x.1 + x.2)) : Int), true) else lst p a r
theorem lsz_le (q : List Int) : lsz q ≤ 4 := by unfold lsz; (repeat' split) <;> omega

theorem words_Last_l0 (p : List Int) (bp : Bytes p) (hp : p.length ≤ 1000000) (a : Int) (L : List NN) (hL : Good p L) (hn : L.length ≤ 1000000) (m : Nat) : ∀ (k i : Nat), i + m = L.length → m + 8 < k →
    words_Last.l0 k p a (L.map mk) (L.length : Int) (i : Int) = some (lst p a (wf p (L.drop i))) := by
  induction m with
  | zero =>
    intro k i hi hk
    obtain ⟨k, rfl⟩ := ex_succ hk
    rw [words_Last.l0, if_neg (by omega), List.drop_eq_nil_of_le (by omega)]
    simp [wf, lst]
  | succ m ih =>
    intro k i hi hk
    obtain ⟨k, rfl⟩ := ex_succ hk
    have hlt : i < L.length := by omega
    have hg := hL _ (List.getElem_mem hlt)
    have hx : L[i].1 < p.length := by omega
    have hnext := ih k (i + 1) (by omega) (by omega)
    have hz := lsz_le (p.take (L[i].1 + L[i].2))
    have hpv := glyph_Prev_spec p bp (by omega) (L[i].1 + L[i].2) hg.2 k (by omega)
    have hw1 : wrap64 ((i : Int) + 1) = ((i + 1 : Nat) : Int) := wnat (by omega)
    have hw2 : wrap64 ((mk L[i]).f0 + (mk L[i]).f1) = ((L[i].1 + L[i].2 : Nat) : Int) := by
      clear hw1
      rw [show (mk L[i]).f0 + (mk L[i]).f1 = ((L[i].1 + L[i].2 : Nat) : Int) from rfl]
      exact wid (by omega) (by omega)
    have hw3 : wrap64 (((L[i].1 + L[i].2 : Nat) : Int) - (lsz (p.take (L[i].1 + L[i].2)) : Int)) = ((L[i].1 : Int) + (L[i].2 : Int) - (lsz (p.take (L[i].1 + L[i].2)) : Int)) := by
      clear hw1 hw2
      rw [Int.natCast_add]
      exact wid (by omega) (by omega)
    rw [words_Last.l0, List.length_map, rd_mk L i hlt, hw1, hw2, hpv, Option.bind_some, hw3, hnext]
    clear hw1 hw2 hw3 hnext hpv
    rw [if_pos (by omega), if_pos (by omega), if_pos (by omega), show (mk L[i]).f0 = ((L[i].1 : Nat) : Int) from rfl, if_pos (show (0 : Int) ≤ ((L[i].1 : Nat) : Int) by omega), if_pos (show ((L[i].1 : Nat) : Int) < (p.length : Int) by omega), rd_nat p _ hx, words_Class_spec, Option.bind_some, words_empty_spec, Option.bind_some, drop_at L i hlt, wf_cons p _ _ hx]
    by_cases hc : 2 ≤ cls p[L[i].1]
    · rw [decide_eq_false (by omega), if_pos hc, if_neg (show ¬ false = true by simp), lst]
      split <;> rfl
    · rw [decide_eq_true (by omega), if_neg hc, if_pos rfl]
      split <;> rfl
theorem words_Last_spec (p : List Int) (bp : Bytes p) (hp : p.length ≤ 1000000) (a : Int) (k : Nat) (hk : p.length + 8 < k) : words_Last.f k p a = some (lst p a (wrds p)) := by
  have hl := rn_length p 0
  unfold words_Last.f
  rw [words_Runs_spec p hp k (by omega), Option.bind_some, List.length_map]
  exact words_Last_l0 p bp hp a (rn 0 p) (rn_mem p) (by omega) (rn 0 p).length k 0 (by omega) (by omega)
theorem platenref05_Last_l0 (p : List Int) (hp : p.length ≤ 1000000) (a : Int) (L : List NN) (hL : Good p L) (hn : L.length ≤ 1000000) (m : Nat) : ∀ (k i : Nat), i + m = L.length → m + 32 < k →
    platenref05_Last.l0 k p a (L.map mk) (i : Int) = some (lst p a (L.drop i)) := by
  induction m with
  | zero =>
    intro k i hi hk
    obtain ⟨k, rfl⟩ := ex_succ hk
    rw [platenref05_Last.l0, List.length_map, if_neg (by omega), List.drop_eq_nil_of_le (by omega)]
    simp [lst]
  | succ m ih =>
    intro k i hi hk
    obtain ⟨k, rfl⟩ := ex_succ hk
    have hlt : i < L.length := by omega
    have hg := hL _ (List.getElem_mem hlt)
    have hnext := ih k (i + 1) (by omega) (by omega)
    have hz := lsz_le (p.take (L[i].1 + L[i].2))
    have hpv := platenref01_Last_spec p (by omega) (L[i].1 + L[i].2) (by omega) hg.2 k (by omega)
    have hw1 : wrap64 ((i : Int) + 1) = ((i + 1 : Nat) : Int) := wnat (by omega)
    have hw2 : wrap64 ((mk L[i]).f0 + (mk L[i]).f1) = ((L[i].1 + L[i].2 : Nat) : Int) := by
      clear hw1
      rw [show (mk L[i]).f0 + (mk L[i]).f1 = ((L[i].1 + L[i].2 : Nat) : Int) from rfl]
      exact wid (by omega) (by omega)
    have hw3 : wrap64 (((L[i].1 + L[i].2 : Nat) : Int) - (lsz (p.take (L[i].1 + L[i].2)) : Int)) = ((L[i].1 : Int) + (L[i].2 : Int) - (lsz (p.take (L[i].1 + L[i].2)) : Int)) := by
      clear hw1 hw2
      rw [Int.natCast_add]
      exact wid (by omega) (by omega)
    rw [platenref05_Last.l0, List.length_map, rd_mk L i hlt, hw1, hw2, hpv, Option.bind_some, hw3, hnext]
    clear hw1 hw2 hw3 hnext hpv
    rw [if_pos (by omega), if_pos (by omega), drop_at L i hlt, lst]
    split <;> rfl
theorem platenref05_Last_spec (p : List Int) (hp : p.length ≤ 1000000) (a : Int) (k : Nat) (hk : p.length + 32 < k) : platenref05_Last.f k p a = some (lst p a (wrds p)) := by
  have hl := rn_length p 0
  have hl2 : (wrds p).length ≤ (rn 0 p).length := List.length_filter_le _ _
  unfold platenref05_Last.f
  rw [platenref05_Words_spec p hp k (by omega), Option.bind_some]
  exact platenref05_Last_l0 p hp a (wrds p) (wrds_mem p) (by omega) (wrds p).length k 0 (by omega) (by omega)

theorem words_Forward_l0 (p : List Int) (hp : p.length ≤ 1000000) (a : Int) (L : List NN) (hL : Good p L) (hn : L.length ≤ 1000000) (m : Nat) : ∀ (k i : Nat), i + m = L.length → m < k →
    words_Forward.l0 k p a (L.map mk) (L.length : Int) (i : Int) = some (fwd p.length a (wf p (L.drop i)), true) := by
  induction m with
  | zero =>
    intro k i hi hk
    obtain ⟨k, rfl⟩ := ex_succ hk
    rw [words_Forward.l0, if_neg (by omega), List.drop_eq_nil_of_le (by omega)]
    simp [wf, fwd]
  | succ m ih =>
    intro k i hi hk
    obtain ⟨k, rfl⟩ := ex_succ hk
    have hlt : i < L.length := by omega
    have hg := hL _ (List.getElem_mem hlt)
    have hx : L[i].1 < p.length := by omega
    have hnext := ih k (i + 1) (by omega) (by omega)
    have hw1 : wrap64 ((i : Int) + 1) = ((i + 1 : Nat) : Int) := wnat (by omega)
    rw [words_Forward.l0, List.length_map, rd_mk L i hlt, hw1, hnext]
    clear hw1 hnext
    rw [if_pos (by omega), if_pos (by omega), if_pos (by omega), show (mk L[i]).f0 = ((L[i].1 : Nat) : Int) from rfl, if_pos (show (0 : Int) ≤ ((L[i].1 : Nat) : Int) by omega), if_pos (show ((L[i].1 : Nat) : Int) < (p.length : Int) by omega), rd_nat p _ hx, words_Class_spec, Option.bind_some, words_empty_spec, Option.bind_some, drop_at L i hlt, wf_cons p _ _ hx]
    by_cases hc : 2 ≤ cls p[L[i].1]
    · rw [decide_eq_false (by omega), if_pos hc, if_neg (show ¬ false = true by simp), fwd]
      split <;> rfl
    · rw [decide_eq_true (by omega), if_neg hc, if_pos rfl]
      split <;> rfl
theorem words_Forward_spec (p : List Int) (hp : p.length ≤ 1000000) (a : Int) (k : Nat) (hk : p.length + 1 < k) : words_Forward.f k p a = some (if a < 0 ∨ a ≥ (p.length : Int) then (0, false) else (fwd p.length a (wrds p), true)) := by
  obtain ⟨k, rfl⟩ : ∃ k', k = k' + 1 := ⟨k - 1, by omega⟩
  have hl := rn_length p 0
  unfold words_Forward.f
  by_cases h1 : a < 0
  · rw [if_pos h1, if_pos (.inl h1), words_Forward.j0, if_pos rfl]
  · rw [if_neg h1]
    by_cases h2 : a ≥ (p.length : Int)
    · rw [decide_eq_true h2, if_pos (.inr h2), words_Forward.j0, if_pos rfl]
    · rw [decide_eq_false h2, if_neg (by omega), words_Forward.j0, if_neg (by simp), words_Runs_spec p hp k (by omega), Option.bind_some, List.length_map]
      exact words_Forward_l0 p hp a (rn 0 p) (rn_mem p) (by omega) (rn 0 p).length k 0 (by omega) (by omega)
theorem platenref05_Forward_l0 (p : List Int) (hp : p.length ≤ 1000000) (a : Int) (L : List NN) (hn : L.length ≤ 1000000) (m : Nat) : ∀ (k i : Nat), i + m = L.length → m < k →
    platenref05_Forward.l0 k p a (L.map mk) (i : Int) = some (fwd p.length a (L.drop i), true) := by
  induction m with
  | zero =>
    intro k i hi hk
    obtain ⟨k, rfl⟩ := ex_succ hk
    rw [platenref05_Forward.l0, List.length_map, if_neg (by omega), List.drop_eq_nil_of_le (by omega)]
    simp [fwd]
  | succ m ih =>
    intro k i hi hk
    obtain ⟨k, rfl⟩ := ex_succ hk
    have hlt : i < L.length := by omega
    have hnext := ih k (i + 1) (by omega) (by omega)
    have hw1 : wrap64 ((i : Int) + 1) = ((i + 1 : Nat) : Int) := wnat (by omega)
    rw [platenref05_Forward.l0, List.length_map, rd_mk L i hlt, hw1, hnext]
    clear hw1 hnext
    rw [if_pos (by omega), if_pos (by omega), show (mk L[i]).f0 = ((L[i].1 : Nat) : Int) from rfl, drop_at L i hlt, fwd]
    split <;> rfl
theorem platenref05_Forward_spec (p : List Int) (hp : p.length ≤ 1000000) (a : Int) (k : Nat) (hk : p.length + 1 < k) : platenref05_Forward.f k p a = some (if a < 0 ∨ a ≥ (p.length : Int) then (0, false) else (fwd p.length a (wrds p), true)) := by
  obtain ⟨k, rfl⟩ : ∃ k', k = k' + 1 := ⟨k - 1, by omega⟩
  have hl := rn_length p 0
  have hl2 : (wrds p).length ≤ (rn 0 p).length := List.length_filter_le _ _
  unfold platenref05_Forward.f
  by_cases h1 : a < 0
  · rw [if_pos h1, if_pos (.inl h1), platenref05_Forward.j0, if_pos rfl]
  · rw [if_neg h1]
    by_cases h2 : a ≥ (p.length : Int)
    · rw [decide_eq_true h2, if_pos (.inr h2), platenref05_Forward.j0, if_pos rfl]
    · rw [decide_eq_false h2, if_neg (by omega), platenref05_Forward.j0, if_neg (by simp), platenref05_Words_spec p hp k (by omega), Option.bind_some]
      exact platenref05_Forward_l0 p hp a (wrds p) (by omega) (wrds p).length k 0 (by omega) (by omega)

theorem words_Back_l0 (p : List Int) (hp : p.length ≤ 1000000) (a : Int) (L : List NN) (hL : Good p L) (hn : L.length ≤ 1000000) (m : Nat) : ∀ (k i : Nat) (d : Int), i + m = L.length → m < k →
    words_Back.l0 k p a d (L.map mk) (L.length : Int) (i : Int) = some (bck a d (wf p (L.drop i)), true) := by
  induction m with
  | zero =>
    intro k i d hi hk
    obtain ⟨k, rfl⟩ := ex_succ hk
    rw [words_Back.l0, if_neg (by omega), List.drop_eq_nil_of_le (by omega)]
    simp [wf, bck]
  | succ m ih =>
    intro k i d hi hk
    obtain ⟨k, rfl⟩ := ex_succ hk
    have hlt : i < L.length := by omega
    have hg := hL _ (List.getElem_mem hlt)
    have hx : L[i].1 < p.length := by omega
    have hnext := fun d => ih k (i + 1) d (by omega) (by omega)
    have hw1 : wrap64 ((i : Int) + 1) = ((i + 1 : Nat) : Int) := wnat (by omega)
    rw [words_Back.l0, List.length_map, rd_mk L i hlt, hw1, hnext, hnext]
    clear hw1 hnext
    rw [if_pos (by omega), if_pos (by omega), if_pos (by omega), show (mk L[i]).f0 = ((L[i].1 : Nat) : Int) from rfl, if_pos (show (0 : Int) ≤ ((L[i].1 : Nat) : Int) by omega), if_pos (show ((L[i].1 : Nat) : Int) < (p.length : Int) by omega), rd_nat p _ hx, words_Class_spec, Option.bind_some, words_empty_spec, Option.bind_some, drop_at L i hlt, wf_cons p _ _ hx]
    by_cases hc : 2 ≤ cls p[L[i].1]
    · rw [decide_eq_false (by omega), if_pos hc, if_neg (show ¬ false = true by simp), bck]
      split <;> rfl
    · rw [decide_eq_true (by omega), if_neg hc, if_pos rfl]
      split <;> rfl
theorem words_Back_spec (p : List Int) (hp : p.length ≤ 1000000) (a : Int) (k : Nat) (hk : p.length + 1 < k) : words_Back.f k p a = some (if a ≤ 0 ∨ a > (p.length : Int) then (0, false) else (bck a 0 (wrds p), true)) := by
  obtain ⟨k, rfl⟩ : ∃ k', k = k' + 1 := ⟨k - 1, by omega⟩
  have hl := rn_length p 0
  unfold words_Back.f
  by_cases h1 : a ≤ 0
  · rw [if_pos h1, if_pos (.inl h1), words_Back.j0, if_pos rfl]
  · rw [if_neg h1]
    by_cases h2 : a > (p.length : Int)
    · rw [decide_eq_true h2, if_pos (.inr h2), words_Back.j0, if_pos rfl]
    · rw [decide_eq_false h2, if_neg (by omega), words_Back.j0, if_neg (by simp), words_Runs_spec p hp k (by omega), Option.bind_some, List.length_map]
      exact words_Back_l0 p hp a (rn 0 p) (rn_mem p) (by omega) (rn 0 p).length k 0 0 (by omega) (by omega)
theorem bck_snoc (a : Int) (L : List NN) (x : NN) : ∀ d, bck a d (L ++ [x]) = if (x.1 : Int) < a then (x.1 : Int) else bck a d L := by
  induction L with
  | nil => intro d; rfl
  | cons y r ih => intro d; simp only [List.cons_append, bck]; exact ih _
theorem platenref05_Back_l0 (a : Int) (L : List NN) (hn : L.length ≤ 1000000) (m : Nat) : ∀ (k : Nat), m ≤ L.length → m < k →
    platenref05_Back.l0 k a (L.map mk) ((m : Int) - 1) = some (bck a 0 (L.take m), true) := by
  induction m with
  | zero =>
    intro k hi hk
    obtain ⟨k, rfl⟩ := ex_succ hk
    rw [platenref05_Back.l0, if_neg (by omega), List.take_zero]; rfl
  | succ m ih =>
    intro k hi hk
    obtain ⟨k, rfl⟩ := ex_succ hk
    have hlt : m < L.length := by omega
    have hnext := ih k (by omega) (by omega)
    have hw1 : wrap64 ((m : Int) - 1) = (m : Int) - 1 := wid (by omega) (by omega)
    rw [platenref05_Back.l0, List.length_map, show ((m + 1 : Nat) : Int) - 1 = (m : Int) by omega, rd_mk L m hlt, hw1, hnext]
    clear hw1 hnext
    rw [if_pos (by omega), if_pos (by omega), if_pos (by omega), show (mk L[m]).f0 = ((L[m].1 : Nat) : Int) from rfl, List.take_succ_eq_append_getElem hlt, bck_snoc]
    split <;> rfl
theorem platenref05_Back_spec (p : List Int) (hp : p.length ≤ 1000000) (a : Int) (k : Nat) (hk : p.length + 1 < k) : platenref05_Back.f k p a = some (if a ≤ 0 ∨ a > (p.length : Int) then (0, false) else (bck a 0 (wrds p), true)) := by
  obtain ⟨k, rfl⟩ : ∃ k', k = k' + 1 := ⟨k - 1, by omega⟩
  have hl := rn_length p 0
  have hl2 : (wrds p).length ≤ (rn 0 p).length := List.length_filter_le _ _
  unfold platenref05_Back.f
  by_cases h1 : a ≤ 0
  · rw [if_pos h1, if_pos (.inl h1), platenref05_Back.j0, if_pos rfl]
  · rw [if_neg h1]
    by_cases h2 : a > (p.length : Int)
    · rw [decide_eq_true h2, if_pos (.inr h2), platenref05_Back.j0, if_pos rfl]
    · rw [decide_eq_false h2, if_neg (by omega), platenref05_Back.j0, if_neg (by simp), platenref05_Words_spec p hp k (by omega), Option.bind_some, List.length_map]
      have hw : wrap64 (((wrds p).length : Int) - 1) = ((wrds p).length : Int) - 1 := wid (by omega) (by omega)
      rw [hw, platenref05_Back_l0 a (wrds p) (by omega) (wrds p).length k (Nat.le_refl _) (by omega), List.take_of_length_le (Nat.le_refl _)]

end Go.Proofs.YtkdecmgockgmkaaDoor.Ad
