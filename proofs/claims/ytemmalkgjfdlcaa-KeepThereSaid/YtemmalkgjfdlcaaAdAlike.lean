/- What the document's functions of layer 5 on pieces' bytes compute. -/
import Derived.Test.YtemmalkgjfdlcaaAdSolid
import Derived.Test.YtemmalkgjfdlcaaGenBase
import Derived.Test.YtemmalkgjfdlcaaGenKeep
import Derived.Test.YtemmalkgjfdlcaaPax4
namespace Go.Proofs.Ytemmalkgjfdlcaa.Ad
open Go Go.RowKit Go.Proofs.Ytemmalkgjfdlcaa.Pa Go.Proofs.YtemmalkgjfdlcaaW.PrintWords Go.Proofs.YtemmalkgjfdlcaaW.PrintLast Go.Proofs.YtemmalkgjfdlcaaW.PrintMore Go.Proofs.Ytemmalkgjfdlcaa.Gen
set_option linter.unusedVariables false
set_option linter.unusedSimpArgs false

theorem platenref05_Texts_l0 (p : List Int) (hp : p.length ≤ 1000000) (l : List NN) (hl : Within l p.length) (hll : l.length ≤ 1000000) (m : Nat) : ∀ (k i : Nat), i + m = l.length → m < k →
    platenref05_Texts.l0 k p (l.map mk) ((l.take i).map fun x => strOfNums (cut p x)) (i : Int) = some (l.map fun x => strOfNums (cut p x)) := by
  induction m with
  | zero =>
    intro k i hi hk
    obtain ⟨k, rfl⟩ := ex_succ hk
    simp only [platenref05_Texts.l0, List.length_map]
    rw [if_neg (by omega), List.take_of_length_le (by omega)]
  | succ m ih =>
    intro k i hi hk
    obtain ⟨k, rfl⟩ := ex_succ hk
    have hlt : i < l.length := by omega
    have hw := hl l[i] (List.getElem_mem hlt)
    have hnext := ih k (i + 1) (by omega) (by omega)
    rw [List.take_succ_eq_append_getElem hlt, List.map_append, List.map_cons, List.map_nil] at hnext
    simp only [platenref05_Texts.l0, List.length_map, List.length_take]
    rw [if_pos (by omega), if_pos (by omega), rd_mk l i hlt, ← hnext]
    simp only [cut]
    generalize l[i] = x at hw
    obtain ⟨a, n⟩ := x
    simp only at hw
    have c1 : 0 ≤ (a : Int) := by omega
    have c2 : (a : Int) ≤ (a : Int) + (n : Int) := by omega
    have c3 : (a : Int) + (n : Int) ≤ (p.length : Int) := by omega
    have c4 : min i l.length < 8796093022208 := by omega
    have c5 : ((a : Int) + (n : Int)).toNat = a + n := by omega
    have hw0 : wrap64 ((i : Int) + 1) = ((i + 1 : Nat) : Int) := wnat (by omega)
    have hw1 : wrap64 ((a : Int) + (n : Int)) = (a : Int) + (n : Int) := wid (by clear hw0; omega) (by clear hw0; omega)
    simp only [mk, hw0, hw1, c1, c2, c3, c4, c5, if_true, Int.toNat_natCast]
theorem platenref05_Texts_spec (p : List Int) (hp : p.length ≤ 1000000) (k : Nat) (hk : p.length < k) : platenref05_Texts.f k p ((sol p).map mk) = some ((texts p).map strOfNums) := by
  unfold platenref05_Texts.f texts
  have hl := sol_length p
  have := platenref05_Texts_l0 p hp (sol p) (sol_within p) (by omega) (sol p).length k 0 (by omega) (by omega)
  simp only [List.take_zero, List.map_nil, Int.natCast_zero] at this
  rw [List.map_map]
  exact this
theorem platenref05_SameTexts_l0 (a b : List (List Int)) (ha : ∀ x ∈ a, Bytes x) (hb : ∀ x ∈ b, Bytes x) (hl : a.length = b.length) (hn : a.length ≤ 1000000) (m : Nat) : ∀ (k i : Nat), i + m = a.length → m < k →
    platenref05_SameTexts.l0 k (a.map strOfNums) (b.map strOfNums) (i : Int) = some (decide (a.drop i = b.drop i)) := by
  induction m with
  | zero =>
    intro k i hi hk
    obtain ⟨k, rfl⟩ := ex_succ hk
    simp only [platenref05_SameTexts.l0, List.length_map]
    rw [if_neg (by omega), List.drop_eq_nil_of_le (by omega), List.drop_eq_nil_of_le (by omega)]
    simp
  | succ m ih =>
    intro k i hi hk
    obtain ⟨k, rfl⟩ := ex_succ hk
    have h1 : i < a.length := by omega
    have h2 : i < b.length := by omega
    simp only [platenref05_SameTexts.l0, List.length_map]
    rw [if_pos (by omega), if_pos (by omega), if_pos (by omega), wnat (by omega), ih k (i + 1) (by omega) (by omega)]
    have hda : a.drop i = a[i] :: a.drop (i + 1) := drop_at a i h1
    have hdb : b.drop i = b[i] :: b.drop (i + 1) := drop_at b i h2
    rw [hda, hdb]
    have e1 : rdOf ByteArray.empty (a.map strOfNums) (i : Int) = strOfNums a[i] := by simp [rdOf, h1]
    have e2 : rdOf ByteArray.empty (b.map strOfNums) (i : Int) = strOfNums b[i] := by simp [rdOf, h2]
    rw [e1, e2]
    by_cases e : a[i] = b[i]
    · rw [if_pos (by rw [e]), e]
      simp only [List.cons.injEq, true_and]
    · rw [if_neg (fun h => e (strOfNums_inj (ha _ (List.getElem_mem h1)) (hb _ (List.getElem_mem h2)) h)), decide_eq_false]
      intro h
      exact e (List.cons.inj h).1
theorem platenref05_SameTexts_spec (a b : List (List Int)) (ha : ∀ x ∈ a, Bytes x) (hb : ∀ x ∈ b, Bytes x) (hn : a.length ≤ 1000000) (k : Nat) (hk : a.length < k) :
    platenref05_SameTexts.f k (a.map strOfNums) (b.map strOfNums) = some (decide (a = b)) := by
  unfold platenref05_SameTexts.f
  by_cases hl : a.length = b.length
  · rw [if_pos (by simp [hl])]
    have := platenref05_SameTexts_l0 a b ha hb hl hn a.length k 0 (by omega) hk
    simpa using this
  · rw [if_neg (by simp; omega)]
    have : a ≠ b := fun e => hl (by rw [e])
    simp [this]
theorem texts_bytes {p : List Int} (hb : Bytes p) : ∀ x ∈ texts p, Bytes x := by
  intro x hx
  simp only [texts, List.mem_map] at hx
  obtain ⟨y, _, rfl⟩ := hx
  exact bytes_cut hb y
theorem texts_length (p : List Int) : (texts p).length ≤ p.length := by
  have := sol_length p
  simpa [texts] using this

end Go.Proofs.Ytemmalkgjfdlcaa.Ad
