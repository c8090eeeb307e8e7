/- What the program's functions of layer 18 compute, and the document's. -/
import Derived.Test.YtemmalkgjfdlcaaAdAlike
import Derived.Test.YtemmalkgjfdlcaaAdSolid
import Derived.Test.YtemmalkgjfdlcaaGenBase
import Derived.Test.YtemmalkgjfdlcaaGenKeep
import Derived.Test.YtemmalkgjfdlcaaPax1
import Derived.Test.YtemmalkgjfdlcaaPax2
namespace Go.Proofs.Ytemmalkgjfdlcaa.Ad
open Go Go.RowKit Go.Proofs.Ytemmalkgjfdlcaa.Pa Go.Proofs.YtemmalkgjfdlcaaW.PrintWords Go.Proofs.YtemmalkgjfdlcaaW.PrintLast Go.Proofs.YtemmalkgjfdlcaaW.PrintMore Go.Proofs.Ytemmalkgjfdlcaa.Gen
set_option linter.unusedVariables false
set_option linter.unusedSimpArgs false

theorem keep_Place_l0 (at_ : Int) (f t : List NN) (e : Int) (hf : f.length ≤ 1000000) (hfw : Within f 1000000) (htw : Within t 1000000) (m : Nat) : ∀ (k i : Nat), i + m = f.length → m < k →
    keep_Place.l0 k at_ (t.map mk) e (f.map mk) (f.length : Int) (i : Int) = some (place at_ (f.drop i) (t.drop i) e) := by
  induction m with
  | zero =>
    intro k i hi hk
    obtain ⟨k, rfl⟩ := ex_succ hk
    simp only [keep_Place.l0]
    rw [if_neg (by omega), List.drop_eq_nil_of_le (by omega)]
    simp [place]
  | succ m ih =>
    intro k i hi hk
    obtain ⟨k, rfl⟩ := ex_succ hk
    have hlt : i < f.length := by omega
    simp only [keep_Place.l0, List.length_map]
    rw [if_pos (by omega), if_pos (by omega), if_pos (by omega), wnat (by omega), ih k (i + 1) (by omega) (by omega), drop_at f i hlt, rd_mk f i hlt]
    have hfi := hfw f[i] (List.getElem_mem hlt)
    generalize f[i] = x at hfi
    obtain ⟨a, n⟩ := x
    by_cases ht : i < t.length
    · rw [if_neg (by omega), drop_at t i ht, rd_mk t i ht]
      have hti := htw t[i] (List.getElem_mem ht)
      generalize t[i] = y at hti
      obtain ⟨b, n'⟩ := y
      simp only [mk, place] at hfi hti ⊢
      have c1 : (i : Int) < (t.length : Int) := by omega
      have hw1 : wrap64 ((a : Int) + (n : Int)) = (a : Int) + (n : Int) := wid (by omega) (by omega)
      simp only [hw1, if_pos c1]
      by_cases h1 : at_ < a
      · rw [if_pos h1, if_pos h1]
      · rw [if_neg h1, if_neg h1]
        by_cases h2 : at_ < (a : Int) + (n : Int)
        · clear hw1
          have hw2 : wrap64 ((b : Int) + at_) = (b : Int) + at_ := wid (by omega) (by omega)
          have hw3 : wrap64 ((b : Int) + at_ - a) = (b : Int) + at_ - a := wid (by clear hw2; omega) (by clear hw2; omega)
          rw [if_pos h2, if_pos h2]
          simp only [hw2, hw3]
        · rw [if_neg h2, if_neg h2]
    · have c1 : (i : Int) ≥ (t.length : Int) := by omega
      have e1 : t.drop i = [] := List.drop_eq_nil_of_le (by omega)
      rw [if_pos c1, e1]
      simp [place]

theorem keep_Place_spec (at_ : Int) (f t : List NN) (e : Int) (hf : f.length ≤ 1000000) (hfw : Within f 1000000) (htw : Within t 1000000) (k : Nat) (hk : f.length < k) :
    keep_Place.f k at_ (f.map mk) (t.map mk) e = some (place at_ f t e) := by
  have := keep_Place_l0 at_ f t e hf hfw htw f.length k 0 (by omega) hk
  simpa [keep_Place.f] using this
theorem within_mono {l : List NN} {a b : Nat} (h : Within l a) (hab : a ≤ b) : Within l b := fun x hx => Nat.le_trans (h x hx) hab
theorem keep_Solid_spec (at_ : Int) (p q : List Int) (hp : p.length ≤ 1000000) (hq : q.length ≤ 1000000) (k : Nat) (hkp : p.length < k) (hkq : q.length < k) :
    keep_Solid.f k at_ p q = some (place at_ (sol p) (sol q) (q.length : Int)) := by
  have := sol_length p
  unfold keep_Solid.f
  rw [words_Solid_spec p hp k hkp, Option.bind_some, words_Solid_spec q hq k hkq, Option.bind_some,
    keep_Place_spec at_ _ _ _ (by omega) (within_mono (sol_within p) hp) (within_mono (sol_within q) hq) k (by omega), Option.bind_some]
theorem keep_texts_l0 (p : List Int) (hp : p.length ≤ 1000000) (l : List NN) (hl : Within l p.length) (hll : l.length ≤ 1000000) (m : Nat) : ∀ (k i : Nat), i + m = l.length → m < k →
    keep_texts.l0 k p ((l.take i).map fun x => strOfNums (cut p x)) (l.map mk) (l.length : Int) (i : Int) = some (l.map fun x => strOfNums (cut p x)) := by
  induction m with
  | zero =>
    intro k i hi hk
    obtain ⟨k, rfl⟩ := ex_succ hk
    simp only [keep_texts.l0]
    rw [if_neg (by omega), List.take_of_length_le (by omega)]
  | succ m ih =>
    intro k i hi hk
    obtain ⟨k, rfl⟩ := ex_succ hk
    have hlt : i < l.length := by omega
    have hw := hl l[i] (List.getElem_mem hlt)
    have hnext := ih k (i + 1) (by omega) (by omega)
    rw [List.take_succ_eq_append_getElem hlt, List.map_append, List.map_cons, List.map_nil] at hnext
    simp only [keep_texts.l0, List.length_map, List.length_take]
    rw [if_pos (by omega), if_pos (by omega), if_pos (by omega), rd_mk l i hlt, ← hnext]
    simp only [cut]
    generalize l[i] = x at hw
    obtain ⟨a, n⟩ := x
    simp only at hw
    have c1 : 0 ≤ (a : Int) := by omega
    have c2 : (a : Int) ≤ (a : Int) + (n : Int) := by omega
    have c3 : (a : Int) + (n : Int) ≤ (p.length : Int) := by omega
    have c4 : min i l.length < 8796093022208 := by omega
    have c5 : ((a : Int) + (n : Int)).toNat = a + n := by omega
    have hw0 : wrap64 ((i : Int) + 1) = ((i + 1 : Nat) : Int) := wnat (by omega)
    have hw1 : wrap64 ((a : Int) + (n : Int)) = (a : Int) + (n : Int) := wid (by clear hw0; omega) (by clear hw0; omega)
    simp only [mk, hw0, hw1, c1, c2, c3, c4, c5, if_true, Int.toNat_natCast]

theorem keep_texts_spec (p : List Int) (hp : p.length ≤ 1000000) (k : Nat) (hk : p.length < k) : keep_texts.f k p = some ((texts p).map strOfNums) := by
  unfold keep_texts.f texts
  have hl := sol_length p
  rw [words_Solid_spec p hp k hk, Option.bind_some]
  have := keep_texts_l0 p hp (sol p) (sol_within p) (by omega) (sol p).length k 0 (by omega) (by omega)
  simp only [List.take_zero, List.map_nil, Int.natCast_zero] at this
  rw [List.map_map, List.length_map]
  exact this
theorem keep_same_string_l0 (a b : List (List Int)) (ha : ∀ x ∈ a, Bytes x) (hb : ∀ x ∈ b, Bytes x) (hl : a.length = b.length) (hn : a.length ≤ 1000000) (m : Nat) : ∀ (k i : Nat), i + m = a.length → m < k →
    keep_same_string.l0 k (b.map strOfNums) (a.map strOfNums) (a.length : Int) (i : Int) = some (decide (a.drop i = b.drop i)) := by
  induction m with
  | zero =>
    intro k i hi hk
    obtain ⟨k, rfl⟩ := ex_succ hk
    simp only [keep_same_string.l0]
    rw [if_neg (by omega), List.drop_eq_nil_of_le (by omega), List.drop_eq_nil_of_le (by omega)]
    simp
  | succ m ih =>
    intro k i hi hk
    obtain ⟨k, rfl⟩ := ex_succ hk
    have h1 : i < a.length := by omega
    have h2 : i < b.length := by omega
    simp only [keep_same_string.l0, List.length_map]
    rw [if_pos (by omega), if_pos (by omega), if_pos (by omega), if_pos (by omega), wnat (by omega), ih k (i + 1) (by omega) (by omega)]
    have hda : a.drop i = a[i] :: a.drop (i + 1) := drop_at a i h1
    have hdb : b.drop i = b[i] :: b.drop (i + 1) := drop_at b i h2
    rw [hda, hdb]
    have e1 : rdOf ByteArray.empty (a.map strOfNums) (i : Int) = strOfNums a[i] := by simp [rdOf, h1]
    have e2 : rdOf ByteArray.empty (b.map strOfNums) (i : Int) = strOfNums b[i] := by simp [rdOf, h2]
    rw [e1, e2]
    by_cases e : a[i] = b[i]
    · rw [if_pos (by rw [e]), e]
      simp only [List.cons.injEq, true_and]
    · rw [if_neg (fun h => e (strOfNums_inj (ha _ (List.getElem_mem h1)) (hb _ (List.getElem_mem h2)) h)), decide_eq_false]
      intro h
      exact e (List.cons.inj h).1

theorem keep_same_string_spec (a b : List (List Int)) (ha : ∀ x ∈ a, Bytes x) (hb : ∀ x ∈ b, Bytes x) (hn : a.length ≤ 1000000) (k : Nat) (hk : a.length < k) :
    keep_same_string.f k (a.map strOfNums) (b.map strOfNums) = some (decide (a = b)) := by
  unfold keep_same_string.f
  by_cases hl : a.length = b.length
  · rw [if_pos (by simp [hl])]
    have := keep_same_string_l0 a b ha hb hl hn a.length k 0 (by omega) hk
    simpa using this
  · rw [if_neg (by simp; omega)]
    have : a ≠ b := fun e => hl (by rw [e])
    simp [this]
theorem keep_Alike_spec (p q : List Int) (bp : Bytes p) (bq : Bytes q) (hp : p.length ≤ 1000000) (hq : q.length ≤ 1000000) (k : Nat) (hkp : p.length < k) (hkq : q.length < k) :
    keep_Alike.f k p q = some (decide (texts p = texts q)) := by
  unfold keep_Alike.f
  have := texts_length p
  rw [keep_texts_spec p hp k hkp, Option.bind_some, keep_texts_spec q hq k hkq, Option.bind_some,
    keep_same_string_spec _ _ (texts_bytes bp) (texts_bytes bq) (by omega) k (by omega), Option.bind_some]
theorem platenlaw18_kept_spec (k : Nat) (hk : 10 ≤ k) : platenlaw18_kept.f k = some true := by
  unfold platenlaw18_kept.f
  have b1 : Bytes [97, 32, 98] := by intro x hx; simp at hx; omega
  have b2 : Bytes [97, 10, 98] := by intro x hx; simp at hx; omega
  have b3 : Bytes [97, 98] := by intro x hx; simp at hx; omega
  rw [keep_Solid_spec _ _ _ (by simp) (by simp) k (by simp; omega) (by simp; omega), Option.bind_some, if_pos (by decide),
    keep_Solid_spec _ _ _ (by simp) (by simp) k (by simp; omega) (by simp; omega), Option.bind_some, if_pos (by decide),
    keep_Alike_spec _ _ b1 b2 (by simp) (by simp) k (by simp; omega) (by simp; omega), Option.bind_some, if_pos (by decide),
    keep_Alike_spec _ _ b3 b1 (by simp) (by simp) k (by simp; omega) (by simp; omega), Option.bind_some]
  decide
theorem platenlaw18_spans_l0 (p : List Int) (bp : Bytes p) (hp : p.length ≤ 1000) (m : Nat) : ∀ (k : Nat) (l : List NN) (at_ i : Nat), i + m = p.length → l.length = i → Within l at_ → at_ ≤ 10 * i → m < k →
    ∃ l' : List NN, platenlaw18_spans.l0 k p (l.map mk) (at_ : Int) (i : Int) = some (l'.map mk) ∧ l'.length = p.length ∧ Within l' (10 * p.length) := by
  induction m with
  | zero =>
    intro k l at_ i hi hl hw ha hk
    obtain ⟨k, rfl⟩ := ex_succ hk
    refine ⟨l, ?_, by omega, fun x hx => by have := hw x hx; omega⟩
    simp only [platenlaw18_spans.l0]
    rw [if_neg (by omega)]
  | succ m ih =>
    intro k l at_ i hi hl hw ha hk
    obtain ⟨k, rfl⟩ := ex_succ hk
    have hlt : i < p.length := by omega
    have hb := bp p[i] (List.getElem_mem hlt)
    simp only [platenlaw18_spans.l0]
    rw [if_pos (by omega), if_pos (by omega), if_pos (by simp; omega), rd_nat p i hlt, wnat (by omega)]
    generalize p[i] = c at hb
    have e1 : Int.tmod (wrap64 c) 5 = ((c.toNat % 5 : Nat) : Int) := by
      rw [wid (by omega) (by omega), Int.tmod_eq_emod_of_nonneg (by omega)]; omega
    have e2 : Int.tmod (wrap64 (Int.tdiv (wrap64 c) 5)) 6 = ((c.toNat / 5 % 6 : Nat) : Int) := by
      rw [wid (x := c) (by omega) (by omega), Int.tdiv_eq_ediv_of_nonneg (by omega), wid (by omega) (by omega), Int.tmod_eq_emod_of_nonneg (by omega)]; omega
    rw [e1, e2, wid (x := (at_ : Int) + _) (by omega) (by omega), wid (x := ((c.toNat / 5 % 6 : Nat) : Int) + 1) (by omega) (by omega), wid (by omega) (by omega)]
    have := ih k (l ++ [(at_ + c.toNat % 5, c.toNat / 5 % 6 + 1)]) (at_ + c.toNat % 5 + (c.toNat / 5 % 6 + 1)) (i + 1) (by omega) (by simp; omega) (by
      intro x hx
      rcases List.mem_append.1 hx with hx | hx
      · have := hw x hx; omega
      · simp at hx; subst hx; simp) (by omega) (by omega)
    simpa [mk] using this

theorem platenlaw18_spans_spec (p : List Int) (bp : Bytes p) (hp : p.length ≤ 1000) (k : Nat) (hk : p.length < k) : ∃ l : List NN, platenlaw18_spans.f k p = some (l.map mk) ∧ l.length = p.length ∧ Within l (10 * p.length) := by
  have := platenlaw18_spans_l0 p bp hp p.length k [] 0 0 (by omega) rfl (fun x hx => by simp at hx) (by omega) hk
  simpa [platenlaw18_spans.f] using this
theorem platenref18_Place_l0 (at_ : Int) (f t : List NN) (e : Int) (hf : f.length ≤ 1000000) (hfw : Within f 1000000) (htw : Within t 1000000) (m : Nat) : ∀ (k i : Nat), i + m = f.length → m < k →
    platenref18_Place.l0 k at_ (f.map mk) (t.map mk) e (i : Int) = some (place at_ (f.drop i) (t.drop i) e) ∨ t.length ≤ i ∧ platenref18_Place.l0 k at_ (f.map mk) (t.map mk) e (i : Int) = some e := by
  induction m with
  | zero =>
    intro k i hi hk
    obtain ⟨k, rfl⟩ := ex_succ hk
    simp only [platenref18_Place.l0, List.length_map]
    rw [if_neg (by omega), List.drop_eq_nil_of_le (by omega)]
    simp [place]
  | succ m ih =>
    intro k i hi hk
    obtain ⟨k, rfl⟩ := ex_succ hk
    have hlt : i < f.length := by omega
    have hnext := ih k (i + 1) (by omega) (by omega)
    simp only [platenref18_Place.l0, List.length_map]
    rw [if_pos (by omega), if_pos (by omega), wnat (by omega), rd_mk f i hlt]
    have hfi := hfw f[i] (List.getElem_mem hlt)
    by_cases ht : i < t.length
    · left
      rw [drop_at f i hlt, drop_at t i ht, rd_mk t i ht]
      have hti := htw t[i] (List.getElem_mem ht)
      generalize f[i] = x at hfi
      generalize t[i] = y at hti
      obtain ⟨a, n⟩ := x
      obtain ⟨b, n'⟩ := y
      simp only [mk, place] at hfi hti ⊢
      have c0 : ¬ (i : Int) ≥ (t.length : Int) := by omega
      have c1 : (i : Int) < (t.length : Int) := by omega
      have hw1 : wrap64 ((a : Int) + (n : Int)) = (a : Int) + (n : Int) := wid (by omega) (by omega)
      simp only [hw1, if_neg c0, if_pos c1]
      clear hw1
      by_cases h2 : (a : Int) + (n : Int) ≤ at_
      · rw [if_pos h2, if_neg (by omega), if_neg (by omega)]
        rcases hnext with h | ⟨h, h'⟩
        · exact h
        · rw [h', show t.drop (i + 1) = [] from List.drop_eq_nil_of_le (by omega)]
          cases f.drop (i + 1) <;> rfl
      · rw [if_neg h2]
        by_cases h1 : at_ > a
        · rw [if_pos h1, if_neg (by omega), if_pos (by omega)]
          have hw2 : wrap64 (at_ - (a : Int)) = at_ - (a : Int) := wid (by omega) (by omega)
          have hw3 : wrap64 ((b : Int) + (at_ - (a : Int))) = (b : Int) + at_ - (a : Int) := by
            clear hw2
            rw [show (b : Int) + (at_ - (a : Int)) = (b : Int) + at_ - (a : Int) by omega]
            exact wid (by omega) (by omega)
          simp only [hw2, hw3]
        · rw [if_neg h1]
          by_cases h3 : at_ < a
          · rw [if_pos h3]
          · rw [if_neg h3, if_pos (by omega)]
            congr 1
            omega
    · right
      refine ⟨by omega, ?_⟩
      generalize f[i] = x at hfi
      obtain ⟨a, n⟩ := x
      simp only [mk] at hfi ⊢
      have hw1 : wrap64 ((a : Int) + (n : Int)) = (a : Int) + (n : Int) := wid (by omega) (by omega)
      simp only [hw1]
      clear hw1
      by_cases h2 : (a : Int) + (n : Int) ≤ at_
      · rw [if_pos h2]
        rcases hnext with h | ⟨_, h'⟩
        · rw [h, show t.drop (i + 1) = [] from List.drop_eq_nil_of_le (by omega)]
          cases f.drop (i + 1) <;> rfl
        · exact h'
      · rw [if_neg h2, if_pos (by omega)]

theorem platenref18_Place_spec (at_ : Int) (f t : List NN) (e : Int) (hf : f.length ≤ 1000000) (hfw : Within f 1000000) (htw : Within t 1000000) (k : Nat) (hk : f.length < k) :
    platenref18_Place.f k at_ (f.map mk) (t.map mk) e = some (place at_ f t e) := by
  have := platenref18_Place_l0 at_ f t e hf hfw htw f.length k 0 (by omega) hk
  rcases this with h | ⟨h, h'⟩
  · simpa [platenref18_Place.f] using h
  · have : t = [] := List.eq_nil_of_length_eq_zero (by omega)
    subst this
    have e1 : place at_ f [] e = e := by cases f <;> rfl
    rw [e1]
    simpa [platenref18_Place.f] using h'

end Go.Proofs.Ytemmalkgjfdlcaa.Ad
