/- What the law's own functions of layer 18 compute: other blanks, and the document's place. -/
import Derived.Test.YtemmalkgjfdlcaaAdAlike
import Derived.Test.YtemmalkgjfdlcaaAdKeep
import Derived.Test.YtemmalkgjfdlcaaAdSolid
import Derived.Test.YtemmalkgjfdlcaaGenBase
import Derived.Test.YtemmalkgjfdlcaaGenKeep
import Derived.Test.YtemmalkgjfdlcaaPax0
import Derived.Test.YtemmalkgjfdlcaaPax3
import Derived.Test.YtemmalkgjfdlcaaPax5
namespace Go.Proofs.Ytemmalkgjfdlcaa.Ad
open Go Go.RowKit Go.Proofs.Ytemmalkgjfdlcaa.Pa Go.Proofs.YtemmalkgjfdlcaaW.PrintWords Go.Proofs.YtemmalkgjfdlcaaW.PrintLast Go.Proofs.YtemmalkgjfdlcaaW.PrintMore Go.Proofs.Ytemmalkgjfdlcaa.Gen
set_option linter.unusedVariables false
set_option linter.unusedSimpArgs false

theorem platenref18_Solid_spec (at_ : Int) (p q : List Int) (hp : p.length ≤ 1000000) (hq : q.length ≤ 1000000) (k : Nat) (hkp : 2 * p.length + 1 < k) (hkq : 2 * q.length + 1 < k) :
    platenref18_Solid.f k at_ p q = some (place at_ (sol p) (sol q) (q.length : Int)) := by
  have := sol_length p
  unfold platenref18_Solid.f
  rw [platenref05_Solid_spec p hp k hkp, Option.bind_some, platenref05_Solid_spec q hq k hkq, Option.bind_some,
    platenref18_Place_spec at_ _ _ _ (by omega) (within_mono (sol_within p) hp) (within_mono (sol_within q) hq) k (by omega), Option.bind_some]

/-- A byte of a gap. -/
theorem gap_byte (j : Int) (h0 : 0 ≤ j) (h3 : j < 3) : ws (bt (⟨#[32, 10, 9]⟩ : ByteArray) j) := by
  have : j = 0 ∨ j = 1 ∨ j = 2 := by omega
  rcases this with rfl | rfl | rfl <;> decide

theorem blanks_l1 (p l : List Int) (S : List S33) (c : Nat) (hc : c ≤ 255) (i : Nat) (m : Nat) : ∀ (k : Nat) (acc : List Int) (j : Nat), j + m = c % 4 → acc.length + m ≤ 1000000 → ∃ g : List Int, g.length = m ∧ (∀ x ∈ g, ws x) ∧
    platenlaw18_blanks.l1 (k + m + 1) p l S acc (i : Int) (c : Int) (j : Int) = platenlaw18_blanks.l1 (k + 1) p l S (acc ++ g) (i : Int) (c : Int) ((c % 4 : Nat) : Int) := by
  induction m with
  | zero =>
    intro k acc j hj _
    refine ⟨[], rfl, by simp, ?_⟩
    rw [List.append_nil, show j = c % 4 by omega]
  | succ m ih =>
    intro k acc j hj ha
    obtain ⟨g, h1, h2, h3⟩ := ih k (acc ++ [bt (⟨#[32, 10, 9]⟩ : ByteArray) (((c / 4 + j) % 3 : Nat) : Int)]) (j + 1) (by omega) (by simp; omega)
    refine ⟨bt (⟨#[32, 10, 9]⟩ : ByteArray) (((c / 4 + j) % 3 : Nat) : Int) :: g, by simp [h1], ?_, ?_⟩
    · intro x hx
      rcases List.mem_cons.1 hx with rfl | hx
      · exact gap_byte _ (by omega) (by omega)
      · exact h2 x hx
    · rw [show k + (m + 1) + 1 = (k + m + 1) + 1 by omega]
      conv => lhs; unfold platenlaw18_blanks.l1
      have e1 : Int.tmod (c : Int) 4 = ((c % 4 : Nat) : Int) := by rw [Int.tmod_eq_emod_of_nonneg (by omega)]; omega
      have e2 : Int.tdiv (c : Int) 4 = ((c / 4 : Nat) : Int) := by rw [Int.tdiv_eq_ediv_of_nonneg (by omega)]; omega
      have e3 : Int.tmod (((c / 4 : Nat) : Int) + (j : Int)) 3 = (((c / 4 + j) % 3 : Nat) : Int) := by rw [Int.tmod_eq_emod_of_nonneg (by omega)]; omega
      have c1 : (j : Int) < ((c % 4 : Nat) : Int) := by omega
      have c2 : (0 : Int) ≤ (((c / 4 + j) % 3 : Nat) : Int) := by omega
      have c3 : (((c / 4 + j) % 3 : Nat) : Int) < 3 := by omega
      have c4 : acc.length < 140737488355328 := by omega
      have w1 : wrap64 (c : Int) = (c : Int) := wid (by omega) (by omega)
      have w2 : wrap64 ((c / 4 : Nat) : Int) = ((c / 4 : Nat) : Int) := by clear w1; exact wid (by omega) (by omega)
      have w3 : wrap64 (((c / 4 : Nat) : Int) + (j : Int)) = ((c / 4 : Nat) : Int) + (j : Int) := by clear w1 w2; exact wid (by omega) (by omega)
      have w4 : wrap64 ((j : Int) + 1) = ((j + 1 : Nat) : Int) := by clear w1 w2 w3; exact wnat (by omega)
      simp only [w1, e1, e2, w2, w3, e3, w4, if_pos c1, if_pos c2, if_pos c3, if_pos c4]
      rw [h3, List.append_assoc, List.singleton_append]

theorem sol_cut_len (p : List Int) : ∀ (i : Nat) (h : i < (sol p).length), (cut p (sol p)[i]).length = (sol p)[i].2 := fun i h => cut_len _ _ (sol_within p _ (List.getElem_mem h))

theorem texts_at (p : List Int) (i : Nat) (h : i < (sol p).length) : (texts p)[i]'(by simpa [texts] using h) = cut p (sol p)[i] := by simp [texts]

/-- The pieces' bytes are no more than the text's. -/
theorem flat_pieces (D : List GP) : (D.map fun d => d.2.length).sum ≤ (flat D).length := by
  induction D with
  | nil => simp [flat]
  | cons d t ih => obtain ⟨g, s⟩ := d; rw [flat_len]; simp only [List.map_cons, List.sum_cons]; omega

theorem blanks_l0 (p l : List Int) (bl : Bytes l) (hp : p.length ≤ 200) (m : Nat) : ∀ (k : Nat) (D : List GP) (i : Nat), i + m = (sol p).length + 1 → i ≤ (sol p).length → D.map (·.2) = (texts p).take i → VD true D → (flat D).length ≤ 210 * i → 12 * m < k →
    ∃ D' last', platenlaw18_blanks.l0 k p l ((sol p).map mk) (flat D) (i : Int) = some (flat D' ++ last') ∧ VD true D' ∧ (∀ c ∈ last', ws c) ∧ D'.map (·.2) = texts p ∧ (flat D').length ≤ 210 * 201 ∧ last'.length ≤ 3 := by
  induction m with
  | zero => intro k D i h1 h2 _ _ _ _; omega
  | succ m ih =>
    intro k D i h1 h2 hD hV hn hk
    have hsl := sol_length p
    obtain ⟨k, rfl⟩ : ∃ k', k = k' + 9 := ⟨k - 9, by omega⟩
    -- the number told for this gap
    obtain ⟨c, hc, hn4, hstep⟩ : ∃ c : Nat, c ≤ 255 ∧ (i > 0 → i < (sol p).length → c % 4 ≠ 0) ∧ platenlaw18_blanks.l0 (k + 9) p l ((sol p).map mk) (flat D) (i : Int) = platenlaw18_blanks.l1 (k + 5) p l ((sol p).map mk) (flat D) (i : Int) (c : Int) 0 := by
      obtain ⟨c0, hc0, hs0⟩ : ∃ c0 : Nat, c0 ≤ 255 ∧ platenlaw18_blanks.l0 (k + 9) p l ((sol p).map mk) (flat D) (i : Int) = platenlaw18_blanks.j1 (k + 8) p l ((sol p).map mk) (flat D) (i : Int) (c0 : Int) := by
        conv => enter [1, c0, 2]; lhs; unfold platenlaw18_blanks.l0
        simp only [List.length_map]
        rw [if_pos (by omega)]
        by_cases hi : i < l.length
        · rw [if_pos (by omega), if_pos (by omega), rd_nat l i hi]
          have := bl l[i] (List.getElem_mem hi)
          exact ⟨l[i].toNat, by omega, by rw [Int.toNat_of_nonneg this.1]⟩
        · rw [if_neg (by omega)]
          exact ⟨0, by omega, rfl⟩
      rw [hs0]
      have e4 : Int.tmod (c0 : Int) 4 = ((c0 % 4 : Nat) : Int) := by rw [Int.tmod_eq_emod_of_nonneg (by omega)]; omega
      have hj2 : platenlaw18_blanks.j1 (k + 8) p l ((sol p).map mk) (flat D) (i : Int) (c0 : Int) = platenlaw18_blanks.j2 (k + 7) p l ((sol p).map mk) (flat D) (i : Int) (c0 : Int) (decide (i > 0 ∧ i < (sol p).length ∧ c0 % 4 = 0)) := by
        conv => lhs; unfold platenlaw18_blanks.j1
        simp only [List.length_map, e4]
        by_cases a1 : i > 0
        · rw [if_pos (by omega)]
          by_cases a2 : i < (sol p).length
          · rw [if_pos (by omega)]
            congr 1
            simp only [a1, a2, true_and]
            rw [Bool.eq_iff_iff]; simp; omega
          · rw [if_neg (by omega), decide_eq_false (by omega)]
        · rw [if_neg (by omega), decide_eq_false (by omega)]
      rw [hj2]
      by_cases a : i > 0 ∧ i < (sol p).length ∧ c0 % 4 = 0
      · refine ⟨c0 + 1, by omega, by omega, ?_⟩
        rw [decide_eq_true a]
        conv => lhs; unfold platenlaw18_blanks.j2
        rw [if_pos rfl, show ((c0 : Int) + 1) % 256 = ((c0 + 1 : Nat) : Int) by omega]
        conv => lhs; unfold platenlaw18_blanks.j3
      · refine ⟨c0, hc0, by omega, ?_⟩
        rw [decide_eq_false a]
        conv => lhs; unfold platenlaw18_blanks.j2
        rw [if_neg (by simp)]
        conv => lhs; unfold platenlaw18_blanks.j3
    rw [hstep]
    have h4 : c % 4 ≤ 3 := by omega
    obtain ⟨g, hg1, hg2, hg3⟩ := blanks_l1 p l ((sol p).map mk) c hc i (c % 4) (k + 4 - c % 4) (flat D) 0 (by omega) (by omega)
    rw [show k + 4 - c % 4 + c % 4 + 1 = k + 5 by omega] at hg3
    rw [show ((0 : Nat) : Int) = 0 from rfl] at hg3
    rw [hg3]
    obtain ⟨k', hk'⟩ : ∃ k', k + 4 - c % 4 = k' ∧ 12 * m < k' := ⟨_, rfl, by omega⟩
    rw [hk'.1]
    conv => enter [1, D', 1, last', 1]; lhs; unfold platenlaw18_blanks.l1
    have e1 : Int.tmod (c : Int) 4 = ((c % 4 : Nat) : Int) := by rw [Int.tmod_eq_emod_of_nonneg (by omega)]; omega
    have hlen : (flat D ++ g).length ≤ 210 * i + 3 := by simp only [List.length_append]; omega
    have n0 : ¬ ((c % 4 : Nat) : Int) < ((c % 4 : Nat) : Int) := by omega
    have hw1 : wrap64 (c : Int) = (c : Int) := wid (by omega) (by omega)
    simp only [hw1, e1, if_neg n0, List.length_map]
    clear hw1 hg3 hstep
    by_cases hi : i < (sol p).length
    · have hti : i < (texts p).length := by simpa [texts] using hi
      have hwi := sol_within p _ (List.getElem_mem hi)
      have hcl := sol_cut_len p i hi
      have hgood := texts_good p _ (List.getElem_mem hti)
      have hat := texts_at p i hi
      rw [hat] at hgood
      have hcut : cut p (sol p)[i] = (p.take ((sol p)[i].1 + (sol p)[i].2)).drop (sol p)[i].1 := rfl
      obtain ⟨D', last', h3, h4', h5, h6, h7, h8⟩ := ih k' (D ++ [(g, cut p (sol p)[i])]) (i + 1) (by omega) (by omega) (by
        rw [List.map_append, hD, List.take_succ_eq_append_getElem hti, hat]; rfl) (VD_snoc g _ hg2 hgood.1 hgood.2 D true hV (by simp) (fun hne => by
        have hi0 : i > 0 := by
          rcases Nat.eq_zero_or_pos i with rfl | h
          · exact absurd (by simpa using hD) hne
          · exact h
        intro hg0
        have := hn4 hi0 hi
        subst hg0; simp at hg1; omega)) (by rw [flat_snoc]; simp only [List.length_append] at hlen ⊢; omega) (by omega)
      refine ⟨D', last', ?_, h4', h5, h6, h7, h8⟩
      rw [← h3, flat_snoc, if_pos (by omega), if_pos (by omega), rd_mk _ i hi]
      rw [hcut] at hcl ⊢
      generalize (sol p)[i] = x at hwi hcl ⊢
      obtain ⟨a, n⟩ := x
      simp only at hwi hcl
      have c1 : 0 ≤ (a : Int) := by omega
      have c2 : (a : Int) ≤ (a : Int) + (n : Int) := by omega
      have c3 : (a : Int) + (n : Int) ≤ (p.length : Int) := by omega
      have c5 : ((a : Int) + (n : Int)).toNat = a + n := by omega
      have c6 : (flat D ++ g).length + ((p.take (a + n)).drop a).length < 140737488355328 := by rw [hcl]; omega
      have hw0 : wrap64 ((i : Int) + 1) = ((i + 1 : Nat) : Int) := wnat (by omega)
      have hw1 : wrap64 ((a : Int) + (n : Int)) = (a : Int) + (n : Int) := wid (by clear hw0; omega) (by clear hw0; omega)
      simp only [mk, hw0, hw1, c1, c2, c3, c5, c6, if_true, Int.toNat_natCast, List.append_assoc]
    · have hieq : i = (sol p).length := by omega
      refine ⟨D, g, ?_, hV, hg2, by rw [hD, List.take_of_length_le]; simp [texts, hieq], by omega, by omega⟩
      rw [if_neg (by omega)]
      obtain ⟨k', rfl⟩ : ∃ k'', k' = k'' + 1 := ⟨k' - 1, by omega⟩
      have hw0 : wrap64 ((i : Int) + 1) = ((i + 1 : Nat) : Int) := wnat (by omega)
      rw [hw0]
      clear hw0
      conv => lhs; unfold platenlaw18_blanks.l0
      rw [if_neg (by simp only [List.length_map]; omega)]

theorem bytes_flat {D : List GP} {last : List Int} {p : List Int} (bp : Bytes p) (hD : VD true D) (hl : ∀ c ∈ last, ws c) (hm : D.map (·.2) = texts p) : Bytes (flat D ++ last) := by
  have hwsb : ∀ c : Int, ws c → 0 ≤ c ∧ c ≤ 255 := by intro c h; unfold ws at h; omega
  have hg : ∀ (D : List GP) (v : Bool), VD v D → (∀ s ∈ D.map (·.2), Bytes s) → Bytes (flat D) := by
    intro D
    induction D with
    | nil => intro v _ _ x hx; simp [flat] at hx
    | cons d t ih =>
      obtain ⟨g, s⟩ := d
      intro v h hb x hx
      rw [flat_cons] at hx
      rcases List.mem_append.1 hx with hx | hx
      · exact hwsb x (h.1 x hx)
      · rcases List.mem_append.1 hx with hx | hx
        · exact hb s (by simp) x hx
        · exact ih false h.2.2.2.2 (fun s hs => hb s (by simp [hs])) x hx
  intro x hx
  rcases List.mem_append.1 hx with hx | hx
  · exact hg D true hD (fun s hs => texts_bytes bp s (hm ▸ hs)) x hx
  · exact hwsb x (hl x hx)

theorem platenlaw18_blanks_spec (p l : List Int) (bp : Bytes p) (bl : Bytes l) (hp : p.length ≤ 200) (k : Nat) (hk : 12 * p.length + 24 < k) :
    ∃ q, platenlaw18_blanks.f k p l = some q ∧ texts q = texts p ∧ Bytes q ∧ q.length ≤ 42300 := by
  have hsl := sol_length p
  obtain ⟨D', last', h1, h2, h3, h4, h5, h6⟩ := blanks_l0 p l bl hp ((sol p).length + 1) k [] 0 (by omega) (by omega) (by simp) trivial (by simp [flat]) (by omega)
  refine ⟨flat D' ++ last', ?_, ?_, bytes_flat bp h2 h3 h4, ?_⟩
  · unfold platenlaw18_blanks.f
    rw [platenref05_Solid_spec p (by omega) k (by omega), Option.bind_some]
    simpa [flat] using h1
  · rw [texts_flat h2 h3, h4]
  · simp only [List.length_append]; omega

end Go.Proofs.Ytemmalkgjfdlcaa.Ad
