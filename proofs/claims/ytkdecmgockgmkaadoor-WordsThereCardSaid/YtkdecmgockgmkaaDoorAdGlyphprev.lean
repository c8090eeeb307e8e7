/- What the program tells of the character ahead of a place. -/
import Derived.Test.YtkdecmgockgmkaaDoorAdUtf8
import Derived.Test.YtkdecmgockgmkaaDoorGenBase
import Derived.Test.YtkdecmgockgmkaaDoorGenGlyph
import Derived.Test.YtkdecmgockgmkaaDoorPax1
import Derived.Test.YtkdecmgockgmkaaDoorPax2
namespace Go.Proofs.YtkdecmgockgmkaaDoor.Ad
open Go Go.RowKit Go.Proofs.YtkdecmgockgmkaaDoor.Pa Go.Proofs.YtkdecmgockgmkaaDoorW.PrintWords Go.Proofs.YtkdecmgockgmkaaDoorW.PrintLast Go.Proofs.YtkdecmgockgmkaaDoorW.PrintMore Go.Proofs.YtkdecmgockgmkaaDoor.Gen
set_option linter.unusedVariables false
set_option linter.unusedSimpArgs false

set_option maxRecDepth 100000 in
theorem start_byte : ∀ x : Fin 256, (Go.bits .and .u8 ((x.val : Nat) : Int) 192 != 128) = decide (¬ (128 ≤ ((x.val : Nat) : Int) ∧ ((x.val : Nat) : Int) ≤ 191)) := by decide
theorem utf8_RuneStart_spec (b : Int) (h0 : 0 ≤ b) (h1 : b ≤ 255) : utf8_RuneStart.f b = some (decide (¬ cont b)) := by
  obtain ⟨n, rfl⟩ : ∃ n : Nat, b = (n : Int) := ⟨b.toNat, by omega⟩
  unfold utf8_RuneStart.f cont
  exact congrArg some (start_byte ⟨n, by omega⟩)

/-- The last character, by the first place from the end that is no following byte. -/
theorem lsz_stop (l : List Int) (j : Nat) (h2 : 2 ≤ j) (h4 : j ≤ 4) (hj : j ≤ l.length) (hc : ∀ i, 2 ≤ i → i < j → ∃ h : l.length - i < l.length, cont (l[l.length - i])) (hn : ∀ h : l.length - j < l.length, ¬ cont (l[l.length - j])) :
    lsz l = if gsz (l.drop (l.length - j)) = j then j else 1 := by
  have hne : l ≠ [] := by rintro rfl; simp at hj; omega
  have small : ∀ m, 2 ≤ m → m < j → ¬ (m ≤ l.length ∧ gsz (l.drop (l.length - m)) = m) := by
    intro m h1 h3 h5
    obtain ⟨hl, hcm⟩ := hc m h1 h3
    rw [gd_cont hl hcm] at h5; omega
  have big : ∀ m, j < m → m ≤ 4 → ¬ (m ≤ l.length ∧ gsz (l.drop (l.length - m)) = m) := by
    intro m h1 h3 h5
    obtain ⟨hl, hcm⟩ := cont_in (p := l) (b := l.length - m) (i := l.length - j) (by omega) (by omega)
    exact hn hl hcm
  unfold lsz
  rw [if_neg hne]
  have : j = 2 ∨ j = 3 ∨ j = 4 := by omega
  rcases this with rfl | rfl | rfl
  · rw [if_neg (big 3 (by omega) (by omega)), if_neg (big 4 (by omega) (by omega))]
    by_cases h : gsz (l.drop (l.length - 2)) = 2
    · rw [if_pos ⟨hj, h⟩, if_pos h]
    · rw [if_neg (fun e => h e.2), if_neg h]
  · rw [if_neg (small 2 (by omega) (by omega)), if_neg (big 4 (by omega) (by omega))]
    by_cases h : gsz (l.drop (l.length - 3)) = 3
    · rw [if_pos ⟨hj, h⟩, if_pos h]
    · rw [if_neg (fun e => h e.2), if_neg h]
  · rw [if_neg (small 2 (by omega) (by omega)), if_neg (small 3 (by omega) (by omega))]
    by_cases h : gsz (l.drop (l.length - 4)) = 4
    · rw [if_pos ⟨hj, h⟩, if_pos h]
    · rw [if_neg (fun e => h e.2), if_neg h]

theorem lsz_none (l : List Int) (hne : l ≠ []) (hc : ∀ i, 2 ≤ i → i ≤ 4 → i ≤ l.length → ∃ h : l.length - i < l.length, cont (l[l.length - i])) : lsz l = 1 := by
  have small : ∀ m, 2 ≤ m → m ≤ 4 → ¬ (m ≤ l.length ∧ gsz (l.drop (l.length - m)) = m) := by
    intro m h1 h3 h5
    obtain ⟨hl, hcm⟩ := hc m h1 h3 h5.1
    rw [gd_cont hl hcm] at h5; omega
  unfold lsz
  rw [if_neg hne, if_neg (small 2 (by omega) (by omega)), if_neg (small 3 (by omega) (by omega)), if_neg (small 4 (by omega) (by omega))]

theorem lsz_low (l : List Int) (hl : 0 < l.length) (h : ¬ cont (l[l.length - 1])) : lsz l = 1 := by
  have hne : l ≠ [] := by rintro rfl; simp at hl
  have small : ∀ m, 2 ≤ m → m ≤ 4 → ¬ (m ≤ l.length ∧ gsz (l.drop (l.length - m)) = m) := by
    intro m h1 h3 h5
    obtain ⟨hl, hcm⟩ := cont_in (p := l) (b := l.length - m) (i := l.length - 1) (by omega) (by omega)
    exact h hcm
  unfold lsz
  rw [if_neg hne, if_neg (small 2 (by omega) (by omega)), if_neg (small 3 (by omega) (by omega)), if_neg (small 4 (by omega) (by omega))]

theorem last_j1 (l : List Int) (hb : Bytes l) (s : Nat) (hs : s ≤ l.length) (hl : l.length ≤ 1000000000) (k : Nat) (hk : 1 < k) :
    ∃ r, utf8_DecodeLastRune.j1 k l (l.length : Int) (s : Int) = some (r, if s + gsz (l.drop s) = l.length then (gsz (l.drop s) : Int) else 1) := by
  obtain ⟨k, rfl⟩ := ex_succ' (n := 0) (k := k) (by omega)
  have h4 := (gsz_le (l.drop s)).2
  simp only [utf8_DecodeLastRune.j1]
  rw [if_neg (by omega), if_pos (by omega), if_pos (by omega), if_pos (by omega), Int.toNat_natCast, Int.toNat_natCast, List.take_of_length_le (Nat.le_refl _), utf8_DecodeRune_spec _ (bytes_drop hb s) k (by omega), Option.bind_some]
  have hw : wrap64 ((s : Int) + (gsz (l.drop s) : Int)) = (s : Int) + (gsz (l.drop s) : Int) := wid (by omega) (by omega)
  simp only [hw]
  clear hw
  by_cases h : s + gsz (l.drop s) = l.length
  · rw [if_pos (by omega), if_pos h]; exact ⟨_, rfl⟩
  · rw [if_neg (by omega), if_neg h]; exact ⟨_, rfl⟩

theorem last_l0 (l : List Int) (hb : Bytes l) (hl : l.length ≤ 1000000000) (hl0 : 0 < l.length) (m : Nat) : ∀ (j k : Nat), j + m = 5 → 2 ≤ j → j ≤ l.length + 1 → m + 3 < k →
    (∀ i, 2 ≤ i → i < j → ∃ h : l.length - i < l.length, cont (l[l.length - i])) →
    ∃ r, utf8_DecodeLastRune.l0 k l (l.length : Int) ((l.length : Int) - (j : Int)) (mx ((l.length : Int) - 4) 0) = some (r, (lsz l : Int)) := by
  have hne : l ≠ [] := by rintro rfl; simp at hl0
  -- behind the last place that is looked at
  have out : ∀ (j k : Nat), 2 ≤ j → 2 < k → (j = 5 ∨ j = l.length + 1) → j ≤ l.length + 1 → (∀ i, 2 ≤ i → i < j → ∃ h : l.length - i < l.length, cont (l[l.length - i])) → ∃ r, utf8_DecodeLastRune.j1 k l (l.length : Int) ((l.length : Int) - (j : Int)) = some (r, (lsz l : Int)) := by
    intro j k h2 hk hj hjl hc
    have h1 : lsz l = 1 := lsz_none l hne (fun i hi h4 hil => hc i hi (by omega))
    rw [h1]
    rcases Nat.lt_or_ge l.length j with hlt | hge
    · have hj' : j = l.length + 1 := by omega
      obtain ⟨k, rfl⟩ := ex_succ' (n := 0) (k := k) (by omega)
      simp only [utf8_DecodeLastRune.j1]
      rw [if_pos (by omega), if_pos (by omega), if_pos (by omega), Int.toNat_natCast, List.take_of_length_le (Nat.le_refl _), List.drop_zero, utf8_DecodeRune_spec _ hb k (by omega), Option.bind_some]
      have h4 := gsz_le l
      have hw : wrap64 (gsz l : Int) = (gsz l : Int) := wid (by omega) (by omega)
      simp only [hw]
      clear hw
      by_cases h : (gsz l : Int) = (l.length : Int)
      · have hg : gsz l = 1 := by
          by_cases hn1 : l.length = 1
          · omega
          · obtain ⟨hh, hcm⟩ := hc l.length (by omega) (by omega)
            exact gsz_head_cont hl0 (by simpa using hcm)
        rw [if_pos h, hg]; exact ⟨_, rfl⟩
      · rw [if_neg h]; exact ⟨_, rfl⟩
    · have hj5 : j = 5 := by omega
      subst hj5
      obtain ⟨r, hr⟩ := last_j1 l hb (l.length - 5) (by omega) hl k (by omega)
      have h4 := (gsz_le (l.drop (l.length - 5))).2
      rw [if_neg (by omega)] at hr
      rw [show ((l.length - 5 : Nat) : Int) = (l.length : Int) - ((5 : Nat) : Int) by omega] at hr
      exact ⟨r, hr⟩
  induction m with
  | zero =>
    intro j k hj h2 hjl hk hc
    obtain ⟨k, rfl⟩ := ex_succ' hk
    simp only [utf8_DecodeLastRune.l0]
    rw [if_neg (by unfold mx; split <;> omega)]
    exact out j k h2 (by omega) (by omega) hjl hc
  | succ m ih =>
    intro j k hj h2 hjl hk hc
    obtain ⟨k, rfl⟩ := ex_succ' hk
    simp only [utf8_DecodeLastRune.l0]
    by_cases hlt : l.length < j
    · rw [if_neg (by unfold mx; split <;> omega)]
      exact out j k h2 (by omega) (by omega) hjl hc
    · have hi : l.length - j < l.length := by omega
      have hbb := hb _ (List.getElem_mem hi)
      have e : (l.length : Int) - (j : Int) = ((l.length - j : Nat) : Int) := by omega
      rw [if_pos (by unfold mx; split <;> omega), if_pos (by omega), if_pos (by omega), e, rd_nat l _ hi, utf8_RuneStart_spec _ hbb.1 hbb.2, Option.bind_some]
      by_cases hcc : cont (l[l.length - j])
      · rw [if_neg (by simpa using hcc)]
        have hw : wrap64 (((l.length - j : Nat) : Int) - 1) = (l.length : Int) - ((j + 1 : Nat) : Int) := by
          rw [show ((l.length - j : Nat) : Int) - 1 = (l.length : Int) - ((j + 1 : Nat) : Int) by omega]
          exact wid (by omega) (by omega)
        rw [hw]
        clear hw
        exact ih (j + 1) k (by omega) (by omega) (by omega) (by omega) (fun i h1 h3 => by
          rcases Nat.lt_or_ge i j with h | h
          · exact hc i h1 h
          · have : i = j := by omega
            subst this
            exact ⟨hi, hcc⟩)
      · rw [if_pos (by simpa using hcc)]
        obtain ⟨r, hr⟩ := last_j1 l hb (l.length - j) (by omega) hl k (by omega)
        refine ⟨r, ?_⟩
        rw [hr, lsz_stop l j h2 (by omega) (by omega) hc (fun _ => hcc)]
        by_cases hg : gsz (l.drop (l.length - j)) = j
        · rw [if_pos (by omega), if_pos hg, hg]
        · rw [if_neg (by omega), if_neg hg]; rfl

theorem utf8_DecodeLastRune_spec (l : List Int) (hb : Bytes l) (hl : l.length ≤ 1000000000) (k : Nat) (hk : 6 < k) : ∃ r, utf8_DecodeLastRune.f k l = some (r, (lsz l : Int)) := by
  unfold utf8_DecodeLastRune.f
  by_cases h : l.length = 0
  · have : l = [] := List.eq_nil_of_length_eq_zero h
    subst this
    exact ⟨_, rfl⟩
  · have hi : l.length - 1 < l.length := by omega
    have hbb := hb _ (List.getElem_mem hi)
    have w1 : wrap64 ((l.length : Int) - 1) = ((l.length - 1 : Nat) : Int) := by
      rw [show (l.length : Int) - 1 = ((l.length - 1 : Nat) : Int) by omega]; exact wid (by omega) (by omega)
    have w2 : wrap64 (((l.length - 1 : Nat) : Int) - 1) = (l.length : Int) - ((2 : Nat) : Int) := by
      clear w1
      rw [show ((l.length - 1 : Nat) : Int) - 1 = (l.length : Int) - ((2 : Nat) : Int) by omega]; exact wid (by omega) (by omega)
    have w3 : wrap64 ((l.length : Int) - 4) = (l.length : Int) - 4 := by clear w1 w2; exact wid (by omega) (by omega)
    have w4 : wrap32 (l[l.length - 1]) = l[l.length - 1] := by clear w1 w2 w3; unfold wrap32; omega
    rw [w1, w2, w3, rd_nat l _ hi, w4]
    clear w1 w2 w3 w4
    rw [if_neg (by omega), if_pos (by omega), if_pos (by omega)]
    by_cases h1 : l[l.length - 1] < 128
    · rw [if_pos h1, lsz_low l (by omega) (fun c => by unfold cont at c; omega)]
      exact ⟨_, rfl⟩
    · rw [if_neg h1]
      exact last_l0 l hb hl (by omega) 3 2 k (by omega) (by omega) (by omega) (by omega) (fun i h1 h2 => by omega)

theorem glyph_Prev_spec (p : List Int) (hb : Bytes p) (hp : p.length ≤ 1000000000) (i : Nat) (hi : i ≤ p.length) (k : Nat) (hk : 6 < k) : glyph_Prev.f k p (i : Int) = some (lsz (p.take i) : Int) := by
  unfold glyph_Prev.f
  by_cases h0 : i = 0
  · subst h0; rfl
  · rw [if_neg (by omega), if_neg (by omega), if_pos (by omega), if_pos (by omega), Int.toNat_natCast]
    obtain ⟨r, hr⟩ := utf8_DecodeLastRune_spec (p.take i) (bytes_take hb i) (by simp only [List.length_take]; omega) k hk
    rw [hr, Option.bind_some]
theorem glyph_Prev_out (p : List Int) (a : Int) (h : a ≤ 0 ∨ a > (p.length : Int)) (k : Nat) : glyph_Prev.f k p a = some 0 := by
  unfold glyph_Prev.f
  by_cases h1 : a ≤ 0
  · rw [if_pos h1]
  · rw [if_neg h1, if_pos (by omega)]

end Go.Proofs.YtkdecmgockgmkaaDoor.Ad
