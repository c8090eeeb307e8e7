/- Proved: the words' starts met walking forward are those met walking back, for any bytes. -/
import Derived.Test.YtkdecmgockgmkaaDoorAdSigns05
import Derived.Test.YtkdecmgockgmkaaDoorAdWords2
import Derived.Test.YtkdecmgockgmkaaDoorGenBase
import Derived.Test.YtkdecmgockgmkaaDoorGenKeep
import Derived.Test.YtkdecmgockgmkaaDoorGenWords
import Derived.Test.YtkdecmgockgmkaaDoorPax11
namespace Go.Proofs.YtkdecmgockgmkaaDoor.Pure
open Go Go.RowKit Go.Proofs.YtkdecmgockgmkaaDoor.Pa Go.Proofs.YtkdecmgockgmkaaDoorW.PrintWords Go.Proofs.YtkdecmgockgmkaaDoorW.PrintLast Go.Proofs.YtkdecmgockgmkaaDoorW.PrintMore Go.Proofs.YtkdecmgockgmkaaDoor.Gen Go.Proofs.YtkdecmgockgmkaaDoor.Ad
set_option linter.unusedVariables false
set_option linter.unusedSimpArgs false

/-- The first of a row behind a place, and the last ahead of one. -/
def fwdN (len : Nat) (a : Int) : List Nat → Int
  | [] => (len : Int)
  | x :: r => if (x : Int) > a then (x : Int) else fwdN len a r
def bckN (a : Int) : Int → List Nat → Int
  | d, [] => d
  | d, x :: r => bckN a (if (x : Int) < a then (x : Int) else d) r
/-- The starts that are no text's start. -/
def poss : List NN → List Nat
  | [] => []
  | x :: r => if x.1 = 0 then r.map (·.1) else (x :: r).map (·.1)
theorem fwdN_map (len : Nat) (a : Int) (L : List NN) : fwdN len a (L.map (·.1)) = fwd len a L := by
  induction L with
  | nil => rfl
  | cons x r ih => simp only [List.map_cons, fwdN, fwd, ih]
theorem bckN_map (a : Int) (L : List NN) : ∀ d, bckN a d (L.map (·.1)) = bck a d L := by
  induction L with
  | nil => intro d; rfl
  | cons x r ih => intro d; simp only [List.map_cons, bckN, bck, ih]
theorem fwd_poss (len : Nat) (a : Int) (ha : 0 ≤ a) (L : List NN) : fwd len a L = fwdN len a (poss L) := by
  cases L with
  | nil => rfl
  | cons x r =>
    simp only [poss]
    by_cases h : x.1 = 0
    · rw [if_pos h, fwdN_map, fwd, if_neg (by omega)]
    · rw [if_neg h, fwdN_map]
theorem bck_poss (a : Int) (ha : 0 < a) (L : List NN) : bck a 0 L = bckN a 0 (poss L) := by
  cases L with
  | nil => rfl
  | cons x r =>
    simp only [poss]
    by_cases h : x.1 = 0
    · rw [if_pos h, bckN_map, bck, if_pos (by omega), h]; rfl
    · rw [if_neg h, bckN_map]
theorem poss_asc (L : List NN) (h : Asc L) : (poss L).Pairwise (· < ·) ∧ ∀ x ∈ poss L, 0 < x := by
  cases L with
  | nil => exact ⟨List.Pairwise.nil, by simp [poss]⟩
  | cons x r =>
    unfold Asc at h
    rw [List.pairwise_cons] at h
    simp only [poss]
    by_cases h0 : x.1 = 0
    · rw [if_pos h0]
      refine ⟨List.pairwise_map.2 h.2, ?_⟩
      intro y hy
      obtain ⟨z, hz, rfl⟩ := List.mem_map.1 hy
      have := h.1 z hz; omega
    · rw [if_neg h0]
      refine ⟨List.pairwise_map.2 (List.pairwise_cons.2 h), ?_⟩
      intro y hy
      obtain ⟨z, hz, rfl⟩ := List.mem_map.1 hy
      rcases List.mem_cons.1 hz with rfl | hz
      · omega
      · have := h.1 z hz; omega
theorem fwdN_split (len : Nat) (a : Int) (A B : List Nat) (hA : ∀ x ∈ A, (x : Int) ≤ a) (hB : ∀ x ∈ B, a < (x : Int)) : fwdN len a (A ++ B) = match B with | [] => (len : Int) | b :: _ => (b : Int) := by
  induction A with
  | nil =>
    cases B with
    | nil => rfl
    | cons b r => simp only [List.nil_append, fwdN]; rw [if_pos (hB b (by simp))]
  | cons x A ih =>
    have := hA x (by simp)
    simp only [List.cons_append, fwdN]
    rw [if_neg (by omega)]
    exact ih (fun y hy => hA y (by simp [hy]))
theorem bckN_B (a : Int) (B : List Nat) (hB : ∀ x ∈ B, a ≤ (x : Int)) : ∀ d, bckN a d B = d := by
  induction B with
  | nil => intro d; rfl
  | cons b r ih =>
    intro d
    have := hB b (by simp)
    simp only [bckN]
    rw [if_neg (by omega)]
    exact ih (fun y hy => hB y (by simp [hy])) d
theorem bckN_split (a : Int) (A B : List Nat) (x : Nat) (hx : (x : Int) < a) (hB : ∀ x ∈ B, a ≤ (x : Int)) : ∀ d, bckN a d (A ++ x :: B) = (x : Int) := by
  induction A with
  | nil => intro d; simp only [List.nil_append, bckN]; rw [if_pos hx, bckN_B a B hB]
  | cons y A ih => intro d; simp only [List.cons_append, bckN]; exact ih _

def zz (l : List Nat) : List Int := l.map fun (n : Nat) => (n : Int)
theorem zz_len (l : List Nat) : (zz l).length = l.length := by simp [zz]
theorem rd_zz (l : List Nat) (i : Nat) (h : i < l.length) : rd (zz l) (i : Int) = (l[i] : Int) := by simp [zz, rd, h]
theorem there_l2 (S : List Nat) (hS : S.length ≤ 1000000) (n : Nat) : ∀ (k i : Nat), i + n = S.length → n < k → platenlaw05_WordsThere.l2 k (zz S) (zz S.reverse) (i : Int) = some true := by
  induction n with
  | zero =>
    intro k i hi hk
    obtain ⟨k, rfl⟩ := ex_succ hk
    rw [platenlaw05_WordsThere.l2, zz_len, if_neg (by omega)]
  | succ n ih =>
    intro k i hi hk
    obtain ⟨k, rfl⟩ := ex_succ hk
    have hlt : i < S.length := by omega
    have hnext := ih k (i + 1) (by omega) (by omega)
    have hr : S.length - 1 - i < S.reverse.length := by rw [List.length_reverse]; omega
    have w1 : wrap64 ((S.length : Int) - 1) = ((S.length - 1 : Nat) : Int) := by
      rw [show (S.length : Int) - 1 = ((S.length - 1 : Nat) : Int) by omega]; exact wid (by omega) (by omega)
    have w2 : wrap64 (((S.length - 1 : Nat) : Int) - (i : Int)) = ((S.length - 1 - i : Nat) : Int) := by
      clear w1
      rw [show ((S.length - 1 : Nat) : Int) - (i : Int) = ((S.length - 1 - i : Nat) : Int) by omega]; exact wid (by omega) (by omega)
    have w3 : wrap64 ((i : Int) + 1) = ((i + 1 : Nat) : Int) := by clear w1 w2; exact wnat (by omega)
    rw [platenlaw05_WordsThere.l2, zz_len, zz_len, List.length_reverse, w1, w2, w3]
    clear w1 w2 w3
    rw [if_pos (by omega), if_pos (by omega), if_pos (by omega), if_pos (by omega), rd_zz S i hlt, rd_zz _ _ hr, hnext]
    rw [if_pos]
    rw [List.getElem_reverse]
    simp only [show S.length - 1 - (S.length - 1 - i) = i by omega]

theorem there_l1 (p : List Int) (hp : p.length ≤ 200) (n : Nat) : ∀ (k : Nat) (A B : List Nat) (x : Nat), A.length = n → poss (wrds p) = A ++ B → (∀ y ∈ A, 0 < y ∧ y < x) → (∀ y ∈ B, x ≤ y) → A.Pairwise (· < ·) → x ≤ p.length → (x = 0 → A = []) → (poss (wrds p)).length ≤ 200 → 2 * n + 600 < k →
    platenlaw05_WordsThere.l1 k p (zz (poss (wrds p))) (zz B.reverse) (x : Int) = some true := by
  have fin : ∀ k, 500 < k → (poss (wrds p)).length ≤ 200 → platenlaw05_WordsThere.l1 k p (zz (poss (wrds p))) (zz (poss (wrds p)).reverse) 0 = some true := by
    intro k hk hl
    obtain ⟨k, rfl⟩ := ex_succ hk
    rw [platenlaw05_WordsThere.l1, words_Back_spec p (by omega) 0 k (by omega), if_pos (.inl (by omega)), Option.bind_some, if_neg (by simp), zz_len, zz_len, List.length_reverse, if_pos rfl]
    exact there_l2 _ (by omega) (poss (wrds p)).length k 0 (by omega) (by omega)
  induction n with
  | zero =>
    intro k A B x hA hP h1 h2 h3 hx h0 hl hk
    have : A = [] := List.eq_nil_of_length_eq_zero hA
    subst this
    rw [List.nil_append] at hP
    rw [← hP]
    by_cases hx0 : x = 0
    · subst hx0; exact fin k (by omega) hl
    · obtain ⟨k, rfl⟩ : ∃ k', k = k' + 2 := ⟨k - 2, by omega⟩
      have hb : bck (x : Int) 0 (wrds p) = 0 := by
        rw [bck_poss _ (by omega), hP]
        exact bckN_B _ _ (fun y hy => by have := h2 y hy; omega) 0
      rw [platenlaw05_WordsThere.l1, words_Back_spec p (by omega) _ _ (by omega), if_neg (by omega), Option.bind_some, if_pos rfl, hb, if_neg (by omega), decide_eq_false (by omega), platenlaw05_WordsThere.j4, if_neg (by simp), if_neg (by omega)]
      exact fin k (by omega) hl
  | succ n ih =>
    intro k A B x hA hP h1 h2 h3 hx h0 hl hk
    rcases List.eq_nil_or_concat A with rfl | ⟨A', a, rfl⟩
    · simp at hA
    · simp only [List.concat_eq_append] at *
      obtain ⟨k, rfl⟩ : ∃ k', k = k' + 2 := ⟨k - 2, by omega⟩
      have ha := h1 a (by simp)
      have hb : bck (x : Int) 0 (wrds p) = (a : Int) := by
        rw [bck_poss _ (by omega), hP, List.append_assoc]
        exact bckN_split _ A' B a (by omega) (fun y hy => by have := h2 y hy; omega) 0
      have hcap : (zz B.reverse).length < 17592186044416 := by
        have := congrArg List.length hP
        simp only [List.length_append] at this
        rw [zz_len, List.length_reverse]; omega
      have e : zz B.reverse ++ [(a : Int)] = zz (a :: B).reverse := by simp [zz]
      rw [List.pairwise_append] at h3
      have hnext := ih k A' (a :: B) a (by simpa using hA) (by rw [hP, List.append_assoc]; rfl) (fun y hy => ⟨(h1 y (by simp [hy])).1, h3.2.2 y hy a (by simp)⟩) (fun y hy => by
        rcases List.mem_cons.1 hy with rfl | hy
        · omega
        · have := h2 y hy; omega) h3.1 (by omega) (by omega) hl (by omega)
      rw [platenlaw05_WordsThere.l1, words_Back_spec p (by omega) _ _ (by omega), if_neg (by omega), Option.bind_some, if_pos rfl, hb, if_neg (by omega), decide_eq_false (by omega), platenlaw05_WordsThere.j4, if_neg (by simp), if_pos (by omega), if_pos hcap, e]
      exact hnext

theorem there_l0 (p : List Int) (hp : p.length ≤ 200) (hP0 : ∀ y ∈ poss (wrds p), 0 < y ∧ y < p.length) (hPs : (poss (wrds p)).Pairwise (· < ·)) (hl : (poss (wrds p)).length ≤ 200) (B : List Nat) : ∀ (k : Nat) (A : List Nat) (x : Nat), poss (wrds p) = A ++ B → (∀ y ∈ A, y ≤ x) → (∀ y ∈ B, x < y) → x ≤ p.length → (x = p.length → B = []) → 2 * B.length + 1500 < k →
    platenlaw05_WordsThere.l0 k p (zz A) (x : Int) = some true := by
  have fin : ∀ k, 1400 < k → platenlaw05_WordsThere.l0 k p (zz (poss (wrds p))) (p.length : Int) = some true := by
    intro k hk
    obtain ⟨k, rfl⟩ := ex_succ hk
    rw [platenlaw05_WordsThere.l0, words_Forward_spec p (by omega) _ k (by omega), if_pos (.inr (by omega)), Option.bind_some, if_neg (by simp)]
    exact there_l1 p hp (poss (wrds p)).length k (poss (wrds p)) [] p.length rfl (by simp) (fun y hy => hP0 y hy) (by simp) hPs (by omega) (fun h0 => by
      cases hq : poss (wrds p) with
      | nil => rfl
      | cons y r => have := hP0 y (by rw [hq]; simp); omega) hl (by omega)
  induction B with
  | nil =>
    intro k A x hP h1 h2 hx h0 hk
    rw [List.append_nil] at hP
    rw [← hP]
    by_cases he : x = p.length
    · subst he; exact fin k (by simp at hk; omega)
    · obtain ⟨k, rfl⟩ : ∃ k', k = k' + 2 := ⟨k - 2, by simp at hk; omega⟩
      have hf : fwd p.length (x : Int) (wrds p) = (p.length : Int) := by
        rw [fwd_poss _ _ (by omega)]
        have := fwdN_split p.length (x : Int) (poss (wrds p)) [] (fun y hy => by rw [hP] at hy; have := h1 y hy; omega) (by simp)
        simpa using this
      simp only [List.length_nil] at hk
      rw [platenlaw05_WordsThere.l0, words_Forward_spec p (by omega) _ _ (by omega), if_neg (by omega), Option.bind_some, if_pos rfl, hf, if_neg (by omega), decide_eq_false (by omega), platenlaw05_WordsThere.j2, if_neg (by simp), if_neg (by omega)]
      exact fin k (by omega)
  | cons b B ih =>
    intro k A x hP h1 h2 hx h0 hk
    simp only [List.length_cons] at hk
    obtain ⟨k, rfl⟩ : ∃ k', k = k' + 2 := ⟨k - 2, by omega⟩
    have hb := hP0 b (by rw [hP]; simp)
    have hbx := h2 b (by simp)
    have hPs' := hPs
    rw [hP, List.pairwise_append, List.pairwise_cons] at hPs'
    have hf : fwd p.length (x : Int) (wrds p) = (b : Int) := by
      rw [fwd_poss _ _ (by omega), hP]
      have := fwdN_split p.length (x : Int) A (b :: B) (fun y hy => by have := h1 y hy; omega) (fun y hy => by have := h2 y hy; omega)
      simpa using this
    have hne : x ≠ p.length := fun e => by have := h0 e; simp at this
    have hcap : (zz A).length < 17592186044416 := by
      have := congrArg List.length hP
      simp only [List.length_append] at this
      rw [zz_len]; omega
    have e : zz A ++ [(b : Int)] = zz (A ++ [b]) := by simp [zz]
    have hnext := ih k (A ++ [b]) b (by rw [hP, List.append_assoc]; rfl) (fun y hy => by
      rcases List.mem_append.1 hy with hy | hy
      · have := hPs'.2.2 y hy b (by simp); omega
      · simp at hy; omega) (fun y hy => hPs'.2.1.1 y hy) (by omega) (by omega) (by omega)
    rw [platenlaw05_WordsThere.l0, words_Forward_spec p (by omega) _ _ (by omega), if_neg (by omega), Option.bind_some, if_pos rfl, hf, if_neg (by omega), decide_eq_false (by omega), platenlaw05_WordsThere.j2, if_neg (by simp), if_pos (by omega), if_pos hcap, e]
    exact hnext

theorem WordsThere : platenlaw05_WordsThere.Pure := by
  intro p _ _ hp
  have bp := bytes_of hp
  refine ⟨5001, ?_⟩
  unfold platenlaw05_WordsThere.f
  rw [platenlaw05_runs_spec 5001 (by omega), Option.bind_some, if_pos rfl]
  by_cases h : (p.length : Int) > 200
  · rw [decide_eq_true h, platenlaw05_WordsThere.j0, if_pos rfl, platenlaw05_runs_spec 5000 (by omega), Option.bind_some]
  · rw [decide_eq_false h, platenlaw05_WordsThere.j0, if_neg (by simp)]
    have hpa := poss_asc (wrds p) (wrds_asc p)
    have hsub : ∀ y ∈ poss (wrds p), ∃ z ∈ wrds p, z.1 = y := by
      intro y hy
      cases hw : wrds p with
      | nil => rw [hw] at hy; simp [poss] at hy
      | cons z r =>
        rw [hw] at hy
        simp only [poss] at hy
        split at hy
        · obtain ⟨u, hu, rfl⟩ := List.mem_map.1 hy; exact ⟨u, by simp [hu], rfl⟩
        · obtain ⟨u, hu, rfl⟩ := List.mem_map.1 hy; exact ⟨u, hu, rfl⟩
    have hl : (poss (wrds p)).length ≤ 200 := by
      have h1 := rn_length p 0
      have h2 : (wrds p).length ≤ (rn 0 p).length := List.length_filter_le _ _
      have h3 : (poss (wrds p)).length ≤ (wrds p).length := by
        cases wrds p with
        | nil => simp [poss]
        | cons z r => simp only [poss]; split <;> simp
      omega
    have hP0 : ∀ y ∈ poss (wrds p), 0 < y ∧ y < p.length := by
      intro y hy
      refine ⟨hpa.2 y hy, ?_⟩
      obtain ⟨z, hz, rfl⟩ := hsub y hy
      have := wrds_mem p z hz; omega
    exact there_l0 p (by omega) hP0 hpa.1 hl (poss (wrds p)) 5000 [] 0 rfl (by simp) (fun y hy => (hP0 y hy).1) (by omega) (fun e => by
      cases hq : poss (wrds p) with
      | nil => rfl
      | cons y r => have := hP0 y (by rw [hq]; simp); omega) (by omega)

end Go.Proofs.YtkdecmgockgmkaaDoor.Pure
