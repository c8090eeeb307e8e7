/- The plain law of columns: where a byte or a character ends, what a text is wide, which place a column is in, and the shortest blanks that fill a width; no program in sight. -/
import Derived.Test.YtegeghnmnpklpaaDoorGenGlyph
namespace Go.Proofs.YtegeghnmnpklpaaDoor.Gen
open Go Go.RowKit
set_option linter.unusedVariables false
set_option linter.unusedSimpArgs false

/-- The column behind a byte. -/
def stp (c b t : Nat) : Nat := if b = 9 then c + t - c % t else c + 1
theorem stp_gt (c b t : Nat) (h : 0 < t) : c < stp c b t := by
  unfold stp; have := Nat.mod_lt c h; split <;> omega
theorem stp_le (c b t : Nat) (h : 0 < t) : stp c b t ≤ c + t := by
  unfold stp; split <;> omega

/-- The column behind a text. -/
def widF : Nat → List Int → Nat → Nat → Nat
  | 0, _, c, _ => c
  | n + 1, q, c, t => match q with
    | [] => c
    | b :: r => widF n ((b :: r).drop (gsz (b :: r))) (stp c b.toNat t) t
def wid_ (q : List Int) (c t : Nat) : Nat := widF q.length q c t

theorem widF_fuel (n : Nat) : ∀ (m : Nat) (q : List Int) (c t : Nat), q.length ≤ n → q.length ≤ m → widF n q c t = widF m q c t := by
  induction n with
  | zero =>
    intro m q c t h1 h2
    have : q = [] := List.eq_nil_of_length_eq_zero (by omega)
    subst this
    cases m <;> simp [widF]
  | succ n ih =>
    intro m q c t h1 h2
    cases m with
    | zero =>
      have : q = [] := List.eq_nil_of_length_eq_zero (by omega)
      subst this; simp [widF]
    | succ m =>
      cases q with
      | nil => rfl
      | cons b r =>
        have := gsz_pos (q := b :: r) (by simp)
        simp only [widF]
        exact ih m _ _ _ (by simp only [List.length_drop]; simp only [List.length_cons] at *; omega) (by simp only [List.length_drop]; simp only [List.length_cons] at *; omega)

theorem wid_nil (c t : Nat) : wid_ [] c t = c := rfl
theorem wid_cons (b : Int) (r : List Int) (c t : Nat) : wid_ (b :: r) c t = wid_ ((b :: r).drop (gsz (b :: r))) (stp c b.toNat t) t := by
  have := gsz_pos (q := b :: r) (by simp)
  unfold wid_
  simp only [List.length_cons, widF]
  exact widF_fuel _ _ _ _ _ (by simp only [List.length_drop, List.length_cons]; omega) (Nat.le_refl _)
theorem wid_at (p : List Int) (x : Nat) (h : x < p.length) (c t : Nat) : wid_ (p.drop x) c t = wid_ (p.drop (x + gsz (p.drop x))) (stp c p[x].toNat t) t := by
  rw [← List.drop_drop, drop_at p x h, wid_cons]

theorem wid_le (n : Nat) : ∀ (q : List Int) (c t : Nat), q.length ≤ n → 0 < t → c ≤ wid_ q c t ∧ wid_ q c t ≤ c + q.length * t ∧ (q ≠ [] → c < wid_ q c t) := by
  induction n with
  | zero =>
    intro q c t h h0
    have : q = [] := List.eq_nil_of_length_eq_zero (by omega)
    subst this; simp [wid_nil]
  | succ n ih =>
    intro q c t h h0
    cases q with
    | nil => simp [wid_nil]
    | cons b r =>
      have hp := gsz_pos (q := b :: r) (by simp)
      have h1 := stp_gt c b.toNat t h0
      have h2 := stp_le c b.toNat t h0
      have := ih ((b :: r).drop (gsz (b :: r))) (stp c b.toNat t) t (by simp only [List.length_drop]; simp only [List.length_cons] at *; omega) h0
      rw [wid_cons]
      simp only [List.length_drop, List.length_cons] at *
      have hm : (r.length + 1 - gsz (b :: r)) * t ≤ r.length * t := Nat.mul_le_mul_right t (by omega)
      rw [Nat.add_mul, Nat.one_mul]
      omega

/-- A text's width is its parts', told at a start. -/
theorem wid_split {p : List Int} {f : Nat} (hf : Bd p f) (t : Nat) : ∀ x c, Bd p x → x ≤ f → wid_ (p.drop x) c t = wid_ (p.drop f) (wid_ ((p.take f).drop x) c t) t := by
  have : ∀ n x c, Bd p x → x ≤ f → f ≤ x + n → wid_ (p.drop x) c t = wid_ (p.drop f) (wid_ ((p.take f).drop x) c t) t := by
    intro n
    induction n with
    | zero =>
      intro x c hx h1 h2
      have : x = f := by omega
      subst this
      rw [List.drop_eq_nil_of_le (as := List.take x p) (by simp; omega), wid_nil]
    | succ n ih =>
      intro x c hx h1 h2
      have hfl := hf.le
      rcases Nat.lt_or_ge x f with h | h
      · have hlt : x < p.length := by omega
        have hg := gd_pos p x hlt
        have hc := hf.clear x h
        have hlt' : x < (p.take f).length := by simp only [List.length_take]; omega
        have e : gsz ((p.take f).drop x) = gsz (p.drop x) := by rw [List.drop_take]; exact gsz_take _ _ (by omega)
        rw [wid_at p x hlt, wid_at (p.take f) x hlt', e, List.getElem_take]
        exact ih _ _ (hx.next hlt) hc (by omega)
      · have : x = f := by omega
        subst this
        rw [List.drop_eq_nil_of_le (as := List.take x p) (by simp; omega), wid_nil]
  intro x c hx h
  exact this f x c hx h (by omega)

theorem wid_take {p : List Int} {x : Nat} (h : Bd p x) (hx : x < p.length) (c t : Nat) : wid_ (p.take (x + gsz (p.drop x))) c t = stp (wid_ (p.take x) c t) p[x].toNat t := by
  have hg := gd_pos p x hx
  have hle := gd_le p x (by omega)
  have hn := h.next hx
  have h1 := hn.take h (by omega)
  have h2 := wid_split h1 t 0 c .zero (by omega)
  have hlt : x < (p.take (x + gsz (p.drop x))).length := by simp only [List.length_take]; omega
  have e : gsz ((p.take (x + gsz (p.drop x))).drop x) = gsz (p.drop x) := by rw [List.drop_take]; exact gsz_take _ _ (by omega)
  simp only [List.drop_zero] at h2
  rw [h2, wid_at _ x hlt, e, List.getElem_take, List.drop_eq_nil_of_le (by simp only [List.length_take]; omega), wid_nil, List.take_take, Nat.min_eq_left (by omega)]

/-- The place that a column is in, from a place on whose column is told. -/
def atF : Nat → List Int → Nat → Nat → Nat → Nat → Nat
  | 0, p, _, _, _, _ => p.length
  | n + 1, p, x, c, col, t => if h : x < p.length then (if col < stp c p[x].toNat t then x else atF n p (x + gsz (p.drop x)) (stp c p[x].toNat t) col t) else p.length

theorem atF_fuel (p : List Int) (col t : Nat) (n : Nat) : ∀ (m x c : Nat), p.length ≤ x + n → p.length ≤ x + m → atF n p x c col t = atF m p x c col t := by
  induction n with
  | zero =>
    intro m x c h1 h2
    cases m with
    | zero => rfl
    | succ m => simp only [atF]; rw [dif_neg (by omega)]
  | succ n ih =>
    intro m x c h1 h2
    cases m with
    | zero => simp only [atF]; rw [dif_neg (by omega)]
    | succ m =>
      simp only [atF]
      by_cases h : x < p.length
      · have := gd_pos p x h
        rw [dif_pos h, dif_pos h, ih m _ _ (by omega) (by omega)]
      · rw [dif_neg h, dif_neg h]

def at_ (p : List Int) (col t : Nat) : Nat := atF p.length p 0 0 col t

theorem atF_spec (p : List Int) (col t : Nat) (n : Nat) : ∀ x, Bd p x → p.length ≤ x + n → wid_ (p.take x) 0 t ≤ col →
    Bd p (atF n p x (wid_ (p.take x) 0 t) col t) ∧ wid_ (p.take (atF n p x (wid_ (p.take x) 0 t) col t)) 0 t ≤ col ∧
    (∀ h : atF n p x (wid_ (p.take x) 0 t) col t < p.length, col < wid_ (p.take (atF n p x (wid_ (p.take x) 0 t) col t + gsz (p.drop (atF n p x (wid_ (p.take x) 0 t) col t)))) 0 t) := by
  induction n with
  | zero =>
    intro x hx h1 h2
    have : x = p.length := by have := hx.le; omega
    subst this
    simp only [atF]
    exact ⟨hx, h2, fun h => by omega⟩
  | succ n ih =>
    intro x hx h1 h2
    simp only [atF]
    by_cases h : x < p.length
    · have hg := gd_pos p x h
      have hw := wid_take hx h 0 t
      simp only [dif_pos h]
      by_cases hc : col < stp (wid_ (p.take x) 0 t) p[x].toNat t
      · simp only [if_pos hc]
        exact ⟨hx, h2, fun _ => by rw [hw]; exact hc⟩
      · simp only [if_neg hc]
        have := ih _ (hx.next h) (by omega) (by rw [hw]; omega)
        rw [hw] at this
        exact this
    · have : x = p.length := by have := hx.le; omega
      subst this
      simp only [dif_neg h]
      exact ⟨hx, h2, fun h => by omega⟩

/-- Blanks that fill a width. -/
def fillF : Nat → Nat → Nat → Nat → Bool → List Int
  | 0, _, _, _, _ => []
  | n + 1, c, w, t, sp => if c < w then (if sp = false ∧ stp c 9 t ≤ w ∧ c + 1 < stp c 9 t then 9 :: fillF n (stp c 9 t) w t sp else 32 :: fillF n (c + 1) w t sp) else []
def fill (c w t : Nat) (sp : Bool) : List Int := fillF (w - c) c w t sp

theorem fillF_fuel (w t : Nat) (sp : Bool) (n : Nat) : ∀ (m c : Nat), w ≤ c + n → w ≤ c + m → fillF n c w t sp = fillF m c w t sp := by
  induction n with
  | zero =>
    intro m c h1 h2
    cases m with
    | zero => rfl
    | succ m => simp only [fillF]; rw [if_neg (by omega)]
  | succ n ih =>
    intro m c h1 h2
    cases m with
    | zero => simp only [fillF]; rw [if_neg (by omega)]
    | succ m =>
      simp only [fillF]
      by_cases h : c < w
      · rw [if_pos h, if_pos h]
        by_cases h3 : sp = false ∧ stp c 9 t ≤ w ∧ c + 1 < stp c 9 t
        · rw [if_pos h3, if_pos h3, ih m _ (by omega) (by omega)]
        · rw [if_neg h3, if_neg h3, ih m _ (by omega) (by omega)]
      · rw [if_neg h, if_neg h]

theorem fillF_len (w t : Nat) (sp : Bool) (n : Nat) : ∀ c, (fillF n c w t sp).length ≤ n := by
  induction n with
  | zero => intro c; simp [fillF]
  | succ n ih =>
    intro c
    simp only [fillF]
    (repeat' split) <;> simp only [List.length_cons, List.length_nil]
    · have := ih (stp c 9 t); omega
    · have := ih (c + 1); omega
    · omega

/-- A blank is one character. -/
theorem gsz_low {b : Int} (t : List Int) (h : b < 194) : gsz (b :: t) = 1 := by
  have hn : need b = 1 := by unfold need; rw [if_neg (by omega), if_neg (by omega), if_neg (by omega)]
  match t with
  | [] => rfl
  | [c] => simp [gsz, hn]
  | [c, d] => simp [gsz, hn]
  | c :: d :: e :: t => simp [gsz, hn]

theorem wid_low {b : Int} (r : List Int) (h : b < 194) (c t : Nat) : wid_ (b :: r) c t = wid_ r (stp c b.toNat t) t := by
  rw [wid_cons, gsz_low r h]; rfl

/-- What fills a width is as wide. -/
theorem fillF_wid (w t : Nat) (sp : Bool) (n : Nat) : ∀ c, c ≤ w → w ≤ c + n → wid_ (fillF n c w t sp) c t = w := by
  induction n with
  | zero => intro c h1 h2; simp only [fillF]; rw [wid_nil]; omega
  | succ n ih =>
    intro c h1 h2
    simp only [fillF]
    by_cases h : c < w
    · rw [if_pos h]
      by_cases h3 : sp = false ∧ stp c 9 t ≤ w ∧ c + 1 < stp c 9 t
      · rw [if_pos h3, wid_low _ (by omega)]
        exact ih _ h3.2.1 (by omega)
      · rw [if_neg h3, wid_low _ (by omega)]
        exact ih (c + 1) (by omega) (by omega)
    · rw [if_neg h, wid_nil]; omega

theorem fillF_mem (w t : Nat) (sp : Bool) (n : Nat) : ∀ c, ∀ x ∈ fillF n c w t sp, (x = 32 ∨ x = 9) ∧ (sp = true → x = 32) := by
  induction n with
  | zero => intro c x hx; simp [fillF] at hx
  | succ n ih =>
    intro c x hx
    simp only [fillF] at hx
    by_cases h : c < w
    · rw [if_pos h] at hx
      by_cases h3 : sp = false ∧ stp c 9 t ≤ w ∧ c + 1 < stp c 9 t
      · rw [if_pos h3, List.mem_cons] at hx
        rcases hx with rfl | hx
        · exact ⟨.inr rfl, fun e => by rw [h3.1] at e; cases e⟩
        · exact ih _ x hx
      · rw [if_neg h3, List.mem_cons] at hx
        rcases hx with rfl | hx
        · exact ⟨.inl rfl, fun _ => rfl⟩
        · exact ih _ x hx
    · rw [if_neg h] at hx; simp at hx

/-- How many bytes fill a width. -/
def fl (c w t : Nat) : Nat := (fill c w t false).length

theorem fl_end (c w t : Nat) (h : w ≤ c) : fl c w t = 0 := by
  unfold fl fill; rw [show w - c = 0 by omega]; rfl
theorem fl_step (c w t : Nat) (h : c < w) (ht : 0 < t) : fl c w t = 1 + (if stp c 9 t ≤ w ∧ c + 1 < stp c 9 t then fl (stp c 9 t) w t else fl (c + 1) w t) := by
  have hg := stp_gt c 9 t ht
  unfold fl fill
  obtain ⟨n, hn⟩ : ∃ n, w - c = n + 1 := ⟨w - c - 1, by omega⟩
  rw [hn]
  simp only [fillF, if_pos h]
  by_cases h3 : stp c 9 t ≤ w ∧ c + 1 < stp c 9 t
  · rw [if_pos ⟨by trivial, h3⟩, if_pos h3, List.length_cons, fillF_fuel w t false n (w - stp c 9 t) _ (by omega) (by omega)]; omega
  · rw [if_neg (fun e => h3 e.2), if_neg h3, List.length_cons, fillF_fuel w t false n (w - (c + 1)) _ (by omega) (by omega)]; omega

theorem stp_same (c t : Nat) (ht : 0 < t) (h : c + 1 < stp c 9 t) : stp (c + 1) 9 t = stp c 9 t := by
  have hs : ∀ x, stp x 9 t = x + t - x % t := fun x => by unfold stp; rw [if_pos rfl]
  rw [hs] at h
  rw [hs, hs]
  have h1 := Nat.mod_lt c ht
  have e : (c + 1) % t = c % t + 1 := by
    have hd := Nat.div_add_mod c t
    have : (c + 1) = (c % t + 1) + t * (c / t) := by omega
    rw [this, Nat.add_mul_mod_self_left, Nat.mod_eq_of_lt (by omega)]
  rw [e]; omega

theorem fl_succ (c w t : Nat) (h : c < w) (ht : 0 < t) : fl (c + 1) w t ≤ fl c w t := by
  rw [fl_step c w t h ht]
  by_cases h3 : stp c 9 t ≤ w ∧ c + 1 < stp c 9 t
  · rw [if_pos h3, fl_step (c + 1) w t (by omega) ht, stp_same c t ht h3.2]
    by_cases h4 : c + 1 + 1 < stp c 9 t
    · rw [if_pos ⟨h3.1, h4⟩]; omega
    · rw [if_neg (fun e => h4 e.2), show c + 1 + 1 = stp c 9 t by omega]; omega
  · rw [if_neg h3]; omega

theorem fl_mono (w t : Nat) (ht : 0 < t) (n : Nat) : ∀ c, c + n ≤ w → fl (c + n) w t ≤ fl c w t := by
  induction n with
  | zero => intro c _; exact Nat.le_refl _
  | succ n ih =>
    intro c h
    have h1 := fl_succ c w t (by omega) ht
    have h2 := ih (c + 1) (by omega)
    rw [show c + (n + 1) = c + 1 + n by omega]; omega

theorem fl_blank (c w t b : Nat) (hb : b = 32 ∨ b = 9) (ht : 0 < t) (h : stp c b t ≤ w) : fl c w t ≤ 1 + fl (stp c b t) w t := by
  have hg := stp_gt c b t ht
  have hg9 := stp_gt c 9 t ht
  rw [fl_step c w t (by omega) ht]
  rcases hb with rfl | rfl
  · have e : stp c 32 t = c + 1 := rfl
    rw [e]
    by_cases h3 : stp c 9 t ≤ w ∧ c + 1 < stp c 9 t
    · rw [if_pos h3]
      have := fl_mono w t ht (stp c 9 t - (c + 1)) (c + 1) (by omega)
      rw [show c + 1 + (stp c 9 t - (c + 1)) = stp c 9 t by omega] at this
      omega
    · rw [if_neg h3]; omega
  · by_cases h3 : stp c 9 t ≤ w ∧ c + 1 < stp c 9 t
    · rw [if_pos h3]; omega
    · rw [if_neg h3, show stp c 9 t = c + 1 by omega]; omega

/-- No blanks fill a width with fewer bytes. -/
theorem fl_least (t : Nat) (ht : 0 < t) (s : List Int) : ∀ c, (∀ x ∈ s, x = 32 ∨ x = 9) → fl c (wid_ s c t) t ≤ s.length := by
  induction s with
  | nil => intro c _; rw [wid_nil, fl_end _ _ _ (Nat.le_refl _)]; simp
  | cons b r ih =>
    intro c h
    have hb := h b (by simp)
    rw [wid_low r (by omega)]
    have := ih (stp c b.toNat t) (fun x hx => h x (by simp [hx]))
    have hb' : b.toNat = 32 ∨ b.toNat = 9 := by omega
    have hle := (wid_le r.length r (stp c b.toNat t) t (Nat.le_refl _) ht).1
    have := fl_blank c (wid_ r (stp c b.toNat t) t) t b.toNat hb' ht hle
    simp only [List.length_cons]; omega

end Go.Proofs.YtegeghnmnpklpaaDoor.Gen
