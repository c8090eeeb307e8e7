/- The plain law of pieces: a text's pieces without blanks and line ends, and where a place is told by them; no program in sight. -/
import Derived.Test.YtkdecmgockgmkaaDoorGenBase
namespace Go.Proofs.YtkdecmgockgmkaaDoor.Gen
open Go Go.RowKit

/-- The class of a byte. -/
def cls (c : Int) : Int :=
  if c = 32 ∨ c = 9 then 0 else if c = 10 then 1
  else if 128 ≤ c ∨ c = 95 ∨ (48 ≤ c ∧ c ≤ 57) ∨ (65 ≤ c ∧ c ≤ 90) ∨ (97 ≤ c ∧ c ≤ 122) then 2 else 3

/-- A blank, or a line's end. -/
def ws (c : Int) : Prop := c = 32 ∨ c = 9 ∨ c = 10
instance (c : Int) : Decidable (ws c) := inferInstanceAs (Decidable (c = 32 ∨ c = 9 ∨ c = 10))

theorem cls_ws {c : Int} : cls c ≤ 1 ↔ ws c := by
  unfold cls ws
  repeat' split
  all_goals omega

theorem cls_big {c : Int} (h : ¬ ws c) : 2 ≤ cls c := by
  rcases Int.lt_or_le (cls c) 2 with h' | h'
  · exact absurd (cls_ws.1 (by omega)) h
  · exact h'

theorem cls_bd (c : Int) : 0 ≤ cls c ∧ cls c ≤ 3 := by
  unfold cls
  repeat' split
  all_goals omega

abbrev NN := Nat × Nat

/-- One byte more. -/
def stepS (l : List NN) (i : Nat) (c : Int) : List NN :=
  if ws c then l else match l.getLast? with
    | some (a, n) => if a + n = i then l.dropLast ++ [(a, n + 1)] else l ++ [(i, 1)]
    | none => l ++ [(i, 1)]

def solG : List NN → Nat → List Int → List NN
  | l, _, [] => l
  | l, i, c :: t => solG (stepS l i c) (i + 1) t

def sol (p : List Int) : List NN := solG [] 0 p

theorem stepS_ws {l : List NN} {i : Nat} {c : Int} (h : ws c) : stepS l i c = l := by simp [stepS, h]
theorem stepS_nil {i : Nat} {c : Int} (h : ¬ ws c) : stepS [] i c = [(i, 1)] := by simp [stepS, h]
theorem stepS_last {l : List NN} {a n i : Nat} {c : Int} (h : ¬ ws c) (e : a + n = i) : stepS (l ++ [(a, n)]) i c = l ++ [(a, n + 1)] := by simp [stepS, h, e]
theorem stepS_new {l : List NN} {a n i : Nat} {c : Int} (h : ¬ ws c) (e : a + n ≠ i) : stepS (l ++ [(a, n)]) i c = l ++ [(a, n)] ++ [(i, 1)] := by simp [stepS, h, e]

theorem solG_append (x y : List Int) : ∀ (l : List NN) (i : Nat), solG l i (x ++ y) = solG (solG l i x) (i + x.length) y := by
  induction x with
  | nil => intro l i; simp [solG]
  | cons c t ih => intro l i; simp only [List.cons_append, solG, ih, List.length_cons]; rw [show i + 1 + t.length = i + (t.length + 1) by omega]

theorem solG_ws (g : List Int) (hg : ∀ c ∈ g, ws c) : ∀ (l : List NN) (i : Nat), solG l i g = l := by
  induction g with
  | nil => intro l i; rfl
  | cons c t ih =>
    intro l i
    simp only [solG]
    rw [stepS_ws (hg c (by simp)), ih (fun c hc => hg c (by simp [hc]))]

/-- The last piece ends ahead of a place. -/
def EndsB (l : List NN) (i : Nat) : Prop := ∀ l' a n, l = l' ++ [(a, n)] → a + n < i

theorem solG_on (s : List Int) (hs : ∀ c ∈ s, ¬ ws c) : ∀ (l : List NN) (a n : Nat), solG (l ++ [(a, n)]) (a + n) s = l ++ [(a, n + s.length)] := by
  induction s with
  | nil => intro l a n; rfl
  | cons c t ih =>
    intro l a n
    simp only [solG]
    rw [stepS_last (hs c (by simp)) rfl, Nat.add_assoc, ih (fun c hc => hs c (by simp [hc])), List.length_cons, Nat.add_right_comm, Nat.add_assoc n]

theorem solG_piece (s : List Int) (hs : ∀ c ∈ s, ¬ ws c) (h0 : s ≠ []) (l : List NN) (i : Nat) (hl : EndsB l i) : solG l i s = l ++ [(i, s.length)] := by
  cases s with
  | nil => exact absurd rfl h0
  | cons c t =>
    simp only [solG]
    have e : stepS l i c = l ++ [(i, 1)] := by
      rcases List.eq_nil_or_concat l with rfl | ⟨l', ⟨a, n⟩, rfl⟩
      · exact stepS_nil (hs c (by simp))
      · have := hl l' a n (by simp)
        simp only [List.concat_eq_append]
        exact stepS_new (hs c (by simp)) (by omega)
    rw [e, solG_on t (fun c hc => hs c (by simp [hc])), List.length_cons, Nat.add_comm]

/-- A text as gaps and pieces. -/
abbrev GP := List Int × List Int
def flat (D : List GP) : List Int := D.flatMap fun d => d.1 ++ d.2
def offs : Nat → List GP → List NN
  | _, [] => []
  | o, (g, s) :: t => (o + g.length, s.length) :: offs (o + g.length + s.length) t
def VD : Bool → List GP → Prop
  | _, [] => True
  | b, (g, s) :: t => (∀ c ∈ g, ws c) ∧ (b = false → g ≠ []) ∧ s ≠ [] ∧ (∀ c ∈ s, ¬ ws c) ∧ VD false t

theorem flat_cons (g s : List Int) (t : List GP) : flat ((g, s) :: t) = g ++ (s ++ flat t) := by simp [flat]

theorem Ends_snoc {l : List NN} {a n i : Nat} (h : a + n < i) : EndsB (l ++ [(a, n)]) i := by
  intro l' a' n' e
  have := List.append_inj_right' e rfl
  simp at this
  omega

theorem sol_flat (D : List GP) : ∀ (b : Bool) (last : List Int) (l : List NN) (i : Nat), VD b D → (∀ c ∈ last, ws c) → (b = true → EndsB l i) → (b = false → EndsB l (i + 1)) → solG l i (flat D ++ last) = l ++ offs i D := by
  induction D with
  | nil => intro b last l i _ hw _ _; simp [flat, offs, solG_ws last hw]
  | cons d t ih =>
    obtain ⟨g, s⟩ := d
    intro b last l i hD hw h1 h2
    obtain ⟨hg, hb, hs0, hs, ht⟩ := hD
    rw [flat_cons, List.append_assoc, solG_append, solG_ws g hg, List.append_assoc, solG_append, solG_piece s hs hs0]
    · rw [ih false last _ _ ht hw (by simp) (fun _ => Ends_snoc (by omega))]
      simp [offs]
    · intro l' a n e
      cases b with
      | true => have := h1 rfl l' a n e; omega
      | false =>
        have := h2 rfl l' a n e
        have : g.length ≠ 0 := by simpa using hb rfl
        omega

theorem sol_offs {D : List GP} {last : List Int} (hD : VD true D) (hw : ∀ c ∈ last, ws c) : sol (flat D ++ last) = offs 0 D := by
  have := sol_flat D true last [] 0 hD hw (fun _ l' a n e => by simp at e) (by simp)
  simpa [sol] using this

theorem takeW (q : Int → Bool) (p : List Int) : p = p.takeWhile q ++ p.dropWhile q := List.takeWhile_append_dropWhile.symm

theorem dropW_head (q : Int → Bool) (p : List Int) {c : Int} {t : List Int} (h : p.dropWhile q = c :: t) : q c = false := by
  induction p with
  | nil => simp at h
  | cons a p ih =>
    rw [List.dropWhile_cons] at h
    cases hq : q a with
    | true => rw [hq] at h; exact ih h
    | false => rw [hq] at h; simp at h; obtain ⟨rfl, rfl⟩ := h; exact hq

theorem decomp (n : Nat) : ∀ p : List Int, p.length ≤ n → ∃ D last, p = flat D ++ last ∧ VD true D ∧ (∀ c ∈ last, ws c) ∧ ((∀ c t, p = c :: t → ws c) → VD false D) := by
  induction n with
  | zero =>
    intro p hp
    have : p = [] := List.eq_nil_of_length_eq_zero (by omega)
    subst this
    exact ⟨[], [], rfl, trivial, by simp, fun _ => trivial⟩
  | succ n ih =>
    intro p hp
    have e := takeW (fun c => decide (ws c)) p
    generalize hg : p.takeWhile (fun c => decide (ws c)) = g at e
    generalize hr : p.dropWhile (fun c => decide (ws c)) = r at e
    have hgw : ∀ c ∈ g, ws c := by
      intro c hc; rw [← hg] at hc
      have := List.all_takeWhile (p := fun c => decide (ws c)) (l := p)
      rw [List.all_eq_true] at this
      simpa using this c hc
    cases r with
    | nil => exact ⟨[], g, by simpa [flat] using e, trivial, hgw, fun _ => trivial⟩
    | cons c t =>
      have hc : ¬ ws c := by simpa using dropW_head _ p hr
      have e2 := takeW (fun c => !decide (ws c)) t
      generalize hs : t.takeWhile (fun c => !decide (ws c)) = s at e2
      generalize hu : t.dropWhile (fun c => !decide (ws c)) = u at e2
      have hsw : ∀ c ∈ s, ¬ ws c := by
        intro c hc; rw [← hs] at hc
        have := List.all_takeWhile (p := fun c => !decide (ws c)) (l := t)
        rw [List.all_eq_true] at this
        simpa using this c hc
      have hlen : u.length ≤ n := by
        have := congrArg List.length e
        have := congrArg List.length e2
        simp at *
        omega
      obtain ⟨D, last, h1, h2, h3, h4⟩ := ih u hlen
      have hV : VD false D := h4 (fun c' t' he => by
        subst he
        simpa using dropW_head _ t hu)
      refine ⟨(g, c :: s) :: D, last, ?_, ⟨hgw, by simp, by simp, ?_, hV⟩, h3, fun hh => ⟨hgw, fun _ => ?_, by simp, ?_, hV⟩⟩
      · rw [e, e2, flat_cons, h1]; simp
      · intro x hx; rcases List.mem_cons.1 hx with rfl | hx
        · exact hc
        · exact hsw x hx
      · rintro rfl
        exact hc (hh c t (by simpa using e))
      · intro x hx; rcases List.mem_cons.1 hx with rfl | hx
        · exact hc
        · exact hsw x hx

theorem decomp_of (p : List Int) : ∃ D last, p = flat D ++ last ∧ VD true D ∧ (∀ c ∈ last, ws c) := by
  obtain ⟨D, last, h1, h2, h3, _⟩ := decomp p.length p (Nat.le_refl _)
  exact ⟨D, last, h1, h2, h3⟩

/-- Where a place is. -/
def place (at_ : Int) : List NN → List NN → Int → Int
  | [], _, e => e
  | _ :: _, [], e => e
  | (a, n) :: f, (b, _) :: t, e => if at_ < a then b else if at_ < a + n then b + at_ - a else place at_ f t e

/-- All pieces lie within so many bytes. -/
def Within (l : List NN) (m : Nat) : Prop := ∀ x ∈ l, x.1 + x.2 ≤ m

theorem stepS_within {l : List NN} {i : Nat} {c : Int} (h : Within l i) : Within (stepS l i c) (i + 1) := by
  have h' : Within l (i + 1) := fun x hx => by have := h x hx; omega
  by_cases hw : ws c
  · rw [stepS_ws hw]; exact h'
  · rcases List.eq_nil_or_concat l with rfl | ⟨l', ⟨a, n⟩, rfl⟩
    · rw [stepS_nil hw]; intro x hx; simp at hx; subst hx; simp
    · simp only [List.concat_eq_append] at *
      by_cases e : a + n = i
      · rw [stepS_last hw e]
        intro x hx
        rcases List.mem_append.1 hx with hx | hx
        · exact h' x (by simp [hx])
        · simp at hx; subst hx; simp; omega
      · rw [stepS_new hw e]
        intro x hx
        rcases List.mem_append.1 hx with hx | hx
        · exact h' x hx
        · simp at hx; subst hx; simp

theorem solG_within (t : List Int) : ∀ (l : List NN) (i : Nat), Within l i → Within (solG l i t) (i + t.length) := by
  induction t with
  | nil => intro l i h; exact h
  | cons c t ih =>
    intro l i h
    have := ih _ _ (stepS_within (c := c) h)
    simp only [solG, List.length_cons]
    rw [show i + (t.length + 1) = i + 1 + t.length by omega]
    exact this

theorem sol_within (p : List Int) : Within (sol p) p.length := by
  have := solG_within p [] 0 (fun x hx => by simp at hx)
  simpa [sol] using this

theorem stepS_length {l : List NN} {i : Nat} {c : Int} : (stepS l i c).length ≤ l.length + 1 := by
  by_cases hw : ws c
  · rw [stepS_ws hw]; omega
  · rcases List.eq_nil_or_concat l with rfl | ⟨l', ⟨a, n⟩, rfl⟩
    · rw [stepS_nil hw]; simp
    · simp only [List.concat_eq_append] at *
      by_cases e : a + n = i
      · rw [stepS_last hw e]; simp
      · rw [stepS_new hw e]; simp

theorem solG_length (t : List Int) : ∀ (l : List NN) (i : Nat), (solG l i t).length ≤ l.length + t.length := by
  induction t with
  | nil => intro l i; exact Nat.le_refl _
  | cons c t ih =>
    intro l i
    have := ih (stepS l i c) (i + 1)
    have := stepS_length (l := l) (i := i) (c := c)
    simp only [solG, List.length_cons]
    omega

theorem sol_length (p : List Int) : (sol p).length ≤ p.length := by
  have := solG_length p [] 0
  simpa [sol] using this

/-- The pieces' bytes. -/
def cut (p : List Int) (x : NN) : List Int := (p.take (x.1 + x.2)).drop x.1
def texts (p : List Int) : List (List Int) := (sol p).map (cut p)

theorem texts_offs (D : List GP) : ∀ (pre last : List Int), (offs pre.length D).map (cut (pre ++ (flat D ++ last))) = D.map (·.2) := by
  induction D with
  | nil => intro pre last; rfl
  | cons d t ih =>
    obtain ⟨g, s⟩ := d
    intro pre last
    have h := ih (pre ++ g ++ s) last
    simp only [List.length_append] at h
    simp only [offs, List.map_cons, flat_cons]
    have e : pre ++ (g ++ (s ++ flat t) ++ last) = pre ++ g ++ s ++ (flat t ++ last) := by simp
    rw [e, h]
    congr 1
    simp only [cut]
    have e1 : pre.length + g.length + s.length = (pre ++ g ++ s).length := by simp only [List.length_append]
    rw [e1, List.take_left]
    have e2 : pre.length + g.length = (pre ++ g).length := by simp
    rw [e2, List.drop_left]

theorem texts_flat {D : List GP} {last : List Int} (hD : VD true D) (hw : ∀ c ∈ last, ws c) : texts (flat D ++ last) = D.map (·.2) := by
  unfold texts
  rw [sol_offs hD hw]
  simpa using texts_offs D [] last

theorem strOfNums_inj {a b : List Int} (ha : Bytes a) (hb : Bytes b) (h : (strOfNums a).toList = (strOfNums b).toList) : a = b := by
  rw [ByteArray.toList_eq, ByteArray.toList_eq] at h
  simp only [strOfNums] at h
  induction a generalizing b with
  | nil => cases b with
    | nil => rfl
    | cons _ _ => simp at h
  | cons x a ih => cases b with
    | nil => simp at h
    | cons y b =>
      simp only [List.map_cons, List.cons.injEq] at h
      obtain ⟨h1, h2⟩ := h
      have hx := ha x (by simp)
      have hy := hb y (by simp)
      have h3 := congrArg UInt8.toNat h1
      rw [UInt8.toNat_ofNat', UInt8.toNat_ofNat'] at h3
      rw [ih (fun z hz => ha z (by simp [hz])) (fun z hz => hb z (by simp [hz])) h2]
      congr 1
      omega

theorem bytes_cut {p : List Int} (h : Bytes p) (x : NN) : Bytes (cut p x) := fun y hy => h y (List.mem_of_mem_take (List.mem_of_mem_drop hy))

/-- Places and pieces: what a text and one with the same pieces tell. -/
theorem offs_length (D : List GP) : ∀ o, (offs o D).length = D.length := by
  induction D with
  | nil => intro o; rfl
  | cons d t ih => obtain ⟨g, s⟩ := d; intro o; simp [offs, ih]

theorem flat_len (g s : List Int) (t : List GP) : (flat ((g, s) :: t)).length = g.length + s.length + (flat t).length := by
  rw [flat_cons]; simp only [List.length_append]; omega

theorem place_ge (D : List GP) : ∀ (D' : List GP) (o o' : Nat) (e at_ : Int), D.map (·.2) = D'.map (·.2) → ((o' + (flat D').length : Nat) : Int) ≤ e → (o' : Int) ≤ place at_ (offs o D) (offs o' D') e ∧ place at_ (offs o D) (offs o' D') e ≤ e := by
  induction D with
  | nil =>
    intro D' o o' e at_ hm he
    cases D' with
    | nil => simp only [offs, place]; omega
    | cons d t => simp at hm
  | cons d t ih =>
    obtain ⟨g, s⟩ := d
    intro D' o o' e at_ hm he
    cases D' with
    | nil => simp at hm
    | cons d' t' =>
      obtain ⟨g', s'⟩ := d'
      simp only [List.map_cons, List.cons.injEq] at hm
      obtain ⟨rfl, hm⟩ := hm
      rw [flat_len] at he
      have := ih t' (o + g.length + s.length) (o' + g'.length + s.length) e at_ hm (by omega)
      simp only [offs, place]
      split
      · omega
      · split <;> omega

theorem place_mono (D : List GP) : ∀ (D' : List GP) (o o' : Nat) (e a b : Int), D.map (·.2) = D'.map (·.2) → ((o' + (flat D').length : Nat) : Int) ≤ e → a ≤ b → place a (offs o D) (offs o' D') e ≤ place b (offs o D) (offs o' D') e := by
  induction D with
  | nil =>
    intro D' o o' e a b hm he hab
    simp [offs, place]
  | cons d t ih =>
    obtain ⟨g, s⟩ := d
    intro D' o o' e a b hm he hab
    cases D' with
    | nil => simp at hm
    | cons d' t' =>
      obtain ⟨g', s'⟩ := d'
      simp only [List.map_cons, List.cons.injEq] at hm
      obtain ⟨rfl, hm⟩ := hm
      rw [flat_len] at he
      have h1 := ih t' (o + g.length + s.length) (o' + g'.length + s.length) e a b hm (by omega) hab
      have h2 := place_ge t t' (o + g.length + s.length) (o' + g'.length + s.length) e b hm (by omega)
      simp only [offs, place]
      repeat' split
      all_goals omega

theorem place_back (D : List GP) : ∀ (D' : List GP) (o o' : Nat) (e e' a : Int) (v : Bool), D.map (·.2) = D'.map (·.2) → VD v D → ((o' + (flat D').length : Nat) : Int) ≤ e' →
    place (place a (offs o D) (offs o' D') e') (offs o' D') (offs o D) e = place a (offs o D) (offs o D) e := by
  induction D with
  | nil =>
    intro D' o o' e e' a v hm hv he
    cases D' with
    | nil => rfl
    | cons d t => simp at hm
  | cons d t ih =>
    obtain ⟨g, s⟩ := d
    intro D' o o' e e' a v hm hv he
    cases D' with
    | nil => simp at hm
    | cons d' t' =>
      obtain ⟨g', s'⟩ := d'
      simp only [List.map_cons, List.cons.injEq] at hm
      obtain ⟨rfl, hm⟩ := hm
      rw [flat_len] at he
      have h1 := ih t' (o + g.length + s.length) (o' + g'.length + s.length) e e' a false hm hv.2.2.2.2 (by omega)
      have h2 := place_ge t t' (o + g.length + s.length) (o' + g'.length + s.length) e' a hm (by omega)
      have h0 : 0 < s.length := List.length_pos_iff.2 hv.2.2.1
      simp only [offs, place]
      rw [← h1]
      generalize place a (offs (o + g.length + s.length) t) (offs (o' + g'.length + s.length) t') e' = z at h2
      by_cases c1 : a < ((o + g.length : Nat) : Int)
      · simp only [if_pos c1]
        rw [if_neg (by omega), if_pos (by omega)]; omega
      · simp only [if_neg c1]
        by_cases c2 : a < ((o + g.length : Nat) : Int) + (s.length : Int)
        · simp only [if_pos c2]
          rw [if_neg (by omega), if_pos (by omega)]; omega
        · simp only [if_neg c2]
          rw [if_neg (by omega), if_neg (by omega)]

theorem place_here (D : List GP) : ∀ (o : Nat) (e a : Int), a ≤ e → a ≤ place a (offs o D) (offs o D) e := by
  induction D with
  | nil => intro o e a h; exact h
  | cons d t ih =>
    obtain ⟨g, s⟩ := d
    intro o e a h
    have := ih (o + g.length + s.length) e a h
    simp only [offs, place]
    repeat' split
    all_goals omega

theorem place_self (D : List GP) : ∀ (o m : Nat) (e : Int) (last : List Int) (v : Bool), VD v D → (∀ c ∈ last, ws c) → (h : m < (flat D ++ last).length) → ¬ ws ((flat D ++ last)[m]) → place ((o + m : Nat) : Int) (offs o D) (offs o D) e = ((o + m : Nat) : Int) := by
  induction D with
  | nil =>
    intro o m e last v _ hl h hn
    exact absurd (hl _ (by simp [flat])) hn
  | cons d t ih =>
    obtain ⟨g, s⟩ := d
    intro o m e last v hv hl h hn
    obtain ⟨hg, _, _, hs, ht⟩ := hv
    simp only [offs, place]
    have he : flat ((g, s) :: t) ++ last = g ++ (s ++ (flat t ++ last)) := by rw [flat_cons]; simp
    by_cases c1 : m < g.length
    · exfalso
      refine hn (hg _ ?_)
      simp only [he]
      rw [List.getElem_append_left c1]
      exact List.getElem_mem _
    · rw [if_neg (by omega)]
      by_cases c2 : m < g.length + s.length
      · rw [if_pos (by omega)]; omega
      · rw [if_neg (by omega)]
        have hlen := h
        rw [he] at hlen
        simp only [List.length_append] at hlen
        have := ih (o + g.length + s.length) (m - g.length - s.length) e last false ht hl (by simp only [List.length_append]; omega) (by
          refine fun hh => hn ?_
          simp only [he]
          rw [List.getElem_append_right (by omega), List.getElem_append_right (by omega)]
          exact hh)
        rw [show o + g.length + s.length + (m - g.length - s.length) = o + m by omega] at this
        exact this

theorem VD_snoc (g s : List Int) (hg : ∀ c ∈ g, ws c) (hs0 : s ≠ []) (hs : ∀ c ∈ s, ¬ ws c) (D : List GP) : ∀ (v : Bool), VD v D → (D = [] → v = false → g ≠ []) → (D ≠ [] → g ≠ []) → VD v (D ++ [(g, s)]) := by
  induction D with
  | nil => intro v _ h _; exact ⟨hg, h rfl, hs0, hs, trivial⟩
  | cons d t ih =>
    obtain ⟨g', s'⟩ := d
    intro v hv _ h
    exact ⟨hv.1, hv.2.1, hv.2.2.1, hv.2.2.2.1, ih false hv.2.2.2.2 (fun _ _ => h (by simp)) (fun _ => h (by simp))⟩

theorem flat_snoc (D : List GP) (g s : List Int) : flat (D ++ [(g, s)]) = flat D ++ (g ++ s) := by simp [flat]

theorem VD_texts {D : List GP} {v : Bool} (h : VD v D) : ∀ s ∈ D.map (·.2), s ≠ [] ∧ ∀ c ∈ s, ¬ ws c := by
  induction D generalizing v with
  | nil => simp
  | cons d t ih =>
    obtain ⟨g, s⟩ := d
    intro x hx
    simp only [List.map_cons, List.mem_cons] at hx
    rcases hx with rfl | hx
    · exact ⟨h.2.2.1, h.2.2.2.1⟩
    · exact ih h.2.2.2.2 x hx

theorem texts_good (p : List Int) : ∀ s ∈ texts p, s ≠ [] ∧ ∀ c ∈ s, ¬ ws c := by
  obtain ⟨D, last, rfl, hD, hl⟩ := decomp_of p
  rw [texts_flat hD hl]
  exact VD_texts hD

/-- A byte that is no blank, set ahead, changes the pieces. -/
theorem texts_ahead (x : Int) (hx : ¬ ws x) (q : List Int) : texts (x :: q) ≠ texts q := by
  obtain ⟨D, last, rfl, hD, hl⟩ := decomp_of q
  rw [texts_flat hD hl]
  cases D with
  | nil =>
    have : x :: (flat [] ++ last) = flat [([], [x])] ++ last := by simp [flat]
    rw [this, texts_flat (D := [([], [x])]) ⟨by simp, by simp, by simp, by simpa using hx, trivial⟩ hl]
    simp
  | cons d t =>
    obtain ⟨g, s⟩ := d
    by_cases hg : g = []
    · subst hg
      have : x :: (flat (([], s) :: t) ++ last) = flat (([], x :: s) :: t) ++ last := by simp [flat]
      rw [this, texts_flat (D := ([], x :: s) :: t) ⟨by simp, by simp, by simp, (by
        intro c hc; rcases List.mem_cons.1 hc with rfl | hc
        · exact hx
        · exact hD.2.2.2.1 c hc), hD.2.2.2.2⟩ hl]
      intro h
      have := congrArg List.length (List.cons.inj h).1
      simp at this
    · have : x :: (flat ((g, s) :: t) ++ last) = flat (([], [x]) :: (g, s) :: t) ++ last := by simp [flat]
      rw [this, texts_flat (D := ([], [x]) :: (g, s) :: t) ⟨by simp, by simp, by simp, by simpa using hx, hD.1, fun _ => hg, hD.2.2.1, hD.2.2.2.1, hD.2.2.2.2⟩ hl]
      intro h
      have := congrArg List.length h
      simp at this

theorem cut_len (p : List Int) (x : NN) (h : x.1 + x.2 ≤ p.length) : (cut p x).length = x.2 := by
  simp only [cut, List.length_drop, List.length_take]; omega

theorem cut_rd (p : List Int) (x : NN) (h : x.1 + x.2 ≤ p.length) (d : Nat) (hd : d < x.2) : (cut p x)[d]? = some (p[x.1 + d]'(by omega)) := by
  simp only [cut, List.getElem?_drop, List.getElem?_take]
  rw [if_pos (by omega), List.getElem?_eq_getElem (by omega)]

/-- The facts about two texts with the same pieces. -/
theorem alike_facts {p q : List Int} (h : texts p = texts q) : ∃ D last D' last', p = flat D ++ last ∧ VD true D ∧ (∀ c ∈ last, ws c) ∧ q = flat D' ++ last' ∧ VD true D' ∧ (∀ c ∈ last', ws c) ∧ D.map (·.2) = D'.map (·.2) ∧ sol p = offs 0 D ∧ sol q = offs 0 D' := by
  obtain ⟨D, last, rfl, hD, hl⟩ := decomp_of p
  obtain ⟨D', last', rfl, hD', hl'⟩ := decomp_of q
  rw [texts_flat hD hl, texts_flat hD' hl'] at h
  exact ⟨D, last, D', last', rfl, hD, hl, rfl, hD', hl', h, sol_offs hD hl, sol_offs hD' hl'⟩

theorem alike_mono {p q : List Int} (h : texts p = texts q) (a b : Int) (hab : a ≤ b) : place a (sol p) (sol q) (q.length : Int) ≤ place b (sol p) (sol q) (q.length : Int) := by
  obtain ⟨D, last, D', last', rfl, hD, hl, rfl, hD', hl', hm, e1, e2⟩ := alike_facts h
  rw [e1, e2]
  exact place_mono D D' 0 0 _ a b hm (by simp only [List.length_append]; omega) hab

theorem alike_bd {p q : List Int} (h : texts p = texts q) (a : Int) : 0 ≤ place a (sol p) (sol q) (q.length : Int) ∧ place a (sol p) (sol q) (q.length : Int) ≤ (q.length : Int) := by
  obtain ⟨D, last, D', last', rfl, hD, hl, rfl, hD', hl', hm, e1, e2⟩ := alike_facts h
  rw [e1, e2]
  have := place_ge D D' 0 0 (((flat D' ++ last').length : Nat) : Int) a hm (by simp only [List.length_append]; omega)
  omega

theorem alike_back {p q : List Int} (h : texts p = texts q) (a : Int) : place (place a (sol p) (sol q) (q.length : Int)) (sol q) (sol p) (p.length : Int) = place a (sol p) (sol p) (p.length : Int) := by
  obtain ⟨D, last, D', last', rfl, hD, hl, rfl, hD', hl', hm, e1, e2⟩ := alike_facts h
  rw [e1, e2]
  exact place_back D D' 0 0 _ _ a true hm hD (by simp only [List.length_append]; omega)

theorem here_ge (p : List Int) (a : Int) (h : a ≤ (p.length : Int)) : a ≤ place a (sol p) (sol p) (p.length : Int) := by
  obtain ⟨D, last, rfl, hD, hl⟩ := decomp_of p
  rw [sol_offs hD hl]
  exact place_here D 0 _ a h

theorem here_self (p : List Int) (m : Nat) (h : m < p.length) (hn : ¬ ws p[m]) : place (m : Int) (sol p) (sol p) (p.length : Int) = (m : Int) := by
  obtain ⟨D, last, rfl, hD, hl⟩ := decomp_of p
  rw [sol_offs hD hl]
  have := place_self D 0 m (((flat D ++ last).length : Nat) : Int) last true hD hl h hn
  simpa using this

end Go.Proofs.YtkdecmgockgmkaaDoor.Gen
