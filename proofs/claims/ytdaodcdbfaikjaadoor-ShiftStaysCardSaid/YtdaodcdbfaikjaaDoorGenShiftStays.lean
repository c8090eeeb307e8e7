/- Plain lemmas of this claim: no program in sight. -/
import Derived.Lib.DecodeNEq
import Derived.Test.YtdaodcdbfaikjaaDoorWMore
import Derived.Test.YtdaodcdbfaikjaaDoorWWords
namespace Go.Proofs.YtdaodcdbfaikjaaDoor.Gen
open Go Go.RowKit Go.Proofs.YtdaodcdbfaikjaaDoorW.PrintWords Go.Proofs.YtdaodcdbfaikjaaDoorW.PrintMore

theorem wid {x : Int} (h0 : -9223372036854775808 ≤ x) (h1 : x ≤ 9223372036854775807) : wrap64 x = x := by
  unfold wrap64; omega

theorem wnat {n : Nat} (h : n ≤ 9223372036854775806) : wrap64 ((n : Int) + 1) = ((n + 1 : Nat) : Int) := by
  unfold wrap64; omega

def Bytes (l : List Int) : Prop := ∀ x ∈ l, 0 ≤ x ∧ x ≤ 255

theorem u8_of {x : Int} (h : (Lit.int .u8 x).wf = true) : 0 ≤ x ∧ x ≤ 255 := by
  simp [Lit.wf, IntKind.min, IntKind.max, IntKind.bits, IntKind.signed] at h
  omega

theorem bytes_of {l : List Int} (h : ∀ x ∈ l, (Lit.int .u8 x).wf = true) : Bytes l := fun x hx => u8_of (h x hx)

theorem rd_nat (p : List Int) (i : Nat) (h : i < p.length) : rd p (i : Int) = p[i] := by
  simp [rd, h]

theorem ex_succ {k n : Nat} (h : n < k) : ∃ m, k = m + 1 := ⟨k - 1, by omega⟩

theorem drop_at {α : Type} (p : List α) (i : Nat) (h : i < p.length) : p.drop i = p[i] :: p.drop (i + 1) :=
  List.drop_eq_getElem_cons h

/-- A tab's width, 1 at least. -/
def tb (x : Int) : Nat := (max x 1).toNat
theorem mx_tb (x : Int) : mx x 1 = (tb x : Int) := by
  unfold mx tb; split <;> omega
theorem tb_pos (x : Int) : 0 < tb x := by unfold tb; omega
/-- Places as the program's numbers. -/
def zs (l : List Nat) : List Int := l.map fun (n : Nat) => (n : Int)
theorem zs_len (l : List Nat) : (zs l).length = l.length := by simp [zs]
end Go.Proofs.YtdaodcdbfaikjaaDoor.Gen

namespace Go.Proofs.YtdaodcdbfaikjaaDoor.Gen
set_option linter.unusedVariables false
set_option linter.unusedSimpArgs false
open Go Go.RowKit

def cont (c : Int) : Prop := 128 ≤ c ∧ c ≤ 191
instance (c : Int) : Decidable (cont c) := inferInstanceAs (Decidable (128 ≤ c ∧ c ≤ 191))
/-- The bytes that a first byte calls for. -/
def need (b : Int) : Nat := if 194 ≤ b ∧ b ≤ 223 then 2 else if 224 ≤ b ∧ b ≤ 239 then 3 else if 240 ≤ b ∧ b ≤ 244 then 4 else 1
def lo2 (b : Int) : Int := if b = 224 then 160 else if b = 240 then 144 else 128
def hi2 (b : Int) : Int := if b = 237 then 159 else if b = 244 then 143 else 191
/-- The character's bytes at the head of a list. -/
def gsz : List Int → Nat
  | [] => 0
  | [_] => 1
  | [b, c] => if need b = 2 ∧ lo2 b ≤ c ∧ c ≤ hi2 b then 2 else 1
  | [b, c, d] => if need b = 2 ∧ lo2 b ≤ c ∧ c ≤ hi2 b then 2 else if need b = 3 ∧ lo2 b ≤ c ∧ c ≤ hi2 b ∧ cont d then 3 else 1
  | b :: c :: d :: e :: _ => if need b = 2 ∧ lo2 b ≤ c ∧ c ≤ hi2 b then 2 else if need b = 3 ∧ lo2 b ≤ c ∧ c ≤ hi2 b ∧ cont d then 3 else if need b = 4 ∧ lo2 b ≤ c ∧ c ≤ hi2 b ∧ cont d ∧ cont e then 4 else 1

theorem gsz_le (q : List Int) : gsz q ≤ q.length ∧ gsz q ≤ 4 := by
  match q with
  | [] => simp [gsz]
  | [_] => simp [gsz]
  | [b, c] => simp only [gsz, List.length_cons, List.length_nil]; split <;> omega
  | [b, c, d] => simp only [gsz, List.length_cons, List.length_nil]; (repeat' split) <;> omega
  | b :: c :: d :: e :: t => simp only [gsz, List.length_cons]; (repeat' split) <;> omega

theorem gsz_pos {q : List Int} (h : q ≠ []) : 1 ≤ gsz q := by
  match q with
  | [] => exact absurd rfl h
  | [_] => simp [gsz]
  | [b, c] => simp only [gsz]; split <;> omega
  | [b, c, d] => simp only [gsz]; (repeat' split) <;> omega
  | b :: c :: d :: e :: t => simp only [gsz]; (repeat' split) <;> omega

theorem gd_le (p : List Int) (x : Nat) (h : x ≤ p.length) : x + gsz (p.drop x) ≤ p.length := by
  have := (gsz_le (p.drop x)).1
  simp only [List.length_drop] at this; omega
theorem gd_pos (p : List Int) (x : Nat) (h : x < p.length) : 1 ≤ gsz (p.drop x) := gsz_pos (by simp; omega)
end Go.Proofs.YtdaodcdbfaikjaaDoor.Gen

namespace Go.Proofs.YtdaodcdbfaikjaaDoor.Gen
open Go Go.RowKit
set_option linter.unusedVariables false
set_option linter.unusedSimpArgs false

/-- The column behind a byte. -/
def stp (c b t : Nat) : Nat := if b = 9 then c + t - c % t else c + 1
theorem stp_gt (c b t : Nat) (h : 0 < t) : c < stp c b t := by
  unfold stp; have := Nat.mod_lt c h; split <;> omega
theorem stp_le (c b t : Nat) (h : 0 < t) : stp c b t ≤ c + t := by
  unfold stp; split <;> omega

/-- The column behind a text. -/
def widF : Nat → List Int → Nat → Nat → Nat
  | 0, _, c, _ => c
  | n + 1, q, c, t => match q with
    | [] => c
    | b :: r => widF n ((b :: r).drop (gsz (b :: r))) (stp c b.toNat t) t
def wid_ (q : List Int) (c t : Nat) : Nat := widF q.length q c t

theorem widF_fuel (n : Nat) : ∀ (m : Nat) (q : List Int) (c t : Nat), q.length ≤ n → q.length ≤ m → widF n q c t = widF m q c t := by
  induction n with
  | zero =>
    intro m q c t h1 h2
    have : q = [] := List.eq_nil_of_length_eq_zero (by omega)
    subst this
    cases m <;> simp [widF]
  | succ n ih =>
    intro m q c t h1 h2
    cases m with
    | zero =>
      have : q = [] := List.eq_nil_of_length_eq_zero (by omega)
      subst this; simp [widF]
    | succ m =>
      cases q with
      | nil => rfl
      | cons b r =>
        have := gsz_pos (q := b :: r) (by simp)
        simp only [widF]
        exact ih m _ _ _ (by simp only [List.length_drop]; simp only [List.length_cons] at *; omega) (by simp only [List.length_drop]; simp only [List.length_cons] at *; omega)

theorem wid_nil (c t : Nat) : wid_ [] c t = c := rfl
theorem wid_cons (b : Int) (r : List Int) (c t : Nat) : wid_ (b :: r) c t = wid_ ((b :: r).drop (gsz (b :: r))) (stp c b.toNat t) t := by
  have := gsz_pos (q := b :: r) (by simp)
  unfold wid_
  simp only [List.length_cons, widF]
  exact widF_fuel _ _ _ _ _ (by simp only [List.length_drop, List.length_cons]; omega) (Nat.le_refl _)
theorem wid_at (p : List Int) (x : Nat) (h : x < p.length) (c t : Nat) : wid_ (p.drop x) c t = wid_ (p.drop (x + gsz (p.drop x))) (stp c p[x].toNat t) t := by
  rw [← List.drop_drop, drop_at p x h, wid_cons]

theorem wid_le (n : Nat) : ∀ (q : List Int) (c t : Nat), q.length ≤ n → 0 < t → c ≤ wid_ q c t ∧ wid_ q c t ≤ c + q.length * t ∧ (q ≠ [] → c < wid_ q c t) := by
  induction n with
  | zero =>
    intro q c t h h0
    have : q = [] := List.eq_nil_of_length_eq_zero (by omega)
    subst this; simp [wid_nil]
  | succ n ih =>
    intro q c t h h0
    cases q with
    | nil => simp [wid_nil]
    | cons b r =>
      have hp := gsz_pos (q := b :: r) (by simp)
      have h1 := stp_gt c b.toNat t h0
      have h2 := stp_le c b.toNat t h0
      have := ih ((b :: r).drop (gsz (b :: r))) (stp c b.toNat t) t (by simp only [List.length_drop]; simp only [List.length_cons] at *; omega) h0
      rw [wid_cons]
      simp only [List.length_drop, List.length_cons] at *
      have hm : (r.length + 1 - gsz (b :: r)) * t ≤ r.length * t := Nat.mul_le_mul_right t (by omega)
      rw [Nat.add_mul, Nat.one_mul]
      omega

/-- Blanks that fill a width. -/
def fillF : Nat → Nat → Nat → Nat → Bool → List Int
  | 0, _, _, _, _ => []
  | n + 1, c, w, t, sp => if c < w then (if sp = false ∧ stp c 9 t ≤ w ∧ c + 1 < stp c 9 t then 9 :: fillF n (stp c 9 t) w t sp else 32 :: fillF n (c + 1) w t sp) else []
def fill (c w t : Nat) (sp : Bool) : List Int := fillF (w - c) c w t sp

theorem fillF_len (w t : Nat) (sp : Bool) (n : Nat) : ∀ c, (fillF n c w t sp).length ≤ n := by
  induction n with
  | zero => intro c; simp [fillF]
  | succ n ih =>
    intro c
    simp only [fillF]
    (repeat' split) <;> simp only [List.length_cons, List.length_nil]
    · have := ih (stp c 9 t); omega
    · have := ih (c + 1); omega
    · omega

theorem fillF_mem (w t : Nat) (sp : Bool) (n : Nat) : ∀ c, ∀ x ∈ fillF n c w t sp, (x = 32 ∨ x = 9) ∧ (sp = true → x = 32) := by
  induction n with
  | zero => intro c x hx; simp [fillF] at hx
  | succ n ih =>
    intro c x hx
    simp only [fillF] at hx
    by_cases h : c < w
    · rw [if_pos h] at hx
      by_cases h3 : sp = false ∧ stp c 9 t ≤ w ∧ c + 1 < stp c 9 t
      · rw [if_pos h3, List.mem_cons] at hx
        rcases hx with rfl | hx
        · exact ⟨.inr rfl, fun e => by rw [h3.1] at e; cases e⟩
        · exact ih _ x hx
      · rw [if_neg h3, List.mem_cons] at hx
        rcases hx with rfl | hx
        · exact ⟨.inl rfl, fun _ => rfl⟩
        · exact ih _ x hx
    · rw [if_neg h] at hx; simp at hx

end Go.Proofs.YtdaodcdbfaikjaaDoor.Gen

namespace Go.Proofs.YtdaodcdbfaikjaaDoor.Gen
open Go Go.RowKit

/-- The class of a byte. -/
def cls (c : Int) : Int :=
  if c = 32 ∨ c = 9 then 0 else if c = 10 then 1
  else if 128 ≤ c ∨ c = 95 ∨ (48 ≤ c ∧ c ≤ 57) ∨ (65 ≤ c ∧ c ≤ 90) ∨ (97 ≤ c ∧ c ≤ 122) then 2 else 3

/-- A blank, or a line's end. -/
def ws (c : Int) : Prop := c = 32 ∨ c = 9 ∨ c = 10
instance (c : Int) : Decidable (ws c) := inferInstanceAs (Decidable (c = 32 ∨ c = 9 ∨ c = 10))

theorem cls_ws {c : Int} : cls c ≤ 1 ↔ ws c := by
  unfold cls ws
  repeat' split
  all_goals omega

theorem cls_big {c : Int} (h : ¬ ws c) : 2 ≤ cls c := by
  rcases Int.lt_or_le (cls c) 2 with h' | h'
  · exact absurd (cls_ws.1 (by omega)) h
  · exact h'

abbrev NN := Nat × Nat

/-- One byte more. -/
def stepS (l : List NN) (i : Nat) (c : Int) : List NN :=
  if ws c then l else match l.getLast? with
    | some (a, n) => if a + n = i then l.dropLast ++ [(a, n + 1)] else l ++ [(i, 1)]
    | none => l ++ [(i, 1)]

def solG : List NN → Nat → List Int → List NN
  | l, _, [] => l
  | l, i, c :: t => solG (stepS l i c) (i + 1) t

def sol (p : List Int) : List NN := solG [] 0 p

theorem stepS_ws {l : List NN} {i : Nat} {c : Int} (h : ws c) : stepS l i c = l := by simp [stepS, h]
theorem stepS_nil {i : Nat} {c : Int} (h : ¬ ws c) : stepS [] i c = [(i, 1)] := by simp [stepS, h]
theorem stepS_last {l : List NN} {a n i : Nat} {c : Int} (h : ¬ ws c) (e : a + n = i) : stepS (l ++ [(a, n)]) i c = l ++ [(a, n + 1)] := by simp [stepS, h, e]
theorem stepS_new {l : List NN} {a n i : Nat} {c : Int} (h : ¬ ws c) (e : a + n ≠ i) : stepS (l ++ [(a, n)]) i c = l ++ [(a, n)] ++ [(i, 1)] := by simp [stepS, h, e]

theorem solG_append (x y : List Int) : ∀ (l : List NN) (i : Nat), solG l i (x ++ y) = solG (solG l i x) (i + x.length) y := by
  induction x with
  | nil => intro l i; simp [solG]
  | cons c t ih => intro l i; simp only [List.cons_append, solG, ih, List.length_cons]; rw [show i + 1 + t.length = i + (t.length + 1) by omega]

theorem solG_ws (g : List Int) (hg : ∀ c ∈ g, ws c) : ∀ (l : List NN) (i : Nat), solG l i g = l := by
  induction g with
  | nil => intro l i; rfl
  | cons c t ih =>
    intro l i
    simp only [solG]
    rw [stepS_ws (hg c (by simp)), ih (fun c hc => hg c (by simp [hc]))]

/-- The last piece ends ahead of a place. -/
def EndsB (l : List NN) (i : Nat) : Prop := ∀ l' a n, l = l' ++ [(a, n)] → a + n < i

theorem solG_on (s : List Int) (hs : ∀ c ∈ s, ¬ ws c) : ∀ (l : List NN) (a n : Nat), solG (l ++ [(a, n)]) (a + n) s = l ++ [(a, n + s.length)] := by
  induction s with
  | nil => intro l a n; rfl
  | cons c t ih =>
    intro l a n
    simp only [solG]
    rw [stepS_last (hs c (by simp)) rfl, Nat.add_assoc, ih (fun c hc => hs c (by simp [hc])), List.length_cons, Nat.add_right_comm, Nat.add_assoc n]

theorem solG_piece (s : List Int) (hs : ∀ c ∈ s, ¬ ws c) (h0 : s ≠ []) (l : List NN) (i : Nat) (hl : EndsB l i) : solG l i s = l ++ [(i, s.length)] := by
  cases s with
  | nil => exact absurd rfl h0
  | cons c t =>
    simp only [solG]
    have e : stepS l i c = l ++ [(i, 1)] := by
      rcases List.eq_nil_or_concat l with rfl | ⟨l', ⟨a, n⟩, rfl⟩
      · exact stepS_nil (hs c (by simp))
      · have := hl l' a n (by simp)
        simp only [List.concat_eq_append]
        exact stepS_new (hs c (by simp)) (by omega)
    rw [e, solG_on t (fun c hc => hs c (by simp [hc])), List.length_cons, Nat.add_comm]

/-- A text as gaps and pieces. -/
abbrev GP := List Int × List Int
def flat (D : List GP) : List Int := D.flatMap fun d => d.1 ++ d.2
def offs : Nat → List GP → List NN
  | _, [] => []
  | o, (g, s) :: t => (o + g.length, s.length) :: offs (o + g.length + s.length) t
def VD : Bool → List GP → Prop
  | _, [] => True
  | b, (g, s) :: t => (∀ c ∈ g, ws c) ∧ (b = false → g ≠ []) ∧ s ≠ [] ∧ (∀ c ∈ s, ¬ ws c) ∧ VD false t

theorem flat_cons (g s : List Int) (t : List GP) : flat ((g, s) :: t) = g ++ (s ++ flat t) := by simp [flat]

theorem Ends_snoc {l : List NN} {a n i : Nat} (h : a + n < i) : EndsB (l ++ [(a, n)]) i := by
  intro l' a' n' e
  have := List.append_inj_right' e rfl
  simp at this
  omega

theorem sol_flat (D : List GP) : ∀ (b : Bool) (last : List Int) (l : List NN) (i : Nat), VD b D → (∀ c ∈ last, ws c) → (b = true → EndsB l i) → (b = false → EndsB l (i + 1)) → solG l i (flat D ++ last) = l ++ offs i D := by
  induction D with
  | nil => intro b last l i _ hw _ _; simp [flat, offs, solG_ws last hw]
  | cons d t ih =>
    obtain ⟨g, s⟩ := d
    intro b last l i hD hw h1 h2
    obtain ⟨hg, hb, hs0, hs, ht⟩ := hD
    rw [flat_cons, List.append_assoc, solG_append, solG_ws g hg, List.append_assoc, solG_append, solG_piece s hs hs0]
    · rw [ih false last _ _ ht hw (by simp) (fun _ => Ends_snoc (by omega))]
      simp [offs]
    · intro l' a n e
      cases b with
      | true => have := h1 rfl l' a n e; omega
      | false =>
        have := h2 rfl l' a n e
        have : g.length ≠ 0 := by simpa using hb rfl
        omega

theorem sol_offs {D : List GP} {last : List Int} (hD : VD true D) (hw : ∀ c ∈ last, ws c) : sol (flat D ++ last) = offs 0 D := by
  have := sol_flat D true last [] 0 hD hw (fun _ l' a n e => by simp at e) (by simp)
  simpa [sol] using this

theorem takeW (q : Int → Bool) (p : List Int) : p = p.takeWhile q ++ p.dropWhile q := List.takeWhile_append_dropWhile.symm

theorem dropW_head (q : Int → Bool) (p : List Int) {c : Int} {t : List Int} (h : p.dropWhile q = c :: t) : q c = false := by
  induction p with
  | nil => simp at h
  | cons a p ih =>
    rw [List.dropWhile_cons] at h
    cases hq : q a with
    | true => rw [hq] at h; exact ih h
    | false => rw [hq] at h; simp at h; obtain ⟨rfl, rfl⟩ := h; exact hq

theorem decomp (n : Nat) : ∀ p : List Int, p.length ≤ n → ∃ D last, p = flat D ++ last ∧ VD true D ∧ (∀ c ∈ last, ws c) ∧ ((∀ c t, p = c :: t → ws c) → VD false D) := by
  induction n with
  | zero =>
    intro p hp
    have : p = [] := List.eq_nil_of_length_eq_zero (by omega)
    subst this
    exact ⟨[], [], rfl, trivial, by simp, fun _ => trivial⟩
  | succ n ih =>
    intro p hp
    have e := takeW (fun c => decide (ws c)) p
    generalize hg : p.takeWhile (fun c => decide (ws c)) = g at e
    generalize hr : p.dropWhile (fun c => decide (ws c)) = r at e
    have hgw : ∀ c ∈ g, ws c := by
      intro c hc; rw [← hg] at hc
      have := List.all_takeWhile (p := fun c => decide (ws c)) (l := p)
      rw [List.all_eq_true] at this
      simpa using this c hc
    cases r with
    | nil => exact ⟨[], g, by simpa [flat] using e, trivial, hgw, fun _ => trivial⟩
    | cons c t =>
      have hc : ¬ ws c := by simpa using dropW_head _ p hr
      have e2 := takeW (fun c => !decide (ws c)) t
      generalize hs : t.takeWhile (fun c => !decide (ws c)) = s at e2
      generalize hu : t.dropWhile (fun c => !decide (ws c)) = u at e2
      have hsw : ∀ c ∈ s, ¬ ws c := by
        intro c hc; rw [← hs] at hc
        have := List.all_takeWhile (p := fun c => !decide (ws c)) (l := t)
        rw [List.all_eq_true] at this
        simpa using this c hc
      have hlen : u.length ≤ n := by
        have := congrArg List.length e
        have := congrArg List.length e2
        simp at *
        omega
      obtain ⟨D, last, h1, h2, h3, h4⟩ := ih u hlen
      have hV : VD false D := h4 (fun c' t' he => by
        subst he
        simpa using dropW_head _ t hu)
      refine ⟨(g, c :: s) :: D, last, ?_, ⟨hgw, by simp, by simp, ?_, hV⟩, h3, fun hh => ⟨hgw, fun _ => ?_, by simp, ?_, hV⟩⟩
      · rw [e, e2, flat_cons, h1]; simp
      · intro x hx; rcases List.mem_cons.1 hx with rfl | hx
        · exact hc
        · exact hsw x hx
      · rintro rfl
        exact hc (hh c t (by simpa using e))
      · intro x hx; rcases List.mem_cons.1 hx with rfl | hx
        · exact hc
        · exact hsw x hx

theorem decomp_of (p : List Int) : ∃ D last, p = flat D ++ last ∧ VD true D ∧ (∀ c ∈ last, ws c) := by
  obtain ⟨D, last, h1, h2, h3, _⟩ := decomp p.length p (Nat.le_refl _)
  exact ⟨D, last, h1, h2, h3⟩

/-- All pieces lie within so many bytes. -/
def Within (l : List NN) (m : Nat) : Prop := ∀ x ∈ l, x.1 + x.2 ≤ m

theorem stepS_within {l : List NN} {i : Nat} {c : Int} (h : Within l i) : Within (stepS l i c) (i + 1) := by
  have h' : Within l (i + 1) := fun x hx => by have := h x hx; omega
  by_cases hw : ws c
  · rw [stepS_ws hw]; exact h'
  · rcases List.eq_nil_or_concat l with rfl | ⟨l', ⟨a, n⟩, rfl⟩
    · rw [stepS_nil hw]; intro x hx; simp at hx; subst hx; simp
    · simp only [List.concat_eq_append] at *
      by_cases e : a + n = i
      · rw [stepS_last hw e]
        intro x hx
        rcases List.mem_append.1 hx with hx | hx
        · exact h' x (by simp [hx])
        · simp at hx; subst hx; simp; omega
      · rw [stepS_new hw e]
        intro x hx
        rcases List.mem_append.1 hx with hx | hx
        · exact h' x hx
        · simp at hx; subst hx; simp

theorem solG_within (t : List Int) : ∀ (l : List NN) (i : Nat), Within l i → Within (solG l i t) (i + t.length) := by
  induction t with
  | nil => intro l i h; exact h
  | cons c t ih =>
    intro l i h
    have := ih _ _ (stepS_within (c := c) h)
    simp only [solG, List.length_cons]
    rw [show i + (t.length + 1) = i + 1 + t.length by omega]
    exact this

theorem sol_within (p : List Int) : Within (sol p) p.length := by
  have := solG_within p [] 0 (fun x hx => by simp at hx)
  simpa [sol] using this

theorem stepS_length {l : List NN} {i : Nat} {c : Int} : (stepS l i c).length ≤ l.length + 1 := by
  by_cases hw : ws c
  · rw [stepS_ws hw]; omega
  · rcases List.eq_nil_or_concat l with rfl | ⟨l', ⟨a, n⟩, rfl⟩
    · rw [stepS_nil hw]; simp
    · simp only [List.concat_eq_append] at *
      by_cases e : a + n = i
      · rw [stepS_last hw e]; simp
      · rw [stepS_new hw e]; simp

theorem solG_length (t : List Int) : ∀ (l : List NN) (i : Nat), (solG l i t).length ≤ l.length + t.length := by
  induction t with
  | nil => intro l i; exact Nat.le_refl _
  | cons c t ih =>
    intro l i
    have := ih (stepS l i c) (i + 1)
    have := stepS_length (l := l) (i := i) (c := c)
    simp only [solG, List.length_cons]
    omega

theorem sol_length (p : List Int) : (sol p).length ≤ p.length := by
  have := solG_length p [] 0
  simpa [sol] using this

/-- The pieces' bytes. -/
def cut (p : List Int) (x : NN) : List Int := (p.take (x.1 + x.2)).drop x.1
def texts (p : List Int) : List (List Int) := (sol p).map (cut p)

theorem texts_offs (D : List GP) : ∀ (pre last : List Int), (offs pre.length D).map (cut (pre ++ (flat D ++ last))) = D.map (·.2) := by
  induction D with
  | nil => intro pre last; rfl
  | cons d t ih =>
    obtain ⟨g, s⟩ := d
    intro pre last
    have h := ih (pre ++ g ++ s) last
    simp only [List.length_append] at h
    simp only [offs, List.map_cons, flat_cons]
    have e : pre ++ (g ++ (s ++ flat t) ++ last) = pre ++ g ++ s ++ (flat t ++ last) := by simp
    rw [e, h]
    congr 1
    simp only [cut]
    have e1 : pre.length + g.length + s.length = (pre ++ g ++ s).length := by simp only [List.length_append]
    rw [e1, List.take_left]
    have e2 : pre.length + g.length = (pre ++ g).length := by simp
    rw [e2, List.drop_left]

theorem texts_flat {D : List GP} {last : List Int} (hD : VD true D) (hw : ∀ c ∈ last, ws c) : texts (flat D ++ last) = D.map (·.2) := by
  unfold texts
  rw [sol_offs hD hw]
  simpa using texts_offs D [] last

theorem strOfNums_inj {a b : List Int} (ha : Bytes a) (hb : Bytes b) (h : (strOfNums a).toList = (strOfNums b).toList) : a = b := by
  rw [ByteArray.toList_eq, ByteArray.toList_eq] at h
  simp only [strOfNums] at h
  induction a generalizing b with
  | nil => cases b with
    | nil => rfl
    | cons _ _ => simp at h
  | cons x a ih => cases b with
    | nil => simp at h
    | cons y b =>
      simp only [List.map_cons, List.cons.injEq] at h
      obtain ⟨h1, h2⟩ := h
      have hx := ha x (by simp)
      have hy := hb y (by simp)
      have h3 := congrArg UInt8.toNat h1
      rw [UInt8.toNat_ofNat', UInt8.toNat_ofNat'] at h3
      rw [ih (fun z hz => ha z (by simp [hz])) (fun z hz => hb z (by simp [hz])) h2]
      congr 1
      omega

theorem bytes_cut {p : List Int} (h : Bytes p) (x : NN) : Bytes (cut p x) := fun y hy => h y (List.mem_of_mem_take (List.mem_of_mem_drop hy))

end Go.Proofs.YtdaodcdbfaikjaaDoor.Gen

namespace Go.Proofs.YtdaodcdbfaikjaaDoor.Gen
open Go Go.RowKit
set_option linter.unusedVariables false
set_option linter.unusedSimpArgs false

end Go.Proofs.YtdaodcdbfaikjaaDoor.Gen

namespace Go.Proofs.YtdaodcdbfaikjaaDoor.Gen
open Go Go.RowKit
set_option linter.unusedVariables false
set_option linter.unusedSimpArgs false

/-- The lines of a text, without their ends. -/
def lns : List Int → List (List Int)
  | [] => [[]]
  | c :: t => if c = 10 then [] :: lns t else match lns t with
    | l :: r => (c :: l) :: r
    | [] => [[c]]

theorem lns_ne (p : List Int) : lns p ≠ [] := by
  cases p with
  | nil => simp [lns]
  | cons c t =>
    simp only [lns]
    split
    · simp
    · split <;> simp

theorem lns_ex (p : List Int) : ∃ l r, lns p = l :: r := by
  have := lns_ne p
  cases h : lns p with
  | nil => exact absurd h this
  | cons l r => exact ⟨l, r, rfl⟩

theorem lns_nl (t : List Int) : lns (10 :: t) = [] :: lns t := by simp [lns]
theorem lns_cons {c : Int} (h : c ≠ 10) {t : List Int} {l : List Int} {r : List (List Int)} (e : lns t = l :: r) : lns (c :: t) = (c :: l) :: r := by simp [lns, h, e]

/-- Lines as one text. -/
def jn : List (List Int) → List Int
  | [] => []
  | [l] => l
  | l :: m :: r => l ++ 10 :: jn (m :: r)

theorem jn_cons (l : List Int) {r : List (List Int)} (h : r ≠ []) : jn (l :: r) = l ++ 10 :: jn r := by
  cases r with
  | nil => exact absurd rfl h
  | cons m r => rfl

theorem jn_cons_cons (c : Int) (l : List Int) (r : List (List Int)) : jn ((c :: l) :: r) = c :: jn (l :: r) := by
  cases r <;> rfl

theorem jn_lns (p : List Int) : jn (lns p) = p := by
  induction p with
  | nil => rfl
  | cons c t ih =>
    by_cases h : c = 10
    · subst h; rw [lns_nl, jn_cons _ (lns_ne t), ih]; rfl
    · obtain ⟨l, r, e⟩ := lns_ex t
      rw [lns_cons h e, jn_cons_cons, ← e, ih]

/-- No line has an end in it. -/
theorem lns_free (p : List Int) : ∀ l ∈ lns p, ∀ c ∈ l, c ≠ 10 := by
  induction p with
  | nil => intro l hl; simp [lns] at hl; subst hl; simp
  | cons c t ih =>
    by_cases h : c = 10
    · subst h; rw [lns_nl]
      intro l hl
      rcases List.mem_cons.1 hl with rfl | hl
      · simp
      · exact ih l hl
    · obtain ⟨l, r, e⟩ := lns_ex t
      rw [lns_cons h e]
      rw [e] at ih
      intro m hm
      rcases List.mem_cons.1 hm with rfl | hm
      · intro x hx
        rcases List.mem_cons.1 hx with rfl | hx
        · exact h
        · exact ih l (by simp) x hx
      · exact ih m (by simp [hm])

theorem lns_one {a : List Int} (h : ∀ c ∈ a, c ≠ 10) : lns a = [a] := by
  induction a with
  | nil => rfl
  | cons c t ih => exact lns_cons (h c (by simp)) (ih fun x hx => h x (by simp [hx]))

/-- A text parted: the last line of the one part and the first of the other are one line. -/
theorem lns_append (a b : List Int) : ∀ {A x y B}, lns a = A ++ [x] → lns b = y :: B → lns (a ++ b) = A ++ (x ++ y) :: B := by
  induction a with
  | nil =>
    intro A x y B h1 h2
    cases A with
    | nil => simp [lns] at h1; subst h1; simpa using h2
    | cons m A => simp [lns] at h1
  | cons c t ih =>
    intro A x y B h1 h2
    by_cases h : c = 10
    · subst h
      rw [lns_nl] at h1
      rw [List.cons_append, lns_nl]
      cases A with
      | nil =>
        simp only [List.nil_append, List.cons.injEq] at h1
        exact absurd h1.2 (lns_ne t)
      | cons m A =>
        simp only [List.cons_append, List.cons.injEq] at h1
        obtain ⟨rfl, h1⟩ := h1
        rw [ih h1 h2]; rfl
    · obtain ⟨l, r, e⟩ := lns_ex t
      rw [lns_cons h e] at h1
      cases A with
      | nil =>
        simp only [List.nil_append, List.cons.injEq] at h1
        obtain ⟨rfl, rfl⟩ := h1
        rw [List.cons_append, lns_cons h (ih (A := []) (x := l) (by simpa using e) h2)]; rfl
      | cons m A =>
        simp only [List.cons_append, List.cons.injEq] at h1
        obtain ⟨rfl, rfl⟩ := h1
        rw [List.cons_append, lns_cons h (ih (A := l :: A) (x := x) (by simpa using e) h2)]; rfl

theorem lns_last (a : List Int) : ∃ A x, lns a = A ++ [x] := by
  rcases List.eq_nil_or_concat (lns a) with h | ⟨A, x, h⟩
  · exact absurd h (lns_ne a)
  · exact ⟨A, x, by simpa using h⟩

theorem lns_mid (a b : List Int) : lns (a ++ 10 :: b) = lns a ++ lns b := by
  obtain ⟨A, x, h⟩ := lns_last a
  rw [lns_append a (10 :: b) h (lns_nl b), h]; simp

/-- Lines without ends in them, joined, are the lines of what they make. -/
theorem lns_jn {L : List (List Int)} (h0 : L ≠ []) (h : ∀ l ∈ L, ∀ c ∈ l, c ≠ 10) : lns (jn L) = L := by
  induction L with
  | nil => exact absurd rfl h0
  | cons l r ih =>
    cases r with
    | nil => exact lns_one (h l (by simp))
    | cons m r =>
      rw [jn_cons l (by simp), lns_mid, lns_one (h l (by simp)), ih (by simp) fun k hk => h k (by simp [hk])]; rfl

/-- How many line ends. -/
def nls (p : List Int) : Nat := (p.filter fun c => decide (c = 10)).length
theorem nls_le (p : List Int) : nls p ≤ p.length := List.length_filter_le _ _
theorem nls_cons (c : Int) (t : List Int) : nls (c :: t) = (if c = 10 then 1 else 0) + nls t := by
  unfold nls
  by_cases h : c = 10
  · simp [h]; omega
  · simp [h]
theorem lns_count (p : List Int) : (lns p).length = nls p + 1 := by
  induction p with
  | nil => rfl
  | cons c t ih =>
    rw [nls_cons]
    by_cases h : c = 10
    · subst h; rw [lns_nl, List.length_cons, ih]; simp; omega
    · obtain ⟨l, r, e⟩ := lns_ex t
      rw [lns_cons h e, if_neg h, Nat.zero_add, ← ih, e]; rfl

/-- Where each line begins, and how many bytes it has. -/
def spo : Nat → List (List Int) → List NN
  | _, [] => []
  | o, l :: r => (o, l.length) :: spo (o + l.length + 1) r
def spans (p : List Int) : List NN := spo 0 (lns p)
/-- The bytes of lines, with their ends. -/
def off : List (List Int) → Nat
  | [] => 0
  | l :: r => l.length + 1 + off r

theorem off_append (A B : List (List Int)) : off (A ++ B) = off A + off B := by
  induction A with
  | nil => simp [off]
  | cons l r ih => simp only [List.cons_append, off, ih]; omega
theorem jn_length {L : List (List Int)} (h : L ≠ []) : (jn L).length + 1 = off L := by
  induction L with
  | nil => exact absurd rfl h
  | cons l r ih =>
    cases r with
    | nil => simp [jn, off]
    | cons m r =>
      rw [jn_cons l (by simp), List.length_append, List.length_cons]
      have := ih (by simp)
      simp only [off] at *
      omega
theorem off_lns (p : List Int) : off (lns p) = p.length + 1 := by
  have := jn_length (lns_ne p)
  rw [jn_lns] at this; omega
theorem jn_append {A B : List (List Int)} (hA : A ≠ []) (hB : B ≠ []) : jn (A ++ B) = jn A ++ 10 :: jn B := by
  induction A with
  | nil => exact absurd rfl hA
  | cons l r ih =>
    cases r with
    | nil => rw [List.cons_append, List.nil_append, jn_cons l hB]; rfl
    | cons m r =>
      rw [List.cons_append, jn_cons l (by simp), ih (by simp), jn_cons l (by simp)]; simp
theorem jn_drop {L : List (List Int)} {i : Nat} (h : i < L.length) : (jn L).drop (off (L.take i)) = jn (L.drop i) := by
  induction L generalizing i with
  | nil => simp at h
  | cons l r ih =>
    cases i with
    | zero => simp [off]
    | succ i =>
      have hr : r ≠ [] := by rintro rfl; simp at h
      rw [jn_cons l hr, List.take_succ_cons, off, List.drop_succ_cons, ← ih (by simpa using h)]
      rw [show l.length + 1 + off (r.take i) = l.length + (1 + off (r.take i)) by omega, ← List.drop_drop, List.drop_left, Nat.add_comm 1, List.drop_succ_cons]

/-- A line at its place. -/
theorem line_drop {p : List Int} {i : Nat} (h : i < (lns p).length) : p.drop (off ((lns p).take i)) = jn ((lns p).drop i) := by
  have := jn_drop h
  rwa [jn_lns] at this
theorem jn_take (l : List Int) (r : List (List Int)) : (jn (l :: r)).take l.length = l := by
  cases r with
  | nil => simp [jn]
  | cons m r => rw [jn_cons l (by simp), List.take_left]
theorem off_le {p : List Int} {i : Nat} (h : i < (lns p).length) : off ((lns p).take i) + (lns p)[i].length ≤ p.length := by
  have h1 := off_lns p
  have h2 := off_append ((lns p).take i) ((lns p).drop i)
  rw [List.take_append_drop, List.drop_eq_getElem_cons h] at h2
  simp only [off] at h2
  omega
theorem line_cut {p : List Int} {i : Nat} (h : i < (lns p).length) : cut p (off ((lns p).take i), (lns p)[i].length) = (lns p)[i] := by
  unfold cut
  simp only
  rw [List.drop_take, line_drop h, List.drop_eq_getElem_cons h, show off ((lns p).take i) + (lns p)[i].length - off ((lns p).take i) = (lns p)[i].length by omega, jn_take]

/-- The places of line ends. -/
def endsF : Nat → List Int → List Nat
  | _, [] => []
  | o, c :: t => if c = 10 then o :: endsF (o + 1) t else endsF (o + 1) t
theorem endsF_length (p : List Int) : ∀ o, (endsF o p).length = nls p := by
  induction p with
  | nil => intro o; rfl
  | cons c t ih =>
    intro o
    rw [nls_cons]
    simp only [endsF]
    split
    · rw [List.length_cons, ih]; omega
    · rw [ih]; omega
/-- The first place of a byte. -/
def fb : List Int → Int → Int
  | [], _ => -1
  | b :: t, c => if b = c then 0 else if fb t c = -1 then -1 else fb t c + 1
theorem fb_line (p : List Int) : ∀ {l : List Int} {r : List (List Int)}, lns p = l :: r → fb p 10 = if r = [] then -1 else (l.length : Int) := by
  induction p with
  | nil =>
    intro l r h
    simp only [lns, List.cons.injEq] at h
    obtain ⟨rfl, rfl⟩ := h
    rfl
  | cons b t ih =>
    intro l r h
    by_cases hb : b = 10
    · subst hb
      rw [lns_nl, List.cons.injEq] at h
      obtain ⟨rfl, rfl⟩ := h
      rw [if_neg (lns_ne t)]; simp [fb]
    · obtain ⟨l', r', e⟩ := lns_ex t
      rw [lns_cons hb e, List.cons.injEq] at h
      obtain ⟨rfl, rfl⟩ := h
      simp only [fb, if_neg hb, ih e]
      by_cases hr : r' = []
      · simp [hr]
      · rw [if_neg hr, if_neg hr, if_neg (by omega), List.length_cons]; omega

/-- A line's span by its number. -/
def sp (p : List Int) (line : Int) : Option NN := if 0 ≤ line then (spans p)[line.toNat]? else none
theorem off_mono (L : List (List Int)) {i j : Nat} (h : i ≤ j) : off (L.take i) ≤ off (L.take j) := by
  have : L.take j = L.take i ++ (L.take j).drop i := by
    have h1 : (L.take j).take i = L.take i := by rw [List.take_take]; congr 1; omega
    conv => lhs; rw [← List.take_append_drop i (L.take j), h1]
  rw [this, off_append]; omega

end Go.Proofs.YtdaodcdbfaikjaaDoor.Gen

namespace Go.Proofs.YtdaodcdbfaikjaaDoor.Gen
open Go Go.RowKit
set_option linter.unusedVariables false
set_option linter.unusedSimpArgs false

def bl (c : Int) : Bool := decide (c = 32 ∨ c = 9)
/-- How many blanks a line begins with. -/
def ind (l : List Int) : Nat := (l.takeWhile bl).length
theorem ind_nil : ind [] = 0 := rfl
theorem ind_cons_pos {b : Int} (h : bl b = true) (r : List Int) : ind (b :: r) = 1 + ind r := by
  unfold ind; rw [List.takeWhile_cons_of_pos h, List.length_cons]; omega
theorem ind_cons_neg {b : Int} (h : bl b = false) (r : List Int) : ind (b :: r) = 0 := by
  unfold ind; rw [List.takeWhile_cons_of_neg (by simp [h])]; rfl
theorem ind_le (l : List Int) : ind l ≤ l.length := by
  unfold ind
  have := congrArg List.length (List.takeWhile_append_dropWhile (p := bl) (l := l))
  rw [List.length_append] at this; omega
theorem ind_take (l : List Int) : l.take (ind l) = l.takeWhile bl := by
  have h := List.takeWhile_append_dropWhile (p := bl) (l := l)
  unfold ind
  conv => lhs; arg 2; rw [← h]
  rw [List.take_left]
theorem ind_drop (l : List Int) : l.drop (ind l) = l.dropWhile bl := by
  have h := List.takeWhile_append_dropWhile (p := bl) (l := l)
  unfold ind
  conv => lhs; arg 2; rw [← h]
  rw [List.drop_left]
theorem ind_blank (l : List Int) : ∀ x ∈ l.take (ind l), bl x = true := by
  rw [ind_take]
  intro x hx
  have := List.all_takeWhile (p := bl) (l := l)
  rw [List.all_eq_true] at this
  exact this x hx
theorem ind_head {l : List Int} {c : Int} {t : List Int} (h : l.drop (ind l) = c :: t) : bl c = false := by
  rw [ind_drop] at h
  induction l with
  | nil => simp at h
  | cons a p ih =>
    rw [List.dropWhile_cons] at h
    cases hq : bl a with
    | true => rw [hq] at h; exact ih h
    | false => rw [hq] at h; simp at h; obtain ⟨rfl, rfl⟩ := h; exact hq
theorem ind_form {B : List Int} {c : Int} {r : List Int} (h : ∀ x ∈ B, bl x = true) (hc : bl c = false) : ind (B ++ c :: r) = B.length := by
  unfold ind
  rw [List.takeWhile_append_of_pos h, List.takeWhile_cons_of_neg (by simp [hc])]; simp
theorem ind_ex {s : List Int} (h : ind s ≠ s.length) : ∃ B c r, s = B ++ c :: r ∧ (∀ x ∈ B, bl x = true) ∧ bl c = false ∧ ind s = B.length := by
  have hl := ind_le s
  cases hd : s.drop (ind s) with
  | nil =>
    have := congrArg List.length hd
    rw [List.length_drop, List.length_nil] at this; omega
  | cons c r =>
    refine ⟨s.take (ind s), c, r, ?_, ind_blank s, ind_head hd, ?_⟩
    · rw [← hd, List.take_append_drop]
    · rw [List.length_take]; omega

theorem fill_blank (w t : Nat) (ex : Bool) (c : Nat) : ∀ x ∈ fill c w t ex, bl x = true := fun x hx => by
  have := (fillF_mem w t ex (w - c) c x hx).1
  unfold bl; simpa using this
theorem fill_len (w t : Nat) (ex : Bool) (c : Nat) : (fill c w t ex).length ≤ w - c := fillF_len w t ex (w - c) c

/-- A line whose indent is so much further in. -/
def shf (s : List Int) (d : Int) (t : Nat) (ex : Bool) : List Int :=
  if ind s = s.length then s else fill 0 (((wid_ (s.take (ind s)) 0 t : Nat) : Int) + d).toNat t ex ++ s.drop (ind s)
def canon (s : List Int) (t : Nat) (ex : Bool) : Prop := ind s = s.length ∨ fill 0 (wid_ (s.take (ind s)) 0 t) t ex = s.take (ind s)
instance (s : List Int) (t : Nat) (ex : Bool) : Decidable (canon s t ex) := inferInstanceAs (Decidable (_ ∨ _))

theorem shf_bare {s : List Int} (h : ind s = s.length) (d : Int) (t : Nat) (ex : Bool) : shf s d t ex = s := by simp [shf, h]
theorem shf_form {B : List Int} {c : Int} {r : List Int} (h : ∀ x ∈ B, bl x = true) (hc : bl c = false) (d : Int) (t : Nat) (ex : Bool) :
    shf (B ++ c :: r) d t ex = fill 0 (((wid_ B 0 t : Nat) : Int) + d).toNat t ex ++ c :: r := by
  unfold shf
  rw [ind_form h hc, List.take_left, List.drop_left, if_neg (by simp)]
theorem shf_len (s : List Int) (d : Int) (t : Nat) (ex : Bool) : (shf s d t ex).length ≤ s.length + (((wid_ (s.take (ind s)) 0 t : Nat) : Int) + d).toNat := by
  unfold shf
  split
  · omega
  · have := fill_len (((wid_ (s.take (ind s)) 0 t : Nat) : Int) + d).toNat t ex 0
    rw [List.length_append, List.length_drop]; omega
theorem bytes_fill (c w t : Nat) (ex : Bool) : Bytes (fill c w t ex) := fun x hx => by
  have := (fillF_mem w t ex (w - c) c x hx).1
  omega
theorem bytes_shf {s : List Int} (h : Bytes s) (d : Int) (t : Nat) (ex : Bool) : Bytes (shf s d t ex) := by
  unfold shf
  split
  · exact h
  · intro x hx
    rcases List.mem_append.1 hx with hx | hx
    · exact bytes_fill _ _ _ _ x hx
    · exact h x (List.mem_of_mem_drop hx)

/-- How often a line goes, at most. -/
def lim (x : Int) : Int := if x > 9999 then 9999 else if x < -9999 then -9999 else x

end Go.Proofs.YtdaodcdbfaikjaaDoor.Gen

namespace Go.Proofs.YtdaodcdbfaikjaaDoor.Gen
open Go Go.RowKit
set_option linter.unusedVariables false
set_option linter.unusedSimpArgs false

theorem texts_gap {g : List Int} (hg : ∀ c ∈ g, ws c) (q : List Int) : texts (g ++ q) = texts q := by
  obtain ⟨D, last, rfl, hD, hl⟩ := decomp_of q
  cases D with
  | nil =>
    have e : g ++ (flat [] ++ last) = flat [] ++ (g ++ last) := by simp [flat]
    rw [e, texts_flat (D := []) trivial (fun c hc => by
      rcases List.mem_append.1 hc with h | h
      · exact hg c h
      · exact hl c h), texts_flat (D := []) trivial hl]
  | cons d t =>
    obtain ⟨g', s⟩ := d
    have e : g ++ (flat ((g', s) :: t) ++ last) = flat ((g ++ g', s) :: t) ++ last := by simp [flat]
    rw [e, texts_flat (D := (g ++ g', s) :: t) ⟨fun c hc => by
      rcases List.mem_append.1 hc with h | h
      · exact hg c h
      · exact hD.1 c h, by simp, hD.2.2.1, hD.2.2.2.1, hD.2.2.2.2⟩ hl, texts_flat hD hl]
    rfl
theorem VD_join (D : List GP) : ∀ (v : Bool) {g s : List Int} {t : List GP}, VD v D → (∀ c ∈ g, ws c) → g ≠ [] → s ≠ [] → (∀ c ∈ s, ¬ ws c) → VD false t → VD v (D ++ (g, s) :: t) := by
  induction D with
  | nil => intro v g s t _ hg h0 hs0 hs ht; exact ⟨hg, fun _ => h0, hs0, hs, ht⟩
  | cons d D ih =>
    obtain ⟨g', s'⟩ := d
    intro v g s t hD hg h0 hs0 hs ht
    exact ⟨hD.1, hD.2.1, hD.2.2.1, hD.2.2.2.1, ih false hD.2.2.2.2 hg h0 hs0 hs ht⟩
/-- Pieces ahead of a line's end and behind it. -/
theorem texts_apart (a b : List Int) : texts (a ++ 10 :: b) = texts a ++ texts b := by
  obtain ⟨D, last, rfl, hD, hl⟩ := decomp_of a
  obtain ⟨D', last', rfl, hD', hl'⟩ := decomp_of b
  have h10 : ws 10 := .inr (.inr rfl)
  cases D' with
  | nil =>
    have e : flat D ++ last ++ 10 :: (flat [] ++ last') = flat D ++ (last ++ 10 :: last') := by simp [flat]
    rw [e, texts_flat hD (fun c hc => by
      rcases List.mem_append.1 hc with h | h
      · exact hl c h
      · rcases List.mem_cons.1 h with rfl | h
        · exact h10
        · exact hl' c h), texts_flat hD hl, texts_flat (D := []) trivial hl']
    simp
  | cons d t =>
    obtain ⟨g, s⟩ := d
    have e : flat D ++ last ++ 10 :: (flat ((g, s) :: t) ++ last') = flat (D ++ (last ++ 10 :: g, s) :: t) ++ last' := by simp [flat]
    rw [e, texts_flat (D := D ++ (last ++ 10 :: g, s) :: t) (VD_join D true hD (fun c hc => by
      rcases List.mem_append.1 hc with h | h
      · exact hl c h
      · rcases List.mem_cons.1 h with rfl | h
        · exact h10
        · exact hD'.1 c h) (by simp) hD'.2.2.1 hD'.2.2.2.1 hD'.2.2.2.2) hl', texts_flat hD hl, texts_flat hD' hl']
    simp
theorem texts_jn {L : List (List Int)} (h : L ≠ []) : texts (jn L) = L.flatMap texts := by
  induction L with
  | nil => exact absurd rfl h
  | cons l r ih =>
    cases r with
    | nil => simp [jn]
    | cons m r => rw [jn_cons _ (by simp), texts_apart, ih (by simp)]; rfl
theorem bl_ws {c : Int} (h : bl c = true) : ws c := by
  unfold bl at h; unfold ws; have := of_decide_eq_true h; omega
theorem texts_shf (l : List Int) (d : Int) (t : Nat) (ex : Bool) : texts (shf l d t ex) = texts l := by
  by_cases h : ind l = l.length
  · rw [shf_bare h]
  · obtain ⟨B, c, r, rfl, hB, hc, hi⟩ := ind_ex h
    rw [shf_form hB hc, texts_gap (fun x hx => bl_ws (fill_blank _ _ _ _ x hx)), texts_gap (fun x hx => bl_ws (hB x hx))]
theorem free_shf {l : List Int} (h : ∀ c ∈ l, c ≠ 10) (d : Int) (t : Nat) (ex : Bool) : ∀ c ∈ shf l d t ex, c ≠ 10 := by
  intro c hc
  unfold shf at hc
  split at hc
  · exact h c hc
  · rcases List.mem_append.1 hc with hc | hc
    · have := (fillF_mem _ t ex _ _ c hc).1; omega
    · exact h c (List.mem_of_mem_drop hc)

/-- All lines so much further in. -/
def shs (p : List Int) (d : Int) (t : Nat) (ex : Bool) : List Int := jn ((lns p).map fun l => shf l d t ex)
theorem lns_shs (p : List Int) (d : Int) (t : Nat) (ex : Bool) : lns (shs p d t ex) = (lns p).map fun l => shf l d t ex := by
  refine lns_jn (by simpa using lns_ne p) ?_
  intro l hl c hc
  obtain ⟨x, hx, rfl⟩ := List.mem_map.1 hl
  exact free_shf (lns_free p x hx) d t ex c hc
theorem texts_shs (p : List Int) (d : Int) (t : Nat) (ex : Bool) : texts (shs p d t ex) = texts p := by
  unfold shs
  rw [texts_jn (by simpa using lns_ne p), List.flatMap_map]
  conv => rhs; rw [← jn_lns p, texts_jn (lns_ne p)]
  rw [List.flatMap_def, List.flatMap_def]
  congr 1
  exact List.map_congr_left fun l _ => texts_shf l d t ex
theorem nls_shs (p : List Int) (d : Int) (t : Nat) (ex : Bool) : nls (shs p d t ex) = nls p := by
  have h1 := lns_count (shs p d t ex)
  have h2 := lns_count p
  rw [lns_shs, List.length_map] at h1
  omega
theorem shf_small (l : List Int) (d : Int) (t : Nat) (ex : Bool) (h0 : 0 < t) (ht : t ≤ 16) (N : Nat) (hd : d ≤ N) : (shf l d t ex).length ≤ 17 * l.length + N := by
  have h1 := shf_len l d t ex
  have h2 := (wid_le _ (l.take (ind l)) 0 t (Nat.le_refl _) h0).2.1
  have h3 := Nat.mul_le_mul (show (l.take (ind l)).length ≤ l.length by simp only [List.length_take]; omega) ht
  omega
theorem off_map_le (f : List Int → List Int) (N : Nat) (L : List (List Int)) (h : ∀ l ∈ L, (f l).length ≤ 17 * l.length + N) : off (L.map f) ≤ 17 * off L + N * L.length := by
  induction L with
  | nil => simp [off]
  | cons l r ih =>
    have h1 := h l (by simp)
    have h2 := ih fun m hm => h m (by simp [hm])
    simp only [List.map_cons, off, List.length_cons, Nat.mul_add, Nat.mul_one]
    omega
theorem jn_mono (L : List (List Int)) (i : Nat) (hi : i < L.length) : (jn (L.take (i + 1))).length ≤ (jn L).length := by
  have h1 := jn_length (L := L.take (i + 1)) (by intro e; have := congrArg List.length e; simp only [List.length_take, List.length_nil] at this; omega)
  have h2 := jn_length (L := L) (by rintro rfl; simp at hi)
  have h3 := off_mono L (show i + 1 ≤ L.length by omega)
  rw [List.take_length] at h3
  omega
theorem jn_succ (L : List (List Int)) (i : Nat) (h : i < L.length) : jn (L.take (i + 1)) = if i = 0 then L[i] else jn (L.take i) ++ 10 :: L[i] := by
  rw [List.take_succ_eq_append_getElem h]
  by_cases h0 : i = 0
  · subst h0; simp [jn]
  · rw [if_neg h0, jn_append (by intro e; have := congrArg List.length e; simp only [List.length_take, List.length_nil] at this; omega) (by simp)]; rfl

end Go.Proofs.YtdaodcdbfaikjaaDoor.Gen

namespace Go.Proofs.YtdaodcdbfaikjaaDoor.Gen
open Go Go.RowKit Go.Proofs.YtdaodcdbfaikjaaDoorW.PrintWords Go.Proofs.YtdaodcdbfaikjaaDoorW.PrintMore
set_option linter.unusedVariables false
set_option linter.unusedSimpArgs false

theorem bytesOf_bytes (s : ByteArray) : Bytes (bytesOf s) := by
  intro x hx
  simp only [bytesOf, List.mem_map] at hx
  obtain ⟨b, _, rfl⟩ := hx
  have := b.toNat_lt
  omega
theorem str_bytesOf (s : ByteArray) : strOfNums (bytesOf s) = s := by
  apply ByteArray.ext
  apply Array.toList_inj.1
  rw [strOfNums_data, bytesOf, List.map_map]
  conv => rhs; rw [← List.map_id s.data.toList]
  refine List.map_congr_left fun b _ => ?_
  simp
theorem bytesOf_str {l : List Int} (h : Bytes l) : bytesOf (strOfNums l) = l := by
  rw [bytesOf, strOfNums_data, List.map_map]
  conv => rhs; rw [← List.map_id l]
  refine List.map_congr_left fun x hx => ?_
  have := h x hx
  simp only [Function.comp, id, UInt8.toNat_ofNat']
  omega
theorem bytesOf_extract (s : ByteArray) (a b : Nat) : bytesOf (s.extract a b) = ((bytesOf s).take b).drop a := by
  simp only [bytesOf, ByteArray.data_extract, Array.toList_extract, List.extract_eq_take_drop, ← List.map_take, ← List.map_drop]
  rw [List.drop_take]
theorem bt_get (s : ByteArray) (i : Nat) (h : i < (bytesOf s).length) : bt s (i : Int) = (bytesOf s)[i] := by
  have hs : i < s.size := by rwa [bytesOf_length] at h
  unfold bt
  simp only [Int.toNat_natCast]
  rw [dif_pos hs]
  simp [bytesOf]
  rfl
theorem str_append (a b : List Int) : strOfNums a ++ strOfNums b = strOfNums (a ++ b) := by
  apply ByteArray.ext
  apply Array.toList_inj.1
  simp [strOfNums]
end Go.Proofs.YtdaodcdbfaikjaaDoor.Gen
