/- Proved: the lines around a place that are as its own are all so, the lines beside them aren't, and from each place in them the same is told: for any bytes and places. -/
import Derived.Test.YtcljafgpjoagpaaExtBytes
import Derived.Test.YtcljafgpjoagpaaPax0
import Derived.Test.YtcljafgpjoagpaaPax13
import Derived.Test.YtcljafgpjoagpaaPax2
import Derived.Test.YtcljafgpjoagpaaPax3
import Derived.Test.YtcljafgpjoagpaaPax4
import Derived.Test.YtcljafgpjoagpaaPax5
import Derived.Test.YtcljafgpjoagpaaPax6
import Derived.Test.YtcljafgpjoagpaaPax9
import Derived.Test.YtcljafgpjoagpaaGenObjectParagraphs
namespace Go.Proofs.Ytcljafgpjoagpaa.Ad
open Go Go.RowKit Go.Proofs.Ytcljafgpjoagpaa.Pa Go.Proofs.YtcljafgpjoagpaaW.PrintWords Go.Proofs.YtcljafgpjoagpaaW.PrintLast Go.Proofs.YtcljafgpjoagpaaW.PrintMore Go.Proofs.Ytcljafgpjoagpaa.Gen
set_option linter.unusedVariables false
set_option linter.unusedSimpArgs false

def mk (x : NN) : S25 := ⟨(x.1 : Int), (x.2 : Int)⟩
theorem rd_mk (l : List NN) (i : Nat) (h : i < l.length) : rd_T25 (l.map mk) (i : Int) = mk l[i] := by
  simp [rd_T25, h]
theorem mk_f0 (a b : Nat) : (mk (a, b)).f0 = (a : Int) := rfl
theorem mk_f1 (a b : Nat) : (mk (a, b)).f1 = (b : Int) := rfl

end Go.Proofs.Ytcljafgpjoagpaa.Ad
namespace Go.Proofs.Ytcljafgpjoagpaa.Ad
open Go Go.RowKit Go.Proofs.Ytcljafgpjoagpaa.Pa Go.Proofs.YtcljafgpjoagpaaW.PrintWords Go.Proofs.YtcljafgpjoagpaaW.PrintLast Go.Proofs.YtcljafgpjoagpaaW.PrintMore Go.Proofs.Ytcljafgpjoagpaa.Gen
set_option linter.unusedVariables false
set_option linter.unusedSimpArgs false

theorem glyph_Blank_spec (c : Int) : glyph_Blank.f c = some (decide (c = 32 ∨ c = 9)) := by
  unfold glyph_Blank.f
  split
  · simp [*]
  · rw [Option.some_inj, Bool.eq_iff_iff]; simp; omega

end Go.Proofs.Ytcljafgpjoagpaa.Ad
namespace Go.Proofs.Ytcljafgpjoagpaa.Ad
open Go Go.RowKit Go.Proofs.Ytcljafgpjoagpaa.Pa Go.Proofs.YtcljafgpjoagpaaW.PrintWords Go.Proofs.YtcljafgpjoagpaaW.PrintLast Go.Proofs.YtcljafgpjoagpaaW.PrintMore Go.Proofs.Ytcljafgpjoagpaa.Gen
set_option linter.unusedVariables false
set_option linter.unusedSimpArgs false

theorem words_Class_spec (c : Int) : words_Class.f c = some (cls c) := by
  unfold words_Class.f cls
  rw [glyph_Blank_spec, Option.bind_some]
  simp only [decide_eq_true_eq]
  repeat' split
  all_goals first | rfl | (exfalso; omega)

end Go.Proofs.Ytcljafgpjoagpaa.Ad
namespace Go.Proofs.Ytcljafgpjoagpaa.Ad
open Go Go.RowKit Go.Proofs.Ytcljafgpjoagpaa.Pa Go.Proofs.YtcljafgpjoagpaaW.PrintWords Go.Proofs.YtcljafgpjoagpaaW.PrintLast Go.Proofs.YtcljafgpjoagpaaW.PrintMore Go.Proofs.Ytcljafgpjoagpaa.Gen
set_option linter.unusedVariables false
set_option linter.unusedSimpArgs false

theorem bl_dec (c : Int) : decide (c = 32 ∨ c = 9) = bl c := rfl
theorem lines_Indent_l0 (s : ByteArray) (hs : s.size ≤ 1000000000) (m : Nat) : ∀ (k i : Nat), i + m = s.size → m < k →
    lines_Indent.l0 k s (s.size : Int) (i : Int) = some ((i + ind ((bytesOf s).drop i) : Nat) : Int) := by
  have hl := bytesOf_length s
  induction m with
  | zero =>
    intro k i hi hk
    obtain ⟨k, rfl⟩ := ex_succ hk
    rw [lines_Indent.l0, if_neg (by omega), List.drop_eq_nil_of_le (by omega), ind_nil, Nat.add_zero, show i = s.size by omega]
  | succ m ih =>
    intro k i hi hk
    obtain ⟨k, rfl⟩ := ex_succ hk
    have hlt : i < (bytesOf s).length := by omega
    have hw : wrap64 ((i : Int) + 1) = ((i + 1 : Nat) : Int) := wnat (by omega)
    rw [lines_Indent.l0, hw, ih k (i + 1) (by omega) (by omega)]
    clear hw
    rw [if_pos (by omega), if_pos (by omega), if_pos (by omega), bt_get s i hlt, glyph_Blank_spec, Option.bind_some, bl_dec, drop_at _ i hlt]
    by_cases h : bl (bytesOf s)[i] = true
    · rw [if_pos h, ind_cons_pos h, show i + 1 + ind ((bytesOf s).drop (i + 1)) = i + (1 + ind ((bytesOf s).drop (i + 1))) by omega]
    · rw [if_neg h, ind_cons_neg (by simpa using h)]; rfl
theorem lines_Indent_spec (s : ByteArray) (hs : s.size ≤ 1000000000) (k : Nat) (hk : s.size < k) : lines_Indent.f k s = some (ind (bytesOf s) : Int) := by
  have := lines_Indent_l0 s hs s.size k 0 (by omega) hk
  rw [List.drop_zero, Nat.zero_add] at this
  exact this
theorem lines_Bare_spec (s : ByteArray) (hs : s.size ≤ 1000000000) (k : Nat) (hk : s.size < k) : lines_Bare.f k s = some (decide (ind (bytesOf s) = (bytesOf s).length)) := by
  unfold lines_Bare.f
  rw [lines_Indent_spec s hs k hk, Option.bind_some, bytesOf_length, Option.some_inj, Bool.eq_iff_iff]
  simp
  omega

end Go.Proofs.Ytcljafgpjoagpaa.Ad
namespace Go.Proofs.Ytcljafgpjoagpaa.Ad
open Go Go.RowKit Go.Proofs.Ytcljafgpjoagpaa.Pa Go.Proofs.YtcljafgpjoagpaaW.PrintWords Go.Proofs.YtcljafgpjoagpaaW.PrintLast Go.Proofs.YtcljafgpjoagpaaW.PrintMore Go.Proofs.Ytcljafgpjoagpaa.Gen
set_option linter.unusedVariables false
set_option linter.unusedSimpArgs false

theorem u8_inj {a b : Int} (ha : 0 ≤ a ∧ a ≤ 255) (hb : 0 ≤ b ∧ b ≤ 255) : (UInt8.ofNat a.toNat = UInt8.ofNat b.toNat) ↔ a = b := by
  constructor
  · intro h
    have h3 := congrArg UInt8.toNat h
    rw [UInt8.toNat_ofNat', UInt8.toNat_ofNat'] at h3
    omega
  · intro h; rw [h]
theorem countByte_nl (p : List Int) (hb : Bytes p) : Lib.countByte (Lib.bytesOf p) (10 : Int).toNat.toUInt8 = nls p := by
  induction p with
  | nil => rfl
  | cons c t ih =>
    have hc := hb c (by simp)
    have := ih fun x hx => hb x (by simp [hx])
    rw [nls_cons, ← this]
    unfold Lib.countByte Lib.bytesOf
    rw [List.map_cons, List.count_cons]
    have e := u8_inj hc (show 0 ≤ (10 : Int) ∧ (10 : Int) ≤ 255 by omega)
    by_cases h : c = 10
    · subst h; simp; omega
    · rw [if_neg h, if_neg (by intro hh; exact h (e.1 (by simpa using hh)))]; omega
theorem bytes_Count_spec (p : List Int) (hb : Bytes p) : bytes_Count.f p [10] = some (nls p : Int) := by
  unfold bytes_Count.f
  rw [if_pos (show ([10] : List Int).length = 1 from rfl), show ([10] : List Int).getD 0 0 = 10 from rfl, countByte_nl p hb]
theorem indexByte_fb (p : List Int) (hb : Bytes p) (c : Int) (hc : 0 ≤ c ∧ c ≤ 255) : Lib.indexByte (Lib.bytesOf p) c.toNat.toUInt8 = fb p c := by
  induction p with
  | nil => rfl
  | cons b t ih =>
    have hbb := hb b (by simp)
    have := ih fun x hx => hb x (by simp [hx])
    have e := u8_inj hbb hc
    have e' : Lib.bytesOf (b :: t) = UInt8.ofNat b.toNat :: Lib.bytesOf t := rfl
    rw [e', Lib.indexByte, fb, this]
    by_cases h : b = c
    · subst h; simp
    · rw [if_neg h, if_neg (by intro hh; exact h (e.1 (by simpa using hh)))]
      by_cases h2 : fb t c = -1
      · rw [if_pos h2, if_pos (by simp [h2])]
      · rw [if_neg h2, if_neg (by simp [h2])]

end Go.Proofs.Ytcljafgpjoagpaa.Ad
namespace Go.Proofs.Ytcljafgpjoagpaa.Ad
open Go Go.RowKit Go.Proofs.Ytcljafgpjoagpaa.Pa Go.Proofs.YtcljafgpjoagpaaW.PrintWords Go.Proofs.YtcljafgpjoagpaaW.PrintLast Go.Proofs.YtcljafgpjoagpaaW.PrintMore Go.Proofs.Ytcljafgpjoagpaa.Gen
set_option linter.unusedVariables false
set_option linter.unusedSimpArgs false

theorem lines_Of_spec (p : List Int) (hb : Bytes p) (a : Int) : lines_Of.f p a = some (row p (clip p a) : Int) := by
  have := clip_le p a
  unfold lines_Of.f
  rw [mn_clip, if_pos (by omega), if_pos (by omega), Int.toNat_natCast, bytes_Count_spec _ (fun x hx => hb x (List.mem_of_mem_take hx)), Option.bind_some]
  rfl

end Go.Proofs.Ytcljafgpjoagpaa.Ad
namespace Go.Proofs.Ytcljafgpjoagpaa.Ad
open Go Go.RowKit Go.Proofs.Ytcljafgpjoagpaa.Pa Go.Proofs.YtcljafgpjoagpaaW.PrintWords Go.Proofs.YtcljafgpjoagpaaW.PrintLast Go.Proofs.YtcljafgpjoagpaaW.PrintMore Go.Proofs.Ytcljafgpjoagpaa.Gen
set_option linter.unusedVariables false
set_option linter.unusedSimpArgs false

theorem bytes_IndexByte_spec (p : List Int) (hb : Bytes p) (c : Int) (hc : 0 ≤ c ∧ c ≤ 255) : bytes_IndexByte.f p c = some (fb p c) := by
  unfold bytes_IndexByte.f
  rw [indexByte_fb p hb c hc]

end Go.Proofs.Ytcljafgpjoagpaa.Ad
namespace Go.Proofs.Ytcljafgpjoagpaa.Ad
open Go Go.RowKit Go.Proofs.Ytcljafgpjoagpaa.Pa Go.Proofs.YtcljafgpjoagpaaW.PrintWords Go.Proofs.YtcljafgpjoagpaaW.PrintLast Go.Proofs.YtcljafgpjoagpaaW.PrintMore Go.Proofs.Ytcljafgpjoagpaa.Gen
set_option linter.unusedVariables false
set_option linter.unusedSimpArgs false

/-- A span, if it is there. -/
def spr : Option NN → Int × Int × Bool
  | some x => ((x.1 : Int), (x.2 : Int), true)
  | none => (0, 0, false)
theorem fb_at {p : List Int} {i : Nat} (h : i < (lns p).length) : fb (p.drop (off ((lns p).take i))) 10 = if i + 1 = (lns p).length then -1 else ((lns p)[i].length : Int) := by
  have h1 : lns (p.drop (off ((lns p).take i))) = (lns p).drop i := by
    rw [line_drop h, lns_jn (by intro e; have := congrArg List.length e; simp only [List.length_drop, List.length_nil] at this; omega) (fun l hl => lns_free p l (List.mem_of_mem_drop hl))]
  rw [List.drop_eq_getElem_cons h] at h1
  rw [fb_line _ h1]
  by_cases e : i + 1 = (lns p).length
  · rw [if_pos e, if_pos (List.drop_eq_nil_of_le (by omega))]
  · rw [if_neg e, if_neg]
    intro hn
    have := congrArg List.length hn
    simp only [List.length_drop, List.length_nil] at this
    omega
theorem lines_Span_l0 (p : List Int) (hb : Bytes p) (hp : p.length ≤ 1000000000) (line : Int) (m : Nat) : ∀ (k i : Nat), i + m = (lns p).length → (i = 0 ∨ (i : Int) ≤ line) → i < (lns p).length → 2 * m + 1 < k →
    lines_Span.l0 k p line (off ((lns p).take i) : Int) (i : Int) = some (spr (sp p line)) := by
  have hc10 : 0 ≤ (10 : Int) ∧ (10 : Int) ≤ 255 := by omega
  have hcnt := lns_count p
  have hnl := nls_le p
  induction m with
  | zero => intro k i hi _ hlt _; omega
  | succ m ih =>
    intro k i hi hl hlt hk
    obtain ⟨k, rfl⟩ := ex_succ (n := 0) (k := k) (by omega)
    obtain ⟨k, rfl⟩ := ex_succ (n := 0) (k := k) (by omega)
    have hol := off_last hlt
    have hf := fb_at hlt
    have bd : Bytes (p.drop (off ((lns p).take i))) := fun x hx => hb x (List.mem_of_mem_drop hx)
    rw [lines_Span.l0]
    by_cases h : (i : Int) < line
    · rw [if_pos h, decide_eq_true (by omega), lines_Span.j1, if_pos rfl, if_pos (by omega), if_pos (by omega), Int.toNat_natCast, bytes_IndexByte_spec _ bd 10 hc10, Option.bind_some, hf]
      by_cases e : i + 1 = (lns p).length
      · rw [if_pos e, if_pos (by omega), sp_out (.inr (by omega))]; rfl
      · have hw1 : wrap64 (((lns p)[i].length : Int) + 1) = (((lns p)[i].length + 1 : Nat) : Int) := wnat (by omega)
        have hw2 : wrap64 ((off ((lns p).take i) : Int) + (((lns p)[i].length + 1 : Nat) : Int)) = (off ((lns p).take (i + 1)) : Int) := by
          clear hw1
          rw [off_take hlt, wid (by omega) (by omega)]; omega
        have hw3 : wrap64 ((i : Int) + 1) = ((i + 1 : Nat) : Int) := by clear hw1 hw2; exact wnat (by omega)
        rw [if_neg e, if_neg (by clear hw1 hw2 hw3; omega), hw1, hw2, hw3]
        clear hw1 hw2 hw3
        exact ih k (i + 1) (by omega) (.inr (by omega)) (by omega) (by omega)
    · rw [if_neg h, lines_Span.j1, if_neg (by simp)]
      by_cases hn : line < 0
      · rw [if_pos hn, sp_out (.inl hn)]; rfl
      · have hli : line = (i : Int) := by omega
        subst hli
        have hs := sp_in (p := p) (line := (i : Int)) (by omega) (by rw [Int.toNat_natCast]; exact hlt)
        simp only [Int.toNat_natCast] at hs
        rw [if_neg hn, if_pos (by omega), if_pos (by omega), Int.toNat_natCast, bytes_IndexByte_spec _ bd 10 hc10, Option.bind_some, hf, hs]
        by_cases e : i + 1 = (lns p).length
        · have hw1 : wrap64 ((p.length : Int) - (off ((lns p).take i) : Int)) = ((lns p)[i].length : Int) := by
            rw [wid (by omega) (by omega)]; omega
          rw [if_pos e, if_pos (by omega), hw1]; rfl
        · rw [if_neg e, if_neg (by omega)]; rfl
theorem lines_Span_spec (p : List Int) (hb : Bytes p) (hp : p.length ≤ 1000000000) (line : Int) (k : Nat) (hk : 2 * p.length + 4 < k) : lines_Span.f k p line = some (spr (sp p line)) := by
  have hcnt := lns_count p
  have hnl := nls_le p
  have := lines_Span_l0 p hb hp line (lns p).length k 0 (by omega) (.inl rfl) (by omega) (by omega)
  simpa [lines_Span.f, off] using this

end Go.Proofs.Ytcljafgpjoagpaa.Ad
namespace Go.Proofs.Ytcljafgpjoagpaa.Ad
open Go Go.RowKit Go.Proofs.Ytcljafgpjoagpaa.Pa Go.Proofs.YtcljafgpjoagpaaW.PrintWords Go.Proofs.YtcljafgpjoagpaaW.PrintLast Go.Proofs.YtcljafgpjoagpaaW.PrintMore Go.Proofs.Ytcljafgpjoagpaa.Gen
set_option linter.unusedVariables false
set_option linter.unusedSimpArgs false

theorem lines_Whole_spec (p : List Int) (hb : Bytes p) (hp : p.length ≤ 1000000000) (a b : Int) (k : Nat) (hk : 2 * p.length + 4 < k) : lines_Whole.f k p a b = some (spr (whole p a b)) := by
  obtain ⟨k, rfl⟩ := ex_succ (n := 0) (k := k) (by omega)
  have e1 : mn a b = min a b := by unfold mn; split <;> omega
  have e2 : mx a b = max a b := by unfold mx; split <;> omega
  unfold lines_Whole.f
  rw [e1, e2, lines_Span_spec p hb hp _ _ hk, Option.bind_some, lines_Span_spec p hb hp _ _ hk, Option.bind_some]
  clear e1 e2
  by_cases h : 0 ≤ min a b ∧ (max a b).toNat < (lns p).length
  · obtain ⟨h1, h2⟩ := h
    have hi : (min a b).toNat < (lns p).length := by omega
    have hij : (min a b).toNat ≤ (max a b).toNat := by omega
    have ew : whole p a b = some (whl p (min a b).toNat (max a b).toNat) := if_pos ⟨h1, h2⟩
    rw [sp_in h1 hi, sp_in (by omega) h2, ew]
    have hol := off_last h2
    have hot := off_take h2
    have hwe := whl_end hij h2
    have hom := off_mono (lns p) hij
    have hf : (whl p (min a b).toNat (max a b).toNat).1 = off ((lns p).take (min a b).toNat) := rfl
    simp only [spr]
    rw [if_pos (by trivial), lines_Whole.j0, if_neg (by simp), hf]
    generalize (whl p (min a b).toNat (max a b).toNat).2 = n at *
    generalize off ((lns p).take (min a b).toNat) = s at *
    generalize off ((lns p).take ((max a b).toNat + 1)) = u at *
    generalize off ((lns p).take (max a b).toNat) = v at *
    generalize ((lns p)[(max a b).toNat]).length = z at *
    have hw : wrap64 ((v : Int) + (z : Int)) = ((v + z : Nat) : Int) := by rw [wid (by omega) (by omega)]; omega
    rw [hw]
    clear hw
    by_cases hlt : v + z < p.length
    · have hw1 : wrap64 (((v + z : Nat) : Int) + 1) = ((v + z + 1 : Nat) : Int) := wnat (by omega)
      have hw2 : wrap64 (((v + z + 1 : Nat) : Int) - (s : Int)) = (n : Int) := by
        clear hw1
        rw [wid (by omega) (by omega)]; omega
      rw [if_pos (by clear hw1 hw2; omega), hw1, hw2]
    · have hw2 : wrap64 (((v + z : Nat) : Int) - (s : Int)) = (n : Int) := by
        rw [wid (by omega) (by omega)]; omega
      rw [if_neg (by clear hw2; omega), hw2]
  · have ew : whole p a b = none := if_neg h
    rw [ew]
    by_cases h1 : 0 ≤ min a b ∧ (min a b).toNat < (lns p).length
    · rw [sp_in h1.1 h1.2, sp_out (line := max a b) (.inr (by omega))]
      simp only [spr]
      rw [if_pos (by trivial), lines_Whole.j0, if_pos (by simp)]
    · rw [sp_out (line := min a b) (by omega)]
      refine (if_neg Bool.false_ne_true).trans ?_
      rw [lines_Whole.j0, if_pos rfl]; rfl

end Go.Proofs.Ytcljafgpjoagpaa.Ad
namespace Go.Proofs.Ytcljafgpjoagpaa.Ad
open Go Go.RowKit Go.Proofs.Ytcljafgpjoagpaa.Pa Go.Proofs.YtcljafgpjoagpaaW.PrintWords Go.Proofs.YtcljafgpjoagpaaW.PrintLast Go.Proofs.YtcljafgpjoagpaaW.PrintMore Go.Proofs.Ytcljafgpjoagpaa.Gen
set_option linter.unusedVariables false
set_option linter.unusedSimpArgs false

/-- Is a line there, and of blanks alone; is it there? -/
def ob (p : List Int) (line : Int) : Bool × Bool := match (if 0 ≤ line then brl p line.toNat else none) with
  | some b => (b, true)
  | none => (false, false)
theorem ob_nat (p : List Int) (i : Nat) : ob p (i : Int) = match brl p i with
  | some b => (b, true)
  | none => (false, false) := by
  unfold ob; rw [if_pos (by omega), Int.toNat_natCast]
theorem ob_neg (p : List Int) (i : Int) (h : i < 0) : ob p i = (false, false) := by
  unfold ob; rw [if_neg (by omega)]
/-- A line's bytes, as a string is made of them. -/
theorem line_str {p : List Int} (hp : p.length ≤ 1000000000) {i : Nat} (h : i < (lns p).length) : (p.take (wrap64 ((off ((lns p).take i) : Int) + ((lns p)[i].length : Int)) : Int).toNat).drop ((off ((lns p).take i) : Int)).toNat = (lns p)[i] := by
  have hle := off_le h
  have hc := line_cut h
  have hw : wrap64 ((off ((lns p).take i) : Int) + ((lns p)[i].length : Int)) = ((off ((lns p).take i) + (lns p)[i].length : Nat) : Int) := by rw [wid (by omega) (by omega)]; omega
  rw [hw, Int.toNat_natCast, Int.toNat_natCast]
  exact hc
theorem object_bare_spec (p : List Int) (hb : Bytes p) (hp : p.length ≤ 1000000) (line : Int) (k : Nat) (hk : 2 * p.length + 4 < k) : object_bare.f k p line = some (ob p line) := by
  unfold object_bare.f
  rw [lines_Span_spec p hb (by omega) line k hk, Option.bind_some]
  by_cases h : 0 ≤ line ∧ line.toNat < (lns p).length
  · obtain ⟨h0, h1⟩ := h
    have hle := off_le h1
    have hs := line_str (p := p) (by omega) h1
    have hlb := line_bytes hb h1
    have eo : ob p line = (decide (ind (lns p)[line.toNat] = (lns p)[line.toNat].length), true) := by
      unfold ob; rw [if_pos h0, brl_in h1]
    rw [sp_in h0 h1, eo]
    simp only [spr]
    rw [hs]
    clear hs eo
    refine (if_pos trivial).trans ?_
    rw [lines_Bare_spec _ (by rw [strOfNums_size]; omega) k (by rw [strOfNums_size]; omega), Option.bind_some, bytesOf_str hlb]
    generalize off ((lns p).take line.toNat) = o at *
    generalize hz : (lns p)[line.toNat].length = z at *
    have hw : wrap64 ((o : Int) + (z : Int)) = ((o + z : Nat) : Int) := by rw [wid (by omega) (by omega)]; omega
    have g1 : (0 : Int) ≤ (o : Int) := by omega
    have g2 : (o : Int) ≤ wrap64 ((o : Int) + (z : Int)) := by rw [hw]; clear hw; omega
    have g3 : wrap64 ((o : Int) + (z : Int)) ≤ (p.length : Int) := by rw [hw]; clear hw; omega
    exact (if_pos g1).trans ((if_pos g2).trans (if_pos g3))
  · rw [sp_out (by omega)]
    have eo : ob p line = (false, false) := by
      unfold ob
      by_cases h0 : 0 ≤ line
      · rw [if_pos h0, brl_out (by omega)]
      · rw [if_neg h0]
    rw [eo]
    rfl
theorem para_l0 (p : List Int) (hb : Bytes p) (hp : p.length ≤ 1000000) (b : Bool) (hi : Int) (a : Nat) : ∀ k, a < (lns p).length → 2 * p.length + 4 + a < k →
    ∃ k', k ≤ k' + a + 1 ∧ object_paragraph.l0 k p b (a : Int) hi (ob p ((a : Int) - 1)).1 (ob p ((a : Int) - 1)).2 = object_paragraph.j1 k' p b (loR p b a : Int) hi := by
  have hcnt := lns_count p
  have hnl := nls_le p
  induction a with
  | zero =>
    intro k ha hk
    obtain ⟨k, rfl⟩ := ex_succ (n := 0) (k := k) (by omega)
    refine ⟨k, by omega, ?_⟩
    rw [ob_neg _ _ (by omega), object_paragraph.l0]
    rfl
  | succ a ih =>
    intro k ha hk
    obtain ⟨k, rfl⟩ := ex_succ (n := 0) (k := k) (by omega)
    have e1 : ((a + 1 : Nat) : Int) - 1 = (a : Int) := by omega
    have hbr := brl_in (p := p) (i := a) (by omega)
    have w1 : wrap64 (a : Int) = (a : Int) := wid (by omega) (by omega)
    have w2 : wrap64 ((a : Int) - 1) = (a : Int) - 1 := by clear w1; exact wid (by omega) (by omega)
    rw [e1, ob_nat, hbr, object_paragraph.l0, e1, w1, w2, loR, hbr]
    clear e1 w1 w2
    generalize decide (ind (lns p)[a] = (lns p)[a].length) = v
    by_cases h : v = b
    · subst h
      obtain ⟨k', h1, h2⟩ := ih k (by omega) (by omega)
      refine ⟨k', by omega, ?_⟩
      rw [if_pos rfl, if_pos rfl]
      refine (if_pos (by simp)).trans ?_
      rw [object_bare_spec p hb hp _ k (by omega), Option.bind_some, h2]
    · refine ⟨k, by omega, ?_⟩
      rw [if_pos rfl, if_neg (show ¬ some v = some b by simpa using h)]
      refine (if_neg (by simpa using h)).trans ?_
      rfl
theorem para_l1 (p : List Int) (hb : Bytes p) (hp : p.length ≤ 1000000) (b : Bool) (lo : Nat) (m : Nat) : ∀ k i, i + m + 1 = (lns p).length → lo ≤ i → 2 * p.length + 5 + m < k →
    object_paragraph.l1 k p b (lo : Int) (i : Int) (ob p ((i : Int) + 1)).1 (ob p ((i : Int) + 1)).2 = some (((whl p lo (hiR p b m i)).1 : Int), ((whl p lo (hiR p b m i)).2 : Int), true) := by
  have hcnt := lns_count p
  have hnl := nls_le p
  induction m with
  | zero =>
    intro k i hi hl hk
    obtain ⟨k, rfl⟩ := ex_succ (n := 0) (k := k) (by omega)
    have e1 : (i : Int) + 1 = ((i + 1 : Nat) : Int) := by omega
    rw [e1, ob_nat, brl_out (by omega), object_paragraph.l1, lines_Whole_spec p hb (by omega) _ _ k (by omega), whole_nat (p := p) hl (by omega)]
    rfl
  | succ m ih =>
    intro k i hi hl hk
    obtain ⟨k, rfl⟩ := ex_succ (n := 0) (k := k) (by omega)
    have e1 : (i : Int) + 1 = ((i + 1 : Nat) : Int) := by omega
    have e2 : ((i + 1 : Nat) : Int) + 1 = ((i + 2 : Nat) : Int) := by omega
    have hbr := brl_in (p := p) (i := i + 1) (by omega)
    have hn := ih k (i + 1) (by omega) (by omega) (by omega)
    rw [e2] at hn
    have w1 : wrap64 ((i + 1 : Nat) : Int) = ((i + 1 : Nat) : Int) := wid (by omega) (by omega)
    have w2 : wrap64 ((i + 2 : Nat) : Int) = ((i + 2 : Nat) : Int) := by clear w1; exact wid (by omega) (by omega)
    rw [e1, ob_nat, hbr, object_paragraph.l1, e1, w1, e2, w2, hiR, hbr]
    clear e1 e2 w1 w2
    generalize decide (ind (lns p)[i + 1] = (lns p)[i + 1].length) = v
    by_cases h : v = b
    · subst h
      rw [if_pos rfl, if_pos rfl]
      refine (if_pos (by simp)).trans ?_
      rw [object_bare_spec p hb hp _ k (by omega), Option.bind_some, hn]
    · rw [if_pos rfl, if_neg (show ¬ some v = some b by simpa using h)]
      refine (if_neg (by simpa using h)).trans ?_
      rw [lines_Whole_spec p hb (by omega) _ _ k (by omega), whole_nat (p := p) hl (by omega)]
      rfl
theorem object_paragraph_spec (p : List Int) (hb : Bytes p) (hp : p.length ≤ 1000000) (r : Nat) (hr : r < (lns p).length) (k : Nat) (hk : 4 * p.length + 20 < k) :
    object_paragraph.f k p (r : Int) = some (((par p r (decide (ind (lns p)[r] = (lns p)[r].length))).1 : Int), ((par p r (decide (ind (lns p)[r] = (lns p)[r].length))).2 : Int), true) := by
  have hcnt := lns_count p
  have hnl := nls_le p
  have hbr := brl_in hr
  have w2 : wrap64 ((r : Int) - 1) = (r : Int) - 1 := wid (by omega) (by omega)
  have w3 : wrap64 ((r : Int) + 1) = (r : Int) + 1 := by clear w2; exact wid (by omega) (by omega)
  unfold object_paragraph.f
  have hbs := fun z => object_bare_spec p hb hp z k (by clear w2 w3; omega)
  rw [w2, hbs, Option.bind_some, hbs, Option.bind_some, ob_nat, hbr]
  clear w2
  obtain ⟨k', h1, h2⟩ := para_l0 p hb hp (decide (ind (lns p)[r] = (lns p)[r].length)) (r : Int) r k hr (by clear w3; omega)
  simp only
  rw [h2]
  obtain ⟨k', rfl⟩ := ex_succ (n := 0) (k := k') (by clear w3; omega)
  rw [object_paragraph.j1, w3, object_bare_spec p hb hp _ k' (by clear w3; omega), Option.bind_some]
  clear w3
  have hle := loR_le p (decide (ind (lns p)[r] = (lns p)[r].length)) r
  exact para_l1 p hb hp _ _ ((lns p).length - 1 - r) k' r (by omega) hle (by omega)

end Go.Proofs.Ytcljafgpjoagpaa.Ad
namespace Go.Proofs.Ytcljafgpjoagpaa.Ad
open Go Go.RowKit Go.Proofs.Ytcljafgpjoagpaa.Pa Go.Proofs.YtcljafgpjoagpaaW.PrintWords Go.Proofs.YtcljafgpjoagpaaW.PrintLast Go.Proofs.YtcljafgpjoagpaaW.PrintMore Go.Proofs.Ytcljafgpjoagpaa.Gen
set_option linter.unusedVariables false
set_option linter.unusedSimpArgs false

theorem words_Runs_l0 (p : List Int) (hp : p.length ≤ 1000000) (m : Nat) : ∀ (k i : Nat), i + m = p.length → m < k →
    words_Runs.l0 k p ((rn 0 (p.take i)).map mk) (i : Int) = some ((rn 0 p).map mk) := by
  induction m with
  | zero =>
    intro k i hi hk
    obtain ⟨k, rfl⟩ := ex_succ hk
    rw [words_Runs.l0, if_neg (by omega), List.take_of_length_le (by omega)]
  | succ m ih =>
    intro k i hi hk
    obtain ⟨k, rfl⟩ := ex_succ hk
    have hlt : i < p.length := by omega
    have hnext := ih k (i + 1) (by omega) (by omega)
    rw [List.take_succ_eq_append_getElem hlt] at hnext
    have hw1 : wrap64 ((i : Int) + 1) = ((i + 1 : Nat) : Int) := wnat (by omega)
    rw [words_Runs.l0, hw1]
    clear hw1
    rw [if_pos (by omega)]
    by_cases h0 : i = 0
    · subst h0
      have e0 : (rn 0 (p.take 0)).map mk = [] := rfl
      rw [List.take_zero, List.nil_append, rn_one] at hnext
      rw [e0, if_neg (by simp [wrap64]), if_pos (by simp)]
      exact hnext
    · have hne : p.take i ≠ [] := by intro e; have := congrArg List.length e; simp only [List.length_take, List.length_nil] at this; omega
      obtain ⟨l, a, n, h1, h2⟩ := rn_snoc (p.take i) p[i] 0 hne
      have hl1 := rn_length (p.take i) 0
      rw [h1] at hl1
      simp only [List.length_append, List.length_cons, List.length_nil, List.length_take] at hl1
      have hmem := rn_mem (p.take i) (a, n) (by rw [h1]; simp)
      simp only [List.length_take] at hmem
      have hnb : n ≤ 1000000 := by have := hmem.2; omega
      have hi1 : i - 1 < p.length := by omega
      rw [take_last p i (by omega) (by omega) hne] at h2
      simp only [List.length_take, Nat.zero_add] at h2
      rw [show min i p.length = i by omega] at h2
      rw [h2] at hnext
      rw [h1]
      have hll : l.length ≤ 1000000 := by omega
      have hlen : wrap64 ((((l ++ [(a, n)]).map mk).length : Int) - 1) = (l.length : Int) := by
        rw [show (((l ++ [(a, n)]).map mk).length : Int) - 1 = (l.length : Int) by simp]
        exact wid (by omega) (by omega)
      have hwi : wrap64 ((i : Int) - 1) = ((i - 1 : Nat) : Int) := by
        clear hlen
        rw [show (i : Int) - 1 = ((i - 1 : Nat) : Int) by omega]; exact wid (by omega) (by omega)
      have hrd : rd_T25 ((l ++ [(a, n)]).map mk) (l.length : Int) = mk (a, n) := by
        rw [rd_mk _ _ (by simp)]; simp
      have hlen2 : (((l ++ [(a, n)]).map mk).length : Int) = ((l.length + 1 : Nat) : Int) := by simp
      have hw1 : wrap64 ((mk (a, n)).f1 + 1) = ((n + 1 : Nat) : Int) := by clear hlen hwi; exact wnat (n := n) (by omega)
      have hcap : ((l ++ [(a, n)]).map mk).length < 8796093022208 := by
        clear hlen hwi hw1
        simp only [List.length_map, List.length_append, List.length_cons, List.length_nil]; omega
      rw [hlen, hwi, hrd, hw1, if_pos hcap, hlen2]
      clear hlen hwi hw1 hlen2
      rw [if_pos (by omega), if_pos (by omega), rd_nat p i hlt, words_Class_spec, Option.bind_some, if_pos (by omega), if_pos (by omega), rd_nat p (i - 1) hi1, words_Class_spec, Option.bind_some]
      by_cases hc : cls p[i - 1] = cls p[i]
      · rw [if_pos hc] at hnext
        have hset : ((l ++ [(a, n)]).map mk).set ((l.length : Int)).toNat (⟨(mk (a, n)).f0, ((n + 1 : Nat) : Int)⟩ : S25) = (l ++ [(a, n + 1)]).map mk := by simp [mk]
        rw [if_pos hc.symm, if_pos (by omega), if_pos (by omega), hset]
        exact hnext
      · rw [if_neg hc] at hnext
        have hset : ((l ++ [(a, n)]).map mk) ++ [(⟨(i : Int), 1⟩ : S25)] = (l ++ [(a, n)] ++ [(i, 1)]).map mk := by simp [mk]
        rw [if_neg (fun e => hc e.symm), hset]
        exact hnext
theorem words_Runs_spec (p : List Int) (hp : p.length ≤ 1000000) (k : Nat) (hk : p.length < k) : words_Runs.f k p = some ((rn 0 p).map mk) := by
  have := words_Runs_l0 p hp p.length k 0 (by omega) hk
  simpa [words_Runs.f, rn] using this

end Go.Proofs.Ytcljafgpjoagpaa.Ad
namespace Go.Proofs.Ytcljafgpjoagpaa.Ad
open Go Go.RowKit Go.Proofs.Ytcljafgpjoagpaa.Pa Go.Proofs.YtcljafgpjoagpaaW.PrintWords Go.Proofs.YtcljafgpjoagpaaW.PrintLast Go.Proofs.YtcljafgpjoagpaaW.PrintMore Go.Proofs.Ytcljafgpjoagpaa.Gen
set_option linter.unusedVariables false
set_option linter.unusedSimpArgs false

/-- A run, or none. -/
def innR (o : Option NN) : Int × Int × Bool × Int := match o with
  | some x => ((x.1 : Int), (x.2 : Int), false, 0)
  | none => (0, 0, false, 2)
theorem object_Inner_l0 (p : List Int) (hp : p.length ≤ 1000000) (a : Int) (L : List NN) (hL : ∀ x ∈ L, 1 ≤ x.2 ∧ x.1 + x.2 ≤ p.length) (hn : L.length ≤ 1000000000) (m : Nat) : ∀ (k i : Nat), i + m = L.length → m < k →
    object_Inner.l0 k p a (L.map mk) (L.length : Int) (i : Int) = some (innR (inn p a (L.drop i))) := by
  induction m with
  | zero =>
    intro k i hi hk
    obtain ⟨k, rfl⟩ := ex_succ (n := 0) (k := k) (by omega)
    rw [object_Inner.l0, if_neg (by omega), List.drop_eq_nil_of_le (by omega)]
    rfl
  | succ m ih =>
    intro k i hi hk
    obtain ⟨k, rfl⟩ := ex_succ (n := 0) (k := k) (by omega)
    have hlt : i < L.length := by omega
    have hx := hL L[i] (List.getElem_mem hlt)
    have hn' := ih k (i + 1) (by omega) (by omega)
    have hw : wrap64 ((i : Int) + 1) = ((i + 1 : Nat) : Int) := wnat (by omega)
    have hw2 : wrap64 ((L[i].1 : Int) + (L[i].2 : Int)) = ((L[i].1 + L[i].2 : Nat) : Int) := by clear hw; exact wadd (by omega)
    have hg : L[i].1 < p.length := by clear hw hw2; omega
    have hrd : rd p (L[i].1 : Int) = p.getD L[i].1 0 := by
      rw [rd_nat p _ hg]; simp [List.getD_eq_getElem?_getD, hg]
    rw [object_Inner.l0, List.length_map, rd_mk _ _ hlt, List.drop_eq_getElem_cons hlt, inn_cons]
    have m0 : (mk L[i]).f0 = (L[i].1 : Int) := rfl
    have m1 : (mk L[i]).f1 = (L[i].2 : Int) := rfl
    rw [m0, m1, hw2, hw, hrd, words_Class_spec, Option.bind_some]
    clear hw hw2 m0 m1 hrd
    rw [if_pos (by omega), if_pos (by omega), if_pos (by omega)]
    by_cases h1 : (L[i].1 : Int) ≤ a
    · rw [if_pos (by omega)]
      by_cases h2 : a < ((L[i].1 + L[i].2 : Nat) : Int)
      · rw [if_pos h2, if_pos (by omega), if_pos (by omega)]
        by_cases h3 : cls (p.getD L[i].1 0) = 1
        · rw [if_pos h3, if_neg (fun h => h.2.2 h3)]
          exact hn'
        · rw [if_neg h3, if_pos ⟨h1, h2, h3⟩]
          rfl
      · rw [if_neg h2, if_neg (fun h => h2 h.2.1)]
        exact hn'
    · rw [if_neg (by omega), if_neg (fun h => h1 h.1)]
      exact hn'
theorem object_Inner_w (p : List Int) (hp : p.length ≤ 1000000) (a : Int) (k : Nat) (hk : p.length < k) : object_Inner.f k p a 119 = some (innR (inn p a (rn 0 p))) := by
  have h1 := rn_length p 0
  unfold object_Inner.f
  rw [if_pos rfl, words_Runs_spec p hp k hk, Option.bind_some, List.length_map]
  have := object_Inner_l0 p hp a (rn 0 p) (rn_mem p) (by omega) (rn 0 p).length k 0 (by omega) (by omega)
  rw [List.drop_zero] at this
  exact this
theorem object_Inner_p (p : List Int) (hb : Bytes p) (hp : p.length ≤ 1000000) (a : Int) (k : Nat) (hk : 4 * p.length + 20 < k) (b : Bool) (h : brl p (row p (clip p a)) = some b) : object_Inner.f k p a 112 = some (((par p (row p (clip p a)) b).1 : Int), ((par p (row p (clip p a)) b).2 : Int), true, 0) := by
  have hr := row_lt p (clip p a)
  rw [brl_in hr, Option.some_inj] at h
  unfold object_Inner.f
  rw [if_neg (by decide), if_pos rfl, lines_Of_spec p hb, Option.bind_some, object_paragraph_spec p hb hp _ hr k hk, Option.bind_some, h]
theorem object_Inner_no (p : List Int) (a c : Int) (h1 : c ≠ 119) (h2 : c ≠ 112) (h3 : c ≠ 108) (k : Nat) : object_Inner.f k p a c = some (0, 0, false, 3) := by
  unfold object_Inner.f
  rw [if_neg h1, if_neg h2, if_neg h3]

end Go.Proofs.Ytcljafgpjoagpaa.Ad
namespace Go.Proofs.Ytcljafgpjoagpaa.Ad
open Go Go.RowKit Go.Proofs.Ytcljafgpjoagpaa.Pa Go.Proofs.YtcljafgpjoagpaaW.PrintWords Go.Proofs.YtcljafgpjoagpaaW.PrintLast Go.Proofs.YtcljafgpjoagpaaW.PrintMore Go.Proofs.Ytcljafgpjoagpaa.Gen
set_option linter.unusedVariables false
set_option linter.unusedSimpArgs false

theorem place_spec (p : List Int) (hp : p.length ≤ 1000000) (a : Int) (h0 : 0 ≤ a) (h1 : a ≤ 255) : platenlaw20_place.f p a = some ((a.toNat % (p.length + 1) : Nat) : Int) := by
  have w1 : wrap64 ((p.length : Int) + 1) = ((p.length + 1 : Nat) : Int) := wnat (by omega)
  have w2 : wrap64 a = a := by clear w1; exact wid (by omega) (by omega)
  obtain ⟨n, rfl⟩ : ∃ n : Nat, a = (n : Int) := ⟨a.toNat, by omega⟩
  unfold platenlaw20_place.f
  rw [w1, w2]
  clear w1 w2
  rw [if_neg (by omega), Int.toNat_natCast, ← Int.ofNat_tmod]

end Go.Proofs.Ytcljafgpjoagpaa.Ad
namespace Go.Proofs.Ytcljafgpjoagpaa.Ad
open Go Go.RowKit Go.Proofs.Ytcljafgpjoagpaa.Pa Go.Proofs.YtcljafgpjoagpaaW.PrintWords Go.Proofs.YtcljafgpjoagpaaW.PrintLast Go.Proofs.YtcljafgpjoagpaaW.PrintMore Go.Proofs.Ytcljafgpjoagpaa.Gen
set_option linter.unusedVariables false
set_option linter.unusedSimpArgs false

theorem platenref03_Ends_l0 (p : List Int) (hp : p.length ≤ 1000000000) (m : Nat) : ∀ (k i : Nat) (acc : List Int), i + m = p.length → acc.length ≤ i → m < k →
    platenref03_Ends.l0 k p acc (i : Int) = some (acc ++ zs (endsF i (p.drop i))) := by
  induction m with
  | zero =>
    intro k i acc hi ha hk
    obtain ⟨k, rfl⟩ := ex_succ hk
    rw [platenref03_Ends.l0, if_neg (by omega), List.drop_eq_nil_of_le (by omega)]
    simp [endsF, zs]
  | succ m ih =>
    intro k i acc hi ha hk
    obtain ⟨k, rfl⟩ := ex_succ hk
    have hlt : i < p.length := by omega
    have hw : wrap64 ((i : Int) + 1) = ((i + 1 : Nat) : Int) := wnat (by omega)
    have h1 := ih k (i + 1) acc (by omega) (by omega) (by omega)
    have h2 := ih k (i + 1) (acc ++ [(i : Int)]) (by omega) (by simp only [List.length_append, List.length_cons, List.length_nil]; omega) (by omega)
    rw [platenref03_Ends.l0, hw, h1, h2]
    clear hw h1 h2
    rw [if_pos (by omega), if_pos (by omega), rd_nat p i hlt, if_pos (show acc.length < 17592186044416 by omega), drop_at p i hlt]
    simp only [endsF]
    by_cases h : p[i] = 10
    · rw [if_pos h, if_pos h]; simp [zs]
    · rw [if_neg h, if_neg h]
theorem platenref03_Ends_spec (p : List Int) (hp : p.length ≤ 1000000000) (k : Nat) (hk : p.length < k) : platenref03_Ends.f k p = some (zs (endsF 0 p)) := by
  have := platenref03_Ends_l0 p hp p.length k 0 [] (by omega) (by simp) hk
  simpa [platenref03_Ends.f] using this

end Go.Proofs.Ytcljafgpjoagpaa.Ad
namespace Go.Proofs.Ytcljafgpjoagpaa.Ad
open Go Go.RowKit Go.Proofs.Ytcljafgpjoagpaa.Pa Go.Proofs.YtcljafgpjoagpaaW.PrintWords Go.Proofs.YtcljafgpjoagpaaW.PrintLast Go.Proofs.YtcljafgpjoagpaaW.PrintMore Go.Proofs.Ytcljafgpjoagpaa.Gen
set_option linter.unusedVariables false
set_option linter.unusedSimpArgs false

theorem platenref03_Of_l0 (L : List Nat) (a : Int) (hL : L.length ≤ 1000000000) (m : Nat) : ∀ (k i n : Nat), i + m = L.length → n ≤ i → m < k →
    platenref03_Of.l0 k a (n : Int) (zs L) (i : Int) = some ((n + ((L.drop i).filter fun (e : Nat) => decide ((e : Int) < a)).length : Nat) : Int) := by
  induction m with
  | zero =>
    intro k i n hi hn hk
    obtain ⟨k, rfl⟩ := ex_succ hk
    rw [platenref03_Of.l0, zs_len, if_neg (by omega), List.drop_eq_nil_of_le (by omega)]; rfl
  | succ m ih =>
    intro k i n hi hn hk
    obtain ⟨k, rfl⟩ := ex_succ hk
    have hlt : i < L.length := by omega
    have hw : wrap64 ((i : Int) + 1) = ((i + 1 : Nat) : Int) := wnat (by omega)
    have hw2 : wrap64 ((n : Int) + 1) = ((n + 1 : Nat) : Int) := by clear hw; exact wnat (by omega)
    have h1 := ih k (i + 1) n (by omega) (by omega) (by omega)
    have h2 := ih k (i + 1) (n + 1) (by omega) (by omega) (by omega)
    rw [platenref03_Of.l0, hw, hw2, h1, h2]
    clear hw hw2 h1 h2
    rw [zs_len, if_pos (by omega), if_pos (by omega), rd_zs L i hlt, drop_at L i hlt]
    by_cases h : (L[i] : Int) < a
    · rw [if_pos h, List.filter_cons_of_pos (by simpa using h), List.length_cons]
      congr 2; omega
    · rw [if_neg h, List.filter_cons_of_neg (by simpa using h)]
theorem platenref03_Of_spec (p : List Int) (hp : p.length ≤ 1000000000) (a : Int) (k : Nat) (hk : p.length < k) : platenref03_Of.f k p a = some (row p (clip p a) : Int) := by
  have hn := nls_le p
  have hl := endsF_length p 0
  unfold platenref03_Of.f
  rw [platenref03_Ends_spec p hp k hk, Option.bind_some]
  have := platenref03_Of_l0 (endsF 0 p) a (by omega) (endsF 0 p).length k 0 0 (by omega) (by omega) (by omega)
  rw [Int.natCast_zero, List.drop_zero, Nat.zero_add] at this
  rw [this]
  have he := ends_ahead p 0 a.toNat
  have ef : (endsF 0 p).filter (fun (e : Nat) => decide ((e : Int) < a)) = (endsF 0 p).filter (fun e => decide (e < 0 + a.toNat)) := by
    refine List.filter_congr fun x _ => ?_
    rw [decide_eq_decide]; omega
  rw [ef, he]
  unfold row clip
  by_cases hc : a.toNat ≤ p.length
  · rw [show min a.toNat p.length = a.toNat by omega]
  · rw [show min a.toNat p.length = p.length by omega, List.take_of_length_le (by omega), List.take_of_length_le (by omega)]

end Go.Proofs.Ytcljafgpjoagpaa.Ad
namespace Go.Proofs.Ytcljafgpjoagpaa.Ad
open Go Go.RowKit Go.Proofs.Ytcljafgpjoagpaa.Pa Go.Proofs.YtcljafgpjoagpaaW.PrintWords Go.Proofs.YtcljafgpjoagpaaW.PrintLast Go.Proofs.YtcljafgpjoagpaaW.PrintMore Go.Proofs.Ytcljafgpjoagpaa.Gen
set_option linter.unusedVariables false
set_option linter.unusedSimpArgs false

theorem platenref03_Spans_l0 (p : List Int) (hp : p.length ≤ 1000000000) (E : List Nat) (hE : ∀ e ∈ E, e < p.length) (hs : E.Pairwise (· < ·)) (hn : E.length ≤ 1000000000) (m : Nat) : ∀ (k i a : Nat) (acc : List NN), i + m = E.length → acc.length ≤ i → a ≤ p.length → (∀ e ∈ E.drop i, a ≤ e) → m < k →
    platenref03_Spans.l0 k p (acc.map mk) (a : Int) (zs E) (i : Int) = some ((acc ++ spe a (E.drop i) p.length).map mk) := by
  induction m with
  | zero =>
    intro k i a acc hi ha hap _ hk
    obtain ⟨k, rfl⟩ := ex_succ hk
    have hcap : (acc.map mk).length < 8796093022208 := by simp only [List.length_map]; omega
    have hw : wrap64 ((p.length : Int) - (a : Int)) = ((p.length - a : Nat) : Int) := by rw [wid (by omega) (by omega)]; omega
    rw [platenref03_Spans.l0, zs_len, if_neg (by omega), if_pos hcap, List.drop_eq_nil_of_le (by omega), hw]
    simp [spe, mk]
  | succ m ih =>
    intro k i a acc hi ha hap hle hk
    obtain ⟨k, rfl⟩ := ex_succ hk
    have hlt : i < E.length := by omega
    have hcap : (acc.map mk).length < 8796093022208 := by simp only [List.length_map]; omega
    have hel := hE _ (List.getElem_mem hlt)
    have hd := List.drop_eq_getElem_cons hlt
    have hmem : E[i] ∈ E.drop i := by rw [hd]; exact List.mem_cons_self
    have hea : a ≤ E[i] := hle _ hmem
    have hps : (E[i] :: E.drop (i + 1)).Pairwise (· < ·) := by rw [← hd]; exact hs.sublist (List.drop_sublist _ _)
    have hnx : ∀ e ∈ E.drop (i + 1), E[i] + 1 ≤ e := fun e he => Nat.succ_le_of_lt ((List.pairwise_cons.1 hps).1 e he)
    have h1 := ih k (i + 1) (E[i] + 1) (acc ++ [(a, E[i] - a)]) (by omega) (by simp only [List.length_append, List.length_cons, List.length_nil]; omega) (by omega) hnx (by omega)
    have hw : wrap64 ((i : Int) + 1) = ((i + 1 : Nat) : Int) := wnat (by omega)
    have hw2 : wrap64 ((E[i] : Int) + 1) = ((E[i] + 1 : Nat) : Int) := by clear hw; exact wnat (by omega)
    have hw3 : wrap64 ((E[i] : Int) - (a : Int)) = ((E[i] - a : Nat) : Int) := by clear hw hw2; rw [wid (by omega) (by omega)]; omega
    have erow : acc.map mk ++ [(⟨(a : Int), ((E[i] - a : Nat) : Int)⟩ : S25)] = (acc ++ [(a, E[i] - a)]).map mk := by simp [mk]
    rw [platenref03_Spans.l0, zs_len, rd_zs E i hlt, hw, hw2, hw3, erow, h1]
    clear hw hw2 hw3 h1 erow
    rw [if_pos (by omega), if_pos (by omega), if_pos hcap, hd, spe]
    simp
theorem endsF_asc (p : List Int) : ∀ o, (endsF o p).Pairwise (· < ·) := by
  induction p with
  | nil => intro o; exact List.Pairwise.nil
  | cons c t ih =>
    intro o
    simp only [endsF]
    split
    · exact List.pairwise_cons.2 ⟨fun x hx => by have := endsF_bd t _ x hx; omega, ih _⟩
    · exact ih _
theorem platenref03_Spans_spec (p : List Int) (hp : p.length ≤ 1000000000) (k : Nat) (hk : p.length + 1 < k) : platenref03_Spans.f k p = some ((spans p).map mk) := by
  have hn := nls_le p
  have hl := endsF_length p 0
  unfold platenref03_Spans.f
  rw [platenref03_Ends_spec p hp k (by omega), Option.bind_some]
  have := platenref03_Spans_l0 p hp (endsF 0 p) (fun e he => by have := endsF_bd p 0 e he; omega) (endsF_asc p 0) (by omega) (endsF 0 p).length k 0 0 [] (by omega) (by simp) (by omega) (fun _ _ => by omega) (by omega)
  rw [List.drop_zero, spans_eq, List.nil_append] at this
  simpa using this
theorem spans_rd (p : List Int) (i : Nat) (h : i < (lns p).length) : rd_T25 ((spans p).map mk) (i : Int) = mk (off ((lns p).take i), (lns p)[i].length) := by
  have h2 : i < (spans p).length := by rw [spans, spo_length]; exact h
  rw [rd_mk _ _ h2]
  have := spans_at h
  rw [List.getElem?_eq_getElem h2, Option.some_inj] at this
  rw [this]

end Go.Proofs.Ytcljafgpjoagpaa.Ad
namespace Go.Proofs.Ytcljafgpjoagpaa.Ad
open Go Go.RowKit Go.Proofs.Ytcljafgpjoagpaa.Pa Go.Proofs.YtcljafgpjoagpaaW.PrintWords Go.Proofs.YtcljafgpjoagpaaW.PrintLast Go.Proofs.YtcljafgpjoagpaaW.PrintMore Go.Proofs.Ytcljafgpjoagpaa.Gen
set_option linter.unusedVariables false
set_option linter.unusedSimpArgs false

theorem platenref03_Whole_j0 (p : List Int) (hp : p.length ≤ 1000000000) (a b : Int) (hab : a ≤ b) (k : Nat) (hk : p.length + 3 < k) : platenref03_Whole.j0 k p a b = some (spr (whole p a b)) := by
  obtain ⟨k, rfl⟩ := ex_succ (n := 0) (k := k) (by omega)
  obtain ⟨k, rfl⟩ := ex_succ (n := 0) (k := k) (by omega)
  have hsl := spans_length p
  have hcnt := lns_count p
  rw [platenref03_Whole.j0, platenref03_Spans_spec p hp _ (by omega), Option.bind_some]
  by_cases h : 0 ≤ min a b ∧ (max a b).toNat < (lns p).length
  · obtain ⟨h1, h2⟩ := h
    obtain ⟨i, rfl⟩ : ∃ i : Nat, a = (i : Int) := ⟨a.toNat, by omega⟩
    obtain ⟨j, rfl⟩ : ∃ j : Nat, b = (j : Int) := ⟨b.toNat, by omega⟩
    have ei : (min (i : Int) (j : Int)).toNat = i := by omega
    have ej : (max (i : Int) (j : Int)).toNat = j := by omega
    rw [ej] at h2
    have hi : i < (lns p).length := by omega
    have ew : whole p i j = some (whl p i j) := by
      unfold whole
      rw [ei, ej, if_pos ⟨h1, h2⟩]
    have hol := off_last h2
    have hot := off_take h2
    have hwe := whl_end (show i ≤ j by omega) h2
    have hom := off_mono (lns p) (show i ≤ j by omega)
    have hf : (whl p i j).1 = off ((lns p).take i) := rfl
    rw [if_neg (by omega), decide_eq_false (by simp only [List.length_map]; omega), platenref03_Whole.j1, if_neg (by simp), List.length_map, spans_rd p i hi, spans_rd p j h2, ew]
    simp only [spr, mk, hf]
    generalize (whl p i j).2 = n at *
    generalize off ((lns p).take i) = s at *
    generalize off ((lns p).take (j + 1)) = u at *
    generalize off ((lns p).take j) = v at *
    generalize ((lns p)[j]).length = z at *
    have hw : wrap64 ((v : Int) + (z : Int)) = ((v + z : Nat) : Int) := by rw [wid (by omega) (by omega)]; omega
    have hw1 : wrap64 (((v + z : Nat) : Int) + 1) = ((v + z + 1 : Nat) : Int) := by clear hw; exact wnat (by omega)
    have hw2 : wrap64 (((spans p).length : Int) - 1) = ((lns p).length : Int) - 1 := by
      clear hw hw1
      rw [wid (by have := nls_le p; omega) (by have := nls_le p; omega)]; omega
    rw [hw, hw1, hw2]
    clear hw hw1 hw2
    rw [if_pos (by omega), if_pos (by omega)]
    by_cases hlt : j + 1 = (lns p).length
    · have hw2 : wrap64 (((v + z : Nat) : Int) - (s : Int)) = (n : Int) := by
        rw [wid (by omega) (by omega)]; omega
      rw [if_neg (by clear hw2; omega), if_pos (by clear hw2; omega), if_pos (by clear hw2; omega), hw2]
    · have hw2 : wrap64 (((v + z + 1 : Nat) : Int) - (s : Int)) = (n : Int) := by
        rw [wid (by omega) (by omega)]; omega
      rw [if_pos (by clear hw2; omega), if_pos (by clear hw2; omega), if_pos (by clear hw2; omega), hw2]
  · have ew : whole p a b = none := if_neg h
    rw [ew]
    by_cases h1 : a < 0
    · rw [if_pos h1, platenref03_Whole.j1, if_pos rfl]; rfl
    · rw [if_neg h1, decide_eq_true (by simp only [List.length_map]; omega), platenref03_Whole.j1, if_pos rfl]; rfl
theorem platenref03_Whole_spec (p : List Int) (hp : p.length ≤ 1000000000) (a b : Int) (k : Nat) (hk : p.length + 3 < k) : platenref03_Whole.f k p a b = some (spr (whole p a b)) := by
  unfold platenref03_Whole.f
  by_cases h : a > b
  · rw [if_pos h, platenref03_Whole_j0 p hp b a (by omega) k hk, whole_comm]
  · rw [if_neg h, platenref03_Whole_j0 p hp a b (by omega) k hk]

end Go.Proofs.Ytcljafgpjoagpaa.Ad
namespace Go.Proofs.Ytcljafgpjoagpaa.Ad
open Go Go.RowKit Go.Proofs.Ytcljafgpjoagpaa.Pa Go.Proofs.YtcljafgpjoagpaaW.PrintWords Go.Proofs.YtcljafgpjoagpaaW.PrintLast Go.Proofs.YtcljafgpjoagpaaW.PrintMore Go.Proofs.Ytcljafgpjoagpaa.Gen
set_option linter.unusedVariables false
set_option linter.unusedSimpArgs false

theorem platenref01_Blank_spec (c : Int) : platenref01_Blank.f c = some (decide (c = 32 ∨ c = 9)) := by
  unfold platenref01_Blank.f
  split
  · simp [*]
  · rw [Option.some_inj, Bool.eq_iff_iff]; simp; omega

end Go.Proofs.Ytcljafgpjoagpaa.Ad
namespace Go.Proofs.Ytcljafgpjoagpaa.Ad
open Go Go.RowKit Go.Proofs.Ytcljafgpjoagpaa.Pa Go.Proofs.YtcljafgpjoagpaaW.PrintWords Go.Proofs.YtcljafgpjoagpaaW.PrintLast Go.Proofs.YtcljafgpjoagpaaW.PrintMore Go.Proofs.Ytcljafgpjoagpaa.Gen
set_option linter.unusedVariables false
set_option linter.unusedSimpArgs false

theorem platenref03_Indent_l0 (s : List Int) (hs : s.length ≤ 1000000000) (m : Nat) : ∀ (k i : Nat), i + m = s.length → m < k →
    platenref03_Indent.l0 k s (i : Int) = some ((i + ind (s.drop i) : Nat) : Int) := by
  induction m with
  | zero =>
    intro k i hi hk
    obtain ⟨k, rfl⟩ := ex_succ hk
    rw [platenref03_Indent.l0, if_neg (by omega), List.drop_eq_nil_of_le (by omega), ind_nil, Nat.add_zero]
  | succ m ih =>
    intro k i hi hk
    obtain ⟨k, rfl⟩ := ex_succ hk
    have hlt : i < s.length := by omega
    have hw : wrap64 ((i : Int) + 1) = ((i + 1 : Nat) : Int) := wnat (by omega)
    rw [platenref03_Indent.l0, hw, ih k (i + 1) (by omega) (by omega)]
    clear hw
    rw [if_pos (by omega), if_pos (by omega), rd_nat s i hlt, platenref01_Blank_spec, Option.bind_some, show decide (s[i] = 32 ∨ s[i] = 9) = bl s[i] from rfl, drop_at _ i hlt]
    by_cases h : bl s[i] = true
    · rw [if_pos h, ind_cons_pos h, show i + 1 + ind (s.drop (i + 1)) = i + (1 + ind (s.drop (i + 1))) by omega]
    · rw [if_neg h, ind_cons_neg (by simpa using h)]; rfl
theorem platenref03_Indent_spec (s : List Int) (hs : s.length ≤ 1000000000) (k : Nat) (hk : s.length < k) : platenref03_Indent.f k s = some (ind s : Int) := by
  have := platenref03_Indent_l0 s hs s.length k 0 (by omega) hk
  rw [List.drop_zero, Nat.zero_add] at this
  exact this

end Go.Proofs.Ytcljafgpjoagpaa.Ad
namespace Go.Proofs.Ytcljafgpjoagpaa.Ad
open Go Go.RowKit Go.Proofs.Ytcljafgpjoagpaa.Pa Go.Proofs.YtcljafgpjoagpaaW.PrintWords Go.Proofs.YtcljafgpjoagpaaW.PrintLast Go.Proofs.YtcljafgpjoagpaaW.PrintMore Go.Proofs.Ytcljafgpjoagpaa.Gen
set_option linter.unusedVariables false
set_option linter.unusedSimpArgs false

theorem platenref03_Bare_spec (s : List Int) (hs : s.length ≤ 1000000000) (k : Nat) (hk : s.length < k) : platenref03_Bare.f k s = some (decide (ind s = s.length)) := by
  unfold platenref03_Bare.f
  rw [platenref03_Indent_spec s hs k hk, Option.bind_some, Option.some_inj, Bool.eq_iff_iff]
  simp
  omega

end Go.Proofs.Ytcljafgpjoagpaa.Ad
namespace Go.Proofs.Ytcljafgpjoagpaa.Ad
open Go Go.RowKit Go.Proofs.Ytcljafgpjoagpaa.Pa Go.Proofs.YtcljafgpjoagpaaW.PrintWords Go.Proofs.YtcljafgpjoagpaaW.PrintLast Go.Proofs.YtcljafgpjoagpaaW.PrintMore Go.Proofs.Ytcljafgpjoagpaa.Gen
set_option linter.unusedVariables false
set_option linter.unusedSimpArgs false

theorem platenref03_Text_spec (p : List Int) (hp : p.length ≤ 1000000000) (i : Nat) (h : i < (lns p).length) : platenref03_Text.f p (off ((lns p).take i) : Int) ((lns p)[i].length : Int) = some (lns p)[i] := by
  have hle := off_le h
  have hc := line_cut h
  have hw : wrap64 ((off ((lns p).take i) : Int) + ((lns p)[i].length : Int)) = ((off ((lns p).take i) + (lns p)[i].length : Nat) : Int) := by rw [wid (by omega) (by omega)]; omega
  unfold platenref03_Text.f
  rw [hw]
  clear hw
  rw [if_pos (by omega), if_pos (by omega), if_pos (by omega), Int.toNat_natCast, Int.toNat_natCast]
  exact congrArg some hc

end Go.Proofs.Ytcljafgpjoagpaa.Ad
namespace Go.Proofs.Ytcljafgpjoagpaa.Ad
open Go Go.RowKit Go.Proofs.Ytcljafgpjoagpaa.Pa Go.Proofs.YtcljafgpjoagpaaW.PrintWords Go.Proofs.YtcljafgpjoagpaaW.PrintLast Go.Proofs.YtcljafgpjoagpaaW.PrintMore Go.Proofs.Ytcljafgpjoagpaa.Gen
set_option linter.unusedVariables false
set_option linter.unusedSimpArgs false

/-- So many lines, if they are there. -/
def cntL (p : List Int) (r : Nat) (n : Int) : Int × Int × Bool × Bool := if (r : Int) + max n 1 ≤ ((lns p).length : Int) then (((whl p r (r + (max n 1).toNat - 1)).1 : Int), ((whl p r (r + (max n 1).toNat - 1)).2 : Int), true, true) else (0, 0, false, false)
theorem object_Count_spec (p : List Int) (hb : Bytes p) (hp : p.length ≤ 1000000) (a n : Int) (h0 : -9223372036854775808 ≤ n) (h1 : n ≤ 9223372036854775807) (k : Nat) (hk : 2 * p.length + 4 < k) : object_Count.f k p a n = some (cntL p (row p (clip p a)) n) := by
  have hr := row_lt p (clip p a)
  have hcnt := lns_count p
  have hnl := nls_le p
  unfold object_Count.f
  rw [lines_Of_spec p hb, Option.bind_some]
  generalize row p (clip p a) = r at *
  have e : mx n 1 = max n 1 := by unfold mx; split <;> omega
  rw [e, lines_Whole_spec p hb (by omega) _ _ k hk, Option.bind_some]
  clear e
  generalize hm : max n 1 = m at *
  have hm1 : 1 ≤ m := by omega
  have hm2 : m ≤ 9223372036854775807 := by omega
  unfold cntL
  rw [hm]
  by_cases h : (r : Int) + m ≤ ((lns p).length : Int)
  · have hw : wrap64 (wrap64 ((r : Int) + m) - 1) = ((r + m.toNat - 1 : Nat) : Int) := by
      have hwa : wrap64 ((r : Int) + m) = (r : Int) + m := wid (by omega) (by omega)
      rw [hwa]; clear hwa; rw [wid (by omega) (by omega)]; omega
    rw [if_pos h, hw]
    clear hw
    rw [whole_nat (p := p) (show r ≤ r + m.toNat - 1 by omega) (by omega)]
    rfl
  · rw [if_neg h]
    have hw : wrap64 (wrap64 ((r : Int) + m) - 1) < 0 ∨ ((lns p).length : Int) ≤ wrap64 (wrap64 ((r : Int) + m) - 1) := by
      by_cases g : (r : Int) + m ≤ 9223372036854775807
      · right
        have hwa : wrap64 ((r : Int) + m) = (r : Int) + m := wid (by omega) (by omega)
        rw [hwa]; clear hwa; rw [wid (by omega) (by omega)]; omega
      · by_cases g2 : (r : Int) + m = 9223372036854775808
        · right
          rw [g2]
          have : wrap64 (wrap64 9223372036854775808 - 1) = 9223372036854775807 := by unfold wrap64; omega
          rw [this]; omega
        · left
          unfold wrap64
          omega
    have : whole p (r : Int) (wrap64 (wrap64 ((r : Int) + m) - 1)) = none := by
      generalize wrap64 (wrap64 ((r : Int) + m) - 1) = z at *
      unfold whole
      rw [if_neg (by omega)]
    rw [this]
    rfl

end Go.Proofs.Ytcljafgpjoagpaa.Ad
namespace Go.Proofs.Ytcljafgpjoagpaa.Ad
open Go Go.RowKit Go.Proofs.Ytcljafgpjoagpaa.Pa Go.Proofs.YtcljafgpjoagpaaW.PrintWords Go.Proofs.YtcljafgpjoagpaaW.PrintLast Go.Proofs.YtcljafgpjoagpaaW.PrintMore Go.Proofs.Ytcljafgpjoagpaa.Gen
set_option linter.unusedVariables false
set_option linter.unusedSimpArgs false

/-- A line's bytes, as the document tells them of the list of lines. -/
theorem text_at (p : List Int) (hp : p.length ≤ 1000000) (i : Nat) (h : i < (lns p).length) : platenref03_Text.f p (rd_T25 ((spans p).map mk) (i : Int)).f0 (rd_T25 ((spans p).map mk) (i : Int)).f1 = some (lns p)[i] := by
  rw [spans_rd p i h, mk_f0, mk_f1]
  exact platenref03_Text_spec p (by omega) i h
theorem bare_at (p : List Int) (hp : p.length ≤ 1000000) (i : Nat) (h : i < (lns p).length) (k : Nat) (hk : p.length < k) : platenref03_Bare.f k (lns p)[i] = some (decide (ind (lns p)[i] = (lns p)[i].length)) := by
  have := off_le h
  exact platenref03_Bare_spec _ (by omega) k (by omega)

end Go.Proofs.Ytcljafgpjoagpaa.Ad
namespace Go.Proofs.Ytcljafgpjoagpaa.Ad
open Go Go.RowKit Go.Proofs.Ytcljafgpjoagpaa.Pa Go.Proofs.YtcljafgpjoagpaaW.PrintWords Go.Proofs.YtcljafgpjoagpaaW.PrintLast Go.Proofs.YtcljafgpjoagpaaW.PrintMore Go.Proofs.Ytcljafgpjoagpaa.Gen
set_option linter.unusedVariables false
set_option linter.unusedSimpArgs false

theorem inner20_spec (k : Nat) (hk : 200 < k) : platenlaw20_inner.f k = some true := by
  have b1 : Bytes [97, 10, 98] := by intro x hx; simp at hx; omega
  have i1 := object_Inner_w [97, 98, 32, 99] (by decide) 1 k (by simp only [List.length_cons, List.length_nil]; omega)
  have i2 := object_Inner_no [97, 98, 32, 99] 1 122 (by decide) (by decide) (by decide) k
  have i3 := object_Count_spec [97, 10, 98] b1 (by decide) 0 2 (by decide) (by decide) k (by simp only [List.length_cons, List.length_nil]; omega)
  have v1 : innR (inn [97, 98, 32, 99] 1 (rn 0 [97, 98, 32, 99])) = (0, 2, false, 0) := by decide
  have v3 : cntL [97, 10, 98] (row [97, 10, 98] (clip [97, 10, 98] 0)) 2 = (0, 3, true, true) := by decide
  rw [v1] at i1; rw [v3] at i3
  unfold platenlaw20_inner.f
  rw [i1, Option.bind_some, i2, Option.bind_some, i3, Option.bind_some]
  rfl

end Go.Proofs.Ytcljafgpjoagpaa.Ad
namespace Go.Proofs.Ytcljafgpjoagpaa.Pure
open Go Go.RowKit Go.Proofs.Ytcljafgpjoagpaa.Pa Go.Proofs.YtcljafgpjoagpaaW.PrintWords Go.Proofs.YtcljafgpjoagpaaW.PrintLast Go.Proofs.YtcljafgpjoagpaaW.PrintMore Go.Proofs.Ytcljafgpjoagpaa.Gen Go.Proofs.Ytcljafgpjoagpaa.Ad
set_option linter.unusedVariables false
set_option linter.unusedSimpArgs false

theorem par_lines {p : List Int} {r : Nat} (hr : r < (lns p).length) (b : Bool) (h : brl p r = some b) : loR p b r ≤ r ∧ r ≤ hiR p b ((lns p).length - 1 - r) r ∧ hiR p b ((lns p).length - 1 - r) r < (lns p).length
    ∧ (∀ j, loR p b r ≤ j → j ≤ hiR p b ((lns p).length - 1 - r) r → brl p j = some b) ∧ brl p (hiR p b ((lns p).length - 1 - r) r + 1) ≠ some b ∧ (loR p b r = 0 ∨ brl p (loR p b r - 1) ≠ some b) := by
  have h1 := loR_le p b r
  have h2 := hiR_ge p b ((lns p).length - 1 - r) r
  refine ⟨h1, h2.1, by omega, ?_, hiR_stop p b _ r (by omega), loR_stop p b r⟩
  intro j g1 g2
  rcases Nat.lt_trichotomy j r with g | g | g
  · exact loR_all p b r j g1 g
  · rw [g]; exact h
  · exact hiR_all p b _ r j g g2
theorem par_same {p : List Int} {r s : Nat} (hr : r < (lns p).length) (b : Bool) (h : brl p r = some b) (h1 : loR p b r ≤ s) (h2 : s ≤ hiR p b ((lns p).length - 1 - r) r) : par p s b = par p r b := by
  obtain ⟨g1, g2, g3, g4, g5, g6⟩ := par_lines hr b h
  have e1 : loR p b s = loR p b r := loR_eq h1 (fun j a1 a2 => g4 j a1 (by omega)) g6
  have e2 : hiR p b ((lns p).length - 1 - s) s = hiR p b ((lns p).length - 1 - r) r := hiR_eq (by omega) h2 (fun j a1 a2 => g4 j (by omega) a2) g5
  unfold par
  rw [e1, e2]
theorem row_in {p : List Int} {i j q : Nat} (hij : i ≤ j) (hj : j < (lns p).length) (h1 : off ((lns p).take i) ≤ q) (h2 : q < off ((lns p).take i) + (whl p i j).2) : i ≤ row p q ∧ row p q ≤ j := by
  have hw := whl_end hij hj
  have hq : q < p.length := by omega
  have ha := row_at p q (by omega)
  have hl := row_lt p q
  have ht := off_take hl
  constructor
  · by_cases h : i ≤ row p q
    · exact h
    · have := off_mono (lns p) (show row p q + 1 ≤ i by omega)
      omega
  · by_cases h : row p q ≤ j
    · exact h
    · have := off_mono (lns p) (show j + 1 ≤ row p q by omega)
      omega
theorem ObjectParagraphs_l0 (p : List Int) (hp : p.length ≤ 200) (x2 fi ro : Int) (b : Bool) (w0 w1 : Int) (rows : Bool) (m : Nat) : ∀ (k i : Nat), i + m + 1 = (lns p).length → 1000 + m < k →
    ∃ k', k ≤ k' + m + 1 ∧ platenlaw20_ObjectParagraphs.l0 k p x2 ((spans p).map mk) fi ro b (i : Int) w0 w1 rows = platenlaw20_ObjectParagraphs.j3 k' p x2 ((spans p).map mk) fi ro b (hiR p b m i : Int) w0 w1 rows := by
  have hcnt := lns_count p
  have hnl := nls_le p
  have hsl := spans_length p
  induction m with
  | zero =>
    intro k i hi hk
    obtain ⟨k, rfl⟩ := ex_succ (n := 0) (k := k) (by omega)
    refine ⟨k, by omega, ?_⟩
    have w1 : wrap64 (((spans p).length : Int) - 1) = ((spans p).length : Int) - 1 := wid (by omega) (by omega)
    rw [platenlaw20_ObjectParagraphs.l0, List.length_map, w1]
    clear w1
    rw [if_neg (by omega)]
    rfl
  | succ m ih =>
    intro k i hi hk
    obtain ⟨k, rfl⟩ := ex_succ (n := 0) (k := k) (by omega)
    have hbr := brl_in (p := p) (i := i + 1) (by omega)
    obtain ⟨k', hk', hn⟩ := ih k (i + 1) (by omega) (by omega)
    have w1 : wrap64 (((spans p).length : Int) - 1) = ((spans p).length : Int) - 1 := wid (by omega) (by omega)
    have w2 : wrap64 ((i : Int) + 1) = ((i + 1 : Nat) : Int) := by clear w1; exact wnat (by omega)
    rw [platenlaw20_ObjectParagraphs.l0, List.length_map, w1, w2, hiR, hbr]
    clear w1 w2
    rw [if_pos (by omega), if_pos (by omega), if_pos (by omega), text_at p (by omega) (i + 1) (by omega), Option.bind_some, bare_at p (by omega) (i + 1) (by omega) k (by omega), Option.bind_some]
    generalize decide (ind (lns p)[i + 1] = (lns p)[i + 1].length) = v
    by_cases h : v = b
    · subst h
      refine ⟨k', by omega, ?_⟩
      rw [if_pos rfl]
      exact (if_pos (by simp)).trans hn
    · refine ⟨k, by omega, ?_⟩
      rw [if_neg (show ¬ some v = some b by simpa using h)]
      exact (if_neg (by simpa using h)).trans rfl
theorem bare_of {p : List Int} {i : Nat} (h : i < (lns p).length) {b : Bool} (hb : brl p i = some b) : decide (ind (lns p)[i] = (lns p)[i].length) = b := by
  rw [brl_in h, Option.some_inj] at hb
  exact hb
theorem ObjectParagraphs_j5 (p : List Int) (bp : Bytes p) (hp : p.length ≤ 200) (x2 : Int) (b0 : 0 ≤ x2) (b1 : x2 ≤ 255) (b : Bool) (lo hi w : Nat) (hlh : lo ≤ hi) (hlt : hi < (lns p).length) (hw : (whl p lo hi).2 = w) (hs : ∀ s, lo ≤ s → s ≤ hi → brl p s = some b ∧ par p s b = whl p lo hi) (k : Nat) (hk : 1000 < k) :
    platenlaw20_ObjectParagraphs.j5 k p x2 false (off ((lns p).take lo) : Int) (w : Int) true = some true := by
  obtain ⟨k, rfl⟩ := ex_succ (n := 0) (k := k) (by omega)
  rw [platenlaw20_ObjectParagraphs.j5, if_neg (by simp)]
  by_cases h : w = 0
  · rw [if_pos (by omega)]
  · have hwe := whl_end hlh hlt
    rw [hw] at hwe
    obtain ⟨z, rfl⟩ : ∃ z : Nat, x2 = (z : Int) := ⟨x2.toNat, by omega⟩
    have hm := Nat.mod_lt z (show 0 < w by omega)
    have w1 : wrap64 (z : Int) = (z : Int) := wid (by omega) (by omega)
    have w2 : wrap64 ((off ((lns p).take lo) : Int) + ((z % w : Nat) : Int)) = ((off ((lns p).take lo) + z % w : Nat) : Int) := by clear w1; exact wadd (by omega)
    rw [if_neg (by clear w1 w2; omega), w1, ← Int.ofNat_tmod, w2]
    clear w1 w2
    have hcl : clip p ((off ((lns p).take lo) + z % w : Nat) : Int) = off ((lns p).take lo) + z % w := by unfold clip; omega
    have hri := row_in (q := off ((lns p).take lo) + z % w) hlh hlt (by omega) (by omega)
    obtain ⟨s1, s2⟩ := hs _ hri.1 hri.2
    have hI := object_Inner_p p bp (by omega) ((off ((lns p).take lo) + z % w : Nat) : Int) k (by omega) b (by rw [hcl]; exact s1)
    rw [hcl, s2, hw] at hI
    rw [hI, Option.bind_some]
    refine (if_pos rfl).trans ?_
    simp [whl]
theorem ObjectParagraphs_j1 (p : List Int) (bp : Bytes p) (hp : p.length ≤ 200) (x2 : Int) (b0 : 0 ≤ x2) (b1 : x2 ≤ 255) (n r : Nat) (hr : r < (lns p).length) (b : Bool) (hbr : brl p r = some b) (hOf : platenref03_Of.f 4004 p (n : Int) = some (r : Int)) (lo hi w : Nat) (elo : loR p b r = lo) (ehi : hiR p b ((lns p).length - 1 - r) r = hi) (ew : (whl p lo hi).2 = w) :
    platenlaw20_ObjectParagraphs.j1 4005 p x2 (n : Int) false (off ((lns p).take lo) : Int) (w : Int) true = some true := by
  have hcnt := lns_count p
  have hnl := nls_le p
  have hsl := spans_length p
  obtain ⟨g1, g2, g3, g4, g5, g6⟩ := par_lines hr b hbr
  have hsame := fun s => par_same (s := s) hr b hbr
  have hpar : par p r b = whl p lo hi := by unfold par; rw [elo, ehi]
  rw [elo, ehi] at hsame g4
  rw [elo] at g1 g6
  rw [ehi] at g2 g3 g5
  rw [hpar] at hsame
  have hlh : lo ≤ hi := Nat.le_trans g1 g2
  have hwe := whl_end hlh g3
  have hrlo : row p (off ((lns p).take lo)) = lo := row_of (by omega) (Nat.le_refl _) (by omega)
  have hcl2 : clip p ((off ((lns p).take lo) : Nat) : Int) = off ((lns p).take lo) := by unfold clip; omega
  have hOf2 := platenref03_Of_spec p (by omega) ((off ((lns p).take lo) : Nat) : Int) 4004 (by omega)
  rw [hcl2, hrlo] at hOf2
  have hhi : hiR p b ((lns p).length - 1 - lo) lo = hi := hiR_eq (by omega) hlh (fun j a1 a2 => g4 j (by omega) a2) g5
  have hTx := text_at p (by omega) r hr
  have hBa := bare_at p (by omega) r hr 4004 (by omega)
  rw [bare_of hr hbr] at hBa
  rw [platenlaw20_ObjectParagraphs.j1, if_neg (by simp), platenref03_Spans_spec p (by omega) 4004 (by omega), Option.bind_some, hOf2, Option.bind_some, hOf, Option.bind_some, List.length_map, if_pos (by omega), if_pos (by omega), hTx, Option.bind_some, hBa, Option.bind_some]
  obtain ⟨k', hk', hl0⟩ := ObjectParagraphs_l0 p (by omega) x2 (lo : Int) (r : Int) b (off ((lns p).take lo) : Int) (w : Int) true ((lns p).length - 1 - lo) 4004 lo (by omega) (by omega)
  rw [hl0, hhi]
  clear hl0 hTx hBa hOf hOf2
  obtain ⟨k', rfl⟩ := ex_succ (n := 0) (k := k') (by omega)
  obtain ⟨k2, rfl⟩ := ex_succ (n := 0) (k := k') (by omega)
  have hlo := brl_in (p := p) (i := lo) (by omega)
  have hblo : decide (ind (lns p)[lo] = (lns p)[lo].length) = b := bare_of (by omega) (g4 lo (Nat.le_refl _) hlh)
  have hwz : ∀ x, x = whl p lo hi → (spr (some x)).1 = (off ((lns p).take lo) : Int) ∧ (spr (some x)).2.1 = (w : Int) := by
    rintro x rfl
    exact ⟨rfl, by rw [← ew]; rfl⟩
  obtain ⟨z1, z2⟩ := hwz _ rfl
  have hbb : (b != b) = false := by simp
  have hj5 := ObjectParagraphs_j5 p bp hp x2 b0 b1 b lo hi w hlh g3 ew (fun s h1 h2 => ⟨g4 s h1 h2, hsame s h1 h2⟩)
  rw [platenlaw20_ObjectParagraphs.j3, platenref03_Whole_spec p (by omega) _ _ (k2 + 1) (by omega), whole_nat hlh g3, Option.bind_some, z1, z2, if_pos rfl, if_pos rfl, if_neg (by omega), if_neg (by omega), List.length_map, if_pos (by omega), if_pos (by omega), text_at p (by omega) lo (by omega), Option.bind_some, bare_at p (by omega) lo (by omega) (k2 + 1) (by omega), Option.bind_some, hblo, hbb,
    platenlaw20_ObjectParagraphs.j4, if_neg (by simp)]
  by_cases h0 : lo = 0
  · rw [if_neg (by omega)]
    exact hj5 k2 (by omega)
  · have w1 : wrap64 ((lo : Int) - 1) = ((lo - 1 : Nat) : Int) := by rw [wid (by omega) (by omega)]; omega
    have hb1 := g6.resolve_left h0
    rw [brl_in (show lo - 1 < (lns p).length by omega)] at hb1
    have hv : (decide (ind (lns p)[lo - 1] = (lns p)[lo - 1].length) == b) = false := by
      generalize decide (ind (lns p)[lo - 1] = (lns p)[lo - 1].length) = v at hb1
      simpa using hb1
    rw [if_pos (by omega), w1]
    clear w1
    rw [if_pos (by omega), List.length_map, if_pos (by omega), text_at p (by omega) (lo - 1) (by omega), Option.bind_some, bare_at p (by omega) (lo - 1) (by omega) k2 (by omega), Option.bind_some, hv]
    exact hj5 k2 (by omega)
theorem ObjectParagraphs : platenlaw20_ObjectParagraphs.Pure := by
  intro p a x2 _ _ hp ha hx
  have bp := bytes_of hp
  have ba := u8_of ha
  have bx := u8_of hx
  clear ha hx
  refine ⟨4006, ?_⟩
  unfold platenlaw20_ObjectParagraphs.f
  rw [inner20_spec 4006 (by omega), Option.bind_some, if_pos rfl]
  by_cases h : (p.length : Int) > 200
  · rw [decide_eq_true h, platenlaw20_ObjectParagraphs.j0, if_pos rfl, inner20_spec 4005 (by omega), Option.bind_some]
  · have hmod := Nat.mod_lt a.toNat (Nat.succ_pos p.length)
    rw [decide_eq_false h, platenlaw20_ObjectParagraphs.j0, if_neg (by simp), place_spec p (by omega) a ba.1 ba.2, Option.bind_some]
    generalize a.toNat % (p.length + 1) = n at *
    have hcl : clip p (n : Int) = n := by unfold clip; omega
    have hr := row_lt p n
    have hbr := brl_in hr
    have hOf := platenref03_Of_spec p (by omega) (n : Int) 4004 (by omega)
    rw [hcl] at hOf
    have hI := object_Inner_p p bp (by omega) (n : Int) 4005 (by omega) (decide (ind (lns p)[row p n] = (lns p)[row p n].length)) (by rw [hcl]; exact hbr)
    rw [hcl] at hI
    rw [hI, Option.bind_some]
    clear hI
    have hj := fun lo hi w e1 e2 e3 => ObjectParagraphs_j1 p bp (by omega) x2 bx.1 bx.2 n _ hr _ hbr hOf lo hi w e1 e2 e3
    obtain ⟨g1, g2, g3, g4, g5, g6⟩ := par_lines hr _ hbr
    have hwe := whl_end (Nat.le_trans g1 g2) g3
    have hj := hj _ _ _ rfl rfl rfl
    have hp1 : (par p (row p n) (decide (ind (lns p)[row p n] = (lns p)[row p n].length))).1 = off ((lns p).take (loR p (decide (ind (lns p)[row p n] = (lns p)[row p n].length)) (row p n))) := rfl
    have hp2 : (par p (row p n) (decide (ind (lns p)[row p n] = (lns p)[row p n].length))).2 = (whl p (loR p (decide (ind (lns p)[row p n] = (lns p)[row p n].length)) (row p n)) (hiR p (decide (ind (lns p)[row p n] = (lns p)[row p n].length)) ((lns p).length - 1 - row p n) (row p n))).2 := rfl
    dsimp only
    rw [hp1, hp2]
    clear hp1 hp2 hbr hOf g4 g5 g6
    generalize (whl p (loR p (decide (ind (lns p)[row p n] = (lns p)[row p n].length)) (row p n)) (hiR p (decide (ind (lns p)[row p n] = (lns p)[row p n].length)) ((lns p).length - 1 - row p n) (row p n))).2 = w at *
    generalize off ((lns p).take (loR p (decide (ind (lns p)[row p n] = (lns p)[row p n].length)) (row p n))) = o at *
    have hw : wrap64 ((p.length : Int) - (o : Int)) = ((p.length - o : Nat) : Int) := by rw [wid (by omega) (by omega)]; omega
    rw [if_pos rfl, if_pos rfl, hw]
    clear hw
    rw [if_neg (by omega), if_neg (by omega), decide_eq_false (by omega)]
    exact hj

end Go.Proofs.Ytcljafgpjoagpaa.Pure
