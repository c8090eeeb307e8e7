/- Proved: the run around a place has it, and is of one class; its neighbours aren't of it: for any bytes and places. -/
import Derived.Test.YtcljafgpjoagpaaExtBytes
import Derived.Test.YtcljafgpjoagpaaPax0
import Derived.Test.YtcljafgpjoagpaaPax12
import Derived.Test.YtcljafgpjoagpaaPax2
import Derived.Test.YtcljafgpjoagpaaPax3
import Derived.Test.YtcljafgpjoagpaaPax4
import Derived.Test.YtcljafgpjoagpaaPax5
import Derived.Test.YtcljafgpjoagpaaPax9
import Derived.Test.YtcljafgpjoagpaaGenObjectRuns
namespace Go.Proofs.Ytcljafgpjoagpaa.Ad
open Go Go.RowKit Go.Proofs.Ytcljafgpjoagpaa.Pa Go.Proofs.YtcljafgpjoagpaaW.PrintWords Go.Proofs.YtcljafgpjoagpaaW.PrintLast Go.Proofs.YtcljafgpjoagpaaW.PrintMore Go.Proofs.Ytcljafgpjoagpaa.Gen
set_option linter.unusedVariables false
set_option linter.unusedSimpArgs false

theorem glyph_Blank_spec (c : Int) : glyph_Blank.f c = some (decide (c = 32 ∨ c = 9)) := by
  unfold glyph_Blank.f
  split
  · simp [*]
  · rw [Option.some_inj, Bool.eq_iff_iff]; simp; omega

end Go.Proofs.Ytcljafgpjoagpaa.Ad
namespace Go.Proofs.Ytcljafgpjoagpaa.Ad
open Go Go.RowKit Go.Proofs.Ytcljafgpjoagpaa.Pa Go.Proofs.YtcljafgpjoagpaaW.PrintWords Go.Proofs.YtcljafgpjoagpaaW.PrintLast Go.Proofs.YtcljafgpjoagpaaW.PrintMore Go.Proofs.Ytcljafgpjoagpaa.Gen
set_option linter.unusedVariables false
set_option linter.unusedSimpArgs false

theorem words_Class_spec (c : Int) : words_Class.f c = some (cls c) := by
  unfold words_Class.f cls
  rw [glyph_Blank_spec, Option.bind_some]
  simp only [decide_eq_true_eq]
  repeat' split
  all_goals first | rfl | (exfalso; omega)

end Go.Proofs.Ytcljafgpjoagpaa.Ad
namespace Go.Proofs.Ytcljafgpjoagpaa.Ad
open Go Go.RowKit Go.Proofs.Ytcljafgpjoagpaa.Pa Go.Proofs.YtcljafgpjoagpaaW.PrintWords Go.Proofs.YtcljafgpjoagpaaW.PrintLast Go.Proofs.YtcljafgpjoagpaaW.PrintMore Go.Proofs.Ytcljafgpjoagpaa.Gen
set_option linter.unusedVariables false
set_option linter.unusedSimpArgs false

theorem u8_inj {a b : Int} (ha : 0 ≤ a ∧ a ≤ 255) (hb : 0 ≤ b ∧ b ≤ 255) : (UInt8.ofNat a.toNat = UInt8.ofNat b.toNat) ↔ a = b := by
  constructor
  · intro h
    have h3 := congrArg UInt8.toNat h
    rw [UInt8.toNat_ofNat', UInt8.toNat_ofNat'] at h3
    omega
  · intro h; rw [h]
theorem countByte_nl (p : List Int) (hb : Bytes p) : Lib.countByte (Lib.bytesOf p) (10 : Int).toNat.toUInt8 = nls p := by
  induction p with
  | nil => rfl
  | cons c t ih =>
    have hc := hb c (by simp)
    have := ih fun x hx => hb x (by simp [hx])
    rw [nls_cons, ← this]
    unfold Lib.countByte Lib.bytesOf
    rw [List.map_cons, List.count_cons]
    have e := u8_inj hc (show 0 ≤ (10 : Int) ∧ (10 : Int) ≤ 255 by omega)
    by_cases h : c = 10
    · subst h; simp; omega
    · rw [if_neg h, if_neg (by intro hh; exact h (e.1 (by simpa using hh)))]; omega
theorem bytes_Count_spec (p : List Int) (hb : Bytes p) : bytes_Count.f p [10] = some (nls p : Int) := by
  unfold bytes_Count.f
  rw [if_pos (show ([10] : List Int).length = 1 from rfl), show ([10] : List Int).getD 0 0 = 10 from rfl, countByte_nl p hb]
theorem indexByte_fb (p : List Int) (hb : Bytes p) (c : Int) (hc : 0 ≤ c ∧ c ≤ 255) : Lib.indexByte (Lib.bytesOf p) c.toNat.toUInt8 = fb p c := by
  induction p with
  | nil => rfl
  | cons b t ih =>
    have hbb := hb b (by simp)
    have := ih fun x hx => hb x (by simp [hx])
    have e := u8_inj hbb hc
    have e' : Lib.bytesOf (b :: t) = UInt8.ofNat b.toNat :: Lib.bytesOf t := rfl
    rw [e', Lib.indexByte, fb, this]
    by_cases h : b = c
    · subst h; simp
    · rw [if_neg h, if_neg (by intro hh; exact h (e.1 (by simpa using hh)))]
      by_cases h2 : fb t c = -1
      · rw [if_pos h2, if_pos (by simp [h2])]
      · rw [if_neg h2, if_neg (by simp [h2])]

end Go.Proofs.Ytcljafgpjoagpaa.Ad
namespace Go.Proofs.Ytcljafgpjoagpaa.Ad
open Go Go.RowKit Go.Proofs.Ytcljafgpjoagpaa.Pa Go.Proofs.YtcljafgpjoagpaaW.PrintWords Go.Proofs.YtcljafgpjoagpaaW.PrintLast Go.Proofs.YtcljafgpjoagpaaW.PrintMore Go.Proofs.Ytcljafgpjoagpaa.Gen
set_option linter.unusedVariables false
set_option linter.unusedSimpArgs false

theorem lines_Of_spec (p : List Int) (hb : Bytes p) (a : Int) : lines_Of.f p a = some (row p (clip p a) : Int) := by
  have := clip_le p a
  unfold lines_Of.f
  rw [mn_clip, if_pos (by omega), if_pos (by omega), Int.toNat_natCast, bytes_Count_spec _ (fun x hx => hb x (List.mem_of_mem_take hx)), Option.bind_some]
  rfl

end Go.Proofs.Ytcljafgpjoagpaa.Ad
namespace Go.Proofs.Ytcljafgpjoagpaa.Ad
open Go Go.RowKit Go.Proofs.Ytcljafgpjoagpaa.Pa Go.Proofs.YtcljafgpjoagpaaW.PrintWords Go.Proofs.YtcljafgpjoagpaaW.PrintLast Go.Proofs.YtcljafgpjoagpaaW.PrintMore Go.Proofs.Ytcljafgpjoagpaa.Gen
set_option linter.unusedVariables false
set_option linter.unusedSimpArgs false

def mk (x : NN) : S25 := ⟨(x.1 : Int), (x.2 : Int)⟩
theorem rd_mk (l : List NN) (i : Nat) (h : i < l.length) : rd_T25 (l.map mk) (i : Int) = mk l[i] := by
  simp [rd_T25, h]

end Go.Proofs.Ytcljafgpjoagpaa.Ad
namespace Go.Proofs.Ytcljafgpjoagpaa.Ad
open Go Go.RowKit Go.Proofs.Ytcljafgpjoagpaa.Pa Go.Proofs.YtcljafgpjoagpaaW.PrintWords Go.Proofs.YtcljafgpjoagpaaW.PrintLast Go.Proofs.YtcljafgpjoagpaaW.PrintMore Go.Proofs.Ytcljafgpjoagpaa.Gen
set_option linter.unusedVariables false
set_option linter.unusedSimpArgs false

theorem bytes_IndexByte_spec (p : List Int) (hb : Bytes p) (c : Int) (hc : 0 ≤ c ∧ c ≤ 255) : bytes_IndexByte.f p c = some (fb p c) := by
  unfold bytes_IndexByte.f
  rw [indexByte_fb p hb c hc]

end Go.Proofs.Ytcljafgpjoagpaa.Ad
namespace Go.Proofs.Ytcljafgpjoagpaa.Ad
open Go Go.RowKit Go.Proofs.Ytcljafgpjoagpaa.Pa Go.Proofs.YtcljafgpjoagpaaW.PrintWords Go.Proofs.YtcljafgpjoagpaaW.PrintLast Go.Proofs.YtcljafgpjoagpaaW.PrintMore Go.Proofs.Ytcljafgpjoagpaa.Gen
set_option linter.unusedVariables false
set_option linter.unusedSimpArgs false

/-- A span, if it is there. -/
def spr : Option NN → Int × Int × Bool
  | some x => ((x.1 : Int), (x.2 : Int), true)
  | none => (0, 0, false)
theorem fb_at {p : List Int} {i : Nat} (h : i < (lns p).length) : fb (p.drop (off ((lns p).take i))) 10 = if i + 1 = (lns p).length then -1 else ((lns p)[i].length : Int) := by
  have h1 : lns (p.drop (off ((lns p).take i))) = (lns p).drop i := by
    rw [line_drop h, lns_jn (by intro e; have := congrArg List.length e; simp only [List.length_drop, List.length_nil] at this; omega) (fun l hl => lns_free p l (List.mem_of_mem_drop hl))]
  rw [List.drop_eq_getElem_cons h] at h1
  rw [fb_line _ h1]
  by_cases e : i + 1 = (lns p).length
  · rw [if_pos e, if_pos (List.drop_eq_nil_of_le (by omega))]
  · rw [if_neg e, if_neg]
    intro hn
    have := congrArg List.length hn
    simp only [List.length_drop, List.length_nil] at this
    omega
theorem lines_Span_l0 (p : List Int) (hb : Bytes p) (hp : p.length ≤ 1000000000) (line : Int) (m : Nat) : ∀ (k i : Nat), i + m = (lns p).length → (i = 0 ∨ (i : Int) ≤ line) → i < (lns p).length → 2 * m + 1 < k →
    lines_Span.l0 k p line (off ((lns p).take i) : Int) (i : Int) = some (spr (sp p line)) := by
  have hc10 : 0 ≤ (10 : Int) ∧ (10 : Int) ≤ 255 := by omega
  have hcnt := lns_count p
  have hnl := nls_le p
  induction m with
  | zero => intro k i hi _ hlt _; omega
  | succ m ih =>
    intro k i hi hl hlt hk
    obtain ⟨k, rfl⟩ := ex_succ (n := 0) (k := k) (by omega)
    obtain ⟨k, rfl⟩ := ex_succ (n := 0) (k := k) (by omega)
    have hol := off_last hlt
    have hf := fb_at hlt
    have bd : Bytes (p.drop (off ((lns p).take i))) := fun x hx => hb x (List.mem_of_mem_drop hx)
    rw [lines_Span.l0]
    by_cases h : (i : Int) < line
    · rw [if_pos h, decide_eq_true (by omega), lines_Span.j1, if_pos rfl, if_pos (by omega), if_pos (by omega), Int.toNat_natCast, bytes_IndexByte_spec _ bd 10 hc10, Option.bind_some, hf]
      by_cases e : i + 1 = (lns p).length
      · rw [if_pos e, if_pos (by omega), sp_out (.inr (by omega))]; rfl
      · have hw1 : wrap64 (((lns p)[i].length : Int) + 1) = (((lns p)[i].length + 1 : Nat) : Int) := wnat (by omega)
        have hw2 : wrap64 ((off ((lns p).take i) : Int) + (((lns p)[i].length + 1 : Nat) : Int)) = (off ((lns p).take (i + 1)) : Int) := by
          clear hw1
          rw [off_take hlt, wid (by omega) (by omega)]; omega
        have hw3 : wrap64 ((i : Int) + 1) = ((i + 1 : Nat) : Int) := by clear hw1 hw2; exact wnat (by omega)
        rw [if_neg e, if_neg (by clear hw1 hw2 hw3; omega), hw1, hw2, hw3]
        clear hw1 hw2 hw3
        exact ih k (i + 1) (by omega) (.inr (by omega)) (by omega) (by omega)
    · rw [if_neg h, lines_Span.j1, if_neg (by simp)]
      by_cases hn : line < 0
      · rw [if_pos hn, sp_out (.inl hn)]; rfl
      · have hli : line = (i : Int) := by omega
        subst hli
        have hs := sp_in (p := p) (line := (i : Int)) (by omega) (by rw [Int.toNat_natCast]; exact hlt)
        simp only [Int.toNat_natCast] at hs
        rw [if_neg hn, if_pos (by omega), if_pos (by omega), Int.toNat_natCast, bytes_IndexByte_spec _ bd 10 hc10, Option.bind_some, hf, hs]
        by_cases e : i + 1 = (lns p).length
        · have hw1 : wrap64 ((p.length : Int) - (off ((lns p).take i) : Int)) = ((lns p)[i].length : Int) := by
            rw [wid (by omega) (by omega)]; omega
          rw [if_pos e, if_pos (by omega), hw1]; rfl
        · rw [if_neg e, if_neg (by omega)]; rfl
theorem lines_Span_spec (p : List Int) (hb : Bytes p) (hp : p.length ≤ 1000000000) (line : Int) (k : Nat) (hk : 2 * p.length + 4 < k) : lines_Span.f k p line = some (spr (sp p line)) := by
  have hcnt := lns_count p
  have hnl := nls_le p
  have := lines_Span_l0 p hb hp line (lns p).length k 0 (by omega) (.inl rfl) (by omega) (by omega)
  simpa [lines_Span.f, off] using this

end Go.Proofs.Ytcljafgpjoagpaa.Ad
namespace Go.Proofs.Ytcljafgpjoagpaa.Ad
open Go Go.RowKit Go.Proofs.Ytcljafgpjoagpaa.Pa Go.Proofs.YtcljafgpjoagpaaW.PrintWords Go.Proofs.YtcljafgpjoagpaaW.PrintLast Go.Proofs.YtcljafgpjoagpaaW.PrintMore Go.Proofs.Ytcljafgpjoagpaa.Gen
set_option linter.unusedVariables false
set_option linter.unusedSimpArgs false

theorem lines_Whole_spec (p : List Int) (hb : Bytes p) (hp : p.length ≤ 1000000000) (a b : Int) (k : Nat) (hk : 2 * p.length + 4 < k) : lines_Whole.f k p a b = some (spr (whole p a b)) := by
  obtain ⟨k, rfl⟩ := ex_succ (n := 0) (k := k) (by omega)
  have e1 : mn a b = min a b := by unfold mn; split <;> omega
  have e2 : mx a b = max a b := by unfold mx; split <;> omega
  unfold lines_Whole.f
  rw [e1, e2, lines_Span_spec p hb hp _ _ hk, Option.bind_some, lines_Span_spec p hb hp _ _ hk, Option.bind_some]
  clear e1 e2
  by_cases h : 0 ≤ min a b ∧ (max a b).toNat < (lns p).length
  · obtain ⟨h1, h2⟩ := h
    have hi : (min a b).toNat < (lns p).length := by omega
    have hij : (min a b).toNat ≤ (max a b).toNat := by omega
    have ew : whole p a b = some (whl p (min a b).toNat (max a b).toNat) := if_pos ⟨h1, h2⟩
    rw [sp_in h1 hi, sp_in (by omega) h2, ew]
    have hol := off_last h2
    have hot := off_take h2
    have hwe := whl_end hij h2
    have hom := off_mono (lns p) hij
    have hf : (whl p (min a b).toNat (max a b).toNat).1 = off ((lns p).take (min a b).toNat) := rfl
    simp only [spr]
    rw [if_pos (by trivial), lines_Whole.j0, if_neg (by simp), hf]
    generalize (whl p (min a b).toNat (max a b).toNat).2 = n at *
    generalize off ((lns p).take (min a b).toNat) = s at *
    generalize off ((lns p).take ((max a b).toNat + 1)) = u at *
    generalize off ((lns p).take (max a b).toNat) = v at *
    generalize ((lns p)[(max a b).toNat]).length = z at *
    have hw : wrap64 ((v : Int) + (z : Int)) = ((v + z : Nat) : Int) := by rw [wid (by omega) (by omega)]; omega
    rw [hw]
    clear hw
    by_cases hlt : v + z < p.length
    · have hw1 : wrap64 (((v + z : Nat) : Int) + 1) = ((v + z + 1 : Nat) : Int) := wnat (by omega)
      have hw2 : wrap64 (((v + z + 1 : Nat) : Int) - (s : Int)) = (n : Int) := by
        clear hw1
        rw [wid (by omega) (by omega)]; omega
      rw [if_pos (by clear hw1 hw2; omega), hw1, hw2]
    · have hw2 : wrap64 (((v + z : Nat) : Int) - (s : Int)) = (n : Int) := by
        rw [wid (by omega) (by omega)]; omega
      rw [if_neg (by clear hw2; omega), hw2]
  · have ew : whole p a b = none := if_neg h
    rw [ew]
    by_cases h1 : 0 ≤ min a b ∧ (min a b).toNat < (lns p).length
    · rw [sp_in h1.1 h1.2, sp_out (line := max a b) (.inr (by omega))]
      simp only [spr]
      rw [if_pos (by trivial), lines_Whole.j0, if_pos (by simp)]
    · rw [sp_out (line := min a b) (by omega)]
      refine (if_neg Bool.false_ne_true).trans ?_
      rw [lines_Whole.j0, if_pos rfl]; rfl

end Go.Proofs.Ytcljafgpjoagpaa.Ad
namespace Go.Proofs.Ytcljafgpjoagpaa.Ad
open Go Go.RowKit Go.Proofs.Ytcljafgpjoagpaa.Pa Go.Proofs.YtcljafgpjoagpaaW.PrintWords Go.Proofs.YtcljafgpjoagpaaW.PrintLast Go.Proofs.YtcljafgpjoagpaaW.PrintMore Go.Proofs.Ytcljafgpjoagpaa.Gen
set_option linter.unusedVariables false
set_option linter.unusedSimpArgs false

theorem words_Runs_l0 (p : List Int) (hp : p.length ≤ 1000000) (m : Nat) : ∀ (k i : Nat), i + m = p.length → m < k →
    words_Runs.l0 k p ((rn 0 (p.take i)).map mk) (i : Int) = some ((rn 0 p).map mk) := by
  induction m with
  | zero =>
    intro k i hi hk
    obtain ⟨k, rfl⟩ := ex_succ hk
    rw [words_Runs.l0, if_neg (by omega), List.take_of_length_le (by omega)]
  | succ m ih =>
    intro k i hi hk
    obtain ⟨k, rfl⟩ := ex_succ hk
    have hlt : i < p.length := by omega
    have hnext := ih k (i + 1) (by omega) (by omega)
    rw [List.take_succ_eq_append_getElem hlt] at hnext
    have hw1 : wrap64 ((i : Int) + 1) = ((i + 1 : Nat) : Int) := wnat (by omega)
    rw [words_Runs.l0, hw1]
    clear hw1
    rw [if_pos (by omega)]
    by_cases h0 : i = 0
    · subst h0
      have e0 : (rn 0 (p.take 0)).map mk = [] := rfl
      rw [List.take_zero, List.nil_append, rn_one] at hnext
      rw [e0, if_neg (by simp [wrap64]), if_pos (by simp)]
      exact hnext
    · have hne : p.take i ≠ [] := by intro e; have := congrArg List.length e; simp only [List.length_take, List.length_nil] at this; omega
      obtain ⟨l, a, n, h1, h2⟩ := rn_snoc (p.take i) p[i] 0 hne
      have hl1 := rn_length (p.take i) 0
      rw [h1] at hl1
      simp only [List.length_append, List.length_cons, List.length_nil, List.length_take] at hl1
      have hmem := rn_mem (p.take i) (a, n) (by rw [h1]; simp)
      simp only [List.length_take] at hmem
      have hnb : n ≤ 1000000 := by have := hmem.2; omega
      have hi1 : i - 1 < p.length := by omega
      rw [take_last p i (by omega) (by omega) hne] at h2
      simp only [List.length_take, Nat.zero_add] at h2
      rw [show min i p.length = i by omega] at h2
      rw [h2] at hnext
      rw [h1]
      have hll : l.length ≤ 1000000 := by omega
      have hlen : wrap64 ((((l ++ [(a, n)]).map mk).length : Int) - 1) = (l.length : Int) := by
        rw [show (((l ++ [(a, n)]).map mk).length : Int) - 1 = (l.length : Int) by simp]
        exact wid (by omega) (by omega)
      have hwi : wrap64 ((i : Int) - 1) = ((i - 1 : Nat) : Int) := by
        clear hlen
        rw [show (i : Int) - 1 = ((i - 1 : Nat) : Int) by omega]; exact wid (by omega) (by omega)
      have hrd : rd_T25 ((l ++ [(a, n)]).map mk) (l.length : Int) = mk (a, n) := by
        rw [rd_mk _ _ (by simp)]; simp
      have hlen2 : (((l ++ [(a, n)]).map mk).length : Int) = ((l.length + 1 : Nat) : Int) := by simp
      have hw1 : wrap64 ((mk (a, n)).f1 + 1) = ((n + 1 : Nat) : Int) := by clear hlen hwi; exact wnat (n := n) (by omega)
      have hcap : ((l ++ [(a, n)]).map mk).length < 8796093022208 := by
        clear hlen hwi hw1
        simp only [List.length_map, List.length_append, List.length_cons, List.length_nil]; omega
      rw [hlen, hwi, hrd, hw1, if_pos hcap, hlen2]
      clear hlen hwi hw1 hlen2
      rw [if_pos (by omega), if_pos (by omega), rd_nat p i hlt, words_Class_spec, Option.bind_some, if_pos (by omega), if_pos (by omega), rd_nat p (i - 1) hi1, words_Class_spec, Option.bind_some]
      by_cases hc : cls p[i - 1] = cls p[i]
      · rw [if_pos hc] at hnext
        have hset : ((l ++ [(a, n)]).map mk).set ((l.length : Int)).toNat (⟨(mk (a, n)).f0, ((n + 1 : Nat) : Int)⟩ : S25) = (l ++ [(a, n + 1)]).map mk := by simp [mk]
        rw [if_pos hc.symm, if_pos (by omega), if_pos (by omega), hset]
        exact hnext
      · rw [if_neg hc] at hnext
        have hset : ((l ++ [(a, n)]).map mk) ++ [(⟨(i : Int), 1⟩ : S25)] = (l ++ [(a, n)] ++ [(i, 1)]).map mk := by simp [mk]
        rw [if_neg (fun e => hc e.symm), hset]
        exact hnext
theorem words_Runs_spec (p : List Int) (hp : p.length ≤ 1000000) (k : Nat) (hk : p.length < k) : words_Runs.f k p = some ((rn 0 p).map mk) := by
  have := words_Runs_l0 p hp p.length k 0 (by omega) hk
  simpa [words_Runs.f, rn] using this

end Go.Proofs.Ytcljafgpjoagpaa.Ad
namespace Go.Proofs.Ytcljafgpjoagpaa.Ad
open Go Go.RowKit Go.Proofs.Ytcljafgpjoagpaa.Pa Go.Proofs.YtcljafgpjoagpaaW.PrintWords Go.Proofs.YtcljafgpjoagpaaW.PrintLast Go.Proofs.YtcljafgpjoagpaaW.PrintMore Go.Proofs.Ytcljafgpjoagpaa.Gen
set_option linter.unusedVariables false
set_option linter.unusedSimpArgs false

/-- A run, or none. -/
def innR (o : Option NN) : Int × Int × Bool × Int := match o with
  | some x => ((x.1 : Int), (x.2 : Int), false, 0)
  | none => (0, 0, false, 2)
theorem object_Inner_l0 (p : List Int) (hp : p.length ≤ 1000000) (a : Int) (L : List NN) (hL : ∀ x ∈ L, 1 ≤ x.2 ∧ x.1 + x.2 ≤ p.length) (hn : L.length ≤ 1000000000) (m : Nat) : ∀ (k i : Nat), i + m = L.length → m < k →
    object_Inner.l0 k p a (L.map mk) (L.length : Int) (i : Int) = some (innR (inn p a (L.drop i))) := by
  induction m with
  | zero =>
    intro k i hi hk
    obtain ⟨k, rfl⟩ := ex_succ (n := 0) (k := k) (by omega)
    rw [object_Inner.l0, if_neg (by omega), List.drop_eq_nil_of_le (by omega)]
    rfl
  | succ m ih =>
    intro k i hi hk
    obtain ⟨k, rfl⟩ := ex_succ (n := 0) (k := k) (by omega)
    have hlt : i < L.length := by omega
    have hx := hL L[i] (List.getElem_mem hlt)
    have hn' := ih k (i + 1) (by omega) (by omega)
    have hw : wrap64 ((i : Int) + 1) = ((i + 1 : Nat) : Int) := wnat (by omega)
    have hw2 : wrap64 ((L[i].1 : Int) + (L[i].2 : Int)) = ((L[i].1 + L[i].2 : Nat) : Int) := by clear hw; exact wadd (by omega)
    have hg : L[i].1 < p.length := by clear hw hw2; omega
    have hrd : rd p (L[i].1 : Int) = p.getD L[i].1 0 := by
      rw [rd_nat p _ hg]; simp [List.getD_eq_getElem?_getD, hg]
    rw [object_Inner.l0, List.length_map, rd_mk _ _ hlt, List.drop_eq_getElem_cons hlt, inn_cons]
    have m0 : (mk L[i]).f0 = (L[i].1 : Int) := rfl
    have m1 : (mk L[i]).f1 = (L[i].2 : Int) := rfl
    rw [m0, m1, hw2, hw, hrd, words_Class_spec, Option.bind_some]
    clear hw hw2 m0 m1 hrd
    rw [if_pos (by omega), if_pos (by omega), if_pos (by omega)]
    by_cases h1 : (L[i].1 : Int) ≤ a
    · rw [if_pos (by omega)]
      by_cases h2 : a < ((L[i].1 + L[i].2 : Nat) : Int)
      · rw [if_pos h2, if_pos (by omega), if_pos (by omega)]
        by_cases h3 : cls (p.getD L[i].1 0) = 1
        · rw [if_pos h3, if_neg (fun h => h.2.2 h3)]
          exact hn'
        · rw [if_neg h3, if_pos ⟨h1, h2, h3⟩]
          rfl
      · rw [if_neg h2, if_neg (fun h => h2 h.2.1)]
        exact hn'
    · rw [if_neg (by omega), if_neg (fun h => h1 h.1)]
      exact hn'
theorem object_Inner_w (p : List Int) (hp : p.length ≤ 1000000) (a : Int) (k : Nat) (hk : p.length < k) : object_Inner.f k p a 119 = some (innR (inn p a (rn 0 p))) := by
  have h1 := rn_length p 0
  unfold object_Inner.f
  rw [if_pos rfl, words_Runs_spec p hp k hk, Option.bind_some, List.length_map]
  have := object_Inner_l0 p hp a (rn 0 p) (rn_mem p) (by omega) (rn 0 p).length k 0 (by omega) (by omega)
  rw [List.drop_zero] at this
  exact this
theorem object_Inner_no (p : List Int) (a c : Int) (h1 : c ≠ 119) (h2 : c ≠ 112) (h3 : c ≠ 108) (k : Nat) : object_Inner.f k p a c = some (0, 0, false, 3) := by
  unfold object_Inner.f
  rw [if_neg h1, if_neg h2, if_neg h3]

end Go.Proofs.Ytcljafgpjoagpaa.Ad
namespace Go.Proofs.Ytcljafgpjoagpaa.Ad
open Go Go.RowKit Go.Proofs.Ytcljafgpjoagpaa.Pa Go.Proofs.YtcljafgpjoagpaaW.PrintWords Go.Proofs.YtcljafgpjoagpaaW.PrintLast Go.Proofs.YtcljafgpjoagpaaW.PrintMore Go.Proofs.Ytcljafgpjoagpaa.Gen
set_option linter.unusedVariables false
set_option linter.unusedSimpArgs false

theorem place_spec (p : List Int) (hp : p.length ≤ 1000000) (a : Int) (h0 : 0 ≤ a) (h1 : a ≤ 255) : platenlaw20_place.f p a = some ((a.toNat % (p.length + 1) : Nat) : Int) := by
  have w1 : wrap64 ((p.length : Int) + 1) = ((p.length + 1 : Nat) : Int) := wnat (by omega)
  have w2 : wrap64 a = a := by clear w1; exact wid (by omega) (by omega)
  obtain ⟨n, rfl⟩ : ∃ n : Nat, a = (n : Int) := ⟨a.toNat, by omega⟩
  unfold platenlaw20_place.f
  rw [w1, w2]
  clear w1 w2
  rw [if_neg (by omega), Int.toNat_natCast, ← Int.ofNat_tmod]

end Go.Proofs.Ytcljafgpjoagpaa.Ad
namespace Go.Proofs.Ytcljafgpjoagpaa.Ad
open Go Go.RowKit Go.Proofs.Ytcljafgpjoagpaa.Pa Go.Proofs.YtcljafgpjoagpaaW.PrintWords Go.Proofs.YtcljafgpjoagpaaW.PrintLast Go.Proofs.YtcljafgpjoagpaaW.PrintMore Go.Proofs.Ytcljafgpjoagpaa.Gen
set_option linter.unusedVariables false
set_option linter.unusedSimpArgs false

theorem platenref01_Blank_spec (c : Int) : platenref01_Blank.f c = some (decide (c = 32 ∨ c = 9)) := by
  unfold platenref01_Blank.f
  split
  · simp [*]
  · rw [Option.some_inj, Bool.eq_iff_iff]; simp; omega

end Go.Proofs.Ytcljafgpjoagpaa.Ad
namespace Go.Proofs.Ytcljafgpjoagpaa.Ad
open Go Go.RowKit Go.Proofs.Ytcljafgpjoagpaa.Pa Go.Proofs.YtcljafgpjoagpaaW.PrintWords Go.Proofs.YtcljafgpjoagpaaW.PrintLast Go.Proofs.YtcljafgpjoagpaaW.PrintMore Go.Proofs.Ytcljafgpjoagpaa.Gen
set_option linter.unusedVariables false
set_option linter.unusedSimpArgs false

theorem platenref05_Class_spec (c : Int) : platenref05_Class.f c = some (cls c) := by
  unfold platenref05_Class.f cls
  rw [platenref01_Blank_spec, Option.bind_some]
  simp only [decide_eq_true_eq]
  repeat' split
  all_goals first | rfl | (exfalso; omega)

end Go.Proofs.Ytcljafgpjoagpaa.Ad
namespace Go.Proofs.Ytcljafgpjoagpaa.Ad
open Go Go.RowKit Go.Proofs.Ytcljafgpjoagpaa.Pa Go.Proofs.YtcljafgpjoagpaaW.PrintWords Go.Proofs.YtcljafgpjoagpaaW.PrintLast Go.Proofs.YtcljafgpjoagpaaW.PrintMore Go.Proofs.Ytcljafgpjoagpaa.Gen
set_option linter.unusedVariables false
set_option linter.unusedSimpArgs false

/-- So many lines, if they are there. -/
def cntL (p : List Int) (r : Nat) (n : Int) : Int × Int × Bool × Bool := if (r : Int) + max n 1 ≤ ((lns p).length : Int) then (((whl p r (r + (max n 1).toNat - 1)).1 : Int), ((whl p r (r + (max n 1).toNat - 1)).2 : Int), true, true) else (0, 0, false, false)
theorem object_Count_spec (p : List Int) (hb : Bytes p) (hp : p.length ≤ 1000000) (a n : Int) (h0 : -9223372036854775808 ≤ n) (h1 : n ≤ 9223372036854775807) (k : Nat) (hk : 2 * p.length + 4 < k) : object_Count.f k p a n = some (cntL p (row p (clip p a)) n) := by
  have hr := row_lt p (clip p a)
  have hcnt := lns_count p
  have hnl := nls_le p
  unfold object_Count.f
  rw [lines_Of_spec p hb, Option.bind_some]
  generalize row p (clip p a) = r at *
  have e : mx n 1 = max n 1 := by unfold mx; split <;> omega
  rw [e, lines_Whole_spec p hb (by omega) _ _ k hk, Option.bind_some]
  clear e
  generalize hm : max n 1 = m at *
  have hm1 : 1 ≤ m := by omega
  have hm2 : m ≤ 9223372036854775807 := by omega
  unfold cntL
  rw [hm]
  by_cases h : (r : Int) + m ≤ ((lns p).length : Int)
  · have hw : wrap64 (wrap64 ((r : Int) + m) - 1) = ((r + m.toNat - 1 : Nat) : Int) := by
      have hwa : wrap64 ((r : Int) + m) = (r : Int) + m := wid (by omega) (by omega)
      rw [hwa]; clear hwa; rw [wid (by omega) (by omega)]; omega
    rw [if_pos h, hw]
    clear hw
    rw [whole_nat (p := p) (show r ≤ r + m.toNat - 1 by omega) (by omega)]
    rfl
  · rw [if_neg h]
    have hw : wrap64 (wrap64 ((r : Int) + m) - 1) < 0 ∨ ((lns p).length : Int) ≤ wrap64 (wrap64 ((r : Int) + m) - 1) := by
      by_cases g : (r : Int) + m ≤ 9223372036854775807
      · right
        have hwa : wrap64 ((r : Int) + m) = (r : Int) + m := wid (by omega) (by omega)
        rw [hwa]; clear hwa; rw [wid (by omega) (by omega)]; omega
      · by_cases g2 : (r : Int) + m = 9223372036854775808
        · right
          rw [g2]
          have : wrap64 (wrap64 9223372036854775808 - 1) = 9223372036854775807 := by unfold wrap64; omega
          rw [this]; omega
        · left
          unfold wrap64
          omega
    have : whole p (r : Int) (wrap64 (wrap64 ((r : Int) + m) - 1)) = none := by
      generalize wrap64 (wrap64 ((r : Int) + m) - 1) = z at *
      unfold whole
      rw [if_neg (by omega)]
    rw [this]
    rfl

end Go.Proofs.Ytcljafgpjoagpaa.Ad
namespace Go.Proofs.Ytcljafgpjoagpaa.Ad
open Go Go.RowKit Go.Proofs.Ytcljafgpjoagpaa.Pa Go.Proofs.YtcljafgpjoagpaaW.PrintWords Go.Proofs.YtcljafgpjoagpaaW.PrintLast Go.Proofs.YtcljafgpjoagpaaW.PrintMore Go.Proofs.Ytcljafgpjoagpaa.Gen
set_option linter.unusedVariables false
set_option linter.unusedSimpArgs false

theorem inner20_spec (k : Nat) (hk : 200 < k) : platenlaw20_inner.f k = some true := by
  have b1 : Bytes [97, 10, 98] := by intro x hx; simp at hx; omega
  have i1 := object_Inner_w [97, 98, 32, 99] (by decide) 1 k (by simp only [List.length_cons, List.length_nil]; omega)
  have i2 := object_Inner_no [97, 98, 32, 99] 1 122 (by decide) (by decide) (by decide) k
  have i3 := object_Count_spec [97, 10, 98] b1 (by decide) 0 2 (by decide) (by decide) k (by simp only [List.length_cons, List.length_nil]; omega)
  have v1 : innR (inn [97, 98, 32, 99] 1 (rn 0 [97, 98, 32, 99])) = (0, 2, false, 0) := by decide
  have v3 : cntL [97, 10, 98] (row [97, 10, 98] (clip [97, 10, 98] 0)) 2 = (0, 3, true, true) := by decide
  rw [v1] at i1; rw [v3] at i3
  unfold platenlaw20_inner.f
  rw [i1, Option.bind_some, i2, Option.bind_some, i3, Option.bind_some]
  rfl

end Go.Proofs.Ytcljafgpjoagpaa.Ad
namespace Go.Proofs.Ytcljafgpjoagpaa.Pure
open Go Go.RowKit Go.Proofs.Ytcljafgpjoagpaa.Pa Go.Proofs.YtcljafgpjoagpaaW.PrintWords Go.Proofs.YtcljafgpjoagpaaW.PrintLast Go.Proofs.YtcljafgpjoagpaaW.PrintMore Go.Proofs.Ytcljafgpjoagpaa.Gen Go.Proofs.Ytcljafgpjoagpaa.Ad
set_option linter.unusedVariables false
set_option linter.unusedSimpArgs false

theorem rdD (p : List Int) (i : Nat) (h : i < p.length) : rd p (i : Int) = p.getD i 0 := by
  rw [rd_nat p _ h]; simp [List.getD_eq_getElem?_getD, h]
theorem ObjectRuns_l0 (p : List Int) (hp : p.length ≤ 200) (n : Nat) (hn : n < p.length) (x : NN) (hle : x.1 + x.2 ≤ p.length) (h1 : 1 ≤ x.2) (hc : ∀ i, x.1 ≤ i → i < x.1 + x.2 → cls (p.getD i 0) = cls (p.getD n 0)) (he : x.1 + x.2 < p.length → cls (p.getD (x.1 + x.2) 0) ≠ cls (p.getD n 0)) (hb : x.1 = 0 ∨ cls (p.getD (x.1 - 1) 0) ≠ cls (p.getD n 0)) (m : Nat) :
    ∀ (k i : Nat), i + m = x.1 + x.2 → x.1 ≤ i → m < k → platenlaw20_ObjectRuns.l0 k p (n : Int) (i : Int) (x.1 : Int) (x.2 : Int) false = some true := by
  have hrn := rdD p n hn
  have hw : wrap64 ((x.1 : Int) + (x.2 : Int)) = ((x.1 + x.2 : Nat) : Int) := wadd (by omega)
  induction m with
  | zero =>
    intro k i hi hxi hk
    obtain ⟨k, rfl⟩ := ex_succ (n := 0) (k := k) (by clear hw; omega)
    rw [platenlaw20_ObjectRuns.l0, hw, hrn]
    clear hw
    rw [if_neg (by omega)]
    by_cases h0 : x.1 = 0
    · rw [if_pos (by omega)]
      by_cases h2 : x.1 + x.2 = p.length
      · rw [if_pos (by omega)]
      · rw [if_neg (by omega), if_pos (by omega), if_pos (by omega), rdD p _ (by omega), platenref05_Class_spec, Option.bind_some, if_pos (by omega), if_pos (by omega), platenref05_Class_spec, Option.bind_some]
        simpa using he (by omega)
    · have g := hb.resolve_left h0
      have hp1 : wrap64 ((x.1 : Int) - 1) = ((x.1 - 1 : Nat) : Int) := by rw [wid (by omega) (by omega)]; omega
      rw [hp1]
      clear hp1
      rw [if_neg (by omega), if_pos (by omega), if_pos (by omega), rdD p (x.1 - 1) (by omega), platenref05_Class_spec, Option.bind_some, if_pos (by omega), if_pos (by omega), platenref05_Class_spec, Option.bind_some, if_neg g]
      by_cases h2 : x.1 + x.2 = p.length
      · rw [if_pos (by omega)]
      · rw [if_neg (by omega), if_pos (by omega), if_pos (by omega), rdD p (x.1 + x.2) (by omega), platenref05_Class_spec, Option.bind_some, Option.bind_some]
        simpa using he (by omega)
  | succ m ih =>
    intro k i hi hxi hk
    obtain ⟨k, rfl⟩ := ex_succ (n := 0) (k := k) (by clear hw; omega)
    have hn' := ih k (i + 1) (by clear hw; omega) (by clear hw; omega) (by clear hw; omega)
    have hci := hc i hxi (by clear hw; omega)
    have hwi : wrap64 ((i : Int) + 1) = ((i + 1 : Nat) : Int) := by clear hw; exact wnat (by omega)
    rw [platenlaw20_ObjectRuns.l0, hw, hrn, hwi]
    clear hw hwi
    rw [if_pos (by omega), if_pos (by omega), if_pos (by omega), rdD p i (by omega), platenref05_Class_spec, Option.bind_some, if_pos (by omega), if_pos (by omega), platenref05_Class_spec, Option.bind_some, if_pos hci]
    exact hn'
theorem innR_some (x : NN) : innR (some x) = ((x.1 : Int), (x.2 : Int), false, 0) := rfl
theorem innR_none : innR none = (0, 0, false, 2) := rfl
theorem ObjectRuns : platenlaw20_ObjectRuns.Pure := by
  intro p a _ _ hp ha
  have bp := bytes_of hp
  have ba := u8_of ha
  clear ha
  refine ⟨2006, ?_⟩
  unfold platenlaw20_ObjectRuns.f
  rw [inner20_spec 2006 (by omega), Option.bind_some, if_pos rfl]
  by_cases h : (p.length : Int) > 200
  · rw [decide_eq_true h, platenlaw20_ObjectRuns.j0, if_pos rfl, inner20_spec 2005 (by omega), Option.bind_some]
  · rw [decide_eq_false h, platenlaw20_ObjectRuns.j0, if_neg (by simp), place_spec p (by omega) a ba.1 ba.2, Option.bind_some, object_Inner_w p (by omega) _ 2005 (by omega), Option.bind_some]
    have hmod := Nat.mod_lt a.toNat (Nat.succ_pos p.length)
    generalize a.toNat % (p.length + 1) = n at *
    by_cases h1 : n = p.length
    · rw [if_pos (by omega), inn_out p _ (by omega), innR_none, platenlaw20_ObjectRuns.j1, if_pos rfl, if_pos rfl]
      rfl
    · have hnl : n < p.length := by omega
      obtain ⟨x, hx, g1, g2, g3, g4⟩ := rn_ex p n hnl
      have hm := rn_mem p x hx
      have hc := rn_cls p x hx
      have hcn := hc n g1 g2
      have hce := hc (x.1 + x.2 - 1) (by omega) (by omega)
      rw [if_neg (by omega), if_pos (by omega), if_pos (by omega), rdD p n hnl, inn_of p n x hx g1 g2]
      by_cases h10 : p.getD n 0 = 10
      · rw [if_pos (cls_nl.2 h10), innR_none, h10, platenlaw20_ObjectRuns.j1]
        rfl
      · have e10 : (p.getD n 0 == 10) = false := by simpa using h10
        have hw1 : wrap64 ((p.length : Int) - (x.1 : Int)) = ((p.length - x.1 : Nat) : Int) := by rw [wid (by omega) (by omega)]; omega
        have hw2 : wrap64 ((x.1 : Int) + (x.2 : Int)) = ((x.1 + x.2 : Nat) : Int) := by clear hw1; exact wadd (by omega)
        rw [if_neg (fun h => h10 (cls_nl.1 h)), innR_some, e10]
        obtain ⟨x1, x2⟩ := x
        simp only at g1 g2 g3 g4 hm hc hcn hce hw1 hw2 ⊢
        rw [platenlaw20_ObjectRuns.j1, if_neg (by simp), if_pos rfl, if_neg (by simp), hw1, hw2]
        clear hw1 hw2
        rw [if_neg (by omega), if_neg (by omega), if_neg (by omega), if_neg (by omega), decide_eq_false (by omega), platenlaw20_ObjectRuns.j2, if_neg (by simp)]
        exact ObjectRuns_l0 p (by omega) n hnl (x1, x2) hm.2 hm.1 (fun i h1 h2 => by rw [hc i h1 h2, hcn]) (fun h => by rw [hcn, ← hce]; exact g3 h) (g4.imp id (fun h => by rw [hcn]; exact fun e => h e.symm)) x2 2003 x1 rfl (Nat.le_refl _) (by omega)

end Go.Proofs.Ytcljafgpjoagpaa.Pure
