/- Proved: a line shifted in by some times, and by some more, is shifted by both at once, for any bytes, times and settings. -/
import Derived.Test.YtdaodcdbfaikjaaDoorExtTabs
import Derived.Test.YtdaodcdbfaikjaaDoorPax1
import Derived.Test.YtdaodcdbfaikjaaDoorPax10
import Derived.Test.YtdaodcdbfaikjaaDoorPax2
import Derived.Test.YtdaodcdbfaikjaaDoorPax3
import Derived.Test.YtdaodcdbfaikjaaDoorGenShiftAdds
namespace Go.Proofs.YtdaodcdbfaikjaaDoor.Ad
open Go Go.RowKit Go.Proofs.YtdaodcdbfaikjaaDoor.Pa Go.Proofs.YtdaodcdbfaikjaaDoorW.PrintWords Go.Proofs.YtdaodcdbfaikjaaDoorW.PrintLast Go.Proofs.YtdaodcdbfaikjaaDoorW.PrintMore Go.Proofs.YtdaodcdbfaikjaaDoor.Gen
set_option linter.unusedVariables false
set_option linter.unusedSimpArgs false

theorem glyph_Step_spec (c b t : Nat) (x : Int) (hx : x = (b : Int)) (hc : c ≤ 1000000000) (ht : t ≤ 1000000000) (h0 : 0 < t) : glyph_Step.f (c : Int) x (t : Int) = some (stp c b t : Int) := by
  subst hx
  unfold glyph_Step.f stp
  by_cases h : b = 9
  · have e1 : Int.tmod (c : Int) (t : Int) = ((c % t : Nat) : Int) := by rw [Int.tmod_eq_emod_of_nonneg (by omega)]; rfl
    have hm := Nat.mod_lt c h0
    have hl := Nat.mod_le c t
    have w1 : wrap64 ((c : Int) + (t : Int)) = (c : Int) + (t : Int) := wid (by omega) (by omega)
    have w2 : wrap64 ((c : Int) + (t : Int) - ((c % t : Nat) : Int)) = (c : Int) + (t : Int) - ((c % t : Nat) : Int) := by clear w1; exact wid (by omega) (by omega)
    rw [if_pos (by omega), if_neg (by omega), w1, e1, w2, if_pos h]
    clear w1 w2
    congr 1; omega
  · have w1 : wrap64 ((c : Int) + 1) = ((c + 1 : Nat) : Int) := wnat (by omega)
    rw [if_neg (by omega), w1, if_neg h]
theorem byte_nat {p : List Int} (hb : Bytes p) (i : Nat) (h : i < p.length) : p[i] = ((p[i]).toNat : Int) := by
  have := hb p[i] (List.getElem_mem h); omega

end Go.Proofs.YtdaodcdbfaikjaaDoor.Ad
namespace Go.Proofs.YtdaodcdbfaikjaaDoor.Ad
open Go Go.RowKit Go.Proofs.YtdaodcdbfaikjaaDoor.Pa Go.Proofs.YtdaodcdbfaikjaaDoorW.PrintWords Go.Proofs.YtdaodcdbfaikjaaDoorW.PrintLast Go.Proofs.YtdaodcdbfaikjaaDoorW.PrintMore Go.Proofs.YtdaodcdbfaikjaaDoor.Gen
set_option linter.unusedVariables false
set_option linter.unusedSimpArgs false

theorem ex_succ' {k n : Nat} (h : n < k) : ∃ m, k = m + 1 := ⟨k - 1, by omega⟩
theorem slow_sz (n b0 b1 b2 b3 sz lo hi : Nat) : (Lib.slowN n b0 b1 b2 b3 sz lo hi).2 =
    if n < sz ∨ (b1 < lo ∨ hi < b1) then 1 else if sz ≤ 2 then 2 else if b2 < 128 ∨ 191 < b2 then 1 else if sz ≤ 3 then 3 else if b3 < 128 ∨ 191 < b3 then 1 else 4 := by
  unfold Lib.slowN
  by_cases h1 : n < sz
  · simp [h1]
  · by_cases h2 : b1 < lo ∨ hi < b1
    · simp [h1, h2]
    · simp only [h1, h2, if_false, or_self]
      (repeat' split) <;> rfl

/-- One character's size, by the bytes' numbers. -/
def szN (n b0 b1 b2 b3 : Nat) : Nat :=
  if need (b0 : Int) = 2 ∧ 2 ≤ n ∧ lo2 (b0 : Int) ≤ (b1 : Int) ∧ (b1 : Int) ≤ hi2 (b0 : Int) then 2
  else if need (b0 : Int) = 3 ∧ 3 ≤ n ∧ lo2 (b0 : Int) ≤ (b1 : Int) ∧ (b1 : Int) ≤ hi2 (b0 : Int) ∧ cont (b2 : Int) then 3
  else if need (b0 : Int) = 4 ∧ 4 ≤ n ∧ lo2 (b0 : Int) ≤ (b1 : Int) ∧ (b1 : Int) ≤ hi2 (b0 : Int) ∧ cont (b2 : Int) ∧ cont (b3 : Int) then 4 else 1

set_option maxHeartbeats 4000000 in
theorem decN_sz (n b0 b1 b2 b3 : Nat) (hn : 1 ≤ n) (h0 : b0 < 256) (h1 : b1 < 256) (h2 : b2 < 256) (h3 : b3 < 256) : (Lib.decodeN n b0 b1 b2 b3).2 = szN n b0 b1 b2 b3 := by
  have one : ∀ b : Nat, need (b : Int) = 1 → szN n b b1 b2 b3 = 1 := by
    intro b hb; simp [szN, hb]
  have slow : Lib.firstT b0 < 240 → (Lib.decodeN n b0 b1 b2 b3).2 = szN n b0 b1 b2 b3 := by
    intro hx
    rw [← Lib.slow_eq n b0 b1 b2 b3 hn h1 h2 h3 hx, slow_sz]
    rcases Lib.firstT_low hx with h | h | h | h | h | h | h
    · rw [Lib.firstT_C2 h]
      have e : need (b0 : Int) = 2 := by unfold need; rw [if_pos (by omega)]
      have el : lo2 (b0 : Int) = 128 := by unfold lo2; rw [if_neg (by omega), if_neg (by omega)]
      have eh : hi2 (b0 : Int) = 191 := by unfold hi2; rw [if_neg (by omega), if_neg (by omega)]
      simp only [szN, e, el, eh, Lib.accLo, Lib.accHi, cont]
      simp (decide := true) only [if_true, if_false, true_and, false_and, Nat.reduceDiv, Nat.reduceMod]
      (repeat' split) <;> omega
    · subst h
      simp only [szN, show need ((224 : Nat) : Int) = 3 by decide, show lo2 ((224 : Nat) : Int) = 160 by decide, show hi2 ((224 : Nat) : Int) = 191 by decide, show Lib.firstT 224 = 19 by decide, Lib.accLo, Lib.accHi, cont]
      simp (decide := true) only [if_true, if_false, true_and, false_and, Nat.reduceDiv, Nat.reduceMod]
      (repeat' split) <;> omega
    · rw [Lib.firstT_E1 h]
      have e : need (b0 : Int) = 3 := by unfold need; rw [if_neg (by omega), if_pos (by omega)]
      have el : lo2 (b0 : Int) = 128 := by unfold lo2; rw [if_neg (by omega), if_neg (by omega)]
      have eh : hi2 (b0 : Int) = 191 := by unfold hi2; rw [if_neg (by omega), if_neg (by omega)]
      simp only [szN, e, el, eh, Lib.accLo, Lib.accHi, cont]
      simp (decide := true) only [if_true, if_false, true_and, false_and, Nat.reduceDiv, Nat.reduceMod]
      (repeat' split) <;> omega
    · subst h
      simp only [szN, show need ((237 : Nat) : Int) = 3 by decide, show lo2 ((237 : Nat) : Int) = 128 by decide, show hi2 ((237 : Nat) : Int) = 159 by decide, show Lib.firstT 237 = 35 by decide, Lib.accLo, Lib.accHi, cont]
      simp (decide := true) only [if_true, if_false, true_and, false_and, Nat.reduceDiv, Nat.reduceMod]
      (repeat' split) <;> omega
    · subst h
      simp only [szN, show need ((240 : Nat) : Int) = 4 by decide, show lo2 ((240 : Nat) : Int) = 144 by decide, show hi2 ((240 : Nat) : Int) = 191 by decide, show Lib.firstT 240 = 52 by decide, Lib.accLo, Lib.accHi, cont]
      simp (decide := true) only [if_true, if_false, true_and, false_and, Nat.reduceDiv, Nat.reduceMod]
      (repeat' split) <;> omega
    · rw [Lib.firstT_F1 h]
      have e : need (b0 : Int) = 4 := by unfold need; rw [if_neg (by omega), if_neg (by omega), if_pos (by omega)]
      have el : lo2 (b0 : Int) = 128 := by unfold lo2; rw [if_neg (by omega), if_neg (by omega)]
      have eh : hi2 (b0 : Int) = 191 := by unfold hi2; rw [if_neg (by omega), if_neg (by omega)]
      simp only [szN, e, el, eh, Lib.accLo, Lib.accHi, cont]
      simp (decide := true) only [if_true, if_false, true_and, false_and, Nat.reduceDiv, Nat.reduceMod]
      (repeat' split) <;> omega
    · subst h
      simp only [szN, show need ((244 : Nat) : Int) = 4 by decide, show lo2 ((244 : Nat) : Int) = 128 by decide, show hi2 ((244 : Nat) : Int) = 143 by decide, show Lib.firstT 244 = 68 by decide, Lib.accLo, Lib.accHi, cont]
      simp (decide := true) only [if_true, if_false, true_and, false_and, Nat.reduceDiv, Nat.reduceMod]
      (repeat' split) <;> omega
  by_cases ha : b0 < 128
  · have hx : Lib.firstT b0 = 240 := by unfold Lib.firstT; rw [if_pos ha]
    rw [Lib.ascii_eq n b0 b1 b2 b3 hx, one b0 (by unfold need; rw [if_neg (by omega), if_neg (by omega), if_neg (by omega)])]
  · by_cases hb : b0 < 194 ∨ 244 < b0
    · have hx : Lib.firstT b0 = 241 := by unfold Lib.firstT; (repeat' split) <;> omega
      rw [Lib.bad_eq n b0 b1 b2 b3 h0 hx, one b0 (by unfold need; rw [if_neg (by omega), if_neg (by omega), if_neg (by omega)])]
    · have hx : Lib.firstT b0 < 240 := by
        clear slow one
        have e1 : 194 ≤ b0 := by omega
        have e2 : b0 ≤ 244 := by omega
        clear hb
        unfold Lib.firstT
        (repeat' split) <;> omega
      exact slow hx

theorem decL_sz (l : List Int) (hb : Bytes l) : (decL l).2 = gsz l := by
  have nat : ∀ x ∈ l, ∃ n : Nat, n < 256 ∧ x = (n : Int) := fun x hx => ⟨x.toNat, by have := hb x hx; omega, by have := hb x hx; omega⟩
  match l, nat with
  | [], _ => rfl
  | [b], nat =>
    obtain ⟨b0, h0, rfl⟩ := nat b (by simp)
    simp only [decL, List.length_cons, List.length_nil, List.getD_cons_zero, List.getD_cons_succ, List.getD_nil, Int.toNat_natCast]
    rw [if_neg (by omega), decN_sz _ _ _ _ _ (by omega) h0 (by simp) (by simp) (by simp)]
    simp [szN, gsz]
  | [b, c], nat =>
    obtain ⟨b0, h0, rfl⟩ := nat b (by simp)
    obtain ⟨b1, h1, rfl⟩ := nat c (by simp)
    simp only [decL, List.length_cons, List.length_nil, List.getD_cons_zero, List.getD_cons_succ, List.getD_nil, Int.toNat_natCast]
    rw [if_neg (by omega), decN_sz _ _ _ _ _ (by omega) h0 h1 (by simp) (by simp)]
    simp [szN, gsz]
  | [b, c, d], nat =>
    obtain ⟨b0, h0, rfl⟩ := nat b (by simp)
    obtain ⟨b1, h1, rfl⟩ := nat c (by simp)
    obtain ⟨b2, h2, rfl⟩ := nat d (by simp)
    simp only [decL, List.length_cons, List.length_nil, List.getD_cons_zero, List.getD_cons_succ, List.getD_nil, Int.toNat_natCast]
    rw [if_neg (by omega), decN_sz _ _ _ _ _ (by omega) h0 h1 h2 (by simp)]
    simp [szN, gsz]
  | b :: c :: d :: e :: t, nat =>
    obtain ⟨b0, h0, rfl⟩ := nat b (by simp)
    obtain ⟨b1, h1, rfl⟩ := nat c (by simp)
    obtain ⟨b2, h2, rfl⟩ := nat d (by simp)
    obtain ⟨b3, h3, rfl⟩ := nat e (by simp)
    simp only [decL, List.length_cons, List.length_nil, List.getD_cons_zero, List.getD_cons_succ, List.getD_nil, Int.toNat_natCast]
    rw [if_neg (by omega), decN_sz _ _ _ _ _ (by omega) h0 h1 h2 h3]
    simp [szN, gsz]

theorem bytes_take {l : List Int} (h : Bytes l) (n : Nat) : Bytes (l.take n) := fun x hx => h x (List.mem_of_mem_take hx)
theorem bytes_drop {l : List Int} (h : Bytes l) (n : Nat) : Bytes (l.drop n) := fun x hx => h x (List.mem_of_mem_drop hx)
theorem bytes_append {a b : List Int} (ha : Bytes a) (hb : Bytes b) : Bytes (a ++ b) := fun x hx => by
  rcases List.mem_append.1 hx with h | h
  · exact ha x h
  · exact hb x h

theorem slow_f (l : List Int) (hb : Bytes l) : utf8_decodeRuneSlow.f l = some (((decL l).1 : Int), ((decL l).2 : Int)) := by
  unfold utf8_decodeRuneSlow.f
  rw [if_pos]
  rw [List.all_eq_true]
  intro x hx
  have := hb x (List.mem_of_mem_take hx)
  simp only [byteB, Bool.and_eq_true, decide_eq_true_eq]
  omega

/-- The character that the decoder tells. -/
def runeOf (l : List Int) : Int := if 0 < l.length ∧ l.getD 0 0 < 128 then wrap32 (l.getD 0 0) else ((decL l).1 : Int)

theorem utf8_DecodeRune_spec (l : List Int) (hb : Bytes l) (k : Nat) (hk : 0 < k) : utf8_DecodeRune.f k l = some (runeOf l, (gsz l : Int)) := by
  obtain ⟨k, rfl⟩ := ex_succ' hk
  unfold utf8_DecodeRune.f
  simp only [utf8_DecodeRune.l0]
  by_cases h : 0 < l.length
  · rw [if_pos (by omega), if_pos (by omega), if_pos (by omega)]
    have e : rd l 0 = l.getD 0 0 := by simp [rd]
    have e2 : l.getD 0 0 = l[0] := by simp [h]
    by_cases h1 : rd l 0 < 128
    · rw [if_pos h1]
      have : gsz l = 1 := by
        rcases Nat.lt_or_ge (gsz l) 2 with h2 | h2
        · have := gsz_pos (q := l) (by intro e; rw [e] at h; simp at h); omega
        · exfalso
          have hn : need l[0] = 1 := by
            unfold need; rw [e, e2] at h1
            rw [if_neg (by omega), if_neg (by omega), if_neg (by omega)]
          match l, h with
          | [_], _ => simp [gsz] at h2
          | [b, c], _ => simp at hn; simp [gsz, hn] at h2
          | [b, c, d], _ => simp at hn; simp [gsz, hn] at h2
          | b :: c :: d :: e :: t, _ => simp at hn; simp [gsz, hn] at h2
      rw [this, e, runeOf, if_pos ⟨h, by rw [← e]; exact h1⟩]; rfl
    · rw [if_neg h1, slow_f l hb, Option.bind_some, decL_sz l hb, runeOf, if_neg (fun c => h1 (by rw [e]; exact c.2))]
  · rw [if_neg (by omega), slow_f l hb, Option.bind_some, decL_sz l hb, runeOf, if_neg (fun c => h c.1)]

end Go.Proofs.YtdaodcdbfaikjaaDoor.Ad
namespace Go.Proofs.YtdaodcdbfaikjaaDoor.Ad
open Go Go.RowKit Go.Proofs.YtdaodcdbfaikjaaDoor.Pa Go.Proofs.YtdaodcdbfaikjaaDoorW.PrintWords Go.Proofs.YtdaodcdbfaikjaaDoorW.PrintLast Go.Proofs.YtdaodcdbfaikjaaDoorW.PrintMore Go.Proofs.YtdaodcdbfaikjaaDoor.Gen
set_option linter.unusedVariables false
set_option linter.unusedSimpArgs false

theorem glyph_Fill_l0 (w t : Nat) (sp : Bool) (h0 : 0 < t) (ht : t ≤ 1000) (hw : w ≤ 100000000) (n : Nat) : ∀ (k c : Nat) (acc : List Int), w ≤ c + n → c ≤ 100000000 → acc.length + n ≤ 200000000 → n < k →
    glyph_Fill.l0 k (c : Int) (w : Int) (t : Int) sp acc = some (acc ++ fillF n c w t sp) := by
  induction n with
  | zero =>
    intro k c acc h1 h2 _ hk
    obtain ⟨k, rfl⟩ := ex_succ' hk
    simp only [glyph_Fill.l0, fillF]
    rw [if_neg (by omega), List.append_nil]
  | succ n ih =>
    intro k c acc h1 h2 ha hk
    obtain ⟨k, rfl⟩ := ex_succ' hk
    have hg := stp_gt c 9 t h0
    have hs := stp_le c 9 t h0
    have e9 := glyph_Step_spec c 9 t 9 rfl (by omega) (by omega) h0
    have e32 : glyph_Step.f (c : Int) 32 (t : Int) = some ((c + 1 : Nat) : Int) := glyph_Step_spec c 32 t 32 rfl (by omega) (by omega) h0
    have hal : acc.length < 140737488355328 := by omega
    have hn32 : c < w → glyph_Fill.l0 k ((c + 1 : Nat) : Int) (w : Int) (t : Int) sp (acc ++ [32]) = some (acc ++ 32 :: fillF n (c + 1) w t sp) := by
      intro hcw
      rw [ih k (c + 1) (acc ++ [32]) (by omega) (by omega) (by simp only [List.length_append, List.length_cons, List.length_nil]; omega) (by omega), List.append_assoc]
      rfl
    simp only [glyph_Fill.l0, fillF]
    by_cases h : c < w
    · have hw1 : wrap64 ((stp c 9 t : Int) - (c : Int)) = (stp c 9 t : Int) - (c : Int) := wid (by omega) (by omega)
      rw [if_pos (by omega), if_pos h, e9, Option.bind_some, hw1, e32]
      simp only [Option.bind_some, if_pos hal]
      clear hw1
      cases sp with
      | true =>
        rw [if_pos rfl, if_neg (by simp)]
        exact hn32 h
      | false =>
        rw [if_neg (by simp)]
        by_cases g1 : stp c 9 t ≤ w
        · rw [if_pos (by omega)]
          by_cases g2 : c + 1 < stp c 9 t
          · rw [if_pos (by omega), if_pos ⟨rfl, g1, g2⟩, ih k (stp c 9 t) (acc ++ [9]) (by omega) (by omega) (by simp only [List.length_append, List.length_cons, List.length_nil]; omega) (by omega), List.append_assoc]
            rfl
          · rw [if_neg (by omega), if_neg (fun e => g2 e.2.2)]
            exact hn32 h
        · rw [if_neg (by omega), if_neg (fun e => g1 e.2.1)]
          exact hn32 h
    · rw [if_neg (by omega), if_neg h, List.append_nil]
theorem glyph_Fill_spec (c w t : Nat) (sp : Bool) (h0 : 0 < t) (ht : t ≤ 1000) (hc : c ≤ 10000000) (hw : w ≤ 10000000) (k : Nat) (hk : w < k + c) (hk0 : 0 < k) : glyph_Fill.f k (c : Int) (w : Int) (t : Int) sp = some (fill c w t sp) := by
  have := glyph_Fill_l0 w t sp h0 ht (by omega) (w - c) k c [] (by omega) (by omega) (by simp; omega) (by omega)
  simpa [glyph_Fill.f, fill] using this

end Go.Proofs.YtdaodcdbfaikjaaDoor.Ad
namespace Go.Proofs.YtdaodcdbfaikjaaDoor.Ad
open Go Go.RowKit Go.Proofs.YtdaodcdbfaikjaaDoor.Pa Go.Proofs.YtdaodcdbfaikjaaDoorW.PrintWords Go.Proofs.YtdaodcdbfaikjaaDoorW.PrintLast Go.Proofs.YtdaodcdbfaikjaaDoorW.PrintMore Go.Proofs.YtdaodcdbfaikjaaDoor.Gen
set_option linter.unusedVariables false
set_option linter.unusedSimpArgs false

theorem glyph_Next_spec (p : List Int) (hb : Bytes p) (i : Nat) (hi : i < p.length) (k : Nat) (hk : 0 < k) : glyph_Next.f k p (i : Int) = some (gsz (p.drop i) : Int) := by
  unfold glyph_Next.f
  rw [if_neg (by omega), if_neg (by omega), if_pos (by omega), if_pos (by omega), Int.toNat_natCast, utf8_DecodeRune_spec _ (bytes_drop hb i) k hk, Option.bind_some]
theorem glyph_Next_out (p : List Int) (a : Int) (h : a < 0 ∨ a ≥ (p.length : Int)) (k : Nat) : glyph_Next.f k p a = some 0 := by
  unfold glyph_Next.f
  by_cases h1 : a < 0
  · rw [if_pos h1]
  · rw [if_neg h1, if_pos (by omega)]

end Go.Proofs.YtdaodcdbfaikjaaDoor.Ad
namespace Go.Proofs.YtdaodcdbfaikjaaDoor.Ad
open Go Go.RowKit Go.Proofs.YtdaodcdbfaikjaaDoor.Pa Go.Proofs.YtdaodcdbfaikjaaDoorW.PrintWords Go.Proofs.YtdaodcdbfaikjaaDoorW.PrintLast Go.Proofs.YtdaodcdbfaikjaaDoorW.PrintMore Go.Proofs.YtdaodcdbfaikjaaDoor.Gen
set_option linter.unusedVariables false
set_option linter.unusedSimpArgs false

theorem glyph_Wide_l0 (p : List Int) (hb : Bytes p) (t : Nat) (h0 : 0 < t) (ht : t ≤ 1000) (hp : p.length ≤ 100000000) (n : Nat) : ∀ (k x c : Nat), x ≤ p.length → p.length ≤ x + n → c + (p.length - x) * t ≤ 900000000 → n + 1 < k →
    glyph_Wide.l0 k p (c : Int) (t : Int) (x : Int) = some (wid_ (p.drop x) c t : Int) := by
  induction n with
  | zero =>
    intro k x c h1 h2 _ hk
    obtain ⟨k, rfl⟩ := ex_succ' hk
    simp only [glyph_Wide.l0]
    rw [if_neg (by omega), List.drop_eq_nil_of_le (by omega), wid_nil]
  | succ n ih =>
    intro k x c h1 h2 hc hk
    obtain ⟨k, rfl⟩ := ex_succ' hk
    simp only [glyph_Wide.l0]
    by_cases h : x < p.length
    · have hg := gd_pos p x h
      have hle := gd_le p x h1
      have hs := stp_le c p[x].toNat t h0
      have hmul : (p.length - (x + gsz (p.drop x))) * t + t ≤ (p.length - x) * t := by
        have := Nat.mul_le_mul_right t (show (p.length - (x + gsz (p.drop x))) + 1 ≤ p.length - x by omega)
        rw [Nat.add_mul, Nat.one_mul] at this; exact this
      have hnext := ih k (x + gsz (p.drop x)) (stp c p[x].toNat t) (by omega) (by omega) (by omega) (by omega)
      have hnx := glyph_Next_spec p hb x h k (by omega)
      rw [if_pos (by omega), if_pos (by omega), rd_nat p x h, glyph_Step_spec c p[x].toNat t _ (byte_nat hb x h) (by omega) (by omega) h0, Option.bind_some]
      have hw : wrap64 ((x : Int) + (gsz (p.drop x) : Int)) = ((x + gsz (p.drop x) : Nat) : Int) := by
        rw [← Int.natCast_add]
        exact wid (by omega) (by omega)
      rw [hnx, Option.bind_some, hw, hnext, wid_at p x h]
    · rw [if_neg (by omega), List.drop_eq_nil_of_le (by omega), wid_nil]
theorem glyph_Wide_long (p : List Int) (hb : Bytes p) (c t : Nat) (h0 : 0 < t) (ht : t ≤ 1000) (hp : p.length ≤ 100000000) (hm : p.length * t ≤ 100000000) (hc : c ≤ 1000000) (k : Nat) (hk : p.length + 1 < k) :
    glyph_Wide.f k p (c : Int) (t : Int) = some (wid_ p c t : Int) := by
  have := glyph_Wide_l0 p hb t h0 ht hp p.length k 0 c (by omega) (by omega) (by simp only [Nat.sub_zero]; omega) hk
  simpa [glyph_Wide.f] using this
theorem glyph_Wide_spec (p : List Int) (hb : Bytes p) (c t : Nat) (h0 : 0 < t) (ht : t ≤ 1000) (hp : p.length ≤ 10000) (hc : c ≤ 1000000) (k : Nat) (hk : p.length + 1 < k) :
    glyph_Wide.f k p (c : Int) (t : Int) = some (wid_ p c t : Int) := by
  have hm : p.length * t ≤ 10000 * 1000 := Nat.mul_le_mul hp ht
  exact glyph_Wide_long p hb c t h0 ht (by omega) (by omega) hc k hk

end Go.Proofs.YtdaodcdbfaikjaaDoor.Ad
namespace Go.Proofs.YtdaodcdbfaikjaaDoor.Ad
open Go Go.RowKit Go.Proofs.YtdaodcdbfaikjaaDoor.Pa Go.Proofs.YtdaodcdbfaikjaaDoorW.PrintWords Go.Proofs.YtdaodcdbfaikjaaDoorW.PrintLast Go.Proofs.YtdaodcdbfaikjaaDoorW.PrintMore Go.Proofs.YtdaodcdbfaikjaaDoor.Gen
set_option linter.unusedVariables false
set_option linter.unusedSimpArgs false

theorem glyph_Blank_spec (c : Int) : glyph_Blank.f c = some (decide (c = 32 ∨ c = 9)) := by
  unfold glyph_Blank.f
  split
  · simp [*]
  · rw [Option.some_inj, Bool.eq_iff_iff]; simp; omega

end Go.Proofs.YtdaodcdbfaikjaaDoor.Ad
namespace Go.Proofs.YtdaodcdbfaikjaaDoor.Ad
open Go Go.RowKit Go.Proofs.YtdaodcdbfaikjaaDoor.Pa Go.Proofs.YtdaodcdbfaikjaaDoorW.PrintWords Go.Proofs.YtdaodcdbfaikjaaDoorW.PrintLast Go.Proofs.YtdaodcdbfaikjaaDoorW.PrintMore Go.Proofs.YtdaodcdbfaikjaaDoor.Gen
set_option linter.unusedVariables false
set_option linter.unusedSimpArgs false

theorem bl_dec (c : Int) : decide (c = 32 ∨ c = 9) = bl c := rfl
theorem lines_Indent_l0 (s : ByteArray) (hs : s.size ≤ 1000000000) (m : Nat) : ∀ (k i : Nat), i + m = s.size → m < k →
    lines_Indent.l0 k s (s.size : Int) (i : Int) = some ((i + ind ((bytesOf s).drop i) : Nat) : Int) := by
  have hl := bytesOf_length s
  induction m with
  | zero =>
    intro k i hi hk
    obtain ⟨k, rfl⟩ := ex_succ hk
    rw [lines_Indent.l0, if_neg (by omega), List.drop_eq_nil_of_le (by omega), ind_nil, Nat.add_zero, show i = s.size by omega]
  | succ m ih =>
    intro k i hi hk
    obtain ⟨k, rfl⟩ := ex_succ hk
    have hlt : i < (bytesOf s).length := by omega
    have hw : wrap64 ((i : Int) + 1) = ((i + 1 : Nat) : Int) := wnat (by omega)
    rw [lines_Indent.l0, hw, ih k (i + 1) (by omega) (by omega)]
    clear hw
    rw [if_pos (by omega), if_pos (by omega), if_pos (by omega), bt_get s i hlt, glyph_Blank_spec, Option.bind_some, bl_dec, drop_at _ i hlt]
    by_cases h : bl (bytesOf s)[i] = true
    · rw [if_pos h, ind_cons_pos h, show i + 1 + ind ((bytesOf s).drop (i + 1)) = i + (1 + ind ((bytesOf s).drop (i + 1))) by omega]
    · rw [if_neg h, ind_cons_neg (by simpa using h)]; rfl
theorem lines_Indent_spec (s : ByteArray) (hs : s.size ≤ 1000000000) (k : Nat) (hk : s.size < k) : lines_Indent.f k s = some (ind (bytesOf s) : Int) := by
  have := lines_Indent_l0 s hs s.size k 0 (by omega) hk
  rw [List.drop_zero, Nat.zero_add] at this
  exact this
theorem lines_Bare_spec (s : ByteArray) (hs : s.size ≤ 1000000000) (k : Nat) (hk : s.size < k) : lines_Bare.f k s = some (decide (ind (bytesOf s) = (bytesOf s).length)) := by
  unfold lines_Bare.f
  rw [lines_Indent_spec s hs k hk, Option.bind_some, bytesOf_length, Option.some_inj, Bool.eq_iff_iff]
  simp
  omega

end Go.Proofs.YtdaodcdbfaikjaaDoor.Ad
namespace Go.Proofs.YtdaodcdbfaikjaaDoor.Ad
open Go Go.RowKit Go.Proofs.YtdaodcdbfaikjaaDoor.Pa Go.Proofs.YtdaodcdbfaikjaaDoorW.PrintWords Go.Proofs.YtdaodcdbfaikjaaDoorW.PrintLast Go.Proofs.YtdaodcdbfaikjaaDoorW.PrintMore Go.Proofs.YtdaodcdbfaikjaaDoor.Gen
set_option linter.unusedVariables false
set_option linter.unusedSimpArgs false

theorem lim_mm (x : Int) : mn (mx x (-9999)) 9999 = lim x := by
  unfold mn mx lim; (repeat' split) <;> omega
theorem lim_bd (x : Int) : -9999 ≤ lim x ∧ lim x ≤ 9999 := by unfold lim; (repeat' split) <;> omega
theorem lim_mul (x : Int) (sh : Nat) (h : sh ≤ 16) : -159984 ≤ lim x * (sh : Int) ∧ lim x * (sh : Int) ≤ 159984 := by
  have hb := lim_bd x
  have h1 := Int.mul_le_mul_of_nonneg_right hb.2 (show (0 : Int) ≤ (sh : Int) by omega)
  have h2 := Int.mul_le_mul_of_nonneg_right hb.1 (show (0 : Int) ≤ (sh : Int) by omega)
  omega
theorem cut_str (s : ByteArray) (n : Nat) : s.extract n s.size = strOfNums ((bytesOf s).drop n) := by
  have h := bytesOf_length s
  rw [← str_bytesOf (s.extract n s.size), bytesOf_extract, List.take_of_length_le (by omega)]
theorem wid_ind (l : List Int) (t : Nat) (h0 : 0 < t) (ht : t ≤ 16) : wid_ (l.take (ind l)) 0 t ≤ l.length * 16 ∧ (l.take (ind l)).length * t ≤ l.length * 16 := by
  have h1 := (wid_le _ (l.take (ind l)) 0 t (Nat.le_refl _) h0).2.1
  have h2 := Nat.mul_le_mul (show (l.take (ind l)).length ≤ l.length by simp only [List.length_take]; omega) ht
  omega
theorem shift_Line_spec (s : ByteArray) (hs : s.size ≤ 200000) (x W tab : Int) (ht : tab ≤ 16) (sh : Nat) (hsh : sh ≤ 16) (ex b : Bool) (k : Nat) (hk : 4000000 < k) :
    shift_Line.f k s x W tab (sh : Int) ex b = some (strOfNums (shf (bytesOf s) (lim x * (sh : Int)) (tb tab) ex)) := by
  have hl := bytesOf_length s
  have hb := bytesOf_bytes s
  have hm := lim_mul x sh hsh
  have htb : tb tab ≤ 16 := by unfold tb; omega
  have h0 := tb_pos tab
  have hi := ind_le (bytesOf s)
  unfold shift_Line.f
  rw [lines_Bare_spec s (by omega) k (by omega), Option.bind_some]
  by_cases h : ind (bytesOf s) = (bytesOf s).length
  · rw [if_pos (by simpa using h), shf_bare h, str_bytesOf]
  · have hw := wid_ind (bytesOf s) (tb tab) h0 htb
    have hn : (s.extract 0 (ind (bytesOf s))).size ≤ 9223372036854775807 := by
      rw [← bytesOf_length, bytesOf_extract]; simp only [List.length_drop, List.length_take]; omega
    rw [if_neg (by simpa using h), lines_Indent_spec s (by omega) k (by omega), Option.bind_some, if_pos (by omega), if_pos (by omega), Int.toNat_natCast, if_pos hn, bytesOf_extract, List.drop_zero, mx_tb, lim_mm]
    have hg := glyph_Wide_long ((bytesOf s).take (ind (bytesOf s))) (bytes_take hb _) 0 (tb tab) h0 (by omega) (by simp only [List.length_take]; omega) (by omega) (by omega) k (by simp only [List.length_take]; omega)
    rw [show ((0 : Nat) : Int) = 0 from rfl] at hg
    rw [hg, Option.bind_some]
    unfold shf
    rw [if_neg h]
    generalize wid_ ((bytesOf s).take (ind (bytesOf s))) 0 (tb tab) = w at *
    have e : mx (wrap64 ((w : Int) + wrap64 (lim x * (sh : Int)))) 0 = ((((w : Int) + lim x * (sh : Int)).toNat : Nat) : Int) := by
      generalize lim x * (sh : Int) = d at *
      rw [wid (x := d) (by omega) (by omega), wid (by omega) (by omega)]
      unfold mx; split <;> omega
    rw [e]
    clear e
    have hf := glyph_Fill_spec 0 ((w : Int) + lim x * (sh : Int)).toNat (tb tab) ex h0 (by omega) (by omega) (by omega) k (by omega) (by omega)
    rw [show ((0 : Nat) : Int) = 0 from rfl] at hf
    have hlen := fill_len ((w : Int) + lim x * (sh : Int)).toNat (tb tab) ex 0
    rw [hf, Option.bind_some, cut_str, str_append, strOfNums_size, strOfNums_size, if_pos (by simp only [List.length_drop]; omega)]
theorem shift_Canonical_spec (s : ByteArray) (hs : s.size ≤ 200000) (W tab sh : Int) (ht : tab ≤ 16) (ex b : Bool) (k : Nat) (hk : 4000000 < k) :
    shift_Canonical.f k s W tab sh ex b = some (decide (canon (bytesOf s) (tb tab) ex)) := by
  have hl := bytesOf_length s
  have hb := bytesOf_bytes s
  have htb : tb tab ≤ 16 := by unfold tb; omega
  have h0 := tb_pos tab
  have hi := ind_le (bytesOf s)
  unfold shift_Canonical.f
  rw [lines_Indent_spec s (by omega) k (by omega), Option.bind_some, lines_Bare_spec s (by omega) k (by omega), Option.bind_some]
  by_cases h : ind (bytesOf s) = (bytesOf s).length
  · rw [if_pos (by simpa using h), decide_eq_true (show canon (bytesOf s) (tb tab) ex from .inl h)]
  · have hw := wid_ind (bytesOf s) (tb tab) h0 htb
    have hx : s.extract 0 (ind (bytesOf s)) = strOfNums ((bytesOf s).take (ind (bytesOf s))) := by
      rw [← str_bytesOf (s.extract 0 (ind (bytesOf s))), bytesOf_extract, List.drop_zero]
    have hn : (s.extract 0 (ind (bytesOf s))).size ≤ 9223372036854775807 := by
      rw [← bytesOf_length, bytesOf_extract]; simp only [List.length_drop, List.length_take]; omega
    rw [if_neg (by simpa using h), if_pos (by omega), if_pos (by omega), Int.toNat_natCast, if_pos hn, bytesOf_extract, List.drop_zero, mx_tb]
    have hg := glyph_Wide_long ((bytesOf s).take (ind (bytesOf s))) (bytes_take hb _) 0 (tb tab) h0 (by omega) (by simp only [List.length_take]; omega) (by omega) (by omega) k (by simp only [List.length_take]; omega)
    rw [show ((0 : Nat) : Int) = 0 from rfl] at hg
    rw [hg, Option.bind_some]
    have hf := glyph_Fill_spec 0 (wid_ ((bytesOf s).take (ind (bytesOf s))) 0 (tb tab)) (tb tab) ex h0 (by omega) (by omega) (by omega) k (by omega) (by omega)
    rw [show ((0 : Nat) : Int) = 0 from rfl] at hf
    rw [hf, Option.bind_some, hx, Option.some_inj, Bool.eq_iff_iff, beq_iff_eq, decide_eq_true_eq]
    constructor
    · intro e
      exact .inr (strOfNums_inj (bytes_fill _ _ _ _) (bytes_take hb _) e)
    · intro e
      rcases e with e | e
      · exact absurd e h
      · rw [e]

end Go.Proofs.YtdaodcdbfaikjaaDoor.Ad
namespace Go.Proofs.YtdaodcdbfaikjaaDoor.Ad
open Go Go.RowKit Go.Proofs.YtdaodcdbfaikjaaDoor.Pa Go.Proofs.YtdaodcdbfaikjaaDoorW.PrintWords Go.Proofs.YtdaodcdbfaikjaaDoorW.PrintLast Go.Proofs.YtdaodcdbfaikjaaDoorW.PrintMore Go.Proofs.YtdaodcdbfaikjaaDoor.Gen
set_option linter.unusedVariables false
set_option linter.unusedSimpArgs false

theorem toList_lit (l : List Int) (u : List UInt8) (h : (l.map fun n => UInt8.ofNat n.toNat) = u) : (strOfNums l).toList = u := by
  rw [ByteArray.toList_eq, strOfNums_data, h]
theorem toList_str (l m : List Int) (hl : Bytes l) (hm : Bytes m) : ((strOfNums l).toList = (strOfNums m).toList) ↔ l = m :=
  ⟨fun h => strOfNums_inj hl hm h, fun h => by rw [h]⟩
theorem toList_of (s t : ByteArray) : (s.toList = t.toList) ↔ bytesOf s = bytesOf t := by
  constructor
  · intro h
    rw [← str_bytesOf s, ← str_bytesOf t] at h
    exact strOfNums_inj (bytesOf_bytes s) (bytesOf_bytes t) h
  · intro h
    rw [bytesOf_inj h]
theorem deeper_spec (k : Nat) (hk : 4000000 < k) : platenlaw16_deeper.f k = some true := by
  have l1 := shift_Line_spec ⟨#[97]⟩ (by decide) 2 0 8 (by omega) 4 (by omega) false false k hk
  have l2 := shift_Line_spec ⟨#[9, 97]⟩ (by decide) (-1) 0 8 (by omega) 4 (by omega) false false k hk
  have l3 := shift_Line_spec ⟨#[32]⟩ (by decide) 3 0 8 (by omega) 4 (by omega) false false k hk
  have c1 := shift_Canonical_spec ⟨#[9, 97]⟩ (by decide) 0 8 4 (by omega) false false k hk
  have c2 := shift_Canonical_spec ⟨#[32, 32, 32, 32, 32, 32, 32, 32, 97]⟩ (by decide) 0 8 4 (by omega) false false k hk
  rw [show shf (bytesOf ⟨#[97]⟩) (lim 2 * ((4 : Nat) : Int)) (tb 8) false = [9, 97] by decide] at l1
  rw [show shf (bytesOf ⟨#[9, 97]⟩) (lim (-1) * ((4 : Nat) : Int)) (tb 8) false = [32, 32, 32, 32, 97] by decide] at l2
  rw [show shf (bytesOf ⟨#[32]⟩) (lim 3 * ((4 : Nat) : Int)) (tb 8) false = [32] by decide] at l3
  rw [show decide (canon (bytesOf ⟨#[9, 97]⟩) (tb 8) false) = true by decide] at c1
  rw [show decide (canon (bytesOf ⟨#[32, 32, 32, 32, 32, 32, 32, 32, 97]⟩) (tb 8) false) = false by decide] at c2
  unfold platenlaw16_deeper.f
  rw [show shift_Line.f k (⟨#[97]⟩ : ByteArray) 2 0 8 4 false false = _ from l1, Option.bind_some, if_pos (show (strOfNums [9, 97]).toList = ([9, 97] : List UInt8) from toList_lit _ _ rfl),
    show shift_Line.f k (⟨#[9, 97]⟩ : ByteArray) (-1) 0 8 4 false false = _ from l2, Option.bind_some, if_pos (show (strOfNums [32, 32, 32, 32, 97]).toList = ([32, 32, 32, 32, 97] : List UInt8) from toList_lit _ _ rfl),
    show shift_Line.f k (⟨#[32]⟩ : ByteArray) 3 0 8 4 false false = _ from l3, Option.bind_some, if_pos (show (strOfNums [32]).toList = ([32] : List UInt8) from toList_lit _ _ rfl), c1, Option.bind_some, if_pos rfl, c2, Option.bind_some]
  rfl
theorem tmod17 (x : Int) (h0 : 0 ≤ x) (h1 : x ≤ 255) : Int.tmod (wrap64 x) 17 = ((x.toNat % 17 : Nat) : Int) := by
  rw [wid (by omega) (by omega), Int.tmod_eq_emod_of_nonneg h0]; omega
theorem set16_spec (x y : Int) (hx0 : 0 ≤ x) (hx1 : x ≤ 255) (hy0 : 0 ≤ y) (hy1 : y ≤ 255) (e : Bool) : platenlaw16_set.f x y e = some ((1 : Int), (((x.toNat % 17 : Nat) : Int), (((y.toNat % 17 : Nat) : Int), (e, false)))) := by
  unfold platenlaw16_set.f
  rw [tmod17 x hx0 hx1, tmod17 y hy0 hy1]

end Go.Proofs.YtdaodcdbfaikjaaDoor.Ad
namespace Go.Proofs.YtdaodcdbfaikjaaDoor.Pure
open Go Go.RowKit Go.Proofs.YtdaodcdbfaikjaaDoor.Pa Go.Proofs.YtdaodcdbfaikjaaDoorW.PrintWords Go.Proofs.YtdaodcdbfaikjaaDoorW.PrintLast Go.Proofs.YtdaodcdbfaikjaaDoorW.PrintMore Go.Proofs.YtdaodcdbfaikjaaDoor.Gen Go.Proofs.YtdaodcdbfaikjaaDoor.Ad
set_option linter.unusedVariables false
set_option linter.unusedSimpArgs false

theorem ShiftAdds : platenlaw16_ShiftAdds.Pure := by
  intro s x y a b e hs hx hy ha hb
  have ba := u8_of ha
  have bb := u8_of hb
  have bx := u8_of hx
  have by_ := u8_of hy
  clear ha hb hx hy
  have hl := bytesOf_length s
  have hbs := bytesOf_bytes s
  refine ⟨4000002, ?_⟩
  unfold platenlaw16_ShiftAdds.f
  rw [deeper_spec 4000002 (by omega), Option.bind_some, if_pos rfl]
  by_cases h : (s.size : Int) > 200
  · rw [decide_eq_true h, platenlaw16_ShiftAdds.j0, if_pos rfl, deeper_spec 4000001 (by omega), Option.bind_some]
  · rw [decide_eq_false h, platenlaw16_ShiftAdds.j0, if_neg (by simp), set16_spec a b ba.1 ba.2 bb.1 bb.2, Option.bind_some]
    dsimp only
    have hta : a.toNat % 17 < 17 := Nat.mod_lt _ (by omega)
    have htb : b.toNat % 17 < 17 := Nat.mod_lt _ (by omega)
    generalize a.toNat % 17 = t at *
    generalize b.toNat % 17 = sh at *
    have hm := lim_mul x sh (by omega)
    have htp := tb_pos (t : Int)
    have htl : tb (t : Int) ≤ 16 := by unfold tb; omega
    have hw := (wid_ind (bytesOf s) (tb (t : Int)) htp htl).1
    have len1 := shf_len (bytesOf s) (lim x * (sh : Int)) (tb (t : Int)) e
    have b1 := bytes_shl hbs (lim x * (sh : Int)) (tb (t : Int)) e
    have lx : lim x = x := by unfold lim; rw [if_neg (by omega), if_neg (by omega)]
    have ly : lim y = y := by unfold lim; rw [if_neg (by omega), if_neg (by omega)]
    have lxy : lim (x + y) = x + y := by unfold lim; rw [if_neg (by omega), if_neg (by omega)]
    have hadd := shf_add (bytesOf s) (lim x * (sh : Int)) (lim y * (sh : Int)) (Int.mul_nonneg (by omega) (by omega)) (tb (t : Int)) e
    rw [← Int.add_mul, lx, ly, ← lxy] at hadd
    rw [wid (x := x) (by omega) (by omega), wid (x := y) (by omega) (by omega), wid (x := x + y) (by omega) (by omega),
      shift_Line_spec s (by omega) x 1 (t : Int) (by omega) sh (by omega) e false 4000001 (by omega), Option.bind_some,
      shift_Line_spec _ (by rw [strOfNums_size]; omega) y 1 (t : Int) (by omega) sh (by omega) e false 4000001 (by omega), Option.bind_some, bytesOf_str b1,
      shift_Line_spec s (by omega) (x + y) 1 (t : Int) (by omega) sh (by omega) e false 4000001 (by omega), Option.bind_some, lx, ly, hadd]
    simp

end Go.Proofs.YtdaodcdbfaikjaaDoor.Pure
