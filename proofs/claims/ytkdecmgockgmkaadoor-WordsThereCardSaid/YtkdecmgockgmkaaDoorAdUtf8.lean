/- What the decoder tells of bytes: a character's size. -/
import Derived.Test.YtkdecmgockgmkaaDoorExtTabs
import Derived.Test.YtkdecmgockgmkaaDoorGenBase
import Derived.Test.YtkdecmgockgmkaaDoorGenGlyph
import Derived.Test.YtkdecmgockgmkaaDoorPax1
namespace Go.Proofs.YtkdecmgockgmkaaDoor.Ad
open Go Go.RowKit Go.Proofs.YtkdecmgockgmkaaDoor.Pa Go.Proofs.YtkdecmgockgmkaaDoorW.PrintWords Go.Proofs.YtkdecmgockgmkaaDoorW.PrintLast Go.Proofs.YtkdecmgockgmkaaDoorW.PrintMore Go.Proofs.YtkdecmgockgmkaaDoor.Gen
set_option linter.unusedVariables false
set_option linter.unusedSimpArgs false

theorem ex_succ' {k n : Nat} (h : n < k) : ∃ m, k = m + 1 := ⟨k - 1, by omega⟩
theorem slow_sz (n b0 b1 b2 b3 sz lo hi : Nat) : (Lib.slowN n b0 b1 b2 b3 sz lo hi).2 =
    if n < sz ∨ (b1 < lo ∨ hi < b1) then 1 else if sz ≤ 2 then 2 else if b2 < 128 ∨ 191 < b2 then 1 else if sz ≤ 3 then 3 else if b3 < 128 ∨ 191 < b3 then 1 else 4 := by
  unfold Lib.slowN
  by_cases h1 : n < sz
  · simp [h1]
  · by_cases h2 : b1 < lo ∨ hi < b1
    · simp [h1, h2]
    · simp only [h1, h2, if_false, or_self]
      (repeat' split) <;> rfl

/-- One character's size, by the bytes' numbers. -/
def szN (n b0 b1 b2 b3 : Nat) : Nat :=
  if need (b0 : Int) = 2 ∧ 2 ≤ n ∧ lo2 (b0 : Int) ≤ (b1 : Int) ∧ (b1 : Int) ≤ hi2 (b0 : Int) then 2
  else if need (b0 : Int) = 3 ∧ 3 ≤ n ∧ lo2 (b0 : Int) ≤ (b1 : Int) ∧ (b1 : Int) ≤ hi2 (b0 : Int) ∧ cont (b2 : Int) then 3
  else if need (b0 : Int) = 4 ∧ 4 ≤ n ∧ lo2 (b0 : Int) ≤ (b1 : Int) ∧ (b1 : Int) ≤ hi2 (b0 : Int) ∧ cont (b2 : Int) ∧ cont (b3 : Int) then 4 else 1

set_option maxHeartbeats 4000000 in
theorem decN_sz (n b0 b1 b2 b3 : Nat) (hn : 1 ≤ n) (h0 : b0 < 256) (h1 : b1 < 256) (h2 : b2 < 256) (h3 : b3 < 256) : (Lib.decodeN n b0 b1 b2 b3).2 = szN n b0 b1 b2 b3 := by
  have one : ∀ b : Nat, need (b : Int) = 1 → szN n b b1 b2 b3 = 1 := by
    intro b hb; simp [szN, hb]
  have slow : Lib.firstT b0 < 240 → (Lib.decodeN n b0 b1 b2 b3).2 = szN n b0 b1 b2 b3 := by
    intro hx
    rw [← Lib.slow_eq n b0 b1 b2 b3 hn h1 h2 h3 hx, slow_sz]
    rcases Lib.firstT_low hx with h | h | h | h | h | h | h
    · rw [Lib.firstT_C2 h]
      have e : need (b0 : Int) = 2 := by unfold need; rw [if_pos (by omega)]
      have el : lo2 (b0 : Int) = 128 := by unfold lo2; rw [if_neg (by omega), if_neg (by omega)]
      have eh : hi2 (b0 : Int) = 191 := by unfold hi2; rw [if_neg (by omega), if_neg (by omega)]
      simp only [szN, e, el, eh, Lib.accLo, Lib.accHi, cont]
      simp (decide := true) only [if_true, if_false, true_and, false_and, Nat.reduceDiv, Nat.reduceMod]
      (repeat' split) <;> omega
    · subst h
      simp only [szN, show need ((224 : Nat) : Int) = 3 by decide, show lo2 ((224 : Nat) : Int) = 160 by decide, show hi2 ((224 : Nat) : Int) = 191 by decide, show Lib.firstT 224 = 19 by decide, Lib.accLo, Lib.accHi, cont]
      simp (decide := true) only [if_true, if_false, true_and, false_and, Nat.reduceDiv, Nat.reduceMod]
      (repeat' split) <;> omega
    · rw [Lib.firstT_E1 h]
      have e : need (b0 : Int) = 3 := by unfold need; rw [if_neg (by omega), if_pos (by omega)]
      have el : lo2 (b0 : Int) = 128 := by unfold lo2; rw [if_neg (by omega), if_neg (by omega)]
      have eh : hi2 (b0 : Int) = 191 := by unfold hi2; rw [if_neg (by omega), if_neg (by omega)]
      simp only [szN, e, el, eh, Lib.accLo, Lib.accHi, cont]
      simp (decide := true) only [if_true, if_false, true_and, false_and, Nat.reduceDiv, Nat.reduceMod]
      (repeat' split) <;> omega
    · subst h
      simp only [szN, show need ((237 : Nat) : Int) = 3 by decide, show lo2 ((237 : Nat) : Int) = 128 by decide, show hi2 ((237 : Nat) : Int) = 159 by decide, show Lib.firstT 237 = 35 by decide, Lib.accLo, Lib.accHi, cont]
      simp (decide := true) only [if_true, if_false, true_and, false_and, Nat.reduceDiv, Nat.reduceMod]
      (repeat' split) <;> omega
    · subst h
      simp only [szN, show need ((240 : Nat) : Int) = 4 by decide, show lo2 ((240 : Nat) : Int) = 144 by decide, show hi2 ((240 : Nat) : Int) = 191 by decide, show Lib.firstT 240 = 52 by decide, Lib.accLo, Lib.accHi, cont]
      simp (decide := true) only [if_true, if_false, true_and, false_and, Nat.reduceDiv, Nat.reduceMod]
      (repeat' split) <;> omega
    · rw [Lib.firstT_F1 h]
      have e : need (b0 : Int) = 4 := by unfold need; rw [if_neg (by omega), if_neg (by omega), if_pos (by omega)]
      have el : lo2 (b0 : Int) = 128 := by unfold lo2; rw [if_neg (by omega), if_neg (by omega)]
      have eh : hi2 (b0 : Int) = 191 := by unfold hi2; rw [if_neg (by omega), if_neg (by omega)]
      simp only [szN, e, el, eh, Lib.accLo, Lib.accHi, cont]
      simp (decide := true) only [if_true, if_false, true_and, false_and, Nat.reduceDiv, Nat.reduceMod]
      (repeat' split) <;> omega
    · subst h
      simp only [szN, show need ((244 : Nat) : Int) = 4 by decide, show lo2 ((244 : Nat) : Int) = 128 by decide, show hi2 ((244 : Nat) : Int) = 143 by decide, show Lib.firstT 244 = 68 by decide, Lib.accLo, Lib.accHi, cont]
      simp (decide := true) only [if_true, if_false, true_and, false_and, Nat.reduceDiv, Nat.reduceMod]
      (repeat' split) <;> omega
  by_cases ha : b0 < 128
  · have hx : Lib.firstT b0 = 240 := by unfold Lib.firstT; rw [if_pos ha]
    rw [Lib.ascii_eq n b0 b1 b2 b3 hx, one b0 (by unfold need; rw [if_neg (by omega), if_neg (by omega), if_neg (by omega)])]
  · by_cases hb : b0 < 194 ∨ 244 < b0
    · have hx : Lib.firstT b0 = 241 := by unfold Lib.firstT; (repeat' split) <;> omega
      rw [Lib.bad_eq n b0 b1 b2 b3 h0 hx, one b0 (by unfold need; rw [if_neg (by omega), if_neg (by omega), if_neg (by omega)])]
    · have hx : Lib.firstT b0 < 240 := by
        clear slow one
        have e1 : 194 ≤ b0 := by omega
        have e2 : b0 ≤ 244 := by omega
        clear hb
        unfold Lib.firstT
        (repeat' split) <;> omega
      exact slow hx

theorem decL_sz (l : List Int) (hb : Bytes l) : (decL l).2 = gsz l := by
  have nat : ∀ x ∈ l, ∃ n : Nat, n < 256 ∧ x = (n : Int) := fun x hx => ⟨x.toNat, by have := hb x hx; omega, by have := hb x hx; omega⟩
  match l, nat with
  | [], _ => rfl
  | [b], nat =>
    obtain ⟨b0, h0, rfl⟩ := nat b (by simp)
    simp only [decL, List.length_cons, List.length_nil, List.getD_cons_zero, List.getD_cons_succ, List.getD_nil, Int.toNat_natCast]
    rw [if_neg (by omega), decN_sz _ _ _ _ _ (by omega) h0 (by simp) (by simp) (by simp)]
    simp [szN, gsz]
  | [b, c], nat =>
    obtain ⟨b0, h0, rfl⟩ := nat b (by simp)
    obtain ⟨b1, h1, rfl⟩ := nat c (by simp)
    simp only [decL, List.length_cons, List.length_nil, List.getD_cons_zero, List.getD_cons_succ, List.getD_nil, Int.toNat_natCast]
    rw [if_neg (by omega), decN_sz _ _ _ _ _ (by omega) h0 h1 (by simp) (by simp)]
    simp [szN, gsz]
  | [b, c, d], nat =>
    obtain ⟨b0, h0, rfl⟩ := nat b (by simp)
    obtain ⟨b1, h1, rfl⟩ := nat c (by simp)
    obtain ⟨b2, h2, rfl⟩ := nat d (by simp)
    simp only [decL, List.length_cons, List.length_nil, List.getD_cons_zero, List.getD_cons_succ, List.getD_nil, Int.toNat_natCast]
    rw [if_neg (by omega), decN_sz _ _ _ _ _ (by omega) h0 h1 h2 (by simp)]
    simp [szN, gsz]
  | b :: c :: d :: e :: t, nat =>
    obtain ⟨b0, h0, rfl⟩ := nat b (by simp)
    obtain ⟨b1, h1, rfl⟩ := nat c (by simp)
    obtain ⟨b2, h2, rfl⟩ := nat d (by simp)
    obtain ⟨b3, h3, rfl⟩ := nat e (by simp)
    simp only [decL, List.length_cons, List.length_nil, List.getD_cons_zero, List.getD_cons_succ, List.getD_nil, Int.toNat_natCast]
    rw [if_neg (by omega), decN_sz _ _ _ _ _ (by omega) h0 h1 h2 h3]
    simp [szN, gsz]

theorem bytes_take {l : List Int} (h : Bytes l) (n : Nat) : Bytes (l.take n) := fun x hx => h x (List.mem_of_mem_take hx)
theorem bytes_drop {l : List Int} (h : Bytes l) (n : Nat) : Bytes (l.drop n) := fun x hx => h x (List.mem_of_mem_drop hx)
theorem bytes_append {a b : List Int} (ha : Bytes a) (hb : Bytes b) : Bytes (a ++ b) := fun x hx => by
  rcases List.mem_append.1 hx with h | h
  · exact ha x h
  · exact hb x h

theorem slow_f (l : List Int) (hb : Bytes l) : utf8_decodeRuneSlow.f l = some (((decL l).1 : Int), ((decL l).2 : Int)) := by
  unfold utf8_decodeRuneSlow.f
  rw [if_pos]
  rw [List.all_eq_true]
  intro x hx
  have := hb x (List.mem_of_mem_take hx)
  simp only [byteB, Bool.and_eq_true, decide_eq_true_eq]
  omega

/-- The character that the decoder tells. -/
def runeOf (l : List Int) : Int := if 0 < l.length ∧ l.getD 0 0 < 128 then wrap32 (l.getD 0 0) else ((decL l).1 : Int)

theorem utf8_DecodeRune_spec (l : List Int) (hb : Bytes l) (k : Nat) (hk : 0 < k) : utf8_DecodeRune.f k l = some (runeOf l, (gsz l : Int)) := by
  obtain ⟨k, rfl⟩ := ex_succ' hk
  unfold utf8_DecodeRune.f
  simp only [utf8_DecodeRune.l0]
  by_cases h : 0 < l.length
  · rw [if_pos (by omega), if_pos (by omega), if_pos (by omega)]
    have e : rd l 0 = l.getD 0 0 := by simp [rd]
    have e2 : l.getD 0 0 = l[0] := by simp [h]
    by_cases h1 : rd l 0 < 128
    · rw [if_pos h1]
      have : gsz l = 1 := by
        rcases Nat.lt_or_ge (gsz l) 2 with h2 | h2
        · have := gsz_pos (q := l) (by intro e; rw [e] at h; simp at h); omega
        · exfalso
          have hn : need l[0] = 1 := by
            unfold need; rw [e, e2] at h1
            rw [if_neg (by omega), if_neg (by omega), if_neg (by omega)]
          match l, h with
          | [_], _ => simp [gsz] at h2
          | [b, c], _ => simp at hn; simp [gsz, hn] at h2
          | [b, c, d], _ => simp at hn; simp [gsz, hn] at h2
          | b :: c :: d :: e :: t, _ => simp at hn; simp [gsz, hn] at h2
      rw [this, e, runeOf, if_pos ⟨h, by rw [← e]; exact h1⟩]; rfl
    · rw [if_neg h1, slow_f l hb, Option.bind_some, decL_sz l hb, runeOf, if_neg (fun c => h1 (by rw [e]; exact c.2))]
  · rw [if_neg (by omega), slow_f l hb, Option.bind_some, decL_sz l hb, runeOf, if_neg (fun c => h c.1)]

end Go.Proofs.YtkdecmgockgmkaaDoor.Ad
