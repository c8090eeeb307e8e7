/- Conversions between texts and bytes as events of a walk: '[]byte("..")' of a constant, '[]byte(s)': what is made is only read (Kd.V). -/
import Derived.Test.YtloafpnniooliaaDoorWMore
import Derived.Lib.ConvBytes
namespace Go.Proofs.YtloafpnniooliaaDoor.Ext
open Go Go.RowKit Go.Proofs.YtloafpnniooliaaDoorW.PrintWords Go.Proofs.YtloafpnniooliaaDoorW.PrintWords.Kd
set_option linter.unusedVariables false
set_option linter.unusedSimpArgs false

/-! ### Short names, for walks that are long -/
abbrev yy : Bool := true
abbrev nn : Bool := false
abbrev zT := @List.setIfInBounds_toArray
abbrev z0 := @List.set_cons_zero
abbrev zS := @List.set_cons_succ
abbrev bA := @below_alloc
abbrev bN := @pw_below_drewN
abbrev bD := @below_drew1
abbrev bS := @below_set
abbrev kN := @blk_drewN
abbrev kD := @blk_drew
abbrev kA := @blk_alloc
abbrev vA := @V_alloc
abbrev vN := @V_drewN
abbrev vD := @V_drew

theorem run_mark {P : Program} (W0 : World) (t e : TypeId) (cs : Array Value) (n c : Nat) (ht : P.underlying t = some (.slice e)) (he : P.underlying e = some (.int .u8)) :
    (convert t t (.slice (some ⟨W0.heap.size, 0, none⟩) n c)).run P (W0.alloc (.cells cs e)) = .ok (.slice (some ⟨W0.heap.size, 0, none⟩) n c) ((W0.alloc (.cells cs e)).freeze ⟨W0.heap.size, cs.size, none⟩ 1) := by
  have hsh : (W0.alloc (.cells cs e)).shape? W0.heap.size = some (e, cs.size) := by
    simp [World.shape?, World.alloc, -World.alloc_eq]
  simp [convert, run_underlying ht, run_underlying he, markStringish, hsh, Result.andThen]

theorem mark_old (W0 : World) (o : Obj) (m k : Nat) (hk : k < W0.heap.size) : ((W0.alloc o).freeze ⟨W0.heap.size, m, none⟩ 1).heap[k]? = W0.heap[k]? := by
  have h1 : W0.heap.size ≠ k := by omega
  simp [World.freeze, World.alloc, -World.alloc_eq, Array.getElem?_modify, Array.getElem?_push, h1, Ne.symm h1]

theorem mark_new (W0 : World) (cs : Array Value) (e : TypeId) : ((W0.alloc (.cells cs e)).freeze ⟨W0.heap.size, cs.size, none⟩ 1).heap[W0.heap.size]? = some (.cells cs e (cs.size, cs.size + 1)) := by
  simp [World.freeze, World.alloc, -World.alloc_eq]
  rw [Array.getElem_modify_self]
  simp

theorem mark_size (W0 : World) (o : Obj) (m : Nat) : ((W0.alloc o).freeze ⟨W0.heap.size, m, none⟩ 1).heap.size = W0.heap.size + 1 := by
  simp [World.freeze, World.alloc, -World.alloc_eq]

/-- A block of bytes that is new is read as what it holds. -/
theorem V_block {w : World} {g e base N : Nat} {cs : Array Value} {fr : Nat × Nat} {xs : List Int} {c : Nat} (hb : w.heap[g]? = some (.cells cs e fr)) (hc : ∀ j, j < xs.length → cs[j]? = some (.int .u8 (xs.getD j 0)))
    (hl : xs.length ≤ c) (hm : xs.length ≤ 9223372036854775807) (hN : N ≤ g) : V (Kd.int .u8) e w base (fun k => N ≤ k) (.slice (some ⟨g, 0, none⟩) xs.length c) xs := by
  refine ⟨_, c, rfl, hl, fun W' hW => ?_⟩
  have hlt : g < w.heap.size := by
    rcases Nat.lt_or_ge g w.heap.size with h | h
    · exact h
    · rw [Array.getElem?_eq_none h] at hb; cases hb
  have hb' := (hW g hN hlt).trans hb
  refine Kd.C_of_reads (d := (0 : Int)) (h1 := fun _ => rfl) ⟨rfl, hm, fun hp => ⟨_, rfl, fun j hj => ?_⟩⟩
  rw [add_plain]
  simp [World.cell?, hb', hc j hj]

/-- string(b) of a row that is read, its length spelled anew. -/
theorem string_at {P : Program} {w : World} {src dst e : TypeId} {A : Option Addr} {n m c : Nat} {xs : List Int} (hs : P.underlying src = some (.slice e)) (he : P.underlying e = some (.int .u8)) (hd : P.underlying dst = some .string)
    (h : (Kd.int .u8).C w A n xs) (hn : n = m) : (convert src dst (.slice A m c)).run P w = .ok (.string (strOfNums xs)) w := by
  subst hn
  exact Kd.C_string hs he hd h

/-- string(b) of what may be shared. -/
theorem V_string {P : Program} {w : World} {e t base : Nat} {ok : Nat → Prop} {src dst : TypeId} {v : Value} {xs : List Int} (hs : P.underlying src = some (.slice e)) (he : P.underlying e = some (.int .u8)) (hd : P.underlying dst = some .string)
    (h : V (Kd.int .u8) t w base ok v xs) : (convert src dst v).run P w = .ok (.string (strOfNums xs)) w := by
  obtain ⟨A, c, rfl, hl, hf⟩ := h
  exact Kd.C_string hs he hd (F_now hf)

/-- 's[:j:j]': a cut whose room is its length. -/
theorem cut_to3 {P : Program} (t e : TypeId) (kh km : IntKind) {i : TypeInfo} (ht : P.underlying t = some (.slice e)) (hi : P.info? e = some i) (A : Option Addr) (n c : Nat) (j : Int) (h0 : 0 ≤ j) (hm : j ≤ n) (hc : n ≤ c) :
    ∀ W : World, (Instr.slice t (.slice A n c) none (some (.int kh j)) (some (.int km j))).run P W = .ok (.slice A j.toNat j.toNat) W := by
  intro W
  have hel : P.elem t = e := by simp [Program.elem, ht]
  have hu : P.underlying t = some (.slice (P.elem t)) := by rw [hel]; exact ht
  have ha : (A.map fun x => x.add 0) = A := by cases A <;> simp [Addr.add]
  rw [run_slice_hm W t A n c hu kh km j j h0 (Int.le_refl _) (by omega), hel]
  simp [sizeOf, typeInfo, hi, sliced, Result.andThen, ha]

section
variable {P : Program} {ops : Array Oper} {o : Oper} {rest : List Oper} {a : Act} {Q : Exit → Act → World → Prop} {Kc : Act → World → Prop}

theorem below_marked (W0 : World) (o : Obj) (m : Nat) : Below W0.heap.size W0 ((W0.alloc o).freeze ⟨W0.heap.size, m, none⟩ 1) :=
  ⟨by simp [World.freeze, World.alloc, -World.alloc_eq], by simp [World.freeze, World.alloc, -World.alloc_eq], by simp [World.freeze, World.alloc, -World.alloc_eq], by rw [mark_size]; omega, fun k hk => mark_old _ _ _ k hk⟩

theorem ofNats (l : List UInt8) (j : Nat) : ((l.map fun b => (b.toNat : Int)).getD j 0) = ((l.getD j 0).toNat : Int) := by
  simp only [List.getD_eq_getElem?_getD, List.getElem?_map]
  cases l[j]? <;> rfl

/-- The bytes of a string, as numbers. -/
theorem bytesOf_length (s : ByteArray) : (bytesOf s).length = s.size := by
  unfold bytesOf
  rw [List.length_map, Array.length_toList]
  rfl

/-- '[]byte("..")' of a constant: the literal was made just now; its mark. -/
theorem V_mark {W0 : World} (e t : TypeId) (hgd : o.guard = none) {N : Tmp} (_hd : o.dst = some N) (x : Operand) (ho : o.op = .convert t t x) (ht : P.underlying t = some (.slice e)) (he : P.underlying e = some (.int .u8))
    {xs : List Int} {inner : Array Value} (hx : a.eval x = .slice (some ⟨W0.heap.size, 0, none⟩) xs.length xs.length) (hi : inner.toList = xs.map (Value.int .u8)) (hm : xs.length ≤ 9223372036854775807)
    (h : ∀ v1 w1, V (Kd.int .u8) e w1 W0.heap.size (fun k => W0.heap.size ≤ k) v1 xs → Below W0.heap.size W0 w1 → W0.grownBy w1 none → (∃ b, v1.ownBlock = some b ∧ W0.heap.size ≤ b) → wpList P ops Q rest (a.put o.dst v1) w1) :
    wpList P ops Q (o :: rest) a (W0.alloc (.cells inner e)) := by
  have hr := run_mark (P := P) W0 t e inner xs.length xs.length ht he
  refine event_run hgd (v := .slice (some ⟨W0.heap.size, 0, none⟩) xs.length xs.length) (w1 := (W0.alloc (.cells inner e)).freeze ⟨W0.heap.size, inner.size, none⟩ 1) ?_
    (h _ _ (V_block (mark_new W0 inner e) (fun j hj => by rw [← Array.getElem?_toList, hi]; simp [hj]) (Nat.le_refl _) hm (Nat.le_refl _)) (below_marked W0 _ _) (grown_of_below (below_marked W0 _ _) none) ⟨_, by simp [Value.ownBlock], Nat.le_refl _⟩)
  simp [execOp, ho, hx, hr, Result.andThen]

/-- '[]byte(s)'. -/
theorem V_conv {W : World} (src dst e : TypeId) (hgd : o.guard = none) {N : Tmp} (_hd : o.dst = some N) (x : Operand) (ho : o.op = .convert src dst x) {u : TypeDesc} (hs : P.underlying src = some u) (ht : P.underlying dst = some (.slice e)) (he : P.underlying e = some (.int .u8))
    (s : ByteArray) (hx : a.eval x = .string s) (hm : s.size ≤ 9223372036854775807)
    (h : ∀ v1 w1, V (Kd.int .u8) e w1 W.heap.size (fun k => W.heap.size ≤ k) v1 (bytesOf s) → Below W.heap.size W w1 → W.grownBy w1 none → (∃ b, v1.ownBlock = some b ∧ W.heap.size ≤ b) → wpList P ops Q rest (a.put o.dst v1) w1) :
    wpList P ops Q (o :: rest) a W := by
  have hr := Lib.run_convert_string_bytes (P := P) W src dst e s hs ht he
  have hb : Below W.heap.size W (Lib.bytesWorld W e s) :=
    ⟨by simp [Lib.bytesWorld, World.freeze, World.alloc, World.drew, -World.alloc_eq, -World.drew_eq], by simp [Lib.bytesWorld, World.freeze, World.alloc, World.drew, -World.alloc_eq, -World.drew_eq], by simp [Lib.bytesWorld, World.freeze, World.alloc, World.drew, -World.alloc_eq, -World.drew_eq], by rw [Lib.bytesWorld_size]; omega, fun k hk => Lib.bytesWorld_at_old _ _ _ k hk⟩
  have hl := bytesOf_length s
  have hV : V (Kd.int .u8) e (Lib.bytesWorld W e s) W.heap.size (fun k => W.heap.size ≤ k) (.slice (some ⟨W.heap.size, 0, none⟩) (bytesOf s).length (grownCap W s.size 0 e)) (bytesOf s) := by
    refine V_block (Lib.bytesWorld_at_new W e s) (fun j hj => ?_) ?_ (by omega) (Nat.le_refl _)
    · have hj' : j < s.data.size := by rw [hl] at hj; exact hj
      have hj2 : j < s.size := hj'
      simp [Lib.bytesCells, Array.getElem?_append, hj', hj2, bytesOf, List.getD_eq_getElem?_getD]
    · rw [hl]; exact grownCap_ge _ _ _ _
  rw [hl] at hV
  refine event_run hgd (v := .slice (some ⟨W.heap.size, 0, none⟩) s.size (grownCap W s.size 0 e)) (w1 := Lib.bytesWorld W e s) ?_
    (h _ _ hV hb (grown_of_below hb none) ⟨_, by simp [Value.ownBlock], Nat.le_refl _⟩)
  simp [execOp, ho, hx, hr, Result.andThen]

/-- '[]byte(s)' as one step of a region. -/
theorem V_conv_step {W : World} (src dst e : TypeId) (hw : Region.wanted o (yielded ops a.tmps) = true) {N : Tmp} (_hd : o.dst = some N) (x : Operand) (ho : o.op = .convert src dst x) {u : TypeDesc} (hs : P.underlying src = some u) (ht : P.underlying dst = some (.slice e)) (he : P.underlying e = some (.int .u8))
    (s : ByteArray) (hx : a.eval x = .string s) (hm : s.size ≤ 9223372036854775807)
    (h : ∀ v1 w1, V (Kd.int .u8) e w1 W.heap.size (fun k => W.heap.size ≤ k) v1 (bytesOf s) → Below W.heap.size W w1 → W.grownBy w1 none → (∃ b, v1.ownBlock = some b ∧ W.heap.size ≤ b) → Kc (a.put o.dst v1) w1) :
    if Region.wanted o (yielded ops a.tmps) = true then Oper.wp P o a W Kc Q else Kc (a.put o.dst undef) W := by
  have hr := Lib.run_convert_string_bytes (P := P) W src dst e s hs ht he
  have hb : Below W.heap.size W (Lib.bytesWorld W e s) :=
    ⟨by simp [Lib.bytesWorld, World.freeze, World.alloc, World.drew, -World.alloc_eq, -World.drew_eq], by simp [Lib.bytesWorld, World.freeze, World.alloc, World.drew, -World.alloc_eq, -World.drew_eq], by simp [Lib.bytesWorld, World.freeze, World.alloc, World.drew, -World.alloc_eq, -World.drew_eq], by rw [Lib.bytesWorld_size]; omega, fun k hk => Lib.bytesWorld_at_old _ _ _ k hk⟩
  have hl := bytesOf_length s
  have hV : V (Kd.int .u8) e (Lib.bytesWorld W e s) W.heap.size (fun k => W.heap.size ≤ k) (.slice (some ⟨W.heap.size, 0, none⟩) (bytesOf s).length (grownCap W s.size 0 e)) (bytesOf s) := by
    refine V_block (Lib.bytesWorld_at_new W e s) (fun j hj => ?_) ?_ (by omega) (Nat.le_refl _)
    · have hj' : j < s.data.size := by rw [hl] at hj; exact hj
      have hj2 : j < s.size := hj'
      simp [Lib.bytesCells, Array.getElem?_append, hj', hj2, bytesOf, List.getD_eq_getElem?_getD]
    · rw [hl]; exact grownCap_ge _ _ _ _
  rw [hl] at hV
  refine event_step hw (v := .slice (some ⟨W.heap.size, 0, none⟩) s.size (grownCap W s.size 0 e)) (w1 := Lib.bytesWorld W e s) ?_
    (h _ _ hV hb (grown_of_below hb none) ⟨_, by simp [Value.ownBlock], Nat.le_refl _⟩)
  simp [execOp, ho, hx, hr, Result.andThen]

end
end Go.Proofs.YtloafpnniooliaaDoor.Ext
