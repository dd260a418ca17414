/- A list of lists of texts of the call's own, no two rows in one block: the last row grows and is put back -/
import Derived.Test.YtmplcceghjofhaaHRegion
import Derived.Test.YtmplcceghjofhaaPureCel
namespace Go.Proofs.Ytmplcceghjofhaa.PF
open Go.RowKit Go.Proofs.YtmplcceghjofhaaW.PrintWords Go.Proofs.YtmplcceghjofhaaW.PrintLast Go.Proofs.YtmplcceghjofhaaW.PrintMore
set_option linter.unusedVariables false
set_option linter.unusedSimpArgs false
/-- f: whose row a block is: 0 the list's own, j + 1 the j-th row's. -/
structure RowsI (f : Nat → Nat) (W : World) (base : Nat) (v : Value) (vs : List Value) (cs : List (List ByteArray)) : Prop where
  own : W.ownsRow base 39 1 v cs.length vs
  ob : ∀ k, v.ownBlock = some k → f k = 0
  row : ∀ j u c, vs[j]? = some u → cs[j]? = some c → Kd.string.R 9 W base (fun k => f k = j + 1) u c
/-- Whose row a block is, where new ones (from N on) are t's. -/
def ftag (f : Nat → Nat) (N t k : Nat) : Nat := if k < N then f k else t
theorem ftag_old {f : Nat → Nat} {N t k : Nat} (h : k < N) : ftag f N t k = f k := if_pos h
theorem ftag_new {f : Nat → Nat} {N t k : Nat} (h : N ≤ k) : ftag f N t k = t := if_neg (by omega)
theorem rows_made (W : World) : RowsI (fun _ => 0) (W.alloc (.cells #[] 39 (0, 0))) W.heap.size (.slice (some ⟨W.heap.size, 0, none⟩) 0 0) [] [] :=
  ⟨World.ownsRow_made W #[] 0 (Nat.le_refl _) (Nat.zero_le _) rfl, fun _ _ => rfl, fun j u c h => by simp at h⟩
section
variable {f : Nat → Nat} {W w1 : World} {base : Nat} {v : Value} {vs : List Value} {cs : List (List ByteArray)}
theorem RowsI.len (h : RowsI f W base v vs cs) : vs.length = cs.length := by have := h.own.1; omega
theorem RowsI.below (h : RowsI f W base v vs cs) (hb : Below W.heap.size W w1) : RowsI f w1 base v vs cs :=
  ⟨pw_own_below h.own hb, h.ob, fun j u c hu hc => Kd.R_below (h.row j u c hu hc) hb⟩
/-- A row stands where what was written is no block of its own. -/
theorem row_move {t : Nat} {u : Value} {c : List ByteArray} (h : Kd.string.R 9 W base (fun k => f k = t) u c) {row : Option Nat} (hg : W.grownBy w1 row) (hr : ∀ k, row = some k → f k ≠ t) (t' : Nat) : Kd.string.R 9 w1 base (fun k => ftag f W.heap.size t' k = t) u c := by
  refine Kd.R_mono (Kd.R_move (Kd.R_bound h) (fun k hk => hg.block k hk.2.2.1 (fun e => hr k e.symm hk.1))) (fun k hk => ?_)
  show ftag f W.heap.size t' k = t
  rw [ftag_old hk.2.2.1]
  exact hk.1
theorem rows_snoc (h : RowsI f W base v vs cs) {v1 : Value} (hown : w1.ownsRow base 39 1 v1 (cs.length + 1) (vs ++ [.slice none 0 0])) (hg : W.grownBy w1 v.ownBlock)
    (hat : v1.ownBlock = v.ownBlock ∨ ∃ b, v1.ownBlock = some b ∧ W.heap.size ≤ b) : RowsI (ftag f W.heap.size 0) w1 base v1 (vs ++ [.slice none 0 0]) (cs ++ [[]]) where
  own := by rw [List.length_append]; exact hown
  ob k hk := by
    rcases hat with e | ⟨b, e, hb⟩
    · rw [e] at hk
      rw [ftag_old (own_lt h.own k hk)]
      exact h.ob k hk
    · rw [e] at hk
      cases hk
      exact ftag_new hb
  row j u c hu hc := by
    have hl := h.len
    by_cases hj : j < cs.length
    · rw [List.getElem?_append_left (by omega)] at hu
      rw [List.getElem?_append_left hj] at hc
      exact row_move (h.row j u c hu hc) hg (fun k hk => by rw [h.ob k hk]; omega) 0
    · have hjl := (List.getElem?_eq_some_iff.1 hc).1
      rw [List.length_append] at hjl
      obtain rfl : j = cs.length := by simp at hjl; omega
      rw [List.getElem?_append_right (by omega)] at hu hc
      simp [hl] at hu hc
      subst hu hc
      exact Kd.R_nil _ _ _ _ _
/-- The last row, as an append wants it. -/
theorem rows_last (h : RowsI f W base v vs cs) {k : Nat} {u : Value} {c : List ByteArray} (hu : vs[k]? = some u) (hc : cs[k]? = some c) :
    Kd.string.R 9 W base (fun b => ftag f W.heap.size (k + 1) b = k + 1) u c :=
  Kd.R_mono (Kd.R_bound (h.row k u c hu hc)) (fun b hb => by
    show ftag f W.heap.size (k + 1) b = k + 1
    rw [ftag_old hb.2.2.1]; exact hb.1)
/-- The k-th row has grown: the list itself stands; the row is put back. -/
theorem rows_put {g n e : Nat} (h : RowsI f W base (.slice (some ⟨g, 0, none⟩) n e) vs cs) {k : Nat} {u u1 : Value} {c c1 : List ByteArray} (hu : vs[k]? = some u) (hc : cs[k]? = some c)
    (hg : W.grownBy w1 u.ownBlock) (ho : Kd.string.R 9 w1 base (fun b => ftag f W.heap.size (k + 1) b = k + 1) u1 c1) :
    w1.cell? ⟨g, k, none⟩ = some u ∧ w1.frozen? ⟨g, k, none⟩ = false ∧ RowsI (ftag f W.heap.size (k + 1)) (w1.setCell ⟨g, k, none⟩ u1) base (.slice (some ⟨g, 0, none⟩) n e) (vs.set k u1) (cs.set k c1) := by
  have hkl := (List.getElem?_eq_some_iff.1 hc).1
  have h0 := h.ob g rfl
  have hgl := own_lt h.own g rfl
  have hne : ∀ b, u.ownBlock = some b → f b = k + 1 := fun b hb => (h.row k u c hu hc).1 b hb
  have hown : w1.ownsRow base 39 1 (.slice (some ⟨g, 0, none⟩) n e) cs.length vs := own_move h.own (fun b hb => hg.block b (own_lt h.own b hb) (fun e_ => by
    have h1 := hne b e_.symm
    rw [h.ob b hb] at h1
    omega))
  have hn : n = cs.length := by
    rcases h.own.2 with ⟨h', _⟩ | ⟨g', cap', cur, h', _⟩
    · cases h'
    · cases h'; rfl
  subst hn
  have hst := (hown.stored k u1)
  refine ⟨?_, ?_, ⟨by rw [List.length_set]; exact hst.1, fun b hb => ?_, fun j v2 c2 hv2 hc2 => ?_⟩⟩
  · have := hown.cells (g := g) rfl k u hu
    rwa [add_plain] at this
  · rcases hown.2 with ⟨h', _⟩ | ⟨g', cap', cur, h', _, hh, _⟩
    · cases h'
    · cases h'
      simp [World.frozen?, hh]
  · rw [ftag_old (own_lt h.own b hb)]
    exact h.ob b hb
  · have hgt : ∀ t, t ≠ 0 → ∀ b, ftag f W.heap.size (k + 1) b = t → b ≠ g := fun t ht b hb e_ => by
      subst e_
      rw [ftag_old hgl, h0] at hb
      exact ht hb.symm
    by_cases hj : j = k
    · subst hj
      rw [List.getElem?_set_self (by have := h.len; omega)] at hv2
      rw [List.getElem?_set_self hkl] at hc2
      cases hv2
      cases hc2
      exact Kd.R_far ho (p := ⟨g, j, none⟩) (fun b hb => hgt (j + 1) (by omega) b hb) _
    · rw [List.getElem?_set_ne (Ne.symm hj)] at hv2 hc2
      exact Kd.R_far (row_move (h.row j v2 c2 hv2 hc2) hg (fun b hb => by rw [hne b hb]; omega) (k + 1)) (p := ⟨g, k, none⟩) (fun b hb => hgt (j + 1) (by omega) b hb) _
/-- What is handed back. -/
theorem rows_V (h : RowsI f W base v vs cs) : Kd.V (Kd.slice 9 Kd.string) 39 W base (fun k => base ≤ k) v cs := by
  refine R_toV (ok := fun _ => True) ⟨fun _ _ => trivial, vs, h.own, (by show vs.length = cs.length * 1; have := h.len; omega), fun j c hc => ?_⟩
  have hj := (List.getElem?_eq_some_iff.1 hc).1
  have hjv : j < vs.length := by rw [h.len]; exact hj
  have hu := List.getElem?_eq_getElem hjv
  have e1 : (vs.drop (j * (Kd.slice 9 Kd.string).sz)).take (Kd.slice 9 Kd.string).sz = [vs[j]] := by
    show (vs.drop (j * 1)).take 1 = [vs[j]]
    rw [Nat.mul_one, List.drop_eq_getElem_cons hjv]
    rfl
  rw [e1]
  refine ⟨_, rfl, Kd.R_mono (h.row j _ c hu hc) (fun b hb => ⟨trivial, fun e_ => ?_⟩)⟩
  have := h.ob b e_.symm
  omega
end
def fourB (n : Int) : ByteArray := strOfNums [n / 16777216 % 256, n / 65536 % 256, n / 256 % 256, n % 256]
theorem four_cell (x : S25) : fourB x.f0 ++ fourB x.f1 = cellF x := by
  unfold fourB cellF
  apply ByteArray.ext
  rw [ByteArray.data_append]
  simp [strOfNums]
theorem four_str (n : Int) (h0 : 0 ≤ n) (h1 : n ≤ 4294967295) (w : World) : (convert 57 9 (.slice (some ⟨w.heap.size, 0, none⟩) 4 4)).run Try.prog (w.alloc (.cells #[.int .u8 (n / 16777216), .int .u8 (n / 65536 % 256), .int .u8 (n / 256 % 256), .int .u8 (n % 256)] 5)) =
    .ok (.string (fourB n)) (w.alloc (.cells #[.int .u8 (n / 16777216), .int .u8 (n / 65536 % 256), .int .u8 (n / 256 % 256), .int .u8 (n % 256)] 5)) := by
  have e : n / 16777216 % 256 = n / 16777216 := by omega
  unfold fourB
  rw [e]
  have hb := blk_new w (.cells #[.int .u8 (n / 16777216), .int .u8 (n / 65536 % 256), .int .u8 (n / 256 % 256), .int .u8 (n % 256)] 5 (0, 0))
  refine string_of_reads (xs := [n / 16777216, n / 65536 % 256, n / 256 % 256, n % 256]) Try.underlying57 Try.underlying5 Try.underlying9 ⟨rfl, by decide, fun _ => ⟨⟨w.heap.size, 0, none⟩, rfl, fun j hj => ?_⟩⟩
  have hc := fun i => blk_cell hb i
  rcases (by omega : j = 0 ∨ j = 1 ∨ j = 2 ∨ j = 3) with rfl | rfl | rfl | rfl
  · exact (hc 0).trans rfl
  · exact (hc 1).trans rfl
  · exact (hc 2).trans rfl
  · exact (hc 3).trans rfl
set_option maxHeartbeats 4000000 in
set_option maxRecDepth 100000 in
theorem four_calls (n : Int) (h0 : 0 ≤ n) (h1 : n ≤ 4294967295) (w : World) : Calls Try.prog 30 #[.int .i64 n] w fun e w' => e = .returned (.string (fourB n)) ∧ Below w.heap.size w w' := by
  have hu57 := Try.underlying57
  have hcv := four_str n h0 h1 w
  go_enter Try.func30, Try.ntmps30
  go_wp2_with fail
  go_ret
  exact ⟨rfl, below_alloc (Below.refl _ w) _⟩
end Go.Proofs.Ytmplcceghjofhaa.PF
