/- The document's Cells: region 8 -/
import Derived.Test.YtmplcceghjofhaaHRefC0
import Derived.Test.YtmplcceghjofhaaHCells16
namespace Go.Proofs.Ytmplcceghjofhaa.PF
open Go.RowKit Go.Proofs.YtmplcceghjofhaaW.PrintWords Go.Proofs.YtmplcceghjofhaaW.PrintLast Go.Proofs.YtmplcceghjofhaaW.PrintMore
set_option linter.unusedVariables false
set_option linter.unusedSimpArgs false
theorem below_step' {B : Nat} {w W w2 : World} (h : Below B w W) (k : Below W.heap.size W w2) (hs : B ≤ W.heap.size) : Below B w w2 := h.trans (k.mono hs)
theorem RowsI.ge {f : Nat → Nat} {W : World} {base g n e : Nat} {vs : List Value} {cs : List (List ByteArray)} (h : RowsI f W base (.slice (some ⟨g, 0, none⟩) n e) vs cs) : base ≤ g := by
  rcases h.own.2 with ⟨h', _⟩ | ⟨g', cap', cur, h', hb, _⟩
  · cases h'
  · cases h'; exact hb
theorem list_last (init : List (List ByteArray)) (c : List ByteArray) (k : Nat) (h : init.length = k) : (init ++ [c])[k]? = some c := by subst h; simp
theorem list_set (init : List (List ByteArray)) (c d : List ByteArray) (k : Nat) (h : init.length = k) : (init ++ [c]).set k d = init ++ [d] := by subst h; simp
section
variable {P : Program} {o : Oper} {a : Act} {Q : Exit → Act → World → Prop} {Kc : Act → World → Prop} {α : Type}
/-- append, as one operation of a region that draws its order. -/
theorem oper_append (d : Kd α) {w0 W : World} (base : Nat) (hgd : o.guard = none) (s x : Operand) (t e : TypeId) (z : Value) (bytes : Nat)
    (ho : o.op = .call { callee := .builtin .append, args := #[s, x], argTypes := #[t, t] })
    (ht : P.underlying t = some (.slice e)) (hinfo : (P.info? e).map (fun i => (i.zero, i.size, i.bytes)) = some (some z, d.sz, bytes)) (hz : z.cells.size = d.sz) (hs0 : 0 < d.sz) (hb0 : 0 < bytes)
    (v : Value) (xs : List α) (p : α) (cs : List Value) (ok okp : Nat → Prop) (hs : a.eval s = v) (hx : a.eval x = .slice (some ⟨W.heap.size, 0, none⟩) 1 1) (hp : d.M W base okp p cs) (hokp : ∀ k, okp k → ok k ∧ some k ≠ v.ownBlock) (hfresh : ∀ k, W.heap.size ≤ k → ok k)
    (HO : d.R e W base ok v xs) (HB : Below base w0 W) (hbase : base ≤ W.heap.size) (hl : (xs.length + 1) * bytes ≤ 140737488355328)
    (h : ∀ v1 w1, d.R e w1 base ok v1 (xs ++ [p]) → Below base w0 w1 → W.grownBy w1 v.ownBlock → (v1.ownBlock = v.ownBlock ∨ ∃ b, v1.ownBlock = some b ∧ W.heap.size ≤ b) → Kc (a.put o.dst v1) w1) : Oper.wp P o a (W.alloc (.cells cs.toArray e)) Kc Q := by
  have hw : Region.wanted o (yielded #[] a.tmps) = true := by simp [Region.wanted, hgd]
  have h1 := Kd.R_append_step (Q := Q) (ops := #[]) d base hw s x t e z bytes ho ht hinfo hz hs0 hb0 v xs p cs ok okp hs hx hp hokp hfresh HO HB hbase hl h
  rw [if_pos hw] at h1
  exact h1
end
abbrev o20_8_0 : Oper := { dst := some 22, op := .move (.tmp 3), type := 33, pos := "ref.go:67", after := #[], guard := none }
abbrev o20_8_1 : Oper := { dst := some 23, op := .move (.tmp 5), type := 3, pos := "ref.go:67", after := #[], guard := none }
abbrev o20_8_2 : Oper := { dst := some 24, op := .move (.tmp 3), type := 33, pos := "ref.go:67", after := #[], guard := none }
abbrev o20_8_3 : Oper := { dst := some 25, op := .move (.tmp 5), type := 3, pos := "ref.go:67", after := #[], guard := none }
abbrev o20_8_4 : Oper := { dst := some 26, op := .indexAddr 33 (.tmp 24) (.tmp 25), type := 0, pos := "ref.go:67", after := #[{ on := 2, ground := .data }, { on := 3, ground := .data }], guard := none }
abbrev o20_8_5 : Oper := { dst := some 27, op := .load 39 (.tmp 26), type := 39, pos := "ref.go:67", after := #[{ on := 4, ground := .data }], guard := none }
abbrev o20_8_6 : Oper := { dst := some 28, op := .move (.tmp 0), type := 22, pos := "ref.go:67", after := #[], guard := none }
abbrev o20_8_7 : Oper := { dst := some 29, op := .move (.tmp 4), type := 3, pos := "ref.go:67", after := #[], guard := none }
abbrev o20_8_8 : Oper := { dst := some 30, op := .indexAddr 22 (.tmp 28) (.tmp 29), type := 0, pos := "ref.go:67", after := #[{ on := 6, ground := .data }, { on := 7, ground := .data }], guard := none }
abbrev o20_8_9 : Oper := { dst := some 31, op := .fieldAddr 25 (.tmp 30) 0, type := 0, pos := "ref.go:67", after := #[{ on := 8, ground := .data }], guard := none }
abbrev o20_8_10 : Oper := { dst := some 32, op := .load 3 (.tmp 31), type := 3, pos := "ref.go:67", after := #[{ on := 9, ground := .data }], guard := none }
abbrev o20_8_11 : Oper := { dst := some 33, op := .call { callee := .value (.func 30), args := #[.tmp 32], argTypes := #[3] }, type := 9, pos := "ref.go:67", after := #[{ on := 10, ground := .data }], guard := none }
abbrev o20_8_12 : Oper := { dst := some 34, op := .move (.tmp 0), type := 22, pos := "ref.go:67", after := #[], guard := none }
abbrev o20_8_13 : Oper := { dst := some 35, op := .move (.tmp 4), type := 3, pos := "ref.go:67", after := #[], guard := none }
abbrev o20_8_14 : Oper := { dst := some 36, op := .indexAddr 22 (.tmp 34) (.tmp 35), type := 0, pos := "ref.go:67", after := #[{ on := 12, ground := .data }, { on := 13, ground := .data }], guard := none }
abbrev o20_8_15 : Oper := { dst := some 37, op := .fieldAddr 25 (.tmp 36) 1, type := 0, pos := "ref.go:67", after := #[{ on := 14, ground := .data }], guard := none }
abbrev o20_8_16 : Oper := { dst := some 38, op := .load 3 (.tmp 37), type := 3, pos := "ref.go:67", after := #[{ on := 15, ground := .data }], guard := none }
abbrev o20_8_17 : Oper := { dst := some 39, op := .call { callee := .value (.func 30), args := #[.tmp 38], argTypes := #[3] }, type := 9, pos := "ref.go:67", after := #[{ on := 16, ground := .data }, { on := 11, ground := .chain }], guard := none }
abbrev o20_8_18 : Oper := { dst := some 40, op := .binOp .add 9 (.tmp 33) (.tmp 39) 9, type := 9, pos := "ref.go:67", after := #[{ on := 11, ground := .data }, { on := 17, ground := .data }], guard := none }
abbrev o20_8_19 : Oper := { dst := some 41, op := .buildSlice 39 1 #[(0, .tmp 40)], type := 39, pos := "ref.go:67", after := #[{ on := 18, ground := .data }], guard := none }
abbrev o20_8_20 : Oper := { dst := some 42, op := .call { callee := .builtin .append, args := #[.tmp 27, .tmp 41], argTypes := #[39, 39] }, type := 39, pos := "ref.go:67", after := #[{ on := 5, ground := .data }, { on := 19, ground := .data }, { on := 17, ground := .chain }], guard := none }
abbrev o20_8_21 : Oper := { dst := some 43, op := .indexAddr 33 (.tmp 22) (.tmp 23), type := 0, pos := "ref.go:67", after := #[{ on := 0, ground := .data }, { on := 1, ground := .data }, { on := 0, ground := .phase }, { on := 1, ground := .phase }, { on := 2, ground := .phase }, { on := 3, ground := .phase }, { on := 4, ground := .phase }, { on := 5, ground := .phase }, { on := 6, ground := .phase }, { on := 7, ground := .phase }, { on := 8, ground := .phase }, { on := 9, ground := .phase }, { on := 10, ground := .phase }, { on := 11, ground := .phase }, { on := 12, ground := .phase }, { on := 13, ground := .phase }, { on := 14, ground := .phase }, { on := 15, ground := .phase }, { on := 16, ground := .phase }, { on := 17, ground := .phase }, { on := 18, ground := .phase }, { on := 19, ground := .phase }, { on := 20, ground := .phase }], guard := none }
abbrev o20_8_22 : Oper := { dst := none, op := .store 39 (.tmp 43) (.tmp 42), type := 0, pos := "ref.go:67", after := #[{ on := 21, ground := .data }, { on := 20, ground := .data }, { on := 20, ground := .chain }, { on := 0, ground := .phase }, { on := 1, ground := .phase }, { on := 2, ground := .phase }, { on := 3, ground := .phase }, { on := 4, ground := .phase }, { on := 5, ground := .phase }, { on := 6, ground := .phase }, { on := 7, ground := .phase }, { on := 8, ground := .phase }, { on := 9, ground := .phase }, { on := 10, ground := .phase }, { on := 11, ground := .phase }, { on := 12, ground := .phase }, { on := 13, ground := .phase }, { on := 14, ground := .phase }, { on := 15, ground := .phase }, { on := 16, ground := .phase }, { on := 17, ground := .phase }, { on := 18, ground := .phase }, { on := 19, ground := .phase }, { on := 20, ground := .phase }], guard := none }
set_option maxHeartbeats 4000000 in
set_option maxRecDepth 100000 in
theorem refc8 {Q : Exit → Act → World → Prop} (hQp : ∀ c t t' d w, Q (.panic c) ⟨t, d⟩ w → Q (.panic c) ⟨t', d⟩ w) (f : Nat → Nat) (base : Nat) (W0 : World) (g n e k i n0 c0 : Nat) (ad : Addr) (vs : List Value) (u : Value) (init : List (List ByteArray)) (c : List ByteArray) (x : S25) (wr : World)
    (hn : n = k + 1) (hk : init.length = k) (hlen : n ≤ 100000) (hcl : c.length ≤ 100000) (hin : i < n0) (hfit : fit x = true) (hu : vs[k]? = some u) (hR : RowsI f wr base (.slice (some ⟨g, 0, none⟩) n e) vs (init ++ [c])) (hB : Below base W0 wr) (hbs : base ≤ wr.heap.size)
    (hx : ∀ W', Below base W0 W' → W'.cell? (ad.add (i * 2)) = some (.int .i64 x.f0) ∧ W'.cell? ⟨(ad.add (i * 2)).block, (ad.add (i * 2)).off + 1, none⟩ = some (.int .i64 x.f1)) (s1 s2 s6 s7 s8 s9 s10 s11 s12 s13 s14 s15 s16 s17 s18 s19 s20 s21 s22 s23 s24 s25 s26 s27 s28 s29 s30 s31 s32 s33 s34 s35 s36 s37 s38 s39 s40 s41 s42 s43 s44 : Value) (d : List Deferred)
    (h : ∀ w' f' vs', RowsI f' w' base (.slice (some ⟨g, 0, none⟩) n e) vs' (init ++ [c ++ [cellF x]]) → Below base W0 w' → ∀ u22 u23 u24 u25 u26 u27 u28 u29 u30 u31 u32 u33 u34 u35 u36 u37 u38 u39 u40 u41 u42 u43 : Value, Q .normal { tmps := ((.slice (some ad) n0 c0) :: (s1) :: (s2) :: (.slice (some ⟨g, 0, none⟩) n e) :: (.int .i64 i) :: (.int .i64 k) :: (s6) :: (s7) :: (s8) :: (s9) :: (s10) :: (s11) :: (s12) :: (s13) :: (s14) :: (s15) :: (s16) :: (s17) :: (s18) :: (s19) :: (s20) :: (s21) :: (u22) :: (u23) :: (u24) :: (u25) :: (u26) :: (u27) :: (u28) :: (u29) :: (u30) :: (u31) :: (u32) :: (u33) :: (u34) :: (u35) :: (u36) :: (u37) :: (u38) :: (u39) :: (u40) :: (u41) :: (u42) :: (u43) :: (s44) :: []).toArray, defers := d } w') :
    (Code.region 8 #[o20_8_0, o20_8_1, o20_8_2, o20_8_3, o20_8_4, o20_8_5, o20_8_6, o20_8_7, o20_8_8, o20_8_9, o20_8_10, o20_8_11, o20_8_12, o20_8_13, o20_8_14, o20_8_15, o20_8_16, o20_8_17, o20_8_18, o20_8_19, o20_8_20, o20_8_21, o20_8_22] true).wp Try.prog Q { tmps := ((.slice (some ad) n0 c0) :: (s1) :: (s2) :: (.slice (some ⟨g, 0, none⟩) n e) :: (.int .i64 i) :: (.int .i64 k) :: (s6) :: (s7) :: (s8) :: (s9) :: (s10) :: (s11) :: (s12) :: (s13) :: (s14) :: (s15) :: (s16) :: (s17) :: (s18) :: (s19) :: (s20) :: (s21) :: (s22) :: (s23) :: (s24) :: (s25) :: (s26) :: (s27) :: (s28) :: (s29) :: (s30) :: (s31) :: (s32) :: (s33) :: (s34) :: (s35) :: (s36) :: (s37) :: (s38) :: (s39) :: (s40) :: (s41) :: (s42) :: (s43) :: (s44) :: []).toArray, defers := d } wr := by
  have HQ := Aside0.mk h
  have HX := Aside0.mk hx
  have HR := Aside0.mk (hR.below (below_drew (Below.refl _ _)))
  have HB := Aside0.mk (below_drew1 hB)
  have HN := Aside0.mk hn
  have HLK := Aside0.mk hk
  have HZ : Aside0 (base ≤ wr.drew.heap.size) := ⟨hbs⟩
  have HU := Aside0.mk hu
  have hkn : k < n := by omega
  have hkn1 : (k : Int) < (n : Int) := by omega
  have hk0 : (0 : Int) ≤ (k : Int) := by omega
  have hi0 : (0 : Int) ≤ (i : Int) := by omega
  have hi1 : (i : Int) < (n0 : Int) := by omega
  unfold fit at hfit
  rw [decide_eq_true_iff] at hfit
  obtain ⟨f00, f01, f10, f11⟩ := hfit
  have hu33 := Try.underlying33
  have hu39 := Try.underlying39
  have hu22 := Try.underlying22
  have hu25 := Try.underlying25
  have EF := Aside0.mk (four_cell x)
  clear hR hB h hx hn hk hu
  have HSx : Aside0 (∀ W' : World, RowsI f W' base (.slice (some ⟨g, 0, none⟩) n e) vs (init ++ [c]) → Below base W0 W' → W'.cell? ⟨g, k, none⟩ = some u ∧ W'.cell? (ad.add (i * 2)) = some (.int .i64 x.f0) ∧ W'.cell? ⟨(ad.add (i * 2)).block, (ad.add (i * 2)).off + 1, none⟩ = some (.int .i64 x.f1)) := ⟨fun W' r b => ⟨by
    have := r.own.cells (g := g) rfl k u HU.out
    rwa [add_plain] at this, HX.out W' b⟩⟩
  refine wp_region_P (fun w' => w'.cell? ⟨g, k, none⟩ = some u ∧ w'.cell? (ad.add (i * 2)) = some (.int .i64 x.f0) ∧ w'.cell? ⟨(ad.add (i * 2)).block, (ad.add (i * 2)).off + 1, none⟩ = some (.int .i64 x.f1)) 21 (by kernel_rfl) ?_
  generalize wr.drew = w6 at *
  have HS := Aside0.mk (HSx.out _ HR.out HB.out)
  refine wpAnyP_take 0 (oi := o20_8_0) (v := ?_) rfl (by kernel_rfl) (fun c a w h => hQp c _ _ _ _ h) (by rfl) HS.out ?_ ?_; rotate_left
  · intro w_ hSw; obtain ⟨hs0, hs1, hs2⟩ := hSw; (try simp only [o20_8_0]); first | (go_simp; done) | (go_simp; with_reducible rfl)
  try simp only [Act.put, o20_8_0, List.setIfInBounds_toArray, List.set_cons_zero, List.set_cons_succ]
  refine wpAnyP_take 1 (oi := o20_8_1) (v := ?_) rfl (by kernel_rfl) (fun c a w h => hQp c _ _ _ _ h) (by rfl) HS.out ?_ ?_; rotate_left
  · intro w_ hSw; obtain ⟨hs0, hs1, hs2⟩ := hSw; (try simp only [o20_8_1]); first | (go_simp; done) | (go_simp; with_reducible rfl)
  try simp only [Act.put, o20_8_1, List.setIfInBounds_toArray, List.set_cons_zero, List.set_cons_succ]
  refine wpAnyP_take 2 (oi := o20_8_2) (v := ?_) rfl (by kernel_rfl) (fun c a w h => hQp c _ _ _ _ h) (by rfl) HS.out ?_ ?_; rotate_left
  · intro w_ hSw; obtain ⟨hs0, hs1, hs2⟩ := hSw; (try simp only [o20_8_2]); first | (go_simp; done) | (go_simp; with_reducible rfl)
  try simp only [Act.put, o20_8_2, List.setIfInBounds_toArray, List.set_cons_zero, List.set_cons_succ]
  refine wpAnyP_take 3 (oi := o20_8_3) (v := ?_) rfl (by kernel_rfl) (fun c a w h => hQp c _ _ _ _ h) (by rfl) HS.out ?_ ?_; rotate_left
  · intro w_ hSw; obtain ⟨hs0, hs1, hs2⟩ := hSw; (try simp only [o20_8_3]); first | (go_simp; done) | (go_simp; with_reducible rfl)
  try simp only [Act.put, o20_8_3, List.setIfInBounds_toArray, List.set_cons_zero, List.set_cons_succ]
  refine wpAnyP_take 4 (oi := o20_8_4) (v := ?_) rfl (by kernel_rfl) (fun c a w h => hQp c _ _ _ _ h) (by rfl) HS.out ?_ ?_; rotate_left
  · intro w_ hSw; obtain ⟨hs0, hs1, hs2⟩ := hSw; (try simp only [o20_8_4]); first | (go_simp; done) | (go_simp; with_reducible rfl)
  try simp only [Act.put, o20_8_4, List.setIfInBounds_toArray, List.set_cons_zero, List.set_cons_succ]
  refine wpAnyP_take 5 (oi := o20_8_5) (v := ?_) rfl (by kernel_rfl) (fun c a w h => hQp c _ _ _ _ h) (by rfl) HS.out ?_ ?_; rotate_left
  · intro w_ hSw; obtain ⟨hs0, hs1, hs2⟩ := hSw; (try simp only [o20_8_5]); first | (go_simp; done) | (go_simp; with_reducible rfl)
  try simp only [Act.put, o20_8_5, List.setIfInBounds_toArray, List.set_cons_zero, List.set_cons_succ]
  refine wpAnyP_take 6 (oi := o20_8_6) (v := ?_) rfl (by kernel_rfl) (fun c a w h => hQp c _ _ _ _ h) (by rfl) HS.out ?_ ?_; rotate_left
  · intro w_ hSw; obtain ⟨hs0, hs1, hs2⟩ := hSw; (try simp only [o20_8_6]); first | (go_simp; done) | (go_simp; with_reducible rfl)
  try simp only [Act.put, o20_8_6, List.setIfInBounds_toArray, List.set_cons_zero, List.set_cons_succ]
  refine wpAnyP_take 7 (oi := o20_8_7) (v := ?_) rfl (by kernel_rfl) (fun c a w h => hQp c _ _ _ _ h) (by rfl) HS.out ?_ ?_; rotate_left
  · intro w_ hSw; obtain ⟨hs0, hs1, hs2⟩ := hSw; (try simp only [o20_8_7]); first | (go_simp; done) | (go_simp; with_reducible rfl)
  try simp only [Act.put, o20_8_7, List.setIfInBounds_toArray, List.set_cons_zero, List.set_cons_succ]
  refine wpAnyP_take 8 (oi := o20_8_8) (v := ?_) rfl (by kernel_rfl) (fun c a w h => hQp c _ _ _ _ h) (by rfl) HS.out ?_ ?_; rotate_left
  · intro w_ hSw; obtain ⟨hs0, hs1, hs2⟩ := hSw; (try simp only [o20_8_8]); first | (go_simp; done) | (go_simp; with_reducible rfl)
  try simp only [Act.put, o20_8_8, List.setIfInBounds_toArray, List.set_cons_zero, List.set_cons_succ]
  refine wpAnyP_take 9 (oi := o20_8_9) (v := ?_) rfl (by kernel_rfl) (fun c a w h => hQp c _ _ _ _ h) (by rfl) HS.out ?_ ?_; rotate_left
  · intro w_ hSw; obtain ⟨hs0, hs1, hs2⟩ := hSw; (try simp only [o20_8_9]); first | (go_simp; done) | (go_simp; with_reducible rfl)
  try simp only [Act.put, o20_8_9, List.setIfInBounds_toArray, List.set_cons_zero, List.set_cons_succ]
  refine wpAnyP_take 10 (oi := o20_8_10) (v := ?_) rfl (by kernel_rfl) (fun c a w h => hQp c _ _ _ _ h) (by rfl) HS.out ?_ ?_; rotate_left
  · intro w_ hSw; obtain ⟨hs0, hs1, hs2⟩ := hSw; (try simp only [o20_8_10]); first | (go_simp; done) | (go_simp; with_reducible rfl)
  try simp only [Act.put, o20_8_10, List.setIfInBounds_toArray, List.set_cons_zero, List.set_cons_succ]
  refine wpAnyP_take 12 (oi := o20_8_12) (v := ?_) rfl (by kernel_rfl) (fun c a w h => hQp c _ _ _ _ h) (by rfl) HS.out ?_ ?_; rotate_left
  · intro w_ hSw; obtain ⟨hs0, hs1, hs2⟩ := hSw; (try simp only [o20_8_12]); first | (go_simp; done) | (go_simp; with_reducible rfl)
  try simp only [Act.put, o20_8_12, List.setIfInBounds_toArray, List.set_cons_zero, List.set_cons_succ]
  refine wpAnyP_take 13 (oi := o20_8_13) (v := ?_) rfl (by kernel_rfl) (fun c a w h => hQp c _ _ _ _ h) (by rfl) HS.out ?_ ?_; rotate_left
  · intro w_ hSw; obtain ⟨hs0, hs1, hs2⟩ := hSw; (try simp only [o20_8_13]); first | (go_simp; done) | (go_simp; with_reducible rfl)
  try simp only [Act.put, o20_8_13, List.setIfInBounds_toArray, List.set_cons_zero, List.set_cons_succ]
  refine wpAnyP_take 14 (oi := o20_8_14) (v := ?_) rfl (by kernel_rfl) (fun c a w h => hQp c _ _ _ _ h) (by rfl) HS.out ?_ ?_; rotate_left
  · intro w_ hSw; obtain ⟨hs0, hs1, hs2⟩ := hSw; (try simp only [o20_8_14]); first | (go_simp; done) | (go_simp; with_reducible rfl)
  try simp only [Act.put, o20_8_14, List.setIfInBounds_toArray, List.set_cons_zero, List.set_cons_succ]
  refine wpAnyP_take 15 (oi := o20_8_15) (v := ?_) rfl (by kernel_rfl) (fun c a w h => hQp c _ _ _ _ h) (by rfl) HS.out ?_ ?_; rotate_left
  · intro w_ hSw; obtain ⟨hs0, hs1, hs2⟩ := hSw; (try simp only [o20_8_15]); first | (go_simp; done) | (go_simp; with_reducible rfl)
  try simp only [Act.put, o20_8_15, List.setIfInBounds_toArray, List.set_cons_zero, List.set_cons_succ]
  refine wpAnyP_take 16 (oi := o20_8_16) (v := ?_) rfl (by kernel_rfl) (fun c a w h => hQp c _ _ _ _ h) (by rfl) HS.out ?_ ?_; rotate_left
  · intro w_ hSw; obtain ⟨hs0, hs1, hs2⟩ := hSw; (try simp only [o20_8_16]); first | (go_simp; done) | (go_simp; with_reducible rfl)
  try simp only [Act.put, o20_8_16, List.setIfInBounds_toArray, List.set_cons_zero, List.set_cons_succ]
  refine wpAnyP_one 11 (o := o20_8_11) rfl (by kernel_rfl) (by rfl) (fun K hK => ?_)
  have HK := Aside0.mk hK
  clear hK
  try simp only [o20_8_11]
  go_simp
  go_at_call 30
  refine (four_calls x.f0 (by omega) (by omega) _).mono ?_
  rintro e w1 ⟨rfl, hb⟩
  have HR1 := Aside0.mk (HR.out.below hb)
  have HB1 := Aside0.mk (below_step' HB.out hb HZ.out)
  have HZ1 := Aside0.mk (Nat.le_trans HZ.out hb.size)
  clear HS HR HB HZ
  have HR := HR1; clear HR1
  have HB := HB1; clear HB1
  have HZ := HZ1; clear HZ1
  clear hb
  have HS := Aside0.mk (HSx.out _ HR.out HB.out)
  refine HK.out _ _ (fun _ => HS.out) ?_
  clear HK K
  try simp only [Act.put, o20_8_11, List.setIfInBounds_toArray, List.set_cons_zero, List.set_cons_succ]
  refine wpAnyP_one 17 (o := o20_8_17) rfl (by kernel_rfl) (by rfl) (fun K hK => ?_)
  have HK := Aside0.mk hK
  clear hK
  try simp only [o20_8_17]
  go_simp
  go_at_call 30
  refine (four_calls x.f1 (by omega) (by omega) _).mono ?_
  rintro e w1 ⟨rfl, hb⟩
  have HR1 := Aside0.mk (HR.out.below hb)
  have HB1 := Aside0.mk (below_step' HB.out hb HZ.out)
  have HZ1 := Aside0.mk (Nat.le_trans HZ.out hb.size)
  clear HS HR HB HZ
  have HR := HR1; clear HR1
  have HB := HB1; clear HB1
  have HZ := HZ1; clear HZ1
  clear hb
  have HS := Aside0.mk (HSx.out _ HR.out HB.out)
  refine HK.out _ _ (fun _ => HS.out) ?_
  clear HK K
  try simp only [Act.put, o20_8_17, List.setIfInBounds_toArray, List.set_cons_zero, List.set_cons_succ]
  refine wpAnyP_one 18 (o := o20_8_18) rfl (by kernel_rfl) (by rfl) (fun K hK => ?_)
  have HK := Aside0.mk hK
  clear hK
  try simp only [o20_8_18]
  go_simp
  refine HK.out _ _ (fun _ => HS.out) ?_
  clear HK K
  try simp only [Act.put, o20_8_18, List.setIfInBounds_toArray, List.set_cons_zero, List.set_cons_succ]
  refine wpAnyP_one 19 (o := o20_8_19) rfl (by kernel_rfl) (by rfl) (fun K hK => ?_)
  have HK := Aside0.mk hK
  clear hK
  try simp only [o20_8_19]
  go_simp
  rw [EF.out]
  refine HK.out _ _ (fun _ => HSx.out _ (HR.out.below (below_alloc (Below.refl _ _) _)) (below_step' HB.out (below_alloc (Below.refl _ _) _) HZ.out)) ?_
  clear HK K
  try simp only [Act.put, o20_8_19, List.setIfInBounds_toArray, List.set_cons_zero, List.set_cons_succ]
  refine wpAnyP_one 20 (o := o20_8_20) rfl (by kernel_rfl) (by rfl) (fun K hK => ?_)
  have HK := Aside0.mk hK
  clear hK
  try simp only [o20_8_20]
  have hc := list_last init c k HLK.out
  refine oper_append Kd.string (w0 := W0) base rfl (.tmp 27) (.tmp 41) 39 9 (.string ⟨#[]⟩) 16 rfl Try.underlying39 info9 rfl (by decide) (by decide) u c (cellF x) [.string (cellF x)] (fun b => ftag f w1.heap.size (k + 1) b = k + 1) (fun _ => False) rfl rfl rfl (fun _ hk => hk.elim) (fun b hb => ftag_new hb) (rows_last HR.out HU.out hc) HB.out HZ.out (by omega) ?_
  intro v1 w2 ho hb1 hg hat
  obtain ⟨E1, n1, e1⟩ := Kd.R_slice ho
  obtain ⟨N1, hN1⟩ : ∃ z, (c ++ [cellF x]).length = z := ⟨_, rfl⟩
  rw [hN1] at e1
  clear hN1
  subst e1
  obtain ⟨hp1, hp2, hp3⟩ := rows_put HR.out HU.out hc hg ho
  have hge := HR.out.ge
  refine HK.out _ _ (fun _ => ⟨hp1, HX.out _ hb1⟩) ?_
  have HP3 := Aside0.mk hp3
  have HB2 := Aside0.mk hb1
  clear HK K hp3 hb1 hg hat ho HR HB HZ HS hc
  try simp only [Act.put, o20_8_20, List.setIfInBounds_toArray, List.set_cons_zero, List.set_cons_succ]
  refine wpAnyP_one 21 (o := o20_8_21) rfl (by kernel_rfl) (by rfl) (fun K hK => ?_)
  have HK := Aside0.mk hK
  clear hK
  try simp only [o20_8_21]
  go_simp
  refine HK.out _ _ (fun h_ => absurd h_ (by decide)) ?_
  clear HK K
  try simp only [Act.put, o20_8_21, List.setIfInBounds_toArray, List.set_cons_zero, List.set_cons_succ]
  refine wpAnyP_one 22 (o := o20_8_22) rfl (by kernel_rfl) (by rfl) (fun K hK => ?_)
  have HK := Aside0.mk hK
  clear hK
  try simp only [o20_8_22]
  go_simp
  refine HK.out _ _ (fun h_ => absurd h_ (by decide)) ?_
  clear HK K
  try simp only [Act.put, o20_8_22, List.setIfInBounds_toArray, List.set_cons_zero, List.set_cons_succ]
  refine wpAnyP_done (by kernel_rfl) ?_ _
  have HP4 := HP3.out
  rw [list_set init c _ k HLK.out] at HP4
  exact HQ.out _ _ _ HP4 (HB2.out.setCell hge _) _ _ _ _ _ _ _ _ _ _ _ _ _ _ _ _ _ _ _ _ _ _
end Go.Proofs.Ytmplcceghjofhaa.PF
