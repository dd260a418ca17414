/- free.Cells: region 14 -/
import Derived.Test.YtmplcceghjofhaaHIter
import Derived.Test.YtmplcceghjofhaaHRound
import Derived.Test.YtmplcceghjofhaaPureChk
import Derived.Test.YtmplcceghjofhaaHTake
namespace Go.Proofs.Ytmplcceghjofhaa.PF
open Go.RowKit Go.Proofs.YtmplcceghjofhaaW.PrintWords Go.Proofs.YtmplcceghjofhaaW.PrintLast Go.Proofs.YtmplcceghjofhaaW.PrintMore
set_option linter.unusedVariables false
set_option linter.unusedSimpArgs false
/-- A number's i-th byte (of four), where k bytes are told. -/
def bAt (v : Int) (i k : Nat) : Value := if i < k then .int .u8 (v / 2 ^ (24 - 8 * i) % 256) else .int .u8 0
/-- A page's bytes, where k of four are told. -/
def bArr (x : S25) (k : Nat) : Array Value := #[bAt x.f0 0 k, bAt x.f0 1 k, bAt x.f0 2 k, bAt x.f0 3 k, bAt x.f1 0 k, bAt x.f1 1 k, bAt x.f1 2 k, bAt x.f1 3 k]
theorem bArr_put (x : S25) (k : Nat) (hk : k < 4) (u v : Int) (hu : u = x.f0 / 2 ^ (24 - 8 * k) % 256) (hv : v = x.f1 / 2 ^ (24 - 8 * k) % 256) : ((bArr x k).setIfInBounds k (.int .u8 u)).setIfInBounds (4 + k) (.int .u8 v) = bArr x (k + 1) := by
  subst hu hv
  rcases (by omega : k = 0 ∨ k = 1 ∨ k = 2 ∨ k = 3) with rfl | rfl | rfl | rfl <;> rfl
theorem info5 : (Try.prog.info? 5).map (fun i => (i.zero, i.size, i.bytes)) = some (some (.int .u8 0), 1, 1) := by kernel_rfl
abbrev o19_14_0 : Oper := { dst := some 27, op := .move (.tmp 9), type := 57, pos := "free.go:71", after := #[], guard := none }
abbrev o19_14_1 : Oper := { dst := some 28, op := .move (.tmp 10), type := 3, pos := "free.go:71", after := #[], guard := none }
abbrev o19_14_2 : Oper := { dst := some 29, op := .move (.tmp 9), type := 57, pos := "free.go:71", after := #[{ on := 22, ground := .gcOnly .lateStores }], guard := none }
abbrev o19_14_3 : Oper := { dst := some 30, op := .move (.tmp 10), type := 3, pos := "free.go:71", after := #[{ on := 22, ground := .gcOnly .lateStores }], guard := none }
abbrev o19_14_4 : Oper := { dst := some 31, op := .binOp .add 3 (.const (.int .i64 4)) (.tmp 30) 3, type := 3, pos := "free.go:71", after := #[{ on := 3, ground := .data }, { on := 22, ground := .gcOnly .lateStores }], guard := none }
abbrev o19_14_5 : Oper := { dst := some 32, op := .fieldAddr 25 (.tmp 8) 0, type := 0, pos := "free.go:71", after := #[], guard := none }
abbrev o19_14_6 : Oper := { dst := some 33, op := .load 3 (.tmp 32), type := 3, pos := "free.go:71", after := #[{ on := 5, ground := .data }], guard := none }
abbrev o19_14_7 : Oper := { dst := some 34, op := .move (.tmp 10), type := 3, pos := "free.go:71", after := #[], guard := none }
abbrev o19_14_8 : Oper := { dst := some 35, op := .binOp .mul 3 (.const (.int .i64 8)) (.tmp 34) 3, type := 3, pos := "free.go:71", after := #[{ on := 7, ground := .data }], guard := none }
abbrev o19_14_9 : Oper := { dst := some 36, op := .binOp .sub 3 (.const (.int .i64 24)) (.tmp 35) 3, type := 3, pos := "free.go:71", after := #[{ on := 8, ground := .data }], guard := none }
abbrev o19_14_10 : Oper := { dst := some 37, op := .convert 3 58 (.tmp 36), type := 58, pos := "free.go:71", after := #[{ on := 9, ground := .data }], guard := none }
abbrev o19_14_11 : Oper := { dst := some 38, op := .binOp .shr 3 (.tmp 33) (.tmp 37) 58, type := 3, pos := "free.go:71", after := #[{ on := 6, ground := .data }, { on := 10, ground := .data }], guard := none }
abbrev o19_14_12 : Oper := { dst := some 39, op := .convert 3 5 (.tmp 38), type := 5, pos := "free.go:71", after := #[{ on := 11, ground := .data }], guard := none }
abbrev o19_14_13 : Oper := { dst := some 40, op := .fieldAddr 25 (.tmp 8) 1, type := 0, pos := "free.go:71", after := #[{ on := 22, ground := .gcOnly .lateStores }], guard := none }
abbrev o19_14_14 : Oper := { dst := some 41, op := .load 3 (.tmp 40), type := 3, pos := "free.go:71", after := #[{ on := 13, ground := .data }, { on := 22, ground := .gcOnly .lateStores }], guard := none }
abbrev o19_14_15 : Oper := { dst := some 42, op := .move (.tmp 10), type := 3, pos := "free.go:71", after := #[{ on := 22, ground := .gcOnly .lateStores }], guard := none }
abbrev o19_14_16 : Oper := { dst := some 43, op := .binOp .mul 3 (.const (.int .i64 8)) (.tmp 42) 3, type := 3, pos := "free.go:71", after := #[{ on := 15, ground := .data }, { on := 22, ground := .gcOnly .lateStores }], guard := none }
abbrev o19_14_17 : Oper := { dst := some 44, op := .binOp .sub 3 (.const (.int .i64 24)) (.tmp 43) 3, type := 3, pos := "free.go:71", after := #[{ on := 16, ground := .data }, { on := 22, ground := .gcOnly .lateStores }], guard := none }
abbrev o19_14_18 : Oper := { dst := some 45, op := .convert 3 58 (.tmp 44), type := 58, pos := "free.go:71", after := #[{ on := 17, ground := .data }, { on := 22, ground := .gcOnly .lateStores }], guard := none }
abbrev o19_14_19 : Oper := { dst := some 46, op := .binOp .shr 3 (.tmp 41) (.tmp 45) 58, type := 3, pos := "free.go:71", after := #[{ on := 14, ground := .data }, { on := 18, ground := .data }, { on := 22, ground := .gcOnly .lateStores }], guard := none }
abbrev o19_14_20 : Oper := { dst := some 47, op := .convert 3 5 (.tmp 46), type := 5, pos := "free.go:71", after := #[{ on := 19, ground := .data }, { on := 22, ground := .gcOnly .lateStores }], guard := none }
abbrev o19_14_21 : Oper := { dst := some 48, op := .indexAddr 57 (.tmp 27) (.tmp 28), type := 0, pos := "free.go:71", after := #[{ on := 0, ground := .data }, { on := 1, ground := .data }, { on := 0, ground := .phase }, { on := 1, ground := .phase }, { on := 2, ground := .textOnly .lateStores }, { on := 3, ground := .textOnly .lateStores }, { on := 4, ground := .textOnly .lateStores }, { on := 5, ground := .phase }, { on := 6, ground := .phase }, { on := 7, ground := .phase }, { on := 8, ground := .phase }, { on := 9, ground := .phase }, { on := 10, ground := .phase }, { on := 11, ground := .phase }, { on := 12, ground := .phase }, { on := 13, ground := .textOnly .lateStores }, { on := 14, ground := .textOnly .lateStores }, { on := 15, ground := .textOnly .lateStores }, { on := 16, ground := .textOnly .lateStores }, { on := 17, ground := .textOnly .lateStores }, { on := 18, ground := .textOnly .lateStores }, { on := 19, ground := .textOnly .lateStores }, { on := 20, ground := .textOnly .lateStores }], guard := none }
abbrev o19_14_22 : Oper := { dst := none, op := .store 5 (.tmp 48) (.tmp 39), type := 0, pos := "free.go:71", after := #[{ on := 21, ground := .data }, { on := 12, ground := .data }, { on := 0, ground := .phase }, { on := 1, ground := .phase }, { on := 2, ground := .textOnly .lateStores }, { on := 3, ground := .textOnly .lateStores }, { on := 4, ground := .textOnly .lateStores }, { on := 5, ground := .phase }, { on := 6, ground := .phase }, { on := 7, ground := .phase }, { on := 8, ground := .phase }, { on := 9, ground := .phase }, { on := 10, ground := .phase }, { on := 11, ground := .phase }, { on := 12, ground := .phase }, { on := 13, ground := .textOnly .lateStores }, { on := 14, ground := .textOnly .lateStores }, { on := 15, ground := .textOnly .lateStores }, { on := 16, ground := .textOnly .lateStores }, { on := 17, ground := .textOnly .lateStores }, { on := 18, ground := .textOnly .lateStores }, { on := 19, ground := .textOnly .lateStores }, { on := 20, ground := .textOnly .lateStores }], guard := none }
abbrev o19_14_23 : Oper := { dst := some 49, op := .indexAddr 57 (.tmp 29) (.tmp 31), type := 0, pos := "free.go:71", after := #[{ on := 2, ground := .data }, { on := 4, ground := .data }, { on := 0, ground := .phase }, { on := 1, ground := .phase }, { on := 2, ground := .phase }, { on := 3, ground := .phase }, { on := 4, ground := .phase }, { on := 5, ground := .phase }, { on := 6, ground := .phase }, { on := 7, ground := .phase }, { on := 8, ground := .phase }, { on := 9, ground := .phase }, { on := 10, ground := .phase }, { on := 11, ground := .phase }, { on := 12, ground := .phase }, { on := 13, ground := .phase }, { on := 14, ground := .phase }, { on := 15, ground := .phase }, { on := 16, ground := .phase }, { on := 17, ground := .phase }, { on := 18, ground := .phase }, { on := 19, ground := .phase }, { on := 20, ground := .phase }, { on := 21, ground := .phase }, { on := 22, ground := .phase }], guard := none }
abbrev o19_14_24 : Oper := { dst := none, op := .store 5 (.tmp 49) (.tmp 47), type := 0, pos := "free.go:71", after := #[{ on := 23, ground := .data }, { on := 20, ground := .data }, { on := 22, ground := .chain }, { on := 0, ground := .phase }, { on := 1, ground := .phase }, { on := 2, ground := .phase }, { on := 3, ground := .phase }, { on := 4, ground := .phase }, { on := 5, ground := .phase }, { on := 6, ground := .phase }, { on := 7, ground := .phase }, { on := 8, ground := .phase }, { on := 9, ground := .phase }, { on := 10, ground := .phase }, { on := 11, ground := .phase }, { on := 12, ground := .phase }, { on := 13, ground := .phase }, { on := 14, ground := .phase }, { on := 15, ground := .phase }, { on := 16, ground := .phase }, { on := 17, ground := .phase }, { on := 18, ground := .phase }, { on := 19, ground := .phase }, { on := 20, ground := .phase }, { on := 21, ground := .phase }, { on := 22, ground := .phase }], guard := none }
set_option maxHeartbeats 4000000 in
set_option maxRecDepth 100000 in
theorem reg14 {l n : Nat} {Q : Exit → Act → World → Prop} (hL : ¬ LetsOut Q) (hQp : ∀ c t t' d w, Q (.panic c) ⟨t, d⟩ w → Q (.panic c) ⟨t', d⟩ w) (gf gb k : Nat) (kI : Int) (hkI : kI = k) (hk4 : k < 4) (hne : gf ≠ gb) (hne2 : gb ≠ gf) (x : S25) (hfit : fit x = true)
    (B : Nat) (W0 : World) (F : Value) (ys : List ByteArray) (hGF : B ≤ gf) (hGB : B ≤ gb) (wr : World) (hf : wr.heap[gf]? = some (.cells #[.int .i64 x.f0, .int .i64 x.f1] 25 (0, 0))) (hb : wr.heap[gb]? = some (.cells (bArr x k) 5 (0, 0)))
    (hO : Kd.string.R 9 wr B (fun k_ => k_ ≠ gf ∧ k_ ≠ gb) F ys) (hB : Below B W0 wr) (s0 s1 s2 s3 s4 s5 s6 s7 s11 s12 s13 s14 s15 s16 s17 s18 s19 s20 s21 s22 s23 s24 s25 s26 s27 s28 s29 s30 s31 s32 s33 s34 s35 s36 s37 s38 s39 s40 s41 s42 s43 s44 s45 s46 s47 s48 s49 s50 s51 s52 s53 s54 s55 s56 s57 s58 s59 s60 s61 : Value) (d : List Deferred)
    (h : ∀ w', w'.heap[gf]? = some (.cells #[.int .i64 x.f0, .int .i64 x.f1] 25 (0, 0)) → w'.heap[gb]? = some (.cells (bArr x (k + 1)) 5 (0, 0)) → Kd.string.R 9 w' B (fun k_ => k_ ≠ gf ∧ k_ ≠ gb) F ys → Below B W0 w' → ∀ u27 u28 u29 u30 u31 u32 u33 u34 u35 u36 u37 u38 u39 u40 u41 u42 u43 u44 u45 u46 u47 u48 u49 : Value, Q .normal { tmps := ((s0) :: (s1) :: (s2) :: (s3) :: (s4) :: (s5) :: (s6) :: (s7) :: (.pointer (some ⟨gf, 0, none⟩)) :: (.slice (some ⟨gb, 0, none⟩) 8 8) :: (.int .i64 kI) :: (s11) :: (s12) :: (s13) :: (s14) :: (s15) :: (s16) :: (s17) :: (s18) :: (s19) :: (s20) :: (s21) :: (s22) :: (s23) :: (s24) :: (s25) :: (s26) :: (u27) :: (u28) :: (u29) :: (u30) :: (u31) :: (u32) :: (u33) :: (u34) :: (u35) :: (u36) :: (u37) :: (u38) :: (u39) :: (u40) :: (u41) :: (u42) :: (u43) :: (u44) :: (u45) :: (u46) :: (u47) :: (u48) :: (u49) :: (s50) :: (s51) :: (s52) :: (s53) :: (s54) :: (s55) :: (s56) :: (s57) :: (s58) :: (s59) :: (s60) :: (s61) :: []).toArray, defers := d } w') :
    (Code.region 14 #[o19_14_0, o19_14_1, o19_14_2, o19_14_3, o19_14_4, o19_14_5, o19_14_6, o19_14_7, o19_14_8, o19_14_9, o19_14_10, o19_14_11, o19_14_12, o19_14_13, o19_14_14, o19_14_15, o19_14_16, o19_14_17, o19_14_18, o19_14_19, o19_14_20, o19_14_21, o19_14_22, o19_14_23, o19_14_24] true).wpIn (Fence.wide.inRound l) n Try.prog Q { tmps := ((s0) :: (s1) :: (s2) :: (s3) :: (s4) :: (s5) :: (s6) :: (s7) :: (.pointer (some ⟨gf, 0, none⟩)) :: (.slice (some ⟨gb, 0, none⟩) 8 8) :: (.int .i64 kI) :: (s11) :: (s12) :: (s13) :: (s14) :: (s15) :: (s16) :: (s17) :: (s18) :: (s19) :: (s20) :: (s21) :: (s22) :: (s23) :: (s24) :: (s25) :: (s26) :: (s27) :: (s28) :: (s29) :: (s30) :: (s31) :: (s32) :: (s33) :: (s34) :: (s35) :: (s36) :: (s37) :: (s38) :: (s39) :: (s40) :: (s41) :: (s42) :: (s43) :: (s44) :: (s45) :: (s46) :: (s47) :: (s48) :: (s49) :: (s50) :: (s51) :: (s52) :: (s53) :: (s54) :: (s55) :: (s56) :: (s57) :: (s58) :: (s59) :: (s60) :: (s61) :: []).toArray, defers := d } wr := by
  have HQ := Aside0.mk h
  have BF := Aside0.mk hf
  have HO := Aside0.mk hO
  have HB := Aside0.mk hB
  have HS : Aside0 (wr.drew.cell? ⟨gf, 0, none⟩ = some (.int .i64 x.f0) ∧ wr.drew.cell? ⟨gf, 1, none⟩ = some (.int .i64 x.f1)) := ⟨(blk_cell BF.out 0).trans rfl, (blk_cell BF.out 1).trans rfl⟩
  have BF := Aside0.mk (blk_drew BF.out)
  have BG := Aside0.mk (blk_drew hb)
  have HO := Aside0.mk (Kd.R_drew HO.out)
  have HB := Aside0.mk (below_drew1 HB.out)
  clear h hf hb hO hB
  have hu57 := Try.underlying57
  have hu25 := Try.underlying25
  unfold fit at hfit
  rw [decide_eq_true_iff] at hfit
  obtain ⟨f00, f01, f10, f11⟩ := hfit
  have hkk : (k = 0 ∧ kI = 0) ∨ (k = 1 ∧ kI = 1) ∨ (k = 2 ∧ kI = 2) ∨ (k = 3 ∧ kI = 3) := by omega
  clear hk4
  rcases hkk with ⟨rfl, rfl⟩ | ⟨rfl, rfl⟩ | ⟨rfl, rfl⟩ | ⟨rfl, rfl⟩
  all_goals clear hkI
  · have eI4 : IntKind.i64.wrap 4 = 4 := by decide
    have eI0 : IntKind.i64.wrap 0 = 0 := by decide
    have eU0 : IntKind.u64.wrap 0 = 0 := by decide
    have eI8 : IntKind.i64.wrap 8 = 8 := by decide
    have eU8 : IntKind.u64.wrap 8 = 8 := by decide
    have eI16 : IntKind.i64.wrap 16 = 16 := by decide
    have eU16 : IntKind.u64.wrap 16 = 16 := by decide
    have eI24 : IntKind.i64.wrap 24 = 24 := by decide
    have eU24 : IntKind.u64.wrap 24 = 24 := by decide
    refine wp_region_PIn (fun w' => w'.cell? ⟨gf, 0, none⟩ = some (.int .i64 x.f0) ∧ w'.cell? ⟨gf, 1, none⟩ = some (.int .i64 x.f1)) 24 (by kernel_rfl) hL (by kernel_rfl) ?_
    generalize wr.drew = w6 at *
    refine wpAnyP_take 0 (oi := o19_14_0) (v := ?_) rfl (by kernel_rfl) (fun c a w h => hQp c _ _ _ _ h) (by rfl) HS.out ?_ ?_; rotate_left
    · intro w_ hSw; obtain ⟨hs0, hs1⟩ := hSw; (try simp only [o19_14_0]); first | (go_simp; done) | (go_simp; with_reducible rfl)
    try simp only [Act.put, o19_14_0, List.setIfInBounds_toArray, List.set_cons_zero, List.set_cons_succ]
    refine wpAnyP_take 1 (oi := o19_14_1) (v := ?_) rfl (by kernel_rfl) (fun c a w h => hQp c _ _ _ _ h) (by rfl) HS.out ?_ ?_; rotate_left
    · intro w_ hSw; obtain ⟨hs0, hs1⟩ := hSw; (try simp only [o19_14_1]); first | (go_simp; done) | (go_simp; with_reducible rfl)
    try simp only [Act.put, o19_14_1, List.setIfInBounds_toArray, List.set_cons_zero, List.set_cons_succ]
    refine wpAnyP_take 2 (oi := o19_14_2) (v := ?_) rfl (by kernel_rfl) (fun c a w h => hQp c _ _ _ _ h) (by rfl) HS.out ?_ ?_; rotate_left
    · intro w_ hSw; obtain ⟨hs0, hs1⟩ := hSw; (try simp only [o19_14_2]); first | (go_simp; done) | (go_simp; with_reducible rfl)
    try simp only [Act.put, o19_14_2, List.setIfInBounds_toArray, List.set_cons_zero, List.set_cons_succ]
    refine wpAnyP_take 3 (oi := o19_14_3) (v := ?_) rfl (by kernel_rfl) (fun c a w h => hQp c _ _ _ _ h) (by rfl) HS.out ?_ ?_; rotate_left
    · intro w_ hSw; obtain ⟨hs0, hs1⟩ := hSw; (try simp only [o19_14_3]); first | (go_simp; done) | (go_simp; with_reducible rfl)
    try simp only [Act.put, o19_14_3, List.setIfInBounds_toArray, List.set_cons_zero, List.set_cons_succ]
    refine wpAnyP_take 4 (oi := o19_14_4) (v := ?_) rfl (by kernel_rfl) (fun c a w h => hQp c _ _ _ _ h) (by rfl) HS.out ?_ ?_; rotate_left
    · intro w_ hSw; obtain ⟨hs0, hs1⟩ := hSw; (try simp only [o19_14_4]); first | (go_simp; done) | (go_simp; with_reducible rfl)
    try simp only [Act.put, o19_14_4, List.setIfInBounds_toArray, List.set_cons_zero, List.set_cons_succ]
    refine wpAnyP_take 5 (oi := o19_14_5) (v := ?_) rfl (by kernel_rfl) (fun c a w h => hQp c _ _ _ _ h) (by rfl) HS.out ?_ ?_; rotate_left
    · intro w_ hSw; obtain ⟨hs0, hs1⟩ := hSw; (try simp only [o19_14_5]); first | (go_simp; done) | (go_simp; with_reducible rfl)
    try simp only [Act.put, o19_14_5, List.setIfInBounds_toArray, List.set_cons_zero, List.set_cons_succ]
    refine wpAnyP_take 6 (oi := o19_14_6) (v := ?_) rfl (by kernel_rfl) (fun c a w h => hQp c _ _ _ _ h) (by rfl) HS.out ?_ ?_; rotate_left
    · intro w_ hSw; obtain ⟨hs0, hs1⟩ := hSw; (try simp only [o19_14_6]); first | (go_simp; done) | (go_simp; with_reducible rfl)
    try simp only [Act.put, o19_14_6, List.setIfInBounds_toArray, List.set_cons_zero, List.set_cons_succ]
    refine wpAnyP_take 7 (oi := o19_14_7) (v := ?_) rfl (by kernel_rfl) (fun c a w h => hQp c _ _ _ _ h) (by rfl) HS.out ?_ ?_; rotate_left
    · intro w_ hSw; obtain ⟨hs0, hs1⟩ := hSw; (try simp only [o19_14_7]); first | (go_simp; done) | (go_simp; with_reducible rfl)
    try simp only [Act.put, o19_14_7, List.setIfInBounds_toArray, List.set_cons_zero, List.set_cons_succ]
    refine wpAnyP_take 8 (oi := o19_14_8) (v := ?_) rfl (by kernel_rfl) (fun c a w h => hQp c _ _ _ _ h) (by rfl) HS.out ?_ ?_; rotate_left
    · intro w_ hSw; obtain ⟨hs0, hs1⟩ := hSw; (try simp only [o19_14_8]); first | (go_simp; done) | (go_simp; with_reducible rfl)
    try simp only [Act.put, o19_14_8, List.setIfInBounds_toArray, List.set_cons_zero, List.set_cons_succ]
    refine wpAnyP_take 9 (oi := o19_14_9) (v := ?_) rfl (by kernel_rfl) (fun c a w h => hQp c _ _ _ _ h) (by rfl) HS.out ?_ ?_; rotate_left
    · intro w_ hSw; obtain ⟨hs0, hs1⟩ := hSw; (try simp only [o19_14_9]); first | (go_simp; done) | (go_simp; with_reducible rfl)
    try simp only [Act.put, o19_14_9, List.setIfInBounds_toArray, List.set_cons_zero, List.set_cons_succ]
    refine wpAnyP_take 10 (oi := o19_14_10) (v := ?_) rfl (by kernel_rfl) (fun c a w h => hQp c _ _ _ _ h) (by rfl) HS.out ?_ ?_; rotate_left
    · intro w_ hSw; obtain ⟨hs0, hs1⟩ := hSw; (try simp only [o19_14_10]); first | (go_simp; done) | (go_simp; with_reducible rfl)
    try simp only [Act.put, o19_14_10, List.setIfInBounds_toArray, List.set_cons_zero, List.set_cons_succ]
    refine wpAnyP_take 11 (oi := o19_14_11) (v := ?_) rfl (by kernel_rfl) (fun c a w h => hQp c _ _ _ _ h) (by rfl) HS.out ?_ ?_; rotate_left
    · intro w_ hSw; obtain ⟨hs0, hs1⟩ := hSw; (try simp only [o19_14_11]); first | (go_simp; done) | (go_simp; with_reducible rfl)
    try simp only [Act.put, o19_14_11, List.setIfInBounds_toArray, List.set_cons_zero, List.set_cons_succ]
    refine wpAnyP_take 12 (oi := o19_14_12) (v := ?_) rfl (by kernel_rfl) (fun c a w h => hQp c _ _ _ _ h) (by rfl) HS.out ?_ ?_; rotate_left
    · intro w_ hSw; obtain ⟨hs0, hs1⟩ := hSw; (try simp only [o19_14_12]); first | (go_simp; done) | (go_simp; with_reducible rfl)
    try simp only [Act.put, o19_14_12, List.setIfInBounds_toArray, List.set_cons_zero, List.set_cons_succ]
    refine wpAnyP_take 13 (oi := o19_14_13) (v := ?_) rfl (by kernel_rfl) (fun c a w h => hQp c _ _ _ _ h) (by rfl) HS.out ?_ ?_; rotate_left
    · intro w_ hSw; obtain ⟨hs0, hs1⟩ := hSw; (try simp only [o19_14_13]); first | (go_simp; done) | (go_simp; with_reducible rfl)
    try simp only [Act.put, o19_14_13, List.setIfInBounds_toArray, List.set_cons_zero, List.set_cons_succ]
    refine wpAnyP_take 14 (oi := o19_14_14) (v := ?_) rfl (by kernel_rfl) (fun c a w h => hQp c _ _ _ _ h) (by rfl) HS.out ?_ ?_; rotate_left
    · intro w_ hSw; obtain ⟨hs0, hs1⟩ := hSw; (try simp only [o19_14_14]); first | (go_simp; done) | (go_simp; with_reducible rfl)
    try simp only [Act.put, o19_14_14, List.setIfInBounds_toArray, List.set_cons_zero, List.set_cons_succ]
    refine wpAnyP_take 15 (oi := o19_14_15) (v := ?_) rfl (by kernel_rfl) (fun c a w h => hQp c _ _ _ _ h) (by rfl) HS.out ?_ ?_; rotate_left
    · intro w_ hSw; obtain ⟨hs0, hs1⟩ := hSw; (try simp only [o19_14_15]); first | (go_simp; done) | (go_simp; with_reducible rfl)
    try simp only [Act.put, o19_14_15, List.setIfInBounds_toArray, List.set_cons_zero, List.set_cons_succ]
    refine wpAnyP_take 16 (oi := o19_14_16) (v := ?_) rfl (by kernel_rfl) (fun c a w h => hQp c _ _ _ _ h) (by rfl) HS.out ?_ ?_; rotate_left
    · intro w_ hSw; obtain ⟨hs0, hs1⟩ := hSw; (try simp only [o19_14_16]); first | (go_simp; done) | (go_simp; with_reducible rfl)
    try simp only [Act.put, o19_14_16, List.setIfInBounds_toArray, List.set_cons_zero, List.set_cons_succ]
    refine wpAnyP_take 17 (oi := o19_14_17) (v := ?_) rfl (by kernel_rfl) (fun c a w h => hQp c _ _ _ _ h) (by rfl) HS.out ?_ ?_; rotate_left
    · intro w_ hSw; obtain ⟨hs0, hs1⟩ := hSw; (try simp only [o19_14_17]); first | (go_simp; done) | (go_simp; with_reducible rfl)
    try simp only [Act.put, o19_14_17, List.setIfInBounds_toArray, List.set_cons_zero, List.set_cons_succ]
    refine wpAnyP_take 18 (oi := o19_14_18) (v := ?_) rfl (by kernel_rfl) (fun c a w h => hQp c _ _ _ _ h) (by rfl) HS.out ?_ ?_; rotate_left
    · intro w_ hSw; obtain ⟨hs0, hs1⟩ := hSw; (try simp only [o19_14_18]); first | (go_simp; done) | (go_simp; with_reducible rfl)
    try simp only [Act.put, o19_14_18, List.setIfInBounds_toArray, List.set_cons_zero, List.set_cons_succ]
    refine wpAnyP_take 19 (oi := o19_14_19) (v := ?_) rfl (by kernel_rfl) (fun c a w h => hQp c _ _ _ _ h) (by rfl) HS.out ?_ ?_; rotate_left
    · intro w_ hSw; obtain ⟨hs0, hs1⟩ := hSw; (try simp only [o19_14_19]); first | (go_simp; done) | (go_simp; with_reducible rfl)
    try simp only [Act.put, o19_14_19, List.setIfInBounds_toArray, List.set_cons_zero, List.set_cons_succ]
    refine wpAnyP_take 20 (oi := o19_14_20) (v := ?_) rfl (by kernel_rfl) (fun c a w h => hQp c _ _ _ _ h) (by rfl) HS.out ?_ ?_; rotate_left
    · intro w_ hSw; obtain ⟨hs0, hs1⟩ := hSw; (try simp only [o19_14_20]); first | (go_simp; done) | (go_simp; with_reducible rfl)
    try simp only [Act.put, o19_14_20, List.setIfInBounds_toArray, List.set_cons_zero, List.set_cons_succ]
    have hfz := fun i => blk_frozen BG.out i
    have hcA : _ = some (bAt x.f0 0 0) := (blk_cell BG.out 0).trans rfl
    have hcB : _ = some (bAt x.f1 0 0) := (blk_cell BG.out 4).trans rfl
    refine wpAnyP_one 21 (o := o19_14_21) rfl (by kernel_rfl) (by rfl) (fun K hK => ?_)
    have HK := Aside0.mk hK
    clear hK
    try simp only [o19_14_21]
    go_simp
    refine HK.out _ _ (fun _ => HS.out) ?_
    clear HK K
    try simp only [Act.put, o19_14_21, List.setIfInBounds_toArray, List.set_cons_zero, List.set_cons_succ]
    refine wpAnyP_one 22 (o := o19_14_22) rfl (by kernel_rfl) (by rfl) (fun K hK => ?_)
    have HK := Aside0.mk hK
    clear hK
    try simp only [o19_14_22]
    go_simp
    refine HK.out _ _ (fun _ => ⟨(blk_cell (blk_far BF.out hne _) 0).trans rfl, (blk_cell (blk_far BF.out hne _) 1).trans rfl⟩) ?_
    clear HK K
    try simp only [Act.put, o19_14_22, List.setIfInBounds_toArray, List.set_cons_zero, List.set_cons_succ]
    refine wpAnyP_one 23 (o := o19_14_23) rfl (by kernel_rfl) (by rfl) (fun K hK => ?_)
    have HK := Aside0.mk hK
    clear hK
    try simp only [o19_14_23]
    go_simp
    refine HK.out _ _ (fun _ => ⟨(blk_cell (blk_far BF.out hne _) 0).trans rfl, (blk_cell (blk_far BF.out hne _) 1).trans rfl⟩) ?_
    clear HK K
    try simp only [Act.put, o19_14_23, List.setIfInBounds_toArray, List.set_cons_zero, List.set_cons_succ]
    refine wpAnyP_one 24 (o := o19_14_24) rfl (by kernel_rfl) (by rfl) (fun K hK => ?_)
    have HK := Aside0.mk hK
    clear hK
    try simp only [o19_14_24]
    go_simp
    refine HK.out _ _ (fun h_ => absurd h_ (by decide)) ?_
    clear HK K
    try simp only [Act.put, o19_14_24, List.setIfInBounds_toArray, List.set_cons_zero, List.set_cons_succ]
    refine wpAnyP_done (by kernel_rfl) ?_ _
    refine HQ.out _ (blk_far (blk_far BF.out hne _) hne _) (blk_put (cs' := bArr x (0 + 1)) (blk_set BG.out 0 _) 4 _ ?_) (Kd.R_far (Kd.R_far HO.out (p := ⟨gb, 0, none⟩) (fun k h => h.2) _) (p := ⟨gb, 4, none⟩) (fun k h => h.2) _) ((HB.out.setCell hGB _).setCell hGB _) _ _ _ _ _ _ _ _ _ _ _ _ _ _ _ _ _ _ _ _ _ _ _
    exact bArr_put x 0 (by omega) _ _ (by first | rfl | exact (show x.f0 % 256 = x.f0 / 1 % 256 by rw [Int.ediv_one])) (by first | rfl | exact (show x.f1 % 256 = x.f1 / 1 % 256 by rw [Int.ediv_one]))
  · have eI4 : IntKind.i64.wrap 5 = 5 := by decide
    have eI0 : IntKind.i64.wrap 0 = 0 := by decide
    have eU0 : IntKind.u64.wrap 0 = 0 := by decide
    have eI8 : IntKind.i64.wrap 8 = 8 := by decide
    have eU8 : IntKind.u64.wrap 8 = 8 := by decide
    have eI16 : IntKind.i64.wrap 16 = 16 := by decide
    have eU16 : IntKind.u64.wrap 16 = 16 := by decide
    have eI24 : IntKind.i64.wrap 24 = 24 := by decide
    have eU24 : IntKind.u64.wrap 24 = 24 := by decide
    refine wp_region_PIn (fun w' => w'.cell? ⟨gf, 0, none⟩ = some (.int .i64 x.f0) ∧ w'.cell? ⟨gf, 1, none⟩ = some (.int .i64 x.f1)) 24 (by kernel_rfl) hL (by kernel_rfl) ?_
    generalize wr.drew = w6 at *
    refine wpAnyP_take 0 (oi := o19_14_0) (v := ?_) rfl (by kernel_rfl) (fun c a w h => hQp c _ _ _ _ h) (by rfl) HS.out ?_ ?_; rotate_left
    · intro w_ hSw; obtain ⟨hs0, hs1⟩ := hSw; (try simp only [o19_14_0]); first | (go_simp; done) | (go_simp; with_reducible rfl)
    try simp only [Act.put, o19_14_0, List.setIfInBounds_toArray, List.set_cons_zero, List.set_cons_succ]
    refine wpAnyP_take 1 (oi := o19_14_1) (v := ?_) rfl (by kernel_rfl) (fun c a w h => hQp c _ _ _ _ h) (by rfl) HS.out ?_ ?_; rotate_left
    · intro w_ hSw; obtain ⟨hs0, hs1⟩ := hSw; (try simp only [o19_14_1]); first | (go_simp; done) | (go_simp; with_reducible rfl)
    try simp only [Act.put, o19_14_1, List.setIfInBounds_toArray, List.set_cons_zero, List.set_cons_succ]
    refine wpAnyP_take 2 (oi := o19_14_2) (v := ?_) rfl (by kernel_rfl) (fun c a w h => hQp c _ _ _ _ h) (by rfl) HS.out ?_ ?_; rotate_left
    · intro w_ hSw; obtain ⟨hs0, hs1⟩ := hSw; (try simp only [o19_14_2]); first | (go_simp; done) | (go_simp; with_reducible rfl)
    try simp only [Act.put, o19_14_2, List.setIfInBounds_toArray, List.set_cons_zero, List.set_cons_succ]
    refine wpAnyP_take 3 (oi := o19_14_3) (v := ?_) rfl (by kernel_rfl) (fun c a w h => hQp c _ _ _ _ h) (by rfl) HS.out ?_ ?_; rotate_left
    · intro w_ hSw; obtain ⟨hs0, hs1⟩ := hSw; (try simp only [o19_14_3]); first | (go_simp; done) | (go_simp; with_reducible rfl)
    try simp only [Act.put, o19_14_3, List.setIfInBounds_toArray, List.set_cons_zero, List.set_cons_succ]
    refine wpAnyP_take 4 (oi := o19_14_4) (v := ?_) rfl (by kernel_rfl) (fun c a w h => hQp c _ _ _ _ h) (by rfl) HS.out ?_ ?_; rotate_left
    · intro w_ hSw; obtain ⟨hs0, hs1⟩ := hSw; (try simp only [o19_14_4]); first | (go_simp; done) | (go_simp; with_reducible rfl)
    try simp only [Act.put, o19_14_4, List.setIfInBounds_toArray, List.set_cons_zero, List.set_cons_succ]
    refine wpAnyP_take 5 (oi := o19_14_5) (v := ?_) rfl (by kernel_rfl) (fun c a w h => hQp c _ _ _ _ h) (by rfl) HS.out ?_ ?_; rotate_left
    · intro w_ hSw; obtain ⟨hs0, hs1⟩ := hSw; (try simp only [o19_14_5]); first | (go_simp; done) | (go_simp; with_reducible rfl)
    try simp only [Act.put, o19_14_5, List.setIfInBounds_toArray, List.set_cons_zero, List.set_cons_succ]
    refine wpAnyP_take 6 (oi := o19_14_6) (v := ?_) rfl (by kernel_rfl) (fun c a w h => hQp c _ _ _ _ h) (by rfl) HS.out ?_ ?_; rotate_left
    · intro w_ hSw; obtain ⟨hs0, hs1⟩ := hSw; (try simp only [o19_14_6]); first | (go_simp; done) | (go_simp; with_reducible rfl)
    try simp only [Act.put, o19_14_6, List.setIfInBounds_toArray, List.set_cons_zero, List.set_cons_succ]
    refine wpAnyP_take 7 (oi := o19_14_7) (v := ?_) rfl (by kernel_rfl) (fun c a w h => hQp c _ _ _ _ h) (by rfl) HS.out ?_ ?_; rotate_left
    · intro w_ hSw; obtain ⟨hs0, hs1⟩ := hSw; (try simp only [o19_14_7]); first | (go_simp; done) | (go_simp; with_reducible rfl)
    try simp only [Act.put, o19_14_7, List.setIfInBounds_toArray, List.set_cons_zero, List.set_cons_succ]
    refine wpAnyP_take 8 (oi := o19_14_8) (v := ?_) rfl (by kernel_rfl) (fun c a w h => hQp c _ _ _ _ h) (by rfl) HS.out ?_ ?_; rotate_left
    · intro w_ hSw; obtain ⟨hs0, hs1⟩ := hSw; (try simp only [o19_14_8]); first | (go_simp; done) | (go_simp; with_reducible rfl)
    try simp only [Act.put, o19_14_8, List.setIfInBounds_toArray, List.set_cons_zero, List.set_cons_succ]
    refine wpAnyP_take 9 (oi := o19_14_9) (v := ?_) rfl (by kernel_rfl) (fun c a w h => hQp c _ _ _ _ h) (by rfl) HS.out ?_ ?_; rotate_left
    · intro w_ hSw; obtain ⟨hs0, hs1⟩ := hSw; (try simp only [o19_14_9]); first | (go_simp; done) | (go_simp; with_reducible rfl)
    try simp only [Act.put, o19_14_9, List.setIfInBounds_toArray, List.set_cons_zero, List.set_cons_succ]
    refine wpAnyP_take 10 (oi := o19_14_10) (v := ?_) rfl (by kernel_rfl) (fun c a w h => hQp c _ _ _ _ h) (by rfl) HS.out ?_ ?_; rotate_left
    · intro w_ hSw; obtain ⟨hs0, hs1⟩ := hSw; (try simp only [o19_14_10]); first | (go_simp; done) | (go_simp; with_reducible rfl)
    try simp only [Act.put, o19_14_10, List.setIfInBounds_toArray, List.set_cons_zero, List.set_cons_succ]
    refine wpAnyP_take 11 (oi := o19_14_11) (v := ?_) rfl (by kernel_rfl) (fun c a w h => hQp c _ _ _ _ h) (by rfl) HS.out ?_ ?_; rotate_left
    · intro w_ hSw; obtain ⟨hs0, hs1⟩ := hSw; (try simp only [o19_14_11]); first | (go_simp; done) | (go_simp; with_reducible rfl)
    try simp only [Act.put, o19_14_11, List.setIfInBounds_toArray, List.set_cons_zero, List.set_cons_succ]
    refine wpAnyP_take 12 (oi := o19_14_12) (v := ?_) rfl (by kernel_rfl) (fun c a w h => hQp c _ _ _ _ h) (by rfl) HS.out ?_ ?_; rotate_left
    · intro w_ hSw; obtain ⟨hs0, hs1⟩ := hSw; (try simp only [o19_14_12]); first | (go_simp; done) | (go_simp; with_reducible rfl)
    try simp only [Act.put, o19_14_12, List.setIfInBounds_toArray, List.set_cons_zero, List.set_cons_succ]
    refine wpAnyP_take 13 (oi := o19_14_13) (v := ?_) rfl (by kernel_rfl) (fun c a w h => hQp c _ _ _ _ h) (by rfl) HS.out ?_ ?_; rotate_left
    · intro w_ hSw; obtain ⟨hs0, hs1⟩ := hSw; (try simp only [o19_14_13]); first | (go_simp; done) | (go_simp; with_reducible rfl)
    try simp only [Act.put, o19_14_13, List.setIfInBounds_toArray, List.set_cons_zero, List.set_cons_succ]
    refine wpAnyP_take 14 (oi := o19_14_14) (v := ?_) rfl (by kernel_rfl) (fun c a w h => hQp c _ _ _ _ h) (by rfl) HS.out ?_ ?_; rotate_left
    · intro w_ hSw; obtain ⟨hs0, hs1⟩ := hSw; (try simp only [o19_14_14]); first | (go_simp; done) | (go_simp; with_reducible rfl)
    try simp only [Act.put, o19_14_14, List.setIfInBounds_toArray, List.set_cons_zero, List.set_cons_succ]
    refine wpAnyP_take 15 (oi := o19_14_15) (v := ?_) rfl (by kernel_rfl) (fun c a w h => hQp c _ _ _ _ h) (by rfl) HS.out ?_ ?_; rotate_left
    · intro w_ hSw; obtain ⟨hs0, hs1⟩ := hSw; (try simp only [o19_14_15]); first | (go_simp; done) | (go_simp; with_reducible rfl)
    try simp only [Act.put, o19_14_15, List.setIfInBounds_toArray, List.set_cons_zero, List.set_cons_succ]
    refine wpAnyP_take 16 (oi := o19_14_16) (v := ?_) rfl (by kernel_rfl) (fun c a w h => hQp c _ _ _ _ h) (by rfl) HS.out ?_ ?_; rotate_left
    · intro w_ hSw; obtain ⟨hs0, hs1⟩ := hSw; (try simp only [o19_14_16]); first | (go_simp; done) | (go_simp; with_reducible rfl)
    try simp only [Act.put, o19_14_16, List.setIfInBounds_toArray, List.set_cons_zero, List.set_cons_succ]
    refine wpAnyP_take 17 (oi := o19_14_17) (v := ?_) rfl (by kernel_rfl) (fun c a w h => hQp c _ _ _ _ h) (by rfl) HS.out ?_ ?_; rotate_left
    · intro w_ hSw; obtain ⟨hs0, hs1⟩ := hSw; (try simp only [o19_14_17]); first | (go_simp; done) | (go_simp; with_reducible rfl)
    try simp only [Act.put, o19_14_17, List.setIfInBounds_toArray, List.set_cons_zero, List.set_cons_succ]
    refine wpAnyP_take 18 (oi := o19_14_18) (v := ?_) rfl (by kernel_rfl) (fun c a w h => hQp c _ _ _ _ h) (by rfl) HS.out ?_ ?_; rotate_left
    · intro w_ hSw; obtain ⟨hs0, hs1⟩ := hSw; (try simp only [o19_14_18]); first | (go_simp; done) | (go_simp; with_reducible rfl)
    try simp only [Act.put, o19_14_18, List.setIfInBounds_toArray, List.set_cons_zero, List.set_cons_succ]
    refine wpAnyP_take 19 (oi := o19_14_19) (v := ?_) rfl (by kernel_rfl) (fun c a w h => hQp c _ _ _ _ h) (by rfl) HS.out ?_ ?_; rotate_left
    · intro w_ hSw; obtain ⟨hs0, hs1⟩ := hSw; (try simp only [o19_14_19]); first | (go_simp; done) | (go_simp; with_reducible rfl)
    try simp only [Act.put, o19_14_19, List.setIfInBounds_toArray, List.set_cons_zero, List.set_cons_succ]
    refine wpAnyP_take 20 (oi := o19_14_20) (v := ?_) rfl (by kernel_rfl) (fun c a w h => hQp c _ _ _ _ h) (by rfl) HS.out ?_ ?_; rotate_left
    · intro w_ hSw; obtain ⟨hs0, hs1⟩ := hSw; (try simp only [o19_14_20]); first | (go_simp; done) | (go_simp; with_reducible rfl)
    try simp only [Act.put, o19_14_20, List.setIfInBounds_toArray, List.set_cons_zero, List.set_cons_succ]
    have hfz := fun i => blk_frozen BG.out i
    have hcA : _ = some (bAt x.f0 1 1) := (blk_cell BG.out 1).trans rfl
    have hcB : _ = some (bAt x.f1 1 1) := (blk_cell BG.out 5).trans rfl
    refine wpAnyP_one 21 (o := o19_14_21) rfl (by kernel_rfl) (by rfl) (fun K hK => ?_)
    have HK := Aside0.mk hK
    clear hK
    try simp only [o19_14_21]
    go_simp
    refine HK.out _ _ (fun _ => HS.out) ?_
    clear HK K
    try simp only [Act.put, o19_14_21, List.setIfInBounds_toArray, List.set_cons_zero, List.set_cons_succ]
    refine wpAnyP_one 22 (o := o19_14_22) rfl (by kernel_rfl) (by rfl) (fun K hK => ?_)
    have HK := Aside0.mk hK
    clear hK
    try simp only [o19_14_22]
    go_simp
    refine HK.out _ _ (fun _ => ⟨(blk_cell (blk_far BF.out hne _) 0).trans rfl, (blk_cell (blk_far BF.out hne _) 1).trans rfl⟩) ?_
    clear HK K
    try simp only [Act.put, o19_14_22, List.setIfInBounds_toArray, List.set_cons_zero, List.set_cons_succ]
    refine wpAnyP_one 23 (o := o19_14_23) rfl (by kernel_rfl) (by rfl) (fun K hK => ?_)
    have HK := Aside0.mk hK
    clear hK
    try simp only [o19_14_23]
    go_simp
    refine HK.out _ _ (fun _ => ⟨(blk_cell (blk_far BF.out hne _) 0).trans rfl, (blk_cell (blk_far BF.out hne _) 1).trans rfl⟩) ?_
    clear HK K
    try simp only [Act.put, o19_14_23, List.setIfInBounds_toArray, List.set_cons_zero, List.set_cons_succ]
    refine wpAnyP_one 24 (o := o19_14_24) rfl (by kernel_rfl) (by rfl) (fun K hK => ?_)
    have HK := Aside0.mk hK
    clear hK
    try simp only [o19_14_24]
    go_simp
    refine HK.out _ _ (fun h_ => absurd h_ (by decide)) ?_
    clear HK K
    try simp only [Act.put, o19_14_24, List.setIfInBounds_toArray, List.set_cons_zero, List.set_cons_succ]
    refine wpAnyP_done (by kernel_rfl) ?_ _
    refine HQ.out _ (blk_far (blk_far BF.out hne _) hne _) (blk_put (cs' := bArr x (1 + 1)) (blk_set BG.out 1 _) 5 _ ?_) (Kd.R_far (Kd.R_far HO.out (p := ⟨gb, 1, none⟩) (fun k h => h.2) _) (p := ⟨gb, 5, none⟩) (fun k h => h.2) _) ((HB.out.setCell hGB _).setCell hGB _) _ _ _ _ _ _ _ _ _ _ _ _ _ _ _ _ _ _ _ _ _ _ _
    exact bArr_put x 1 (by omega) _ _ (by first | rfl | exact (show x.f0 % 256 = x.f0 / 1 % 256 by rw [Int.ediv_one])) (by first | rfl | exact (show x.f1 % 256 = x.f1 / 1 % 256 by rw [Int.ediv_one]))
  · have eI4 : IntKind.i64.wrap 6 = 6 := by decide
    have eI0 : IntKind.i64.wrap 0 = 0 := by decide
    have eU0 : IntKind.u64.wrap 0 = 0 := by decide
    have eI8 : IntKind.i64.wrap 8 = 8 := by decide
    have eU8 : IntKind.u64.wrap 8 = 8 := by decide
    have eI16 : IntKind.i64.wrap 16 = 16 := by decide
    have eU16 : IntKind.u64.wrap 16 = 16 := by decide
    have eI24 : IntKind.i64.wrap 24 = 24 := by decide
    have eU24 : IntKind.u64.wrap 24 = 24 := by decide
    refine wp_region_PIn (fun w' => w'.cell? ⟨gf, 0, none⟩ = some (.int .i64 x.f0) ∧ w'.cell? ⟨gf, 1, none⟩ = some (.int .i64 x.f1)) 24 (by kernel_rfl) hL (by kernel_rfl) ?_
    generalize wr.drew = w6 at *
    refine wpAnyP_take 0 (oi := o19_14_0) (v := ?_) rfl (by kernel_rfl) (fun c a w h => hQp c _ _ _ _ h) (by rfl) HS.out ?_ ?_; rotate_left
    · intro w_ hSw; obtain ⟨hs0, hs1⟩ := hSw; (try simp only [o19_14_0]); first | (go_simp; done) | (go_simp; with_reducible rfl)
    try simp only [Act.put, o19_14_0, List.setIfInBounds_toArray, List.set_cons_zero, List.set_cons_succ]
    refine wpAnyP_take 1 (oi := o19_14_1) (v := ?_) rfl (by kernel_rfl) (fun c a w h => hQp c _ _ _ _ h) (by rfl) HS.out ?_ ?_; rotate_left
    · intro w_ hSw; obtain ⟨hs0, hs1⟩ := hSw; (try simp only [o19_14_1]); first | (go_simp; done) | (go_simp; with_reducible rfl)
    try simp only [Act.put, o19_14_1, List.setIfInBounds_toArray, List.set_cons_zero, List.set_cons_succ]
    refine wpAnyP_take 2 (oi := o19_14_2) (v := ?_) rfl (by kernel_rfl) (fun c a w h => hQp c _ _ _ _ h) (by rfl) HS.out ?_ ?_; rotate_left
    · intro w_ hSw; obtain ⟨hs0, hs1⟩ := hSw; (try simp only [o19_14_2]); first | (go_simp; done) | (go_simp; with_reducible rfl)
    try simp only [Act.put, o19_14_2, List.setIfInBounds_toArray, List.set_cons_zero, List.set_cons_succ]
    refine wpAnyP_take 3 (oi := o19_14_3) (v := ?_) rfl (by kernel_rfl) (fun c a w h => hQp c _ _ _ _ h) (by rfl) HS.out ?_ ?_; rotate_left
    · intro w_ hSw; obtain ⟨hs0, hs1⟩ := hSw; (try simp only [o19_14_3]); first | (go_simp; done) | (go_simp; with_reducible rfl)
    try simp only [Act.put, o19_14_3, List.setIfInBounds_toArray, List.set_cons_zero, List.set_cons_succ]
    refine wpAnyP_take 4 (oi := o19_14_4) (v := ?_) rfl (by kernel_rfl) (fun c a w h => hQp c _ _ _ _ h) (by rfl) HS.out ?_ ?_; rotate_left
    · intro w_ hSw; obtain ⟨hs0, hs1⟩ := hSw; (try simp only [o19_14_4]); first | (go_simp; done) | (go_simp; with_reducible rfl)
    try simp only [Act.put, o19_14_4, List.setIfInBounds_toArray, List.set_cons_zero, List.set_cons_succ]
    refine wpAnyP_take 5 (oi := o19_14_5) (v := ?_) rfl (by kernel_rfl) (fun c a w h => hQp c _ _ _ _ h) (by rfl) HS.out ?_ ?_; rotate_left
    · intro w_ hSw; obtain ⟨hs0, hs1⟩ := hSw; (try simp only [o19_14_5]); first | (go_simp; done) | (go_simp; with_reducible rfl)
    try simp only [Act.put, o19_14_5, List.setIfInBounds_toArray, List.set_cons_zero, List.set_cons_succ]
    refine wpAnyP_take 6 (oi := o19_14_6) (v := ?_) rfl (by kernel_rfl) (fun c a w h => hQp c _ _ _ _ h) (by rfl) HS.out ?_ ?_; rotate_left
    · intro w_ hSw; obtain ⟨hs0, hs1⟩ := hSw; (try simp only [o19_14_6]); first | (go_simp; done) | (go_simp; with_reducible rfl)
    try simp only [Act.put, o19_14_6, List.setIfInBounds_toArray, List.set_cons_zero, List.set_cons_succ]
    refine wpAnyP_take 7 (oi := o19_14_7) (v := ?_) rfl (by kernel_rfl) (fun c a w h => hQp c _ _ _ _ h) (by rfl) HS.out ?_ ?_; rotate_left
    · intro w_ hSw; obtain ⟨hs0, hs1⟩ := hSw; (try simp only [o19_14_7]); first | (go_simp; done) | (go_simp; with_reducible rfl)
    try simp only [Act.put, o19_14_7, List.setIfInBounds_toArray, List.set_cons_zero, List.set_cons_succ]
    refine wpAnyP_take 8 (oi := o19_14_8) (v := ?_) rfl (by kernel_rfl) (fun c a w h => hQp c _ _ _ _ h) (by rfl) HS.out ?_ ?_; rotate_left
    · intro w_ hSw; obtain ⟨hs0, hs1⟩ := hSw; (try simp only [o19_14_8]); first | (go_simp; done) | (go_simp; with_reducible rfl)
    try simp only [Act.put, o19_14_8, List.setIfInBounds_toArray, List.set_cons_zero, List.set_cons_succ]
    refine wpAnyP_take 9 (oi := o19_14_9) (v := ?_) rfl (by kernel_rfl) (fun c a w h => hQp c _ _ _ _ h) (by rfl) HS.out ?_ ?_; rotate_left
    · intro w_ hSw; obtain ⟨hs0, hs1⟩ := hSw; (try simp only [o19_14_9]); first | (go_simp; done) | (go_simp; with_reducible rfl)
    try simp only [Act.put, o19_14_9, List.setIfInBounds_toArray, List.set_cons_zero, List.set_cons_succ]
    refine wpAnyP_take 10 (oi := o19_14_10) (v := ?_) rfl (by kernel_rfl) (fun c a w h => hQp c _ _ _ _ h) (by rfl) HS.out ?_ ?_; rotate_left
    · intro w_ hSw; obtain ⟨hs0, hs1⟩ := hSw; (try simp only [o19_14_10]); first | (go_simp; done) | (go_simp; with_reducible rfl)
    try simp only [Act.put, o19_14_10, List.setIfInBounds_toArray, List.set_cons_zero, List.set_cons_succ]
    refine wpAnyP_take 11 (oi := o19_14_11) (v := ?_) rfl (by kernel_rfl) (fun c a w h => hQp c _ _ _ _ h) (by rfl) HS.out ?_ ?_; rotate_left
    · intro w_ hSw; obtain ⟨hs0, hs1⟩ := hSw; (try simp only [o19_14_11]); first | (go_simp; done) | (go_simp; with_reducible rfl)
    try simp only [Act.put, o19_14_11, List.setIfInBounds_toArray, List.set_cons_zero, List.set_cons_succ]
    refine wpAnyP_take 12 (oi := o19_14_12) (v := ?_) rfl (by kernel_rfl) (fun c a w h => hQp c _ _ _ _ h) (by rfl) HS.out ?_ ?_; rotate_left
    · intro w_ hSw; obtain ⟨hs0, hs1⟩ := hSw; (try simp only [o19_14_12]); first | (go_simp; done) | (go_simp; with_reducible rfl)
    try simp only [Act.put, o19_14_12, List.setIfInBounds_toArray, List.set_cons_zero, List.set_cons_succ]
    refine wpAnyP_take 13 (oi := o19_14_13) (v := ?_) rfl (by kernel_rfl) (fun c a w h => hQp c _ _ _ _ h) (by rfl) HS.out ?_ ?_; rotate_left
    · intro w_ hSw; obtain ⟨hs0, hs1⟩ := hSw; (try simp only [o19_14_13]); first | (go_simp; done) | (go_simp; with_reducible rfl)
    try simp only [Act.put, o19_14_13, List.setIfInBounds_toArray, List.set_cons_zero, List.set_cons_succ]
    refine wpAnyP_take 14 (oi := o19_14_14) (v := ?_) rfl (by kernel_rfl) (fun c a w h => hQp c _ _ _ _ h) (by rfl) HS.out ?_ ?_; rotate_left
    · intro w_ hSw; obtain ⟨hs0, hs1⟩ := hSw; (try simp only [o19_14_14]); first | (go_simp; done) | (go_simp; with_reducible rfl)
    try simp only [Act.put, o19_14_14, List.setIfInBounds_toArray, List.set_cons_zero, List.set_cons_succ]
    refine wpAnyP_take 15 (oi := o19_14_15) (v := ?_) rfl (by kernel_rfl) (fun c a w h => hQp c _ _ _ _ h) (by rfl) HS.out ?_ ?_; rotate_left
    · intro w_ hSw; obtain ⟨hs0, hs1⟩ := hSw; (try simp only [o19_14_15]); first | (go_simp; done) | (go_simp; with_reducible rfl)
    try simp only [Act.put, o19_14_15, List.setIfInBounds_toArray, List.set_cons_zero, List.set_cons_succ]
    refine wpAnyP_take 16 (oi := o19_14_16) (v := ?_) rfl (by kernel_rfl) (fun c a w h => hQp c _ _ _ _ h) (by rfl) HS.out ?_ ?_; rotate_left
    · intro w_ hSw; obtain ⟨hs0, hs1⟩ := hSw; (try simp only [o19_14_16]); first | (go_simp; done) | (go_simp; with_reducible rfl)
    try simp only [Act.put, o19_14_16, List.setIfInBounds_toArray, List.set_cons_zero, List.set_cons_succ]
    refine wpAnyP_take 17 (oi := o19_14_17) (v := ?_) rfl (by kernel_rfl) (fun c a w h => hQp c _ _ _ _ h) (by rfl) HS.out ?_ ?_; rotate_left
    · intro w_ hSw; obtain ⟨hs0, hs1⟩ := hSw; (try simp only [o19_14_17]); first | (go_simp; done) | (go_simp; with_reducible rfl)
    try simp only [Act.put, o19_14_17, List.setIfInBounds_toArray, List.set_cons_zero, List.set_cons_succ]
    refine wpAnyP_take 18 (oi := o19_14_18) (v := ?_) rfl (by kernel_rfl) (fun c a w h => hQp c _ _ _ _ h) (by rfl) HS.out ?_ ?_; rotate_left
    · intro w_ hSw; obtain ⟨hs0, hs1⟩ := hSw; (try simp only [o19_14_18]); first | (go_simp; done) | (go_simp; with_reducible rfl)
    try simp only [Act.put, o19_14_18, List.setIfInBounds_toArray, List.set_cons_zero, List.set_cons_succ]
    refine wpAnyP_take 19 (oi := o19_14_19) (v := ?_) rfl (by kernel_rfl) (fun c a w h => hQp c _ _ _ _ h) (by rfl) HS.out ?_ ?_; rotate_left
    · intro w_ hSw; obtain ⟨hs0, hs1⟩ := hSw; (try simp only [o19_14_19]); first | (go_simp; done) | (go_simp; with_reducible rfl)
    try simp only [Act.put, o19_14_19, List.setIfInBounds_toArray, List.set_cons_zero, List.set_cons_succ]
    refine wpAnyP_take 20 (oi := o19_14_20) (v := ?_) rfl (by kernel_rfl) (fun c a w h => hQp c _ _ _ _ h) (by rfl) HS.out ?_ ?_; rotate_left
    · intro w_ hSw; obtain ⟨hs0, hs1⟩ := hSw; (try simp only [o19_14_20]); first | (go_simp; done) | (go_simp; with_reducible rfl)
    try simp only [Act.put, o19_14_20, List.setIfInBounds_toArray, List.set_cons_zero, List.set_cons_succ]
    have hfz := fun i => blk_frozen BG.out i
    have hcA : _ = some (bAt x.f0 2 2) := (blk_cell BG.out 2).trans rfl
    have hcB : _ = some (bAt x.f1 2 2) := (blk_cell BG.out 6).trans rfl
    refine wpAnyP_one 21 (o := o19_14_21) rfl (by kernel_rfl) (by rfl) (fun K hK => ?_)
    have HK := Aside0.mk hK
    clear hK
    try simp only [o19_14_21]
    go_simp
    refine HK.out _ _ (fun _ => HS.out) ?_
    clear HK K
    try simp only [Act.put, o19_14_21, List.setIfInBounds_toArray, List.set_cons_zero, List.set_cons_succ]
    refine wpAnyP_one 22 (o := o19_14_22) rfl (by kernel_rfl) (by rfl) (fun K hK => ?_)
    have HK := Aside0.mk hK
    clear hK
    try simp only [o19_14_22]
    go_simp
    refine HK.out _ _ (fun _ => ⟨(blk_cell (blk_far BF.out hne _) 0).trans rfl, (blk_cell (blk_far BF.out hne _) 1).trans rfl⟩) ?_
    clear HK K
    try simp only [Act.put, o19_14_22, List.setIfInBounds_toArray, List.set_cons_zero, List.set_cons_succ]
    refine wpAnyP_one 23 (o := o19_14_23) rfl (by kernel_rfl) (by rfl) (fun K hK => ?_)
    have HK := Aside0.mk hK
    clear hK
    try simp only [o19_14_23]
    go_simp
    refine HK.out _ _ (fun _ => ⟨(blk_cell (blk_far BF.out hne _) 0).trans rfl, (blk_cell (blk_far BF.out hne _) 1).trans rfl⟩) ?_
    clear HK K
    try simp only [Act.put, o19_14_23, List.setIfInBounds_toArray, List.set_cons_zero, List.set_cons_succ]
    refine wpAnyP_one 24 (o := o19_14_24) rfl (by kernel_rfl) (by rfl) (fun K hK => ?_)
    have HK := Aside0.mk hK
    clear hK
    try simp only [o19_14_24]
    go_simp
    refine HK.out _ _ (fun h_ => absurd h_ (by decide)) ?_
    clear HK K
    try simp only [Act.put, o19_14_24, List.setIfInBounds_toArray, List.set_cons_zero, List.set_cons_succ]
    refine wpAnyP_done (by kernel_rfl) ?_ _
    refine HQ.out _ (blk_far (blk_far BF.out hne _) hne _) (blk_put (cs' := bArr x (2 + 1)) (blk_set BG.out 2 _) 6 _ ?_) (Kd.R_far (Kd.R_far HO.out (p := ⟨gb, 2, none⟩) (fun k h => h.2) _) (p := ⟨gb, 6, none⟩) (fun k h => h.2) _) ((HB.out.setCell hGB _).setCell hGB _) _ _ _ _ _ _ _ _ _ _ _ _ _ _ _ _ _ _ _ _ _ _ _
    exact bArr_put x 2 (by omega) _ _ (by first | rfl | exact (show x.f0 % 256 = x.f0 / 1 % 256 by rw [Int.ediv_one])) (by first | rfl | exact (show x.f1 % 256 = x.f1 / 1 % 256 by rw [Int.ediv_one]))
  · have eI4 : IntKind.i64.wrap 7 = 7 := by decide
    have eI0 : IntKind.i64.wrap 0 = 0 := by decide
    have eU0 : IntKind.u64.wrap 0 = 0 := by decide
    have eI8 : IntKind.i64.wrap 8 = 8 := by decide
    have eU8 : IntKind.u64.wrap 8 = 8 := by decide
    have eI16 : IntKind.i64.wrap 16 = 16 := by decide
    have eU16 : IntKind.u64.wrap 16 = 16 := by decide
    have eI24 : IntKind.i64.wrap 24 = 24 := by decide
    have eU24 : IntKind.u64.wrap 24 = 24 := by decide
    refine wp_region_PIn (fun w' => w'.cell? ⟨gf, 0, none⟩ = some (.int .i64 x.f0) ∧ w'.cell? ⟨gf, 1, none⟩ = some (.int .i64 x.f1)) 24 (by kernel_rfl) hL (by kernel_rfl) ?_
    generalize wr.drew = w6 at *
    refine wpAnyP_take 0 (oi := o19_14_0) (v := ?_) rfl (by kernel_rfl) (fun c a w h => hQp c _ _ _ _ h) (by rfl) HS.out ?_ ?_; rotate_left
    · intro w_ hSw; obtain ⟨hs0, hs1⟩ := hSw; (try simp only [o19_14_0]); first | (go_simp; done) | (go_simp; with_reducible rfl)
    try simp only [Act.put, o19_14_0, List.setIfInBounds_toArray, List.set_cons_zero, List.set_cons_succ]
    refine wpAnyP_take 1 (oi := o19_14_1) (v := ?_) rfl (by kernel_rfl) (fun c a w h => hQp c _ _ _ _ h) (by rfl) HS.out ?_ ?_; rotate_left
    · intro w_ hSw; obtain ⟨hs0, hs1⟩ := hSw; (try simp only [o19_14_1]); first | (go_simp; done) | (go_simp; with_reducible rfl)
    try simp only [Act.put, o19_14_1, List.setIfInBounds_toArray, List.set_cons_zero, List.set_cons_succ]
    refine wpAnyP_take 2 (oi := o19_14_2) (v := ?_) rfl (by kernel_rfl) (fun c a w h => hQp c _ _ _ _ h) (by rfl) HS.out ?_ ?_; rotate_left
    · intro w_ hSw; obtain ⟨hs0, hs1⟩ := hSw; (try simp only [o19_14_2]); first | (go_simp; done) | (go_simp; with_reducible rfl)
    try simp only [Act.put, o19_14_2, List.setIfInBounds_toArray, List.set_cons_zero, List.set_cons_succ]
    refine wpAnyP_take 3 (oi := o19_14_3) (v := ?_) rfl (by kernel_rfl) (fun c a w h => hQp c _ _ _ _ h) (by rfl) HS.out ?_ ?_; rotate_left
    · intro w_ hSw; obtain ⟨hs0, hs1⟩ := hSw; (try simp only [o19_14_3]); first | (go_simp; done) | (go_simp; with_reducible rfl)
    try simp only [Act.put, o19_14_3, List.setIfInBounds_toArray, List.set_cons_zero, List.set_cons_succ]
    refine wpAnyP_take 4 (oi := o19_14_4) (v := ?_) rfl (by kernel_rfl) (fun c a w h => hQp c _ _ _ _ h) (by rfl) HS.out ?_ ?_; rotate_left
    · intro w_ hSw; obtain ⟨hs0, hs1⟩ := hSw; (try simp only [o19_14_4]); first | (go_simp; done) | (go_simp; with_reducible rfl)
    try simp only [Act.put, o19_14_4, List.setIfInBounds_toArray, List.set_cons_zero, List.set_cons_succ]
    refine wpAnyP_take 5 (oi := o19_14_5) (v := ?_) rfl (by kernel_rfl) (fun c a w h => hQp c _ _ _ _ h) (by rfl) HS.out ?_ ?_; rotate_left
    · intro w_ hSw; obtain ⟨hs0, hs1⟩ := hSw; (try simp only [o19_14_5]); first | (go_simp; done) | (go_simp; with_reducible rfl)
    try simp only [Act.put, o19_14_5, List.setIfInBounds_toArray, List.set_cons_zero, List.set_cons_succ]
    refine wpAnyP_take 6 (oi := o19_14_6) (v := ?_) rfl (by kernel_rfl) (fun c a w h => hQp c _ _ _ _ h) (by rfl) HS.out ?_ ?_; rotate_left
    · intro w_ hSw; obtain ⟨hs0, hs1⟩ := hSw; (try simp only [o19_14_6]); first | (go_simp; done) | (go_simp; with_reducible rfl)
    try simp only [Act.put, o19_14_6, List.setIfInBounds_toArray, List.set_cons_zero, List.set_cons_succ]
    refine wpAnyP_take 7 (oi := o19_14_7) (v := ?_) rfl (by kernel_rfl) (fun c a w h => hQp c _ _ _ _ h) (by rfl) HS.out ?_ ?_; rotate_left
    · intro w_ hSw; obtain ⟨hs0, hs1⟩ := hSw; (try simp only [o19_14_7]); first | (go_simp; done) | (go_simp; with_reducible rfl)
    try simp only [Act.put, o19_14_7, List.setIfInBounds_toArray, List.set_cons_zero, List.set_cons_succ]
    refine wpAnyP_take 8 (oi := o19_14_8) (v := ?_) rfl (by kernel_rfl) (fun c a w h => hQp c _ _ _ _ h) (by rfl) HS.out ?_ ?_; rotate_left
    · intro w_ hSw; obtain ⟨hs0, hs1⟩ := hSw; (try simp only [o19_14_8]); first | (go_simp; done) | (go_simp; with_reducible rfl)
    try simp only [Act.put, o19_14_8, List.setIfInBounds_toArray, List.set_cons_zero, List.set_cons_succ]
    refine wpAnyP_take 9 (oi := o19_14_9) (v := ?_) rfl (by kernel_rfl) (fun c a w h => hQp c _ _ _ _ h) (by rfl) HS.out ?_ ?_; rotate_left
    · intro w_ hSw; obtain ⟨hs0, hs1⟩ := hSw; (try simp only [o19_14_9]); first | (go_simp; done) | (go_simp; with_reducible rfl)
    try simp only [Act.put, o19_14_9, List.setIfInBounds_toArray, List.set_cons_zero, List.set_cons_succ]
    refine wpAnyP_take 10 (oi := o19_14_10) (v := ?_) rfl (by kernel_rfl) (fun c a w h => hQp c _ _ _ _ h) (by rfl) HS.out ?_ ?_; rotate_left
    · intro w_ hSw; obtain ⟨hs0, hs1⟩ := hSw; (try simp only [o19_14_10]); first | (go_simp; done) | (go_simp; with_reducible rfl)
    try simp only [Act.put, o19_14_10, List.setIfInBounds_toArray, List.set_cons_zero, List.set_cons_succ]
    refine wpAnyP_take 11 (oi := o19_14_11) (v := ?_) rfl (by kernel_rfl) (fun c a w h => hQp c _ _ _ _ h) (by rfl) HS.out ?_ ?_; rotate_left
    · intro w_ hSw; obtain ⟨hs0, hs1⟩ := hSw; (try simp only [o19_14_11]); first | (go_simp; done) | (go_simp; with_reducible rfl)
    try simp only [Act.put, o19_14_11, List.setIfInBounds_toArray, List.set_cons_zero, List.set_cons_succ]
    refine wpAnyP_take 12 (oi := o19_14_12) (v := ?_) rfl (by kernel_rfl) (fun c a w h => hQp c _ _ _ _ h) (by rfl) HS.out ?_ ?_; rotate_left
    · intro w_ hSw; obtain ⟨hs0, hs1⟩ := hSw; (try simp only [o19_14_12]); first | (go_simp; done) | (go_simp; with_reducible rfl)
    try simp only [Act.put, o19_14_12, List.setIfInBounds_toArray, List.set_cons_zero, List.set_cons_succ]
    refine wpAnyP_take 13 (oi := o19_14_13) (v := ?_) rfl (by kernel_rfl) (fun c a w h => hQp c _ _ _ _ h) (by rfl) HS.out ?_ ?_; rotate_left
    · intro w_ hSw; obtain ⟨hs0, hs1⟩ := hSw; (try simp only [o19_14_13]); first | (go_simp; done) | (go_simp; with_reducible rfl)
    try simp only [Act.put, o19_14_13, List.setIfInBounds_toArray, List.set_cons_zero, List.set_cons_succ]
    refine wpAnyP_take 14 (oi := o19_14_14) (v := ?_) rfl (by kernel_rfl) (fun c a w h => hQp c _ _ _ _ h) (by rfl) HS.out ?_ ?_; rotate_left
    · intro w_ hSw; obtain ⟨hs0, hs1⟩ := hSw; (try simp only [o19_14_14]); first | (go_simp; done) | (go_simp; with_reducible rfl)
    try simp only [Act.put, o19_14_14, List.setIfInBounds_toArray, List.set_cons_zero, List.set_cons_succ]
    refine wpAnyP_take 15 (oi := o19_14_15) (v := ?_) rfl (by kernel_rfl) (fun c a w h => hQp c _ _ _ _ h) (by rfl) HS.out ?_ ?_; rotate_left
    · intro w_ hSw; obtain ⟨hs0, hs1⟩ := hSw; (try simp only [o19_14_15]); first | (go_simp; done) | (go_simp; with_reducible rfl)
    try simp only [Act.put, o19_14_15, List.setIfInBounds_toArray, List.set_cons_zero, List.set_cons_succ]
    refine wpAnyP_take 16 (oi := o19_14_16) (v := ?_) rfl (by kernel_rfl) (fun c a w h => hQp c _ _ _ _ h) (by rfl) HS.out ?_ ?_; rotate_left
    · intro w_ hSw; obtain ⟨hs0, hs1⟩ := hSw; (try simp only [o19_14_16]); first | (go_simp; done) | (go_simp; with_reducible rfl)
    try simp only [Act.put, o19_14_16, List.setIfInBounds_toArray, List.set_cons_zero, List.set_cons_succ]
    refine wpAnyP_take 17 (oi := o19_14_17) (v := ?_) rfl (by kernel_rfl) (fun c a w h => hQp c _ _ _ _ h) (by rfl) HS.out ?_ ?_; rotate_left
    · intro w_ hSw; obtain ⟨hs0, hs1⟩ := hSw; (try simp only [o19_14_17]); first | (go_simp; done) | (go_simp; with_reducible rfl)
    try simp only [Act.put, o19_14_17, List.setIfInBounds_toArray, List.set_cons_zero, List.set_cons_succ]
    refine wpAnyP_take 18 (oi := o19_14_18) (v := ?_) rfl (by kernel_rfl) (fun c a w h => hQp c _ _ _ _ h) (by rfl) HS.out ?_ ?_; rotate_left
    · intro w_ hSw; obtain ⟨hs0, hs1⟩ := hSw; (try simp only [o19_14_18]); first | (go_simp; done) | (go_simp; with_reducible rfl)
    try simp only [Act.put, o19_14_18, List.setIfInBounds_toArray, List.set_cons_zero, List.set_cons_succ]
    refine wpAnyP_take 19 (oi := o19_14_19) (v := ?_) rfl (by kernel_rfl) (fun c a w h => hQp c _ _ _ _ h) (by rfl) HS.out ?_ ?_; rotate_left
    · intro w_ hSw; obtain ⟨hs0, hs1⟩ := hSw; (try simp only [o19_14_19]); first | (go_simp; done) | (go_simp; with_reducible rfl)
    try simp only [Act.put, o19_14_19, List.setIfInBounds_toArray, List.set_cons_zero, List.set_cons_succ]
    refine wpAnyP_take 20 (oi := o19_14_20) (v := ?_) rfl (by kernel_rfl) (fun c a w h => hQp c _ _ _ _ h) (by rfl) HS.out ?_ ?_; rotate_left
    · intro w_ hSw; obtain ⟨hs0, hs1⟩ := hSw; (try simp only [o19_14_20]); first | (go_simp; done) | (go_simp; with_reducible rfl)
    try simp only [Act.put, o19_14_20, List.setIfInBounds_toArray, List.set_cons_zero, List.set_cons_succ]
    have hfz := fun i => blk_frozen BG.out i
    have hcA : _ = some (bAt x.f0 3 3) := (blk_cell BG.out 3).trans rfl
    have hcB : _ = some (bAt x.f1 3 3) := (blk_cell BG.out 7).trans rfl
    refine wpAnyP_one 21 (o := o19_14_21) rfl (by kernel_rfl) (by rfl) (fun K hK => ?_)
    have HK := Aside0.mk hK
    clear hK
    try simp only [o19_14_21]
    go_simp
    refine HK.out _ _ (fun _ => HS.out) ?_
    clear HK K
    try simp only [Act.put, o19_14_21, List.setIfInBounds_toArray, List.set_cons_zero, List.set_cons_succ]
    refine wpAnyP_one 22 (o := o19_14_22) rfl (by kernel_rfl) (by rfl) (fun K hK => ?_)
    have HK := Aside0.mk hK
    clear hK
    try simp only [o19_14_22]
    go_simp
    refine HK.out _ _ (fun _ => ⟨(blk_cell (blk_far BF.out hne _) 0).trans rfl, (blk_cell (blk_far BF.out hne _) 1).trans rfl⟩) ?_
    clear HK K
    try simp only [Act.put, o19_14_22, List.setIfInBounds_toArray, List.set_cons_zero, List.set_cons_succ]
    refine wpAnyP_one 23 (o := o19_14_23) rfl (by kernel_rfl) (by rfl) (fun K hK => ?_)
    have HK := Aside0.mk hK
    clear hK
    try simp only [o19_14_23]
    go_simp
    refine HK.out _ _ (fun _ => ⟨(blk_cell (blk_far BF.out hne _) 0).trans rfl, (blk_cell (blk_far BF.out hne _) 1).trans rfl⟩) ?_
    clear HK K
    try simp only [Act.put, o19_14_23, List.setIfInBounds_toArray, List.set_cons_zero, List.set_cons_succ]
    refine wpAnyP_one 24 (o := o19_14_24) rfl (by kernel_rfl) (by rfl) (fun K hK => ?_)
    have HK := Aside0.mk hK
    clear hK
    try simp only [o19_14_24]
    go_simp
    refine HK.out _ _ (fun h_ => absurd h_ (by decide)) ?_
    clear HK K
    try simp only [Act.put, o19_14_24, List.setIfInBounds_toArray, List.set_cons_zero, List.set_cons_succ]
    refine wpAnyP_done (by kernel_rfl) ?_ _
    refine HQ.out _ (blk_far (blk_far BF.out hne _) hne _) (blk_put (cs' := bArr x (3 + 1)) (blk_set BG.out 3 _) 7 _ ?_) (Kd.R_far (Kd.R_far HO.out (p := ⟨gb, 3, none⟩) (fun k h => h.2) _) (p := ⟨gb, 7, none⟩) (fun k h => h.2) _) ((HB.out.setCell hGB _).setCell hGB _) _ _ _ _ _ _ _ _ _ _ _ _ _ _ _ _ _ _ _ _ _ _ _
    exact bArr_put x 3 (by omega) _ _ (by first | rfl | exact (show x.f0 % 256 = x.f0 / 1 % 256 by rw [Int.ediv_one])) (by first | rfl | exact (show x.f1 % 256 = x.f1 / 1 % 256 by rw [Int.ediv_one]))
end Go.Proofs.Ytmplcceghjofhaa.PF
