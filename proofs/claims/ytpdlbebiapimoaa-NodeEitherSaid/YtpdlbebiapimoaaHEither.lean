/- The law's own function: either way of putting two keys -/
import Derived.Test.YtpdlbebiapimoaaHEi0
import Derived.Test.YtpdlbebiapimoaaPureB
import Derived.Test.YtpdlbebiapimoaaPureC
import Derived.Test.YtpdlbebiapimoaaHRegion2
namespace Go.Proofs.Ytpdlbebiapimoaa.PN
open Go.RowKit Go.Proofs.YtpdlbebiapimoaaW.PrintWords Go.Proofs.YtpdlbebiapimoaaW.PrintLast Go.Proofs.YtpdlbebiapimoaaW.PrintMore
set_option linter.unusedVariables false
set_option linter.unusedSimpArgs false
abbrev o12_3_0 : Oper := { dst := some 56, op := .load 25 (.tmp 4), type := 25, pos := "law.go:152", after := #[], guard := none }
abbrev o12_3_1 : Oper := { dst := some 57, op := .move (.tmp 1), type := 9, pos := "law.go:152", after := #[], guard := none }
abbrev o12_3_2 : Oper := { dst := some 58, op := .indexAddr 52 (.tmp 7) (.const (.int .i64 0)), type := 0, pos := "law.go:152", after := #[], guard := none }
abbrev o12_3_3 : Oper := { dst := some 59, op := .load 9 (.tmp 58), type := 9, pos := "law.go:152", after := #[{ on := 2, ground := .data }], guard := none }
abbrev o12_3_4 : Oper := { dst := some 60, op := .call { callee := .value (.func 29), args := #[.tmp 56, .tmp 57, .tmp 59], argTypes := #[25, 9, 9] }, type := 25, pos := "law.go:152", after := #[{ on := 0, ground := .data }, { on := 1, ground := .data }, { on := 3, ground := .data }], guard := none }
abbrev o12_3_5 : Oper := { dst := some 61, op := .move (.tmp 2), type := 9, pos := "law.go:152", after := #[], guard := none }
abbrev o12_3_6 : Oper := { dst := some 62, op := .indexAddr 52 (.tmp 7) (.const (.int .i64 1)), type := 0, pos := "law.go:152", after := #[], guard := none }
abbrev o12_3_7 : Oper := { dst := some 63, op := .load 9 (.tmp 62), type := 9, pos := "law.go:152", after := #[{ on := 6, ground := .data }], guard := none }
abbrev o12_3_8 : Oper := { dst := some 64, op := .call { callee := .value (.func 29), args := #[.tmp 60, .tmp 61, .tmp 63], argTypes := #[25, 9, 9] }, type := 25, pos := "law.go:152", after := #[{ on := 4, ground := .data }, { on := 5, ground := .data }, { on := 7, ground := .data }, { on := 4, ground := .chain }], guard := none }
abbrev o12_3_9 : Oper := { dst := some 9, op := .alloc 25, type := 0, pos := "law.go:152", after := #[], guard := none }
abbrev o12_3_10 : Oper := { dst := none, op := .store 25 (.tmp 9) (.tmp 64), type := 0, pos := "law.go:152", after := #[{ on := 9, ground := .data }, { on := 8, ground := .data }, { on := 8, ground := .chain }, { on := 0, ground := .phase }, { on := 1, ground := .phase }, { on := 2, ground := .phase }, { on := 3, ground := .phase }, { on := 4, ground := .phase }, { on := 5, ground := .phase }, { on := 6, ground := .phase }, { on := 7, ground := .phase }, { on := 8, ground := .phase }, { on := 9, ground := .phase }], guard := none }
abbrev o12_4_0 : Oper := { dst := some 65, op := .load 25 (.tmp 4), type := 25, pos := "law.go:153", after := #[], guard := none }
abbrev o12_4_1 : Oper := { dst := some 66, op := .move (.tmp 2), type := 9, pos := "law.go:153", after := #[], guard := none }
abbrev o12_4_2 : Oper := { dst := some 67, op := .indexAddr 52 (.tmp 7) (.const (.int .i64 1)), type := 0, pos := "law.go:153", after := #[], guard := none }
abbrev o12_4_3 : Oper := { dst := some 68, op := .load 9 (.tmp 67), type := 9, pos := "law.go:153", after := #[{ on := 2, ground := .data }], guard := none }
abbrev o12_4_4 : Oper := { dst := some 69, op := .call { callee := .value (.func 29), args := #[.tmp 65, .tmp 66, .tmp 68], argTypes := #[25, 9, 9] }, type := 25, pos := "law.go:153", after := #[{ on := 0, ground := .data }, { on := 1, ground := .data }, { on := 3, ground := .data }], guard := none }
abbrev o12_4_5 : Oper := { dst := some 70, op := .move (.tmp 1), type := 9, pos := "law.go:153", after := #[], guard := none }
abbrev o12_4_6 : Oper := { dst := some 71, op := .indexAddr 52 (.tmp 7) (.const (.int .i64 0)), type := 0, pos := "law.go:153", after := #[], guard := none }
abbrev o12_4_7 : Oper := { dst := some 72, op := .load 9 (.tmp 71), type := 9, pos := "law.go:153", after := #[{ on := 6, ground := .data }], guard := none }
abbrev o12_4_8 : Oper := { dst := some 73, op := .call { callee := .value (.func 29), args := #[.tmp 69, .tmp 70, .tmp 72], argTypes := #[25, 9, 9] }, type := 25, pos := "law.go:153", after := #[{ on := 4, ground := .data }, { on := 5, ground := .data }, { on := 7, ground := .data }, { on := 4, ground := .chain }], guard := none }
abbrev o12_4_9 : Oper := { dst := some 10, op := .alloc 25, type := 0, pos := "law.go:153", after := #[], guard := none }
abbrev o12_4_10 : Oper := { dst := none, op := .store 25 (.tmp 10) (.tmp 73), type := 0, pos := "law.go:153", after := #[{ on := 9, ground := .data }, { on := 8, ground := .data }, { on := 8, ground := .chain }, { on := 0, ground := .phase }, { on := 1, ground := .phase }, { on := 2, ground := .phase }, { on := 3, ground := .phase }, { on := 4, ground := .phase }, { on := 5, ground := .phase }, { on := 6, ground := .phase }, { on := 7, ground := .phase }, { on := 8, ground := .phase }, { on := 9, ground := .phase }], guard := none }
abbrev o12_5_0 : Oper := { dst := some 74, op := .load 25 (.tmp 9), type := 25, pos := "law.go:154", after := #[], guard := none }
abbrev o12_5_1 : Oper := { dst := some 75, op := .load 25 (.tmp 10), type := 25, pos := "law.go:154", after := #[], guard := none }
abbrev o12_5_2 : Oper := { dst := some 76, op := .call { callee := .value (.func 23), args := #[.tmp 74, .tmp 75], argTypes := #[25, 25] }, type := 4, pos := "law.go:154", after := #[{ on := 0, ground := .data }, { on := 1, ground := .data }], guard := none }
abbrev o12_5_3 : Oper := { dst := some 77, op := .move (.tmp 76), type := 4, pos := "law.go:154", after := #[{ on := 2, ground := .data }, { on := 2, ground := .chain }], guard := none }
abbrev o12_5_4 : Oper := { dst := some 78, op := .load 25 (.tmp 9), type := 25, pos := "law.go:154", after := #[{ on := 3, ground := .guard }], guard := some (3, true) }
abbrev o12_5_5 : Oper := { dst := some 79, op := .move (.tmp 1), type := 9, pos := "law.go:154", after := #[{ on := 3, ground := .guard }], guard := some (3, true) }
abbrev o12_5_6 : Oper := { dst := some 80, op := .call { callee := .value (.func 31), args := #[.tmp 78, .tmp 79], argTypes := #[25, 9] }, type := 25, pos := "law.go:154", after := #[{ on := 4, ground := .data }, { on := 5, ground := .data }, { on := 3, ground := .chain }, { on := 3, ground := .guard }], guard := some (3, true) }
abbrev o12_5_7 : Oper := { dst := some 81, op := .move (.tmp 2), type := 9, pos := "law.go:154", after := #[{ on := 3, ground := .guard }], guard := some (3, true) }
abbrev o12_5_8 : Oper := { dst := some 82, op := .call { callee := .value (.func 31), args := #[.tmp 80, .tmp 81], argTypes := #[25, 9] }, type := 25, pos := "law.go:154", after := #[{ on := 6, ground := .data }, { on := 7, ground := .data }, { on := 6, ground := .chain }, { on := 3, ground := .guard }], guard := some (3, true) }
abbrev o12_5_9 : Oper := { dst := some 83, op := .load 25 (.tmp 10), type := 25, pos := "law.go:154", after := #[{ on := 3, ground := .guard }], guard := some (3, true) }
abbrev o12_5_10 : Oper := { dst := some 84, op := .move (.tmp 2), type := 9, pos := "law.go:154", after := #[{ on := 3, ground := .guard }], guard := some (3, true) }
abbrev o12_5_11 : Oper := { dst := some 85, op := .call { callee := .value (.func 31), args := #[.tmp 83, .tmp 84], argTypes := #[25, 9] }, type := 25, pos := "law.go:154", after := #[{ on := 9, ground := .data }, { on := 10, ground := .data }, { on := 8, ground := .chain }, { on := 3, ground := .guard }], guard := some (3, true) }
abbrev o12_5_12 : Oper := { dst := some 86, op := .move (.tmp 1), type := 9, pos := "law.go:154", after := #[{ on := 3, ground := .guard }], guard := some (3, true) }
abbrev o12_5_13 : Oper := { dst := some 87, op := .call { callee := .value (.func 31), args := #[.tmp 85, .tmp 86], argTypes := #[25, 9] }, type := 25, pos := "law.go:154", after := #[{ on := 11, ground := .data }, { on := 12, ground := .data }, { on := 11, ground := .chain }, { on := 3, ground := .guard }], guard := some (3, true) }
abbrev o12_5_14 : Oper := { dst := some 88, op := .call { callee := .value (.func 23), args := #[.tmp 82, .tmp 87], argTypes := #[25, 25] }, type := 4, pos := "law.go:154", after := #[{ on := 8, ground := .data }, { on := 13, ground := .data }, { on := 13, ground := .chain }, { on := 3, ground := .guard }], guard := some (3, true) }
abbrev o12_5_15 : Oper := { dst := some 89, op := .pick (.tmp 77) (.tmp 88) (.const (.bool false)), type := 4, pos := "law.go:154", after := #[{ on := 3, ground := .data }, { on := 14, ground := .data }], guard := none }
abbrev o12_5_16 : Oper := { dst := some 8, op := .assign (.tmp 89), type := 4, pos := "law.go:154", after := #[{ on := 15, ground := .data }, { on := 14, ground := .chain }, { on := 0, ground := .phase }, { on := 1, ground := .phase }, { on := 2, ground := .phase }, { on := 3, ground := .phase }, { on := 4, ground := .phase }, { on := 5, ground := .phase }, { on := 6, ground := .phase }, { on := 7, ground := .phase }, { on := 8, ground := .phase }, { on := 9, ground := .phase }, { on := 10, ground := .phase }, { on := 11, ground := .phase }, { on := 12, ground := .phase }, { on := 13, ground := .phase }, { on := 14, ground := .phase }, { on := 15, ground := .phase }], guard := none }
set_option maxHeartbeats 8000000 in
set_option maxRecDepth 100000 in
theorem NodeEither_walk (a0_0 : Bool) (A0_1 : Option Addr) (c0_1 : Nat) (l0_1 : List ByteArray) (A0_2 : Option Addr) (c0_2 : Nat) (l0_2 : List ByteArray) (A0_3 : Option Addr) (c0_3 : Nat) (l0_3 : List Int) (a1 a2 a3_0 a3_1 : ByteArray) (w : World)
    (hr0_1 : Kd.C Kd.string w A0_1 l0_1.length l0_1) (hc0_1 : l0_1.length ≤ c0_1) (hr0_2 : Kd.C Kd.string w A0_2 l0_2.length l0_2) (hc0_2 : l0_2.length ≤ c0_2) (hr0_3 : Kd.C (Kd.int .i64) w A0_3 l0_3.length l0_3) (hc0_3 : l0_3.length ≤ c0_3) :
    Calls Try.prog 12 #[.agg #[.bool a0_0, .slice A0_1 l0_1.length c0_1, .slice A0_2 l0_2.length c0_2, .slice A0_3 l0_3.length c0_3], .string a1, .string a2, .agg #[.string a3_0, .string a3_1]] w fun e w' => e = .returned (.bool true) ∧ Below w.heap.size w w' := by
  have H1 := Aside0.mk hr0_1
  have H2 := Aside0.mk hr0_2
  have H3 := Aside0.mk hr0_3
  clear hr0_1 hr0_2 hr0_3
  obtain ⟨ka, hka⟩ := awake_ev.rounds
  have HAW := Aside0.mk hka
  obtain ⟨kf, hkf⟩ := (few_ev a0_0 l0_1 l0_2 l0_3).rounds
  clear hka
  have hu25 := Try.underlying25
  have hu52 := Try.underlying52
  go_enter Try.func12, Try.ntmps12
  go_upto_region 1 with (first | ((with_reducible refine gate_dst (N := 4) rfl ?_); refine box_event ?hg (N := 4) ?hd (cs := #[.bool a0_0, .slice A0_1 l0_1.length c0_1, .slice A0_2 l0_2.length c0_2, .slice A0_3 l0_3.length c0_3]) (t := 25) ?hr ?_; (case hd => rfl); (case hg => rfl); (case hr => first | (go_simp; done) | (go_simp; rfl)); intro ga hg wq hbox hb; have HB := Aside0.mk hb; have BA := NBox.mk hbox; clear hg hbox hb) | ((with_reducible refine gate_dst (N := 7) rfl ?_); refine box_event ?hg (N := 7) ?hd (cs := #[.string a3_0, .string a3_1]) (t := 52) ?hr ?_; (case hd => rfl); (case hg => rfl); (case hr => first | (go_simp; done) | (go_simp; rfl)); intro gv hg wq hbox hb; have NE := Aside0.mk (show ga < gv by have := blk_lt BA.out; omega); replace BA := BA.below hb; replace HB := Aside0.mk (below_step HB.out hb); have BV := Aside0.mk hbox; clear hg hbox hb; obtain ⟨hx0, hx1, hx2, hx3⟩ := BA.cells; have hv0 : _ = some (Value.string a3_0) := (blk_cell BV.out 0).trans rfl; have hv1 : _ = some (Value.string a3_1) := (blk_cell BV.out 1).trans rfl))
  by_cases hf : fewS l0_1 l0_2 l0_3 = true
  case neg =>
    rw [Bool.eq_false_iff.mpr hf] at hkf
    have HF := Aside0.mk hkf
    clear hkf hf
    go_wp2_with (first | (go_at_call 13; refine (lunettelaw05_awake.calls ka true _ HAW.out).mono ?_; rintro e wq ⟨rfl, hb⟩; replace BA := BA.below hb; replace BV := Aside0.mk (blk_below BV.out hb); replace HB := Aside0.mk (below_step HB.out hb); clear hb hx0 hx1 hx2 hx3 hv0 hv1; obtain ⟨hx0, hx1, hx2, hx3⟩ := BA.cells; have hv0 : _ = some (Value.string a3_0) := (blk_cell BV.out 0).trans rfl; have hv1 : _ = some (Value.string a3_1) := (blk_cell BV.out 1).trans rfl) | (go_at_call 14; refine (lunettelaw05_few.calls kf _ A0_1 c0_1 _ A0_2 c0_2 _ A0_3 c0_3 _ _ _ (Kd.C_below H1.out HB.out) hc0_1 (Kd.C_below H2.out HB.out) hc0_2 (Kd.C_below H3.out HB.out) hc0_3 HF.out).mono ?_; rintro e wq ⟨rfl, hb⟩; replace BA := BA.below hb; replace BV := Aside0.mk (blk_below BV.out hb); replace HB := Aside0.mk (below_step HB.out hb); clear hb hx0 hx1 hx2 hx3 hv0 hv1; obtain ⟨hx0, hx1, hx2, hx3⟩ := BA.cells; have hv0 : _ = some (Value.string a3_0) := (blk_cell BV.out 0).trans rfl; have hv1 : _ = some (Value.string a3_1) := (blk_cell BV.out 1).trans rfl) | (go_at_call 16; refine (lunetteref05_Check.calls kc _ A0_1 c0_1 _ A0_2 c0_2 _ A0_3 c0_3 _ _ _ (Kd.C_below H1.out HB.out) hc0_1 (Kd.C_below H2.out HB.out) hc0_2 (Kd.C_below H3.out HB.out) hc0_3 HC.out).mono ?_; rintro e wq ⟨rfl, hb⟩; replace BA := BA.below hb; replace BV := Aside0.mk (blk_below BV.out hb); replace HB := Aside0.mk (below_step HB.out hb); clear hb hx0 hx1 hx2 hx3 hv0 hv1; obtain ⟨hx0, hx1, hx2, hx3⟩ := BA.cells; have hv0 : _ = some (Value.string a3_0) := (blk_cell BV.out 0).trans rfl; have hv1 : _ = some (Value.string a3_1) := (blk_cell BV.out 1).trans rfl))
    go_ret
    exact ⟨rfl, HB.out⟩
  rw [hf] at hkf
  have HF := Aside0.mk hkf
  obtain ⟨f1, f2, f3, f4, f5⟩ := fewS_true hf
  clear hkf hf
  obtain ⟨kc, hkc⟩ := (Check_ev a0_0 l0_1 l0_2 l0_3 (by omega) (by omega) (by omega) (fun s hs => by have := f4 s hs; omega)).rounds
  by_cases h0 : chk a0_0 l0_1 l0_2 l0_3 = 0
  case neg =>
    generalize chk a0_0 l0_1 l0_2 l0_3 = cq at hkc h0
    have HC := Aside0.mk hkc
    have q1 : (cq != 0) = true := bne_iff_ne.2 h0
    have q2 : (cq == 0) = false := beq_eq_false_iff_ne.2 h0
    clear hkc h0 f4 f5
    go_wp2_with (first | (go_at_call 13; refine (lunettelaw05_awake.calls ka true _ HAW.out).mono ?_; rintro e wq ⟨rfl, hb⟩; replace BA := BA.below hb; replace BV := Aside0.mk (blk_below BV.out hb); replace HB := Aside0.mk (below_step HB.out hb); clear hb hx0 hx1 hx2 hx3 hv0 hv1; obtain ⟨hx0, hx1, hx2, hx3⟩ := BA.cells; have hv0 : _ = some (Value.string a3_0) := (blk_cell BV.out 0).trans rfl; have hv1 : _ = some (Value.string a3_1) := (blk_cell BV.out 1).trans rfl) | (go_at_call 14; refine (lunettelaw05_few.calls kf _ A0_1 c0_1 _ A0_2 c0_2 _ A0_3 c0_3 _ _ _ (Kd.C_below H1.out HB.out) hc0_1 (Kd.C_below H2.out HB.out) hc0_2 (Kd.C_below H3.out HB.out) hc0_3 HF.out).mono ?_; rintro e wq ⟨rfl, hb⟩; replace BA := BA.below hb; replace BV := Aside0.mk (blk_below BV.out hb); replace HB := Aside0.mk (below_step HB.out hb); clear hb hx0 hx1 hx2 hx3 hv0 hv1; obtain ⟨hx0, hx1, hx2, hx3⟩ := BA.cells; have hv0 : _ = some (Value.string a3_0) := (blk_cell BV.out 0).trans rfl; have hv1 : _ = some (Value.string a3_1) := (blk_cell BV.out 1).trans rfl) | (go_at_call 16; refine (lunetteref05_Check.calls kc _ A0_1 c0_1 _ A0_2 c0_2 _ A0_3 c0_3 _ _ _ (Kd.C_below H1.out HB.out) hc0_1 (Kd.C_below H2.out HB.out) hc0_2 (Kd.C_below H3.out HB.out) hc0_3 HC.out).mono ?_; rintro e wq ⟨rfl, hb⟩; replace BA := BA.below hb; replace BV := Aside0.mk (blk_below BV.out hb); replace HB := Aside0.mk (below_step HB.out hb); clear hb hx0 hx1 hx2 hx3 hv0 hv1; obtain ⟨hx0, hx1, hx2, hx3⟩ := BA.cells; have hv0 : _ = some (Value.string a3_0) := (blk_cell BV.out 0).trans rfl; have hv1 : _ = some (Value.string a3_1) := (blk_cell BV.out 1).trans rfl))
    go_ret
    exact ⟨rfl, HB.out⟩
  rw [h0] at hkc
  have HC := Aside0.mk hkc
  have H0 := Aside0.mk h0
  clear hkc h0 f4 f5
  cases a0_0 with
  | false =>
    go_wp2_with (first | (go_at_call 13; refine (lunettelaw05_awake.calls ka true _ HAW.out).mono ?_; rintro e wq ⟨rfl, hb⟩; replace BA := BA.below hb; replace BV := Aside0.mk (blk_below BV.out hb); replace HB := Aside0.mk (below_step HB.out hb); clear hb hx0 hx1 hx2 hx3 hv0 hv1; obtain ⟨hx0, hx1, hx2, hx3⟩ := BA.cells; have hv0 : _ = some (Value.string a3_0) := (blk_cell BV.out 0).trans rfl; have hv1 : _ = some (Value.string a3_1) := (blk_cell BV.out 1).trans rfl) | (go_at_call 14; refine (lunettelaw05_few.calls kf _ A0_1 c0_1 _ A0_2 c0_2 _ A0_3 c0_3 _ _ _ (Kd.C_below H1.out HB.out) hc0_1 (Kd.C_below H2.out HB.out) hc0_2 (Kd.C_below H3.out HB.out) hc0_3 HF.out).mono ?_; rintro e wq ⟨rfl, hb⟩; replace BA := BA.below hb; replace BV := Aside0.mk (blk_below BV.out hb); replace HB := Aside0.mk (below_step HB.out hb); clear hb hx0 hx1 hx2 hx3 hv0 hv1; obtain ⟨hx0, hx1, hx2, hx3⟩ := BA.cells; have hv0 : _ = some (Value.string a3_0) := (blk_cell BV.out 0).trans rfl; have hv1 : _ = some (Value.string a3_1) := (blk_cell BV.out 1).trans rfl) | (go_at_call 16; refine (lunetteref05_Check.calls kc _ A0_1 c0_1 _ A0_2 c0_2 _ A0_3 c0_3 _ _ _ (Kd.C_below H1.out HB.out) hc0_1 (Kd.C_below H2.out HB.out) hc0_2 (Kd.C_below H3.out HB.out) hc0_3 HC.out).mono ?_; rintro e wq ⟨rfl, hb⟩; replace BA := BA.below hb; replace BV := Aside0.mk (blk_below BV.out hb); replace HB := Aside0.mk (below_step HB.out hb); clear hb hx0 hx1 hx2 hx3 hv0 hv1; obtain ⟨hx0, hx1, hx2, hx3⟩ := BA.cells; have hv0 : _ = some (Value.string a3_0) := (blk_cell BV.out 0).trans rfl; have hv1 : _ = some (Value.string a3_1) := (blk_cell BV.out 1).trans rfl))
    go_ret
    exact ⟨rfl, HB.out⟩
  | true =>
    obtain ⟨hlf, hcs⟩ := Leaf.of H0.out f1
    subst hcs
    have HL := Aside0.mk hlf
    clear hlf H0
    by_cases hab : a1.toList = a2.toList
    case pos =>
      have b1 : (a1.toList == a2.toList) = true := beq_iff_eq.2 hab
      clear hab
      go_wp2_with (first | (go_at_call 13; refine (lunettelaw05_awake.calls ka true _ HAW.out).mono ?_; rintro e wq ⟨rfl, hb⟩; replace BA := BA.below hb; replace BV := Aside0.mk (blk_below BV.out hb); replace HB := Aside0.mk (below_step HB.out hb); clear hb hx0 hx1 hx2 hx3 hv0 hv1; obtain ⟨hx0, hx1, hx2, hx3⟩ := BA.cells; have hv0 : _ = some (Value.string a3_0) := (blk_cell BV.out 0).trans rfl; have hv1 : _ = some (Value.string a3_1) := (blk_cell BV.out 1).trans rfl) | (go_at_call 14; refine (lunettelaw05_few.calls kf _ A0_1 c0_1 _ A0_2 c0_2 _ A0_3 c0_3 _ _ _ (Kd.C_below H1.out HB.out) hc0_1 (Kd.C_below H2.out HB.out) hc0_2 (Kd.C_below H3.out HB.out) hc0_3 HF.out).mono ?_; rintro e wq ⟨rfl, hb⟩; replace BA := BA.below hb; replace BV := Aside0.mk (blk_below BV.out hb); replace HB := Aside0.mk (below_step HB.out hb); clear hb hx0 hx1 hx2 hx3 hv0 hv1; obtain ⟨hx0, hx1, hx2, hx3⟩ := BA.cells; have hv0 : _ = some (Value.string a3_0) := (blk_cell BV.out 0).trans rfl; have hv1 : _ = some (Value.string a3_1) := (blk_cell BV.out 1).trans rfl) | (go_at_call 16; refine (lunetteref05_Check.calls kc _ A0_1 c0_1 _ A0_2 c0_2 _ A0_3 c0_3 _ _ _ (Kd.C_below H1.out HB.out) hc0_1 (Kd.C_below H2.out HB.out) hc0_2 (Kd.C_below H3.out HB.out) hc0_3 HC.out).mono ?_; rintro e wq ⟨rfl, hb⟩; replace BA := BA.below hb; replace BV := Aside0.mk (blk_below BV.out hb); replace HB := Aside0.mk (below_step HB.out hb); clear hb hx0 hx1 hx2 hx3 hv0 hv1; obtain ⟨hx0, hx1, hx2, hx3⟩ := BA.cells; have hv0 : _ = some (Value.string a3_0) := (blk_cell BV.out 0).trans rfl; have hv1 : _ = some (Value.string a3_1) := (blk_cell BV.out 1).trans rfl))
      go_ret
      exact ⟨rfl, HB.out⟩
    have HAB : Aside0 (a1 ≠ a2) := ⟨fun e => hab (by rw [e])⟩
    have b1 : (a1.toList == a2.toList) = false := beq_eq_false_iff_ne.2 hab
    clear hab
    by_cases hz_a1 : 100 < a1.size
    case pos =>
      have dz_a1 : decide ((100 : Int) < (a1.size : Int)) = true := by simp; omega
      have dy_a1 : decide (100 < a1.size) = true := by simp; omega
      go_wp2_with (first | (go_at_call 13; refine (lunettelaw05_awake.calls ka true _ HAW.out).mono ?_; rintro e wq ⟨rfl, hb⟩; replace BA := BA.below hb; replace BV := Aside0.mk (blk_below BV.out hb); replace HB := Aside0.mk (below_step HB.out hb); clear hb hx0 hx1 hx2 hx3 hv0 hv1; obtain ⟨hx0, hx1, hx2, hx3⟩ := BA.cells; have hv0 : _ = some (Value.string a3_0) := (blk_cell BV.out 0).trans rfl; have hv1 : _ = some (Value.string a3_1) := (blk_cell BV.out 1).trans rfl) | (go_at_call 14; refine (lunettelaw05_few.calls kf _ A0_1 c0_1 _ A0_2 c0_2 _ A0_3 c0_3 _ _ _ (Kd.C_below H1.out HB.out) hc0_1 (Kd.C_below H2.out HB.out) hc0_2 (Kd.C_below H3.out HB.out) hc0_3 HF.out).mono ?_; rintro e wq ⟨rfl, hb⟩; replace BA := BA.below hb; replace BV := Aside0.mk (blk_below BV.out hb); replace HB := Aside0.mk (below_step HB.out hb); clear hb hx0 hx1 hx2 hx3 hv0 hv1; obtain ⟨hx0, hx1, hx2, hx3⟩ := BA.cells; have hv0 : _ = some (Value.string a3_0) := (blk_cell BV.out 0).trans rfl; have hv1 : _ = some (Value.string a3_1) := (blk_cell BV.out 1).trans rfl) | (go_at_call 16; refine (lunetteref05_Check.calls kc _ A0_1 c0_1 _ A0_2 c0_2 _ A0_3 c0_3 _ _ _ (Kd.C_below H1.out HB.out) hc0_1 (Kd.C_below H2.out HB.out) hc0_2 (Kd.C_below H3.out HB.out) hc0_3 HC.out).mono ?_; rintro e wq ⟨rfl, hb⟩; replace BA := BA.below hb; replace BV := Aside0.mk (blk_below BV.out hb); replace HB := Aside0.mk (below_step HB.out hb); clear hb hx0 hx1 hx2 hx3 hv0 hv1; obtain ⟨hx0, hx1, hx2, hx3⟩ := BA.cells; have hv0 : _ = some (Value.string a3_0) := (blk_cell BV.out 0).trans rfl; have hv1 : _ = some (Value.string a3_1) := (blk_cell BV.out 1).trans rfl))
      go_ret
      exact ⟨rfl, HB.out⟩
    have dz_a1 : decide ((100 : Int) < (a1.size : Int)) = false := by simp; omega
    have dy_a1 : decide (100 < a1.size) = false := by simp; omega
    by_cases hz_a2 : 100 < a2.size
    case pos =>
      have dz_a2 : decide ((100 : Int) < (a2.size : Int)) = true := by simp; omega
      have dy_a2 : decide (100 < a2.size) = true := by simp; omega
      go_wp2_with (first | (go_at_call 13; refine (lunettelaw05_awake.calls ka true _ HAW.out).mono ?_; rintro e wq ⟨rfl, hb⟩; replace BA := BA.below hb; replace BV := Aside0.mk (blk_below BV.out hb); replace HB := Aside0.mk (below_step HB.out hb); clear hb hx0 hx1 hx2 hx3 hv0 hv1; obtain ⟨hx0, hx1, hx2, hx3⟩ := BA.cells; have hv0 : _ = some (Value.string a3_0) := (blk_cell BV.out 0).trans rfl; have hv1 : _ = some (Value.string a3_1) := (blk_cell BV.out 1).trans rfl) | (go_at_call 14; refine (lunettelaw05_few.calls kf _ A0_1 c0_1 _ A0_2 c0_2 _ A0_3 c0_3 _ _ _ (Kd.C_below H1.out HB.out) hc0_1 (Kd.C_below H2.out HB.out) hc0_2 (Kd.C_below H3.out HB.out) hc0_3 HF.out).mono ?_; rintro e wq ⟨rfl, hb⟩; replace BA := BA.below hb; replace BV := Aside0.mk (blk_below BV.out hb); replace HB := Aside0.mk (below_step HB.out hb); clear hb hx0 hx1 hx2 hx3 hv0 hv1; obtain ⟨hx0, hx1, hx2, hx3⟩ := BA.cells; have hv0 : _ = some (Value.string a3_0) := (blk_cell BV.out 0).trans rfl; have hv1 : _ = some (Value.string a3_1) := (blk_cell BV.out 1).trans rfl) | (go_at_call 16; refine (lunetteref05_Check.calls kc _ A0_1 c0_1 _ A0_2 c0_2 _ A0_3 c0_3 _ _ _ (Kd.C_below H1.out HB.out) hc0_1 (Kd.C_below H2.out HB.out) hc0_2 (Kd.C_below H3.out HB.out) hc0_3 HC.out).mono ?_; rintro e wq ⟨rfl, hb⟩; replace BA := BA.below hb; replace BV := Aside0.mk (blk_below BV.out hb); replace HB := Aside0.mk (below_step HB.out hb); clear hb hx0 hx1 hx2 hx3 hv0 hv1; obtain ⟨hx0, hx1, hx2, hx3⟩ := BA.cells; have hv0 : _ = some (Value.string a3_0) := (blk_cell BV.out 0).trans rfl; have hv1 : _ = some (Value.string a3_1) := (blk_cell BV.out 1).trans rfl))
      go_ret
      exact ⟨rfl, HB.out⟩
    have dz_a2 : decide ((100 : Int) < (a2.size : Int)) = false := by simp; omega
    have dy_a2 : decide (100 < a2.size) = false := by simp; omega
    by_cases hz_a3_0 : 100 < a3_0.size
    case pos =>
      have dz_a3_0 : decide ((100 : Int) < (a3_0.size : Int)) = true := by simp; omega
      have dy_a3_0 : decide (100 < a3_0.size) = true := by simp; omega
      go_wp2_with (first | (go_at_call 13; refine (lunettelaw05_awake.calls ka true _ HAW.out).mono ?_; rintro e wq ⟨rfl, hb⟩; replace BA := BA.below hb; replace BV := Aside0.mk (blk_below BV.out hb); replace HB := Aside0.mk (below_step HB.out hb); clear hb hx0 hx1 hx2 hx3 hv0 hv1; obtain ⟨hx0, hx1, hx2, hx3⟩ := BA.cells; have hv0 : _ = some (Value.string a3_0) := (blk_cell BV.out 0).trans rfl; have hv1 : _ = some (Value.string a3_1) := (blk_cell BV.out 1).trans rfl) | (go_at_call 14; refine (lunettelaw05_few.calls kf _ A0_1 c0_1 _ A0_2 c0_2 _ A0_3 c0_3 _ _ _ (Kd.C_below H1.out HB.out) hc0_1 (Kd.C_below H2.out HB.out) hc0_2 (Kd.C_below H3.out HB.out) hc0_3 HF.out).mono ?_; rintro e wq ⟨rfl, hb⟩; replace BA := BA.below hb; replace BV := Aside0.mk (blk_below BV.out hb); replace HB := Aside0.mk (below_step HB.out hb); clear hb hx0 hx1 hx2 hx3 hv0 hv1; obtain ⟨hx0, hx1, hx2, hx3⟩ := BA.cells; have hv0 : _ = some (Value.string a3_0) := (blk_cell BV.out 0).trans rfl; have hv1 : _ = some (Value.string a3_1) := (blk_cell BV.out 1).trans rfl) | (go_at_call 16; refine (lunetteref05_Check.calls kc _ A0_1 c0_1 _ A0_2 c0_2 _ A0_3 c0_3 _ _ _ (Kd.C_below H1.out HB.out) hc0_1 (Kd.C_below H2.out HB.out) hc0_2 (Kd.C_below H3.out HB.out) hc0_3 HC.out).mono ?_; rintro e wq ⟨rfl, hb⟩; replace BA := BA.below hb; replace BV := Aside0.mk (blk_below BV.out hb); replace HB := Aside0.mk (below_step HB.out hb); clear hb hx0 hx1 hx2 hx3 hv0 hv1; obtain ⟨hx0, hx1, hx2, hx3⟩ := BA.cells; have hv0 : _ = some (Value.string a3_0) := (blk_cell BV.out 0).trans rfl; have hv1 : _ = some (Value.string a3_1) := (blk_cell BV.out 1).trans rfl))
      go_ret
      exact ⟨rfl, HB.out⟩
    have dz_a3_0 : decide ((100 : Int) < (a3_0.size : Int)) = false := by simp; omega
    have dy_a3_0 : decide (100 < a3_0.size) = false := by simp; omega
    by_cases hz_a3_1 : 100 < a3_1.size
    case pos =>
      have dz_a3_1 : decide ((100 : Int) < (a3_1.size : Int)) = true := by simp; omega
      have dy_a3_1 : decide (100 < a3_1.size) = true := by simp; omega
      go_wp2_with (first | (go_at_call 13; refine (lunettelaw05_awake.calls ka true _ HAW.out).mono ?_; rintro e wq ⟨rfl, hb⟩; replace BA := BA.below hb; replace BV := Aside0.mk (blk_below BV.out hb); replace HB := Aside0.mk (below_step HB.out hb); clear hb hx0 hx1 hx2 hx3 hv0 hv1; obtain ⟨hx0, hx1, hx2, hx3⟩ := BA.cells; have hv0 : _ = some (Value.string a3_0) := (blk_cell BV.out 0).trans rfl; have hv1 : _ = some (Value.string a3_1) := (blk_cell BV.out 1).trans rfl) | (go_at_call 14; refine (lunettelaw05_few.calls kf _ A0_1 c0_1 _ A0_2 c0_2 _ A0_3 c0_3 _ _ _ (Kd.C_below H1.out HB.out) hc0_1 (Kd.C_below H2.out HB.out) hc0_2 (Kd.C_below H3.out HB.out) hc0_3 HF.out).mono ?_; rintro e wq ⟨rfl, hb⟩; replace BA := BA.below hb; replace BV := Aside0.mk (blk_below BV.out hb); replace HB := Aside0.mk (below_step HB.out hb); clear hb hx0 hx1 hx2 hx3 hv0 hv1; obtain ⟨hx0, hx1, hx2, hx3⟩ := BA.cells; have hv0 : _ = some (Value.string a3_0) := (blk_cell BV.out 0).trans rfl; have hv1 : _ = some (Value.string a3_1) := (blk_cell BV.out 1).trans rfl) | (go_at_call 16; refine (lunetteref05_Check.calls kc _ A0_1 c0_1 _ A0_2 c0_2 _ A0_3 c0_3 _ _ _ (Kd.C_below H1.out HB.out) hc0_1 (Kd.C_below H2.out HB.out) hc0_2 (Kd.C_below H3.out HB.out) hc0_3 HC.out).mono ?_; rintro e wq ⟨rfl, hb⟩; replace BA := BA.below hb; replace BV := Aside0.mk (blk_below BV.out hb); replace HB := Aside0.mk (below_step HB.out hb); clear hb hx0 hx1 hx2 hx3 hv0 hv1; obtain ⟨hx0, hx1, hx2, hx3⟩ := BA.cells; have hv0 : _ = some (Value.string a3_0) := (blk_cell BV.out 0).trans rfl; have hv1 : _ = some (Value.string a3_1) := (blk_cell BV.out 1).trans rfl))
      go_ret
      exact ⟨rfl, HB.out⟩
    have dz_a3_1 : decide ((100 : Int) < (a3_1.size : Int)) = false := by simp; omega
    have dy_a3_1 : decide (100 < a3_1.size) = false := by simp; omega
    go_upto_region 3 with (first | (go_at_call 13; refine (lunettelaw05_awake.calls ka true _ HAW.out).mono ?_; rintro e wq ⟨rfl, hb⟩; replace BA := BA.below hb; replace BV := Aside0.mk (blk_below BV.out hb); replace HB := Aside0.mk (below_step HB.out hb); clear hb hx0 hx1 hx2 hx3 hv0 hv1; obtain ⟨hx0, hx1, hx2, hx3⟩ := BA.cells; have hv0 : _ = some (Value.string a3_0) := (blk_cell BV.out 0).trans rfl; have hv1 : _ = some (Value.string a3_1) := (blk_cell BV.out 1).trans rfl) | (go_at_call 14; refine (lunettelaw05_few.calls kf _ A0_1 c0_1 _ A0_2 c0_2 _ A0_3 c0_3 _ _ _ (Kd.C_below H1.out HB.out) hc0_1 (Kd.C_below H2.out HB.out) hc0_2 (Kd.C_below H3.out HB.out) hc0_3 HF.out).mono ?_; rintro e wq ⟨rfl, hb⟩; replace BA := BA.below hb; replace BV := Aside0.mk (blk_below BV.out hb); replace HB := Aside0.mk (below_step HB.out hb); clear hb hx0 hx1 hx2 hx3 hv0 hv1; obtain ⟨hx0, hx1, hx2, hx3⟩ := BA.cells; have hv0 : _ = some (Value.string a3_0) := (blk_cell BV.out 0).trans rfl; have hv1 : _ = some (Value.string a3_1) := (blk_cell BV.out 1).trans rfl) | (go_at_call 16; refine (lunetteref05_Check.calls kc _ A0_1 c0_1 _ A0_2 c0_2 _ A0_3 c0_3 _ _ _ (Kd.C_below H1.out HB.out) hc0_1 (Kd.C_below H2.out HB.out) hc0_2 (Kd.C_below H3.out HB.out) hc0_3 HC.out).mono ?_; rintro e wq ⟨rfl, hb⟩; replace BA := BA.below hb; replace BV := Aside0.mk (blk_below BV.out hb); replace HB := Aside0.mk (below_step HB.out hb); clear hb hx0 hx1 hx2 hx3 hv0 hv1; obtain ⟨hx0, hx1, hx2, hx3⟩ := BA.cells; have hv0 : _ = some (Value.string a3_0) := (blk_cell BV.out 0).trans rfl; have hv1 : _ = some (Value.string a3_1) := (blk_cell BV.out 1).trans rfl))
    have LE1 : Aside0 (a1.size ≤ 100 ∧ a2.size ≤ 100 ∧ a3_0.size ≤ 100 ∧ a3_1.size ≤ 100) := ⟨by omega, by omega, by omega, by omega⟩
    have HLA := Aside0.mk (HL.out.put LE1.out.1 LE1.out.2.2.1)
    have HLB := Aside0.mk (HL.out.put LE1.out.2.1 LE1.out.2.2.2)
    have HLX := Aside0.mk (HLA.out.put LE1.out.2.1 LE1.out.2.2.2)
    have HLY := Aside0.mk (HLB.out.put LE1.out.1 LE1.out.2.2.1)
    clear dz_a1 dy_a1 dz_a2 dy_a2 dz_a3_0 dy_a3_0 dz_a3_1 dy_a3_1 hz_a1 hz_a2 hz_a3_0 hz_a3_1 b1 hx0 hx1 hx2 hx3 hv0 hv1 HF HC HAW f1 f2 f3
    have EI : Aside0 (Ei w wq ga gv A0_1 l0_1.length c0_1 A0_2 l0_2.length c0_2 A0_3 c0_3 l0_1 l0_2 a3_0 a3_1) := ⟨⟨BA, BV.out, (C_LV H1.out hc0_1 H2.out hc0_2 H3.out).below HB.out, HB.out⟩⟩
    clear BA BV HB H1 H2 H3 NE hc0_1 hc0_2 hc0_3
    generalize l0_1.length = n1 at *
    generalize l0_2.length = n2 at *
    have EI1 := Aside0.mk EI.out.drew
    clear EI
    have EI := EI1; clear EI1
    have HS := Aside0.mk EI.out.sees
    refine wp_region_P (fun w' => w'.cell? ⟨ga, 0, none⟩ = some (.bool true) ∧ w'.cell? ⟨ga, 1, none⟩ = some (.slice A0_1 n1 c0_1) ∧ w'.cell? ⟨ga, 2, none⟩ = some (.slice A0_2 n2 c0_2) ∧ w'.cell? ⟨ga, 3, none⟩ = some (.slice A0_3 0 c0_3) ∧ w'.cell? ⟨gv, 0, none⟩ = some (.string a3_0) ∧ w'.cell? ⟨gv, 1, none⟩ = some (.string a3_1)) 10 (by kernel_rfl) ?_
    generalize wq.drew = w1 at *
    refine wpAnyP_take 0 (oi := o12_3_0) (v := ?_) rfl (by kernel_rfl) (fun _ _ _ h => h) (by rfl) HS.out ?_ ?_; rotate_left
    · intro w_ hSw; obtain ⟨hs0, hs1, hs2, hs3, hs4, hs5⟩ := hSw; (try simp only [o12_3_0]); first | (go_simp; done) | (go_simp; with_reducible rfl)
    try simp only [Act.put, o12_3_0, List.setIfInBounds_toArray, List.set_cons_zero, List.set_cons_succ]
    refine wpAnyP_take 1 (oi := o12_3_1) (v := ?_) rfl (by kernel_rfl) (fun _ _ _ h => h) (by rfl) HS.out ?_ ?_; rotate_left
    · intro w_ hSw; obtain ⟨hs0, hs1, hs2, hs3, hs4, hs5⟩ := hSw; (try simp only [o12_3_1]); first | (go_simp; done) | (go_simp; with_reducible rfl)
    try simp only [Act.put, o12_3_1, List.setIfInBounds_toArray, List.set_cons_zero, List.set_cons_succ]
    refine wpAnyP_take 2 (oi := o12_3_2) (v := ?_) rfl (by kernel_rfl) (fun _ _ _ h => h) (by rfl) HS.out ?_ ?_; rotate_left
    · intro w_ hSw; obtain ⟨hs0, hs1, hs2, hs3, hs4, hs5⟩ := hSw; (try simp only [o12_3_2]); first | (go_simp; done) | (go_simp; with_reducible rfl)
    try simp only [Act.put, o12_3_2, List.setIfInBounds_toArray, List.set_cons_zero, List.set_cons_succ]
    refine wpAnyP_take 3 (oi := o12_3_3) (v := ?_) rfl (by kernel_rfl) (fun _ _ _ h => h) (by rfl) HS.out ?_ ?_; rotate_left
    · intro w_ hSw; obtain ⟨hs0, hs1, hs2, hs3, hs4, hs5⟩ := hSw; (try simp only [o12_3_3]); first | (go_simp; done) | (go_simp; with_reducible rfl)
    try simp only [Act.put, o12_3_3, List.setIfInBounds_toArray, List.set_cons_zero, List.set_cons_succ]
    refine wpAnyP_take 5 (oi := o12_3_5) (v := ?_) rfl (by kernel_rfl) (fun _ _ _ h => h) (by rfl) HS.out ?_ ?_; rotate_left
    · intro w_ hSw; obtain ⟨hs0, hs1, hs2, hs3, hs4, hs5⟩ := hSw; (try simp only [o12_3_5]); first | (go_simp; done) | (go_simp; with_reducible rfl)
    try simp only [Act.put, o12_3_5, List.setIfInBounds_toArray, List.set_cons_zero, List.set_cons_succ]
    refine wpAnyP_take 6 (oi := o12_3_6) (v := ?_) rfl (by kernel_rfl) (fun _ _ _ h => h) (by rfl) HS.out ?_ ?_; rotate_left
    · intro w_ hSw; obtain ⟨hs0, hs1, hs2, hs3, hs4, hs5⟩ := hSw; (try simp only [o12_3_6]); first | (go_simp; done) | (go_simp; with_reducible rfl)
    try simp only [Act.put, o12_3_6, List.setIfInBounds_toArray, List.set_cons_zero, List.set_cons_succ]
    refine wpAnyP_take 7 (oi := o12_3_7) (v := ?_) rfl (by kernel_rfl) (fun _ _ _ h => h) (by rfl) HS.out ?_ ?_; rotate_left
    · intro w_ hSw; obtain ⟨hs0, hs1, hs2, hs3, hs4, hs5⟩ := hSw; (try simp only [o12_3_7]); first | (go_simp; done) | (go_simp; with_reducible rfl)
    try simp only [Act.put, o12_3_7, List.setIfInBounds_toArray, List.set_cons_zero, List.set_cons_succ]
    refine wpAnyP_two 4 9 (oi := o12_3_4) (oj := o12_3_9) rfl rfl (by kernel_rfl) (by rfl) (by rfl) (fun K hK => ?_) (fun K hK => ?_)
    have HK := Aside0.mk hK
    clear hK
    try simp only [o12_3_4]
    go_simp
    go_at_call 29
    refine (EI.out.LA.put_calls HL.out (by omega) a1 a3_0).mono ?_
    rintro e w1 ⟨P1, p1, q1, P2, p2, q2, P3, q3, rfl, LP, hb⟩
    have EI1 := Aside0.mk (EI.out.below hb)
    clear HS EI
    have EI := EI1; clear EI1
    have LP_ := Aside0.mk LP
    clear LP hb
    have HS := Aside0.mk EI.out.sees
    refine HK.out _ _ (fun _ => HS.out) ?_
    clear HK K
    try simp only [Act.put, o12_3_4, List.setIfInBounds_toArray, List.set_cons_zero, List.set_cons_succ]
    refine wpAnyP_two 8 9 (oi := o12_3_8) (oj := o12_3_9) rfl rfl (by kernel_rfl) (by rfl) (by rfl) (fun K hK => ?_) (fun K hK => ?_)
    have HK := Aside0.mk hK
    clear hK
    try simp only [o12_3_8]
    go_simp
    go_at_call 29
    refine (LP_.out.put_calls HLA.out (by omega) a2 a3_1).mono ?_
    rintro e w1 ⟨X1, xm1, xd1, X2, xm2, xd2, X3, xd3, rfl, LX, hb⟩
    have EI1 := Aside0.mk (EI.out.below hb)
    have LP_1 := Aside0.mk (LP_.out.below hb)
    clear HS EI LP_
    have EI := EI1; clear EI1
    have LP_ := LP_1; clear LP_1
    have LX_ := Aside0.mk LX
    clear LX hb
    have HS := Aside0.mk EI.out.sees
    refine HK.out _ _ (fun _ => HS.out) ?_
    clear HK K
    try simp only [Act.put, o12_3_8, List.setIfInBounds_toArray, List.set_cons_zero, List.set_cons_succ]
    refine wpAnyP_one 9 (o := o12_3_9) rfl (by kernel_rfl) (by rfl) (fun K hK => ?_)
    have HK := Aside0.mk hK
    clear hK
    refine oper_alloc (cs := #[.bool false, .slice none 0 0, .slice none 0 0, .slice none 0 0]) (t := 25) (by (try simp only [o12_3_9]); first | (go_simp; done) | (go_simp; rfl)) (fun gx hg w1 hbox hb hsz => ?_)
    have NG := Aside0.mk (show w.heap.size ≤ gx ∧ ga ≠ gx ∧ gv ≠ gx ∧ True from ⟨by have := below_size EI.out.HB; omega, by have := blk_lt EI.out.BA.out; omega, by have := blk_lt EI.out.BV; omega, trivial⟩)
    have GL := Aside0.mk (show gx < w1.heap.size by omega)
    have LX1 := Aside0.mk (LX_.out.bound.mono (fun k hk => (by have := hk.2; omega : k ≠ gx)))
    clear LX_
    have LX_ := LX1; clear LX1
    have EI1 := Aside0.mk (EI.out.below hb)
    have LP_1 := Aside0.mk (LP_.out.below hb)
    have LX_1 := Aside0.mk (LX_.out.below hb)
    clear HS EI LP_ LX_
    have EI := EI1; clear EI1
    have LP_ := LP_1; clear LP_1
    have LX_ := LX_1; clear LX_1
    have BX := Aside0.mk (NBox.mk hbox)
    clear hbox hb hsz hg
    have HS := Aside0.mk EI.out.sees
    refine HK.out _ _ (fun _ => HS.out) ?_
    clear HK K
    try simp only [Act.put, o12_3_9, List.setIfInBounds_toArray, List.set_cons_zero, List.set_cons_succ]
    obtain ⟨hz0, hz1, hz2, hz3⟩ := BX.out.cells
    have hf0 := blk_frozen BX.out.out 0
    have hf1 := blk_frozen BX.out.out 1
    have hf2 := blk_frozen BX.out.out 2
    have hf3 := blk_frozen BX.out.out 3
    refine wpAnyP_one 10 (o := o12_3_10) rfl (by kernel_rfl) (by rfl) (fun K hK => ?_)
    have HK := Aside0.mk hK
    clear hK
    try simp only [o12_3_10]
    go_simp
    refine HK.out _ _ (fun h_ => absurd h_ (by decide)) ?_
    clear HK K
    try simp only [Act.put, o12_3_10, List.setIfInBounds_toArray, List.set_cons_zero, List.set_cons_succ]
    refine wpAnyP_done (by kernel_rfl) ?_ _
    clear HS hz0 hz1 hz2 hz3 hf0 hf1 hf2 hf3 LP_ GL
    have EI2 := Aside0.mk (EI.out.put4 (x0 := .bool true) (x1 := .slice X1 xm1 xd1) (x2 := .slice X2 xm2 xd2) (x3 := .slice X3 0 xd3) NG.out.1 NG.out.2.1 NG.out.2.2.1)
    have BX2 := Aside0.mk (NBox.put4 (b' := true) (B1 := X1) (m1 := xm1) (d1 := xd1) (B2 := X2) (m2 := xm2) (d2 := xd2) (B3 := X3) (m3 := 0) (d3 := xd3) BX.out)
    have LX2 := Aside0.mk (LX_.out.put4 (g := gx) (x0 := .bool true) (x1 := .slice X1 xm1 xd1) (x2 := .slice X2 xm2 xd2) (x3 := .slice X3 0 xd3) (fun k hk => hk))
    clear EI BX LX_ 
    have EI := EI2; have BX := BX2; have LX_ := LX2; clear EI2 BX2 LX2
    generalize ((((w1.setCell ⟨gx, 0, none⟩ (.bool true)).setCell ⟨gx, 1, none⟩ (.slice X1 xm1 xd1)).setCell ⟨gx, 2, none⟩ (.slice X2 xm2 xd2)).setCell ⟨gx, 3, none⟩ (.slice X3 0 xd3)) = wq at *
    rotate_left
    have HK := Aside0.mk hK
    clear hK
    refine oper_alloc (cs := #[.bool false, .slice none 0 0, .slice none 0 0, .slice none 0 0]) (t := 25) (by (try simp only [o12_3_9]); first | (go_simp; done) | (go_simp; rfl)) (fun gx hg w1 hbox hb hsz => ?_)
    have NG := Aside0.mk (show w.heap.size ≤ gx ∧ ga ≠ gx ∧ gv ≠ gx ∧ True from ⟨by have := below_size EI.out.HB; omega, by have := blk_lt EI.out.BA.out; omega, by have := blk_lt EI.out.BV; omega, trivial⟩)
    have GL := Aside0.mk (show gx < w1.heap.size by omega)
    have EI1 := Aside0.mk (EI.out.below hb)
    have LP_1 := Aside0.mk (LP_.out.below hb)
    clear HS EI LP_
    have EI := EI1; clear EI1
    have LP_ := LP_1; clear LP_1
    have BX := Aside0.mk (NBox.mk hbox)
    clear hbox hb hsz hg
    have HS := Aside0.mk EI.out.sees
    refine HK.out _ _ (fun _ => HS.out) ?_
    clear HK K
    try simp only [Act.put, o12_3_9, List.setIfInBounds_toArray, List.set_cons_zero, List.set_cons_succ]
    refine wpAnyP_one 8 (o := o12_3_8) rfl (by kernel_rfl) (by rfl) (fun K hK => ?_)
    have HK := Aside0.mk hK
    clear hK
    try simp only [o12_3_8]
    go_simp
    go_at_call 29
    refine (LP_.out.put_calls HLA.out (by omega) a2 a3_1).mono ?_
    rintro e w1 ⟨X1, xm1, xd1, X2, xm2, xd2, X3, xd3, rfl, LX, hb⟩
    have LX1 := Aside0.mk (LX.mono (fun k hk => (by have := GL.out; omega : k ≠ gx)))
    clear LX
    have LX := LX1.out; clear LX1
    have EI1 := Aside0.mk (EI.out.below hb)
    have LP_1 := Aside0.mk (LP_.out.below hb)
    have BX1 := Aside0.mk (BX.out.below hb)
    clear HS EI LP_ BX
    have EI := EI1; clear EI1
    have LP_ := LP_1; clear LP_1
    have BX := BX1; clear BX1
    have LX_ := Aside0.mk LX
    clear LX hb
    have HS := Aside0.mk EI.out.sees
    refine HK.out _ _ (fun _ => HS.out) ?_
    clear HK K
    try simp only [Act.put, o12_3_8, List.setIfInBounds_toArray, List.set_cons_zero, List.set_cons_succ]
    obtain ⟨hz0, hz1, hz2, hz3⟩ := BX.out.cells
    have hf0 := blk_frozen BX.out.out 0
    have hf1 := blk_frozen BX.out.out 1
    have hf2 := blk_frozen BX.out.out 2
    have hf3 := blk_frozen BX.out.out 3
    refine wpAnyP_one 10 (o := o12_3_10) rfl (by kernel_rfl) (by rfl) (fun K hK => ?_)
    have HK := Aside0.mk hK
    clear hK
    try simp only [o12_3_10]
    go_simp
    refine HK.out _ _ (fun h_ => absurd h_ (by decide)) ?_
    clear HK K
    try simp only [Act.put, o12_3_10, List.setIfInBounds_toArray, List.set_cons_zero, List.set_cons_succ]
    refine wpAnyP_done (by kernel_rfl) ?_ _
    clear HS hz0 hz1 hz2 hz3 hf0 hf1 hf2 hf3 LP_ GL
    have EI2 := Aside0.mk (EI.out.put4 (x0 := .bool true) (x1 := .slice X1 xm1 xd1) (x2 := .slice X2 xm2 xd2) (x3 := .slice X3 0 xd3) NG.out.1 NG.out.2.1 NG.out.2.2.1)
    have BX2 := Aside0.mk (NBox.put4 (b' := true) (B1 := X1) (m1 := xm1) (d1 := xd1) (B2 := X2) (m2 := xm2) (d2 := xd2) (B3 := X3) (m3 := 0) (d3 := xd3) BX.out)
    have LX2 := Aside0.mk (LX_.out.put4 (g := gx) (x0 := .bool true) (x1 := .slice X1 xm1 xd1) (x2 := .slice X2 xm2 xd2) (x3 := .slice X3 0 xd3) (fun k hk => hk))
    clear EI BX LX_ 
    have EI := EI2; have BX := BX2; have LX_ := LX2; clear EI2 BX2 LX2
    generalize ((((w1.setCell ⟨gx, 0, none⟩ (.bool true)).setCell ⟨gx, 1, none⟩ (.slice X1 xm1 xd1)).setCell ⟨gx, 2, none⟩ (.slice X2 xm2 xd2)).setCell ⟨gx, 3, none⟩ (.slice X3 0 xd3)) = wq at *
    rotate_left
    have HK := Aside0.mk hK
    clear hK
    refine oper_alloc (cs := #[.bool false, .slice none 0 0, .slice none 0 0, .slice none 0 0]) (t := 25) (by (try simp only [o12_3_9]); first | (go_simp; done) | (go_simp; rfl)) (fun gx hg w1 hbox hb hsz => ?_)
    have NG := Aside0.mk (show w.heap.size ≤ gx ∧ ga ≠ gx ∧ gv ≠ gx ∧ True from ⟨by have := below_size EI.out.HB; omega, by have := blk_lt EI.out.BA.out; omega, by have := blk_lt EI.out.BV; omega, trivial⟩)
    have GL := Aside0.mk (show gx < w1.heap.size by omega)
    have EI1 := Aside0.mk (EI.out.below hb)
    clear HS EI
    have EI := EI1; clear EI1
    have BX := Aside0.mk (NBox.mk hbox)
    clear hbox hb hsz hg
    have HS := Aside0.mk EI.out.sees
    refine HK.out _ _ (fun _ => HS.out) ?_
    clear HK K
    try simp only [Act.put, o12_3_9, List.setIfInBounds_toArray, List.set_cons_zero, List.set_cons_succ]
    refine wpAnyP_one 4 (o := o12_3_4) rfl (by kernel_rfl) (by rfl) (fun K hK => ?_)
    have HK := Aside0.mk hK
    clear hK
    try simp only [o12_3_4]
    go_simp
    go_at_call 29
    refine (EI.out.LA.put_calls HL.out (by omega) a1 a3_0).mono ?_
    rintro e w1 ⟨P1, p1, q1, P2, p2, q2, P3, q3, rfl, LP, hb⟩
    have GL1 := Aside0.mk (Nat.lt_of_lt_of_le GL.out hb.size); clear GL; have GL := GL1; clear GL1
    have EI1 := Aside0.mk (EI.out.below hb)
    have BX1 := Aside0.mk (BX.out.below hb)
    clear HS EI BX
    have EI := EI1; clear EI1
    have BX := BX1; clear BX1
    have LP_ := Aside0.mk LP
    clear LP hb
    have HS := Aside0.mk EI.out.sees
    refine HK.out _ _ (fun _ => HS.out) ?_
    clear HK K
    try simp only [Act.put, o12_3_4, List.setIfInBounds_toArray, List.set_cons_zero, List.set_cons_succ]
    refine wpAnyP_one 8 (o := o12_3_8) rfl (by kernel_rfl) (by rfl) (fun K hK => ?_)
    have HK := Aside0.mk hK
    clear hK
    try simp only [o12_3_8]
    go_simp
    go_at_call 29
    refine (LP_.out.put_calls HLA.out (by omega) a2 a3_1).mono ?_
    rintro e w1 ⟨X1, xm1, xd1, X2, xm2, xd2, X3, xd3, rfl, LX, hb⟩
    have LX1 := Aside0.mk (LX.mono (fun k hk => (by have := GL.out; omega : k ≠ gx)))
    clear LX
    have LX := LX1.out; clear LX1
    have EI1 := Aside0.mk (EI.out.below hb)
    have LP_1 := Aside0.mk (LP_.out.below hb)
    have BX1 := Aside0.mk (BX.out.below hb)
    clear HS EI LP_ BX
    have EI := EI1; clear EI1
    have LP_ := LP_1; clear LP_1
    have BX := BX1; clear BX1
    have LX_ := Aside0.mk LX
    clear LX hb
    have HS := Aside0.mk EI.out.sees
    refine HK.out _ _ (fun _ => HS.out) ?_
    clear HK K
    try simp only [Act.put, o12_3_8, List.setIfInBounds_toArray, List.set_cons_zero, List.set_cons_succ]
    obtain ⟨hz0, hz1, hz2, hz3⟩ := BX.out.cells
    have hf0 := blk_frozen BX.out.out 0
    have hf1 := blk_frozen BX.out.out 1
    have hf2 := blk_frozen BX.out.out 2
    have hf3 := blk_frozen BX.out.out 3
    refine wpAnyP_one 10 (o := o12_3_10) rfl (by kernel_rfl) (by rfl) (fun K hK => ?_)
    have HK := Aside0.mk hK
    clear hK
    try simp only [o12_3_10]
    go_simp
    refine HK.out _ _ (fun h_ => absurd h_ (by decide)) ?_
    clear HK K
    try simp only [Act.put, o12_3_10, List.setIfInBounds_toArray, List.set_cons_zero, List.set_cons_succ]
    refine wpAnyP_done (by kernel_rfl) ?_ _
    clear HS hz0 hz1 hz2 hz3 hf0 hf1 hf2 hf3 LP_ GL
    have EI2 := Aside0.mk (EI.out.put4 (x0 := .bool true) (x1 := .slice X1 xm1 xd1) (x2 := .slice X2 xm2 xd2) (x3 := .slice X3 0 xd3) NG.out.1 NG.out.2.1 NG.out.2.2.1)
    have BX2 := Aside0.mk (NBox.put4 (b' := true) (B1 := X1) (m1 := xm1) (d1 := xd1) (B2 := X2) (m2 := xm2) (d2 := xd2) (B3 := X3) (m3 := 0) (d3 := xd3) BX.out)
    have LX2 := Aside0.mk (LX_.out.put4 (g := gx) (x0 := .bool true) (x1 := .slice X1 xm1 xd1) (x2 := .slice X2 xm2 xd2) (x3 := .slice X3 0 xd3) (fun k hk => hk))
    clear EI BX LX_ 
    have EI := EI2; have BX := BX2; have LX_ := LX2; clear EI2 BX2 LX2
    generalize ((((w1.setCell ⟨gx, 0, none⟩ (.bool true)).setCell ⟨gx, 1, none⟩ (.slice X1 xm1 xd1)).setCell ⟨gx, 2, none⟩ (.slice X2 xm2 xd2)).setCell ⟨gx, 3, none⟩ (.slice X3 0 xd3)) = wq at *
    rotate_left
    all_goals
      have LB_ := Aside0.mk LX_.out.bound
      have BB := BX
      have NX := Aside0.mk (blk_lt BX.out.out)
      obtain ⟨N, hN⟩ : ∃ N, N = wq.heap.size := ⟨_, rfl⟩
      rw [← hN] at NX LB_
      have HN := Aside0.mk (NL.mk (Nat.le_of_eq hN))
      clear hN BX LX_ NG
      go_upto_region 4 with (fail)
      have EI1 := Aside0.mk EI.out.drew
      have BB1 := Aside0.mk (NBox.mk (blk_drew BB.out.out))
      have LB_1 := Aside0.mk LB_.out.drew
      have HN1 := Aside0.mk HN.out.drew
      clear EI BB LB_ HN
      have EI := EI1; clear EI1
      have BB := BB1; clear BB1
      have LB_ := LB_1; clear LB_1
      have HN := HN1; clear HN1
      have HS := Aside0.mk EI.out.sees
      refine wp_region_P (fun w' => w'.cell? ⟨ga, 0, none⟩ = some (.bool true) ∧ w'.cell? ⟨ga, 1, none⟩ = some (.slice A0_1 n1 c0_1) ∧ w'.cell? ⟨ga, 2, none⟩ = some (.slice A0_2 n2 c0_2) ∧ w'.cell? ⟨ga, 3, none⟩ = some (.slice A0_3 0 c0_3) ∧ w'.cell? ⟨gv, 0, none⟩ = some (.string a3_0) ∧ w'.cell? ⟨gv, 1, none⟩ = some (.string a3_1)) 10 (by kernel_rfl) ?_
      generalize wq.drew = w1 at *
      refine wpAnyP_take 0 (oi := o12_4_0) (v := ?_) rfl (by kernel_rfl) (fun _ _ _ h => h) (by rfl) HS.out ?_ ?_; rotate_left
      · intro w_ hSw; obtain ⟨hs0, hs1, hs2, hs3, hs4, hs5⟩ := hSw; (try simp only [o12_4_0]); first | (go_simp; done) | (go_simp; with_reducible rfl)
      try simp only [Act.put, o12_4_0, List.setIfInBounds_toArray, List.set_cons_zero, List.set_cons_succ]
      refine wpAnyP_take 1 (oi := o12_4_1) (v := ?_) rfl (by kernel_rfl) (fun _ _ _ h => h) (by rfl) HS.out ?_ ?_; rotate_left
      · intro w_ hSw; obtain ⟨hs0, hs1, hs2, hs3, hs4, hs5⟩ := hSw; (try simp only [o12_4_1]); first | (go_simp; done) | (go_simp; with_reducible rfl)
      try simp only [Act.put, o12_4_1, List.setIfInBounds_toArray, List.set_cons_zero, List.set_cons_succ]
      refine wpAnyP_take 2 (oi := o12_4_2) (v := ?_) rfl (by kernel_rfl) (fun _ _ _ h => h) (by rfl) HS.out ?_ ?_; rotate_left
      · intro w_ hSw; obtain ⟨hs0, hs1, hs2, hs3, hs4, hs5⟩ := hSw; (try simp only [o12_4_2]); first | (go_simp; done) | (go_simp; with_reducible rfl)
      try simp only [Act.put, o12_4_2, List.setIfInBounds_toArray, List.set_cons_zero, List.set_cons_succ]
      refine wpAnyP_take 3 (oi := o12_4_3) (v := ?_) rfl (by kernel_rfl) (fun _ _ _ h => h) (by rfl) HS.out ?_ ?_; rotate_left
      · intro w_ hSw; obtain ⟨hs0, hs1, hs2, hs3, hs4, hs5⟩ := hSw; (try simp only [o12_4_3]); first | (go_simp; done) | (go_simp; with_reducible rfl)
      try simp only [Act.put, o12_4_3, List.setIfInBounds_toArray, List.set_cons_zero, List.set_cons_succ]
      refine wpAnyP_take 5 (oi := o12_4_5) (v := ?_) rfl (by kernel_rfl) (fun _ _ _ h => h) (by rfl) HS.out ?_ ?_; rotate_left
      · intro w_ hSw; obtain ⟨hs0, hs1, hs2, hs3, hs4, hs5⟩ := hSw; (try simp only [o12_4_5]); first | (go_simp; done) | (go_simp; with_reducible rfl)
      try simp only [Act.put, o12_4_5, List.setIfInBounds_toArray, List.set_cons_zero, List.set_cons_succ]
      refine wpAnyP_take 6 (oi := o12_4_6) (v := ?_) rfl (by kernel_rfl) (fun _ _ _ h => h) (by rfl) HS.out ?_ ?_; rotate_left
      · intro w_ hSw; obtain ⟨hs0, hs1, hs2, hs3, hs4, hs5⟩ := hSw; (try simp only [o12_4_6]); first | (go_simp; done) | (go_simp; with_reducible rfl)
      try simp only [Act.put, o12_4_6, List.setIfInBounds_toArray, List.set_cons_zero, List.set_cons_succ]
      refine wpAnyP_take 7 (oi := o12_4_7) (v := ?_) rfl (by kernel_rfl) (fun _ _ _ h => h) (by rfl) HS.out ?_ ?_; rotate_left
      · intro w_ hSw; obtain ⟨hs0, hs1, hs2, hs3, hs4, hs5⟩ := hSw; (try simp only [o12_4_7]); first | (go_simp; done) | (go_simp; with_reducible rfl)
      try simp only [Act.put, o12_4_7, List.setIfInBounds_toArray, List.set_cons_zero, List.set_cons_succ]
      refine wpAnyP_two 4 9 (oi := o12_4_4) (oj := o12_4_9) rfl rfl (by kernel_rfl) (by rfl) (by rfl) (fun K hK => ?_) (fun K hK => ?_)
      have HK := Aside0.mk hK
      clear hK
      try simp only [o12_4_4]
      go_simp
      go_at_call 29
      refine (EI.out.LA.put_calls HL.out (by omega) a2 a3_1).mono ?_
      rintro e w1 ⟨P1, p1, q1, P2, p2, q2, P3, q3, rfl, LP, hb⟩
      have EI1 := Aside0.mk (EI.out.below hb)
      have BB1 := Aside0.mk (BB.out.below hb)
      have LB_1 := Aside0.mk (LB_.out.below hb)
      have HN1 := Aside0.mk (HN.out.below hb)
      clear HS EI BB LB_ HN
      have EI := EI1; clear EI1
      have BB := BB1; clear BB1
      have LB_ := LB_1; clear LB_1
      have HN := HN1; clear HN1
      have LP_ := Aside0.mk LP
      clear LP hb
      have HS := Aside0.mk EI.out.sees
      refine HK.out _ _ (fun _ => HS.out) ?_
      clear HK K
      try simp only [Act.put, o12_4_4, List.setIfInBounds_toArray, List.set_cons_zero, List.set_cons_succ]
      refine wpAnyP_two 8 9 (oi := o12_4_8) (oj := o12_4_9) rfl rfl (by kernel_rfl) (by rfl) (by rfl) (fun K hK => ?_) (fun K hK => ?_)
      have HK := Aside0.mk hK
      clear hK
      try simp only [o12_4_8]
      go_simp
      go_at_call 29
      refine (LP_.out.put_calls HLB.out (by omega) a1 a3_0).mono ?_
      rintro e w1 ⟨Y1, ym1, yd1, Y2, ym2, yd2, Y3, yd3, rfl, LX, hb⟩
      have EI1 := Aside0.mk (EI.out.below hb)
      have LP_1 := Aside0.mk (LP_.out.below hb)
      have BB1 := Aside0.mk (BB.out.below hb)
      have LB_1 := Aside0.mk (LB_.out.below hb)
      have HN1 := Aside0.mk (HN.out.below hb)
      clear HS EI LP_ BB LB_ HN
      have EI := EI1; clear EI1
      have LP_ := LP_1; clear LP_1
      have BB := BB1; clear BB1
      have LB_ := LB_1; clear LB_1
      have HN := HN1; clear HN1
      have LX_ := Aside0.mk LX
      clear LX hb
      have HS := Aside0.mk EI.out.sees
      refine HK.out _ _ (fun _ => HS.out) ?_
      clear HK K
      try simp only [Act.put, o12_4_8, List.setIfInBounds_toArray, List.set_cons_zero, List.set_cons_succ]
      refine wpAnyP_one 9 (o := o12_4_9) rfl (by kernel_rfl) (by rfl) (fun K hK => ?_)
      have HK := Aside0.mk hK
      clear hK
      refine oper_alloc (cs := #[.bool false, .slice none 0 0, .slice none 0 0, .slice none 0 0]) (t := 25) (by (try simp only [o12_4_9]); first | (go_simp; done) | (go_simp; rfl)) (fun gy hg w1 hbox hb hsz => ?_)
      have NG := Aside0.mk (show w.heap.size ≤ gy ∧ ga ≠ gy ∧ gv ≠ gy ∧ gx ≠ gy ∧ N ≤ gy from ⟨by have := below_size EI.out.HB; omega, by have := blk_lt EI.out.BA.out; omega, by have := blk_lt EI.out.BV; omega, by have := NX.out; have := HN.out.le; omega, by have := HN.out.le; omega⟩)
      have GL := Aside0.mk (show gy < w1.heap.size by omega)
      have LX1 := Aside0.mk (LX_.out.bound.mono (fun k hk => (by have := hk.2; omega : k ≠ gy)))
      clear LX_
      have LX_ := LX1; clear LX1
      have EI1 := Aside0.mk (EI.out.below hb)
      have LP_1 := Aside0.mk (LP_.out.below hb)
      have LX_1 := Aside0.mk (LX_.out.below hb)
      have BB1 := Aside0.mk (BB.out.below hb)
      have LB_1 := Aside0.mk (LB_.out.below hb)
      have HN1 := Aside0.mk (HN.out.below hb)
      clear HS EI LP_ LX_ BB LB_ HN
      have EI := EI1; clear EI1
      have LP_ := LP_1; clear LP_1
      have LX_ := LX_1; clear LX_1
      have BB := BB1; clear BB1
      have LB_ := LB_1; clear LB_1
      have HN := HN1; clear HN1
      have BX := Aside0.mk (NBox.mk hbox)
      clear hbox hb hsz hg
      have HS := Aside0.mk EI.out.sees
      refine HK.out _ _ (fun _ => HS.out) ?_
      clear HK K
      try simp only [Act.put, o12_4_9, List.setIfInBounds_toArray, List.set_cons_zero, List.set_cons_succ]
      obtain ⟨hz0, hz1, hz2, hz3⟩ := BX.out.cells
      have hf0 := blk_frozen BX.out.out 0
      have hf1 := blk_frozen BX.out.out 1
      have hf2 := blk_frozen BX.out.out 2
      have hf3 := blk_frozen BX.out.out 3
      refine wpAnyP_one 10 (o := o12_4_10) rfl (by kernel_rfl) (by rfl) (fun K hK => ?_)
      have HK := Aside0.mk hK
      clear hK
      try simp only [o12_4_10]
      go_simp
      refine HK.out _ _ (fun h_ => absurd h_ (by decide)) ?_
      clear HK K
      try simp only [Act.put, o12_4_10, List.setIfInBounds_toArray, List.set_cons_zero, List.set_cons_succ]
      refine wpAnyP_done (by kernel_rfl) ?_ _
      clear HS hz0 hz1 hz2 hz3 hf0 hf1 hf2 hf3 LP_ GL
      have EI2 := Aside0.mk (EI.out.put4 (x0 := .bool true) (x1 := .slice Y1 ym1 yd1) (x2 := .slice Y2 ym2 yd2) (x3 := .slice Y3 0 yd3) NG.out.1 NG.out.2.1 NG.out.2.2.1)
      have BX2 := Aside0.mk (NBox.put4 (b' := true) (B1 := Y1) (m1 := ym1) (d1 := yd1) (B2 := Y2) (m2 := ym2) (d2 := yd2) (B3 := Y3) (m3 := 0) (d3 := yd3) BX.out)
      have LX2 := Aside0.mk (LX_.out.put4 (g := gy) (x0 := .bool true) (x1 := .slice Y1 ym1 yd1) (x2 := .slice Y2 ym2 yd2) (x3 := .slice Y3 0 yd3) (fun k hk => hk))
      have BB2 := Aside0.mk (BB.out.far4 (x0 := .bool true) (x1 := .slice Y1 ym1 yd1) (x2 := .slice Y2 ym2 yd2) (x3 := .slice Y3 0 yd3) NG.out.2.2.2.1)
      have LB_2 := Aside0.mk (LB_.out.put4 (g := gy) (x0 := .bool true) (x1 := .slice Y1 ym1 yd1) (x2 := .slice Y2 ym2 yd2) (x3 := .slice Y3 0 yd3) (fun k hk => by have := NG.out.2.2.2.2; have := hk.2; omega))
      clear EI BX LX_ BB LB_ HN
      have EI := EI2; have BX := BX2; have LX_ := LX2; clear EI2 BX2 LX2
      have BB := BB2; clear BB2
      have LB_ := LB_2; clear LB_2
      generalize ((((w1.setCell ⟨gy, 0, none⟩ (.bool true)).setCell ⟨gy, 1, none⟩ (.slice Y1 ym1 yd1)).setCell ⟨gy, 2, none⟩ (.slice Y2 ym2 yd2)).setCell ⟨gy, 3, none⟩ (.slice Y3 0 yd3)) = wq at *
      rotate_left
      have HK := Aside0.mk hK
      clear hK
      refine oper_alloc (cs := #[.bool false, .slice none 0 0, .slice none 0 0, .slice none 0 0]) (t := 25) (by (try simp only [o12_4_9]); first | (go_simp; done) | (go_simp; rfl)) (fun gy hg w1 hbox hb hsz => ?_)
      have NG := Aside0.mk (show w.heap.size ≤ gy ∧ ga ≠ gy ∧ gv ≠ gy ∧ gx ≠ gy ∧ N ≤ gy from ⟨by have := below_size EI.out.HB; omega, by have := blk_lt EI.out.BA.out; omega, by have := blk_lt EI.out.BV; omega, by have := NX.out; have := HN.out.le; omega, by have := HN.out.le; omega⟩)
      have GL := Aside0.mk (show gy < w1.heap.size by omega)
      have EI1 := Aside0.mk (EI.out.below hb)
      have LP_1 := Aside0.mk (LP_.out.below hb)
      have BB1 := Aside0.mk (BB.out.below hb)
      have LB_1 := Aside0.mk (LB_.out.below hb)
      have HN1 := Aside0.mk (HN.out.below hb)
      clear HS EI LP_ BB LB_ HN
      have EI := EI1; clear EI1
      have LP_ := LP_1; clear LP_1
      have BB := BB1; clear BB1
      have LB_ := LB_1; clear LB_1
      have HN := HN1; clear HN1
      have BX := Aside0.mk (NBox.mk hbox)
      clear hbox hb hsz hg
      have HS := Aside0.mk EI.out.sees
      refine HK.out _ _ (fun _ => HS.out) ?_
      clear HK K
      try simp only [Act.put, o12_4_9, List.setIfInBounds_toArray, List.set_cons_zero, List.set_cons_succ]
      refine wpAnyP_one 8 (o := o12_4_8) rfl (by kernel_rfl) (by rfl) (fun K hK => ?_)
      have HK := Aside0.mk hK
      clear hK
      try simp only [o12_4_8]
      go_simp
      go_at_call 29
      refine (LP_.out.put_calls HLB.out (by omega) a1 a3_0).mono ?_
      rintro e w1 ⟨Y1, ym1, yd1, Y2, ym2, yd2, Y3, yd3, rfl, LX, hb⟩
      have LX1 := Aside0.mk (LX.mono (fun k hk => (by have := GL.out; omega : k ≠ gy)))
      clear LX
      have LX := LX1.out; clear LX1
      have EI1 := Aside0.mk (EI.out.below hb)
      have LP_1 := Aside0.mk (LP_.out.below hb)
      have BX1 := Aside0.mk (BX.out.below hb)
      have BB1 := Aside0.mk (BB.out.below hb)
      have LB_1 := Aside0.mk (LB_.out.below hb)
      have HN1 := Aside0.mk (HN.out.below hb)
      clear HS EI LP_ BX BB LB_ HN
      have EI := EI1; clear EI1
      have LP_ := LP_1; clear LP_1
      have BX := BX1; clear BX1
      have BB := BB1; clear BB1
      have LB_ := LB_1; clear LB_1
      have HN := HN1; clear HN1
      have LX_ := Aside0.mk LX
      clear LX hb
      have HS := Aside0.mk EI.out.sees
      refine HK.out _ _ (fun _ => HS.out) ?_
      clear HK K
      try simp only [Act.put, o12_4_8, List.setIfInBounds_toArray, List.set_cons_zero, List.set_cons_succ]
      obtain ⟨hz0, hz1, hz2, hz3⟩ := BX.out.cells
      have hf0 := blk_frozen BX.out.out 0
      have hf1 := blk_frozen BX.out.out 1
      have hf2 := blk_frozen BX.out.out 2
      have hf3 := blk_frozen BX.out.out 3
      refine wpAnyP_one 10 (o := o12_4_10) rfl (by kernel_rfl) (by rfl) (fun K hK => ?_)
      have HK := Aside0.mk hK
      clear hK
      try simp only [o12_4_10]
      go_simp
      refine HK.out _ _ (fun h_ => absurd h_ (by decide)) ?_
      clear HK K
      try simp only [Act.put, o12_4_10, List.setIfInBounds_toArray, List.set_cons_zero, List.set_cons_succ]
      refine wpAnyP_done (by kernel_rfl) ?_ _
      clear HS hz0 hz1 hz2 hz3 hf0 hf1 hf2 hf3 LP_ GL
      have EI2 := Aside0.mk (EI.out.put4 (x0 := .bool true) (x1 := .slice Y1 ym1 yd1) (x2 := .slice Y2 ym2 yd2) (x3 := .slice Y3 0 yd3) NG.out.1 NG.out.2.1 NG.out.2.2.1)
      have BX2 := Aside0.mk (NBox.put4 (b' := true) (B1 := Y1) (m1 := ym1) (d1 := yd1) (B2 := Y2) (m2 := ym2) (d2 := yd2) (B3 := Y3) (m3 := 0) (d3 := yd3) BX.out)
      have LX2 := Aside0.mk (LX_.out.put4 (g := gy) (x0 := .bool true) (x1 := .slice Y1 ym1 yd1) (x2 := .slice Y2 ym2 yd2) (x3 := .slice Y3 0 yd3) (fun k hk => hk))
      have BB2 := Aside0.mk (BB.out.far4 (x0 := .bool true) (x1 := .slice Y1 ym1 yd1) (x2 := .slice Y2 ym2 yd2) (x3 := .slice Y3 0 yd3) NG.out.2.2.2.1)
      have LB_2 := Aside0.mk (LB_.out.put4 (g := gy) (x0 := .bool true) (x1 := .slice Y1 ym1 yd1) (x2 := .slice Y2 ym2 yd2) (x3 := .slice Y3 0 yd3) (fun k hk => by have := NG.out.2.2.2.2; have := hk.2; omega))
      clear EI BX LX_ BB LB_ HN
      have EI := EI2; have BX := BX2; have LX_ := LX2; clear EI2 BX2 LX2
      have BB := BB2; clear BB2
      have LB_ := LB_2; clear LB_2
      generalize ((((w1.setCell ⟨gy, 0, none⟩ (.bool true)).setCell ⟨gy, 1, none⟩ (.slice Y1 ym1 yd1)).setCell ⟨gy, 2, none⟩ (.slice Y2 ym2 yd2)).setCell ⟨gy, 3, none⟩ (.slice Y3 0 yd3)) = wq at *
      rotate_left
      have HK := Aside0.mk hK
      clear hK
      refine oper_alloc (cs := #[.bool false, .slice none 0 0, .slice none 0 0, .slice none 0 0]) (t := 25) (by (try simp only [o12_4_9]); first | (go_simp; done) | (go_simp; rfl)) (fun gy hg w1 hbox hb hsz => ?_)
      have NG := Aside0.mk (show w.heap.size ≤ gy ∧ ga ≠ gy ∧ gv ≠ gy ∧ gx ≠ gy ∧ N ≤ gy from ⟨by have := below_size EI.out.HB; omega, by have := blk_lt EI.out.BA.out; omega, by have := blk_lt EI.out.BV; omega, by have := NX.out; have := HN.out.le; omega, by have := HN.out.le; omega⟩)
      have GL := Aside0.mk (show gy < w1.heap.size by omega)
      have EI1 := Aside0.mk (EI.out.below hb)
      have BB1 := Aside0.mk (BB.out.below hb)
      have LB_1 := Aside0.mk (LB_.out.below hb)
      have HN1 := Aside0.mk (HN.out.below hb)
      clear HS EI BB LB_ HN
      have EI := EI1; clear EI1
      have BB := BB1; clear BB1
      have LB_ := LB_1; clear LB_1
      have HN := HN1; clear HN1
      have BX := Aside0.mk (NBox.mk hbox)
      clear hbox hb hsz hg
      have HS := Aside0.mk EI.out.sees
      refine HK.out _ _ (fun _ => HS.out) ?_
      clear HK K
      try simp only [Act.put, o12_4_9, List.setIfInBounds_toArray, List.set_cons_zero, List.set_cons_succ]
      refine wpAnyP_one 4 (o := o12_4_4) rfl (by kernel_rfl) (by rfl) (fun K hK => ?_)
      have HK := Aside0.mk hK
      clear hK
      try simp only [o12_4_4]
      go_simp
      go_at_call 29
      refine (EI.out.LA.put_calls HL.out (by omega) a2 a3_1).mono ?_
      rintro e w1 ⟨P1, p1, q1, P2, p2, q2, P3, q3, rfl, LP, hb⟩
      have GL1 := Aside0.mk (Nat.lt_of_lt_of_le GL.out hb.size); clear GL; have GL := GL1; clear GL1
      have EI1 := Aside0.mk (EI.out.below hb)
      have BX1 := Aside0.mk (BX.out.below hb)
      have BB1 := Aside0.mk (BB.out.below hb)
      have LB_1 := Aside0.mk (LB_.out.below hb)
      have HN1 := Aside0.mk (HN.out.below hb)
      clear HS EI BX BB LB_ HN
      have EI := EI1; clear EI1
      have BX := BX1; clear BX1
      have BB := BB1; clear BB1
      have LB_ := LB_1; clear LB_1
      have HN := HN1; clear HN1
      have LP_ := Aside0.mk LP
      clear LP hb
      have HS := Aside0.mk EI.out.sees
      refine HK.out _ _ (fun _ => HS.out) ?_
      clear HK K
      try simp only [Act.put, o12_4_4, List.setIfInBounds_toArray, List.set_cons_zero, List.set_cons_succ]
      refine wpAnyP_one 8 (o := o12_4_8) rfl (by kernel_rfl) (by rfl) (fun K hK => ?_)
      have HK := Aside0.mk hK
      clear hK
      try simp only [o12_4_8]
      go_simp
      go_at_call 29
      refine (LP_.out.put_calls HLB.out (by omega) a1 a3_0).mono ?_
      rintro e w1 ⟨Y1, ym1, yd1, Y2, ym2, yd2, Y3, yd3, rfl, LX, hb⟩
      have LX1 := Aside0.mk (LX.mono (fun k hk => (by have := GL.out; omega : k ≠ gy)))
      clear LX
      have LX := LX1.out; clear LX1
      have EI1 := Aside0.mk (EI.out.below hb)
      have LP_1 := Aside0.mk (LP_.out.below hb)
      have BX1 := Aside0.mk (BX.out.below hb)
      have BB1 := Aside0.mk (BB.out.below hb)
      have LB_1 := Aside0.mk (LB_.out.below hb)
      have HN1 := Aside0.mk (HN.out.below hb)
      clear HS EI LP_ BX BB LB_ HN
      have EI := EI1; clear EI1
      have LP_ := LP_1; clear LP_1
      have BX := BX1; clear BX1
      have BB := BB1; clear BB1
      have LB_ := LB_1; clear LB_1
      have HN := HN1; clear HN1
      have LX_ := Aside0.mk LX
      clear LX hb
      have HS := Aside0.mk EI.out.sees
      refine HK.out _ _ (fun _ => HS.out) ?_
      clear HK K
      try simp only [Act.put, o12_4_8, List.setIfInBounds_toArray, List.set_cons_zero, List.set_cons_succ]
      obtain ⟨hz0, hz1, hz2, hz3⟩ := BX.out.cells
      have hf0 := blk_frozen BX.out.out 0
      have hf1 := blk_frozen BX.out.out 1
      have hf2 := blk_frozen BX.out.out 2
      have hf3 := blk_frozen BX.out.out 3
      refine wpAnyP_one 10 (o := o12_4_10) rfl (by kernel_rfl) (by rfl) (fun K hK => ?_)
      have HK := Aside0.mk hK
      clear hK
      try simp only [o12_4_10]
      go_simp
      refine HK.out _ _ (fun h_ => absurd h_ (by decide)) ?_
      clear HK K
      try simp only [Act.put, o12_4_10, List.setIfInBounds_toArray, List.set_cons_zero, List.set_cons_succ]
      refine wpAnyP_done (by kernel_rfl) ?_ _
      clear HS hz0 hz1 hz2 hz3 hf0 hf1 hf2 hf3 LP_ GL
      have EI2 := Aside0.mk (EI.out.put4 (x0 := .bool true) (x1 := .slice Y1 ym1 yd1) (x2 := .slice Y2 ym2 yd2) (x3 := .slice Y3 0 yd3) NG.out.1 NG.out.2.1 NG.out.2.2.1)
      have BX2 := Aside0.mk (NBox.put4 (b' := true) (B1 := Y1) (m1 := ym1) (d1 := yd1) (B2 := Y2) (m2 := ym2) (d2 := yd2) (B3 := Y3) (m3 := 0) (d3 := yd3) BX.out)
      have LX2 := Aside0.mk (LX_.out.put4 (g := gy) (x0 := .bool true) (x1 := .slice Y1 ym1 yd1) (x2 := .slice Y2 ym2 yd2) (x3 := .slice Y3 0 yd3) (fun k hk => hk))
      have BB2 := Aside0.mk (BB.out.far4 (x0 := .bool true) (x1 := .slice Y1 ym1 yd1) (x2 := .slice Y2 ym2 yd2) (x3 := .slice Y3 0 yd3) NG.out.2.2.2.1)
      have LB_2 := Aside0.mk (LB_.out.put4 (g := gy) (x0 := .bool true) (x1 := .slice Y1 ym1 yd1) (x2 := .slice Y2 ym2 yd2) (x3 := .slice Y3 0 yd3) (fun k hk => by have := NG.out.2.2.2.2; have := hk.2; omega))
      clear EI BX LX_ BB LB_ HN
      have EI := EI2; have BX := BX2; have LX_ := LX2; clear EI2 BX2 LX2
      have BB := BB2; clear BB2
      have LB_ := LB_2; clear LB_2
      generalize ((((w1.setCell ⟨gy, 0, none⟩ (.bool true)).setCell ⟨gy, 1, none⟩ (.slice Y1 ym1 yd1)).setCell ⟨gy, 2, none⟩ (.slice Y2 ym2 yd2)).setCell ⟨gy, 3, none⟩ (.slice Y3 0 yd3)) = wq at *
      rotate_left
      all_goals
        have EE := HL.out.either LE1.out.1 LE1.out.2.1 LE1.out.2.2.1 LE1.out.2.2.2 HAB.out
        have LY0 := LX_.out
        rw [← EE.1, ← EE.2] at LY0
        have LY := Aside0.mk LY0
        have LX := LB_
        have HB := Aside0.mk EI.out.HB
        clear LY0 EE LX_ LB_ HLY HLB NG NX EI
        generalize putV (putK l0_1 a1) (putV l0_1 l0_2 a1 a3_0) a2 a3_1 = vx at *
        generalize putK (putK l0_1 a1) a2 = kx at *
        have ED := HLX.out.either_drop a1 a2
        have HD1 := Aside0.mk (HLX.out.drop a1)
        have HD2 := Aside0.mk (HLX.out.drop a2)
        have HD12 := Aside0.mk (HD1.out.drop a2)
        have ED1 := Aside0.mk ED.1
        have ED2 := Aside0.mk ED.2
        clear ED HL HLA
        go_upto_region 5 with (fail)
        have BX1 := Aside0.mk (NBox.mk (blk_drew BX.out.out))
        have BB1 := Aside0.mk (NBox.mk (blk_drew BB.out.out))
        have LX1 := Aside0.mk LX.out.drew
        have LY1 := Aside0.mk LY.out.drew
        have HB1 := Aside0.mk (below_drew1 HB.out)
        clear BX BB LX LY HB
        have BX := BX1; have BB := BB1; have LX := LX1; have LY := LY1; have HB := HB1
        clear BX1 BB1 LX1 LY1 HB1
        have HS := Aside0.mk (show _ ∧ _ ∧ _ ∧ _ ∧ _ ∧ _ ∧ _ ∧ _ from ⟨BB.out.cells.1, BB.out.cells.2.1, BB.out.cells.2.2.1, BB.out.cells.2.2.2, BX.out.cells.1, BX.out.cells.2.1, BX.out.cells.2.2.1, BX.out.cells.2.2.2⟩)
        refine wp_region_P (fun w' => w'.cell? ⟨gx, 0, none⟩ = some (.bool true) ∧ w'.cell? ⟨gx, 1, none⟩ = some (.slice X1 xm1 xd1) ∧ w'.cell? ⟨gx, 2, none⟩ = some (.slice X2 xm2 xd2) ∧ w'.cell? ⟨gx, 3, none⟩ = some (.slice X3 0 xd3) ∧ w'.cell? ⟨gy, 0, none⟩ = some (.bool true) ∧ w'.cell? ⟨gy, 1, none⟩ = some (.slice Y1 ym1 yd1) ∧ w'.cell? ⟨gy, 2, none⟩ = some (.slice Y2 ym2 yd2) ∧ w'.cell? ⟨gy, 3, none⟩ = some (.slice Y3 0 yd3)) 16 (by kernel_rfl) ?_
        generalize wq.drew = w1 at *
        refine wpAnyP_take 0 (oi := o12_5_0) (v := ?_) rfl (by kernel_rfl) (fun _ _ _ h => h) (by rfl) HS.out ?_ ?_; rotate_left
        · intro w_ hSw; obtain ⟨hs0, hs1, hs2, hs3, ht0, ht1, ht2, ht3⟩ := hSw; (try simp only [o12_5_0]); first | (go_simp; done) | (go_simp; with_reducible rfl)
        try simp only [Act.put, o12_5_0, List.setIfInBounds_toArray, List.set_cons_zero, List.set_cons_succ]
        refine wpAnyP_take 1 (oi := o12_5_1) (v := ?_) rfl (by kernel_rfl) (fun _ _ _ h => h) (by rfl) HS.out ?_ ?_; rotate_left
        · intro w_ hSw; obtain ⟨hs0, hs1, hs2, hs3, ht0, ht1, ht2, ht3⟩ := hSw; (try simp only [o12_5_1]); first | (go_simp; done) | (go_simp; with_reducible rfl)
        try simp only [Act.put, o12_5_1, List.setIfInBounds_toArray, List.set_cons_zero, List.set_cons_succ]
        refine wpAnyP_one 2 (o := o12_5_2) rfl (by kernel_rfl) (by rfl) (fun K hK => ?_)
        have HK := Aside0.mk hK
        clear hK
        try simp only [o12_5_2]
        go_simp
        go_at_call 23
        refine (LX.out.same_calls LY.out HLX.out (by omega)).mono ?_
        rintro e w1 ⟨rfl, hb⟩
        have BX1 := Aside0.mk (BX.out.below hb)
        have BB1 := Aside0.mk (BB.out.below hb)
        have LX1 := Aside0.mk (LX.out.below hb)
        have LY1 := Aside0.mk (LY.out.below hb)
        have HB1 := Aside0.mk (below_step HB.out hb)
        clear HS HB BX BB LX LY
        have HB := HB1; clear HB1
        have BX := BX1; clear BX1
        have BB := BB1; clear BB1
        have LX := LX1; clear LX1
        have LY := LY1; clear LY1
        clear hb
        have HS := Aside0.mk (show _ ∧ _ ∧ _ ∧ _ ∧ _ ∧ _ ∧ _ ∧ _ from ⟨BB.out.cells.1, BB.out.cells.2.1, BB.out.cells.2.2.1, BB.out.cells.2.2.2, BX.out.cells.1, BX.out.cells.2.1, BX.out.cells.2.2.1, BX.out.cells.2.2.2⟩)
        refine HK.out _ _ (fun _ => HS.out) ?_
        clear HK K
        try simp only [Act.put, o12_5_2, List.setIfInBounds_toArray, List.set_cons_zero, List.set_cons_succ]
        refine wpAnyP_take 3 (oi := o12_5_3) (v := ?_) rfl (by kernel_rfl) (fun _ _ _ h => h) (by rfl) HS.out ?_ ?_; rotate_left
        · intro w_ hSw; obtain ⟨hs0, hs1, hs2, hs3, ht0, ht1, ht2, ht3⟩ := hSw; (try simp only [o12_5_3]); first | (go_simp; done) | (go_simp; with_reducible rfl)
        try simp only [Act.put, o12_5_3, List.setIfInBounds_toArray, List.set_cons_zero, List.set_cons_succ]
        refine wpAnyP_take 4 (oi := o12_5_4) (v := ?_) rfl (by kernel_rfl) (fun _ _ _ h => h) (by rfl) HS.out ?_ ?_; rotate_left
        · intro w_ hSw; obtain ⟨hs0, hs1, hs2, hs3, ht0, ht1, ht2, ht3⟩ := hSw; (try simp only [o12_5_4]); first | (go_simp; done) | (go_simp; with_reducible rfl)
        try simp only [Act.put, o12_5_4, List.setIfInBounds_toArray, List.set_cons_zero, List.set_cons_succ]
        refine wpAnyP_take 5 (oi := o12_5_5) (v := ?_) rfl (by kernel_rfl) (fun _ _ _ h => h) (by rfl) HS.out ?_ ?_; rotate_left
        · intro w_ hSw; obtain ⟨hs0, hs1, hs2, hs3, ht0, ht1, ht2, ht3⟩ := hSw; (try simp only [o12_5_5]); first | (go_simp; done) | (go_simp; with_reducible rfl)
        try simp only [Act.put, o12_5_5, List.setIfInBounds_toArray, List.set_cons_zero, List.set_cons_succ]
        refine wpAnyP_take 7 (oi := o12_5_7) (v := ?_) rfl (by kernel_rfl) (fun _ _ _ h => h) (by rfl) HS.out ?_ ?_; rotate_left
        · intro w_ hSw; obtain ⟨hs0, hs1, hs2, hs3, ht0, ht1, ht2, ht3⟩ := hSw; (try simp only [o12_5_7]); first | (go_simp; done) | (go_simp; with_reducible rfl)
        try simp only [Act.put, o12_5_7, List.setIfInBounds_toArray, List.set_cons_zero, List.set_cons_succ]
        refine wpAnyP_take 9 (oi := o12_5_9) (v := ?_) rfl (by kernel_rfl) (fun _ _ _ h => h) (by rfl) HS.out ?_ ?_; rotate_left
        · intro w_ hSw; obtain ⟨hs0, hs1, hs2, hs3, ht0, ht1, ht2, ht3⟩ := hSw; (try simp only [o12_5_9]); first | (go_simp; done) | (go_simp; with_reducible rfl)
        try simp only [Act.put, o12_5_9, List.setIfInBounds_toArray, List.set_cons_zero, List.set_cons_succ]
        refine wpAnyP_take 10 (oi := o12_5_10) (v := ?_) rfl (by kernel_rfl) (fun _ _ _ h => h) (by rfl) HS.out ?_ ?_; rotate_left
        · intro w_ hSw; obtain ⟨hs0, hs1, hs2, hs3, ht0, ht1, ht2, ht3⟩ := hSw; (try simp only [o12_5_10]); first | (go_simp; done) | (go_simp; with_reducible rfl)
        try simp only [Act.put, o12_5_10, List.setIfInBounds_toArray, List.set_cons_zero, List.set_cons_succ]
        refine wpAnyP_take 12 (oi := o12_5_12) (v := ?_) rfl (by kernel_rfl) (fun _ _ _ h => h) (by rfl) HS.out ?_ ?_; rotate_left
        · intro w_ hSw; obtain ⟨hs0, hs1, hs2, hs3, ht0, ht1, ht2, ht3⟩ := hSw; (try simp only [o12_5_12]); first | (go_simp; done) | (go_simp; with_reducible rfl)
        try simp only [Act.put, o12_5_12, List.setIfInBounds_toArray, List.set_cons_zero, List.set_cons_succ]
        refine wpAnyP_one 6 (o := o12_5_6) rfl (by kernel_rfl) (by rfl) (fun K hK => ?_)
        have HK := Aside0.mk hK
        clear hK
        try simp only [o12_5_6]
        go_simp
        go_at_call 31
        refine (LX.out.drop_calls HLX.out (by omega) a1).mono ?_
        rintro e w1 ⟨P1, pm1, pd1, P2, pm2, pd2, P3, pd3, rfl, L0, hb⟩
        have BX1 := Aside0.mk (BX.out.below hb)
        have BB1 := Aside0.mk (BB.out.below hb)
        have LY1 := Aside0.mk (LY.out.below hb)
        have HB1 := Aside0.mk (below_step HB.out hb)
        clear HS HB BX BB LY
        have HB := HB1; clear HB1
        have BX := BX1; clear BX1
        have BB := BB1; clear BB1
        have LY := LY1; clear LY1
        have LP := Aside0.mk L0
        clear L0
        clear hb
        have HS := Aside0.mk (show _ ∧ _ ∧ _ ∧ _ ∧ _ ∧ _ ∧ _ ∧ _ from ⟨BB.out.cells.1, BB.out.cells.2.1, BB.out.cells.2.2.1, BB.out.cells.2.2.2, BX.out.cells.1, BX.out.cells.2.1, BX.out.cells.2.2.1, BX.out.cells.2.2.2⟩)
        refine HK.out _ _ (fun _ => HS.out) ?_
        clear HK K
        try simp only [Act.put, o12_5_6, List.setIfInBounds_toArray, List.set_cons_zero, List.set_cons_succ]
        refine wpAnyP_one 8 (o := o12_5_8) rfl (by kernel_rfl) (by rfl) (fun K hK => ?_)
        have HK := Aside0.mk hK
        clear hK
        try simp only [o12_5_8]
        go_simp
        go_at_call 31
        refine (LP.out.drop_calls HD1.out (by omega) a2).mono ?_
        rintro e w1 ⟨Q1, qm1, qd1, Q2, qm2, qd2, Q3, qd3, rfl, L0, hb⟩
        have BX1 := Aside0.mk (BX.out.below hb)
        have BB1 := Aside0.mk (BB.out.below hb)
        have LY1 := Aside0.mk (LY.out.below hb)
        have HB1 := Aside0.mk (below_step HB.out hb)
        clear HS HB BX BB LY
        have HB := HB1; clear HB1
        have BX := BX1; clear BX1
        have BB := BB1; clear BB1
        have LY := LY1; clear LY1
        have LQ := Aside0.mk L0
        clear L0
        clear hb
        have HS := Aside0.mk (show _ ∧ _ ∧ _ ∧ _ ∧ _ ∧ _ ∧ _ ∧ _ from ⟨BB.out.cells.1, BB.out.cells.2.1, BB.out.cells.2.2.1, BB.out.cells.2.2.2, BX.out.cells.1, BX.out.cells.2.1, BX.out.cells.2.2.1, BX.out.cells.2.2.2⟩)
        refine HK.out _ _ (fun _ => HS.out) ?_
        clear HK K
        try simp only [Act.put, o12_5_8, List.setIfInBounds_toArray, List.set_cons_zero, List.set_cons_succ]
        refine wpAnyP_one 11 (o := o12_5_11) rfl (by kernel_rfl) (by rfl) (fun K hK => ?_)
        have HK := Aside0.mk hK
        clear hK
        try simp only [o12_5_11]
        go_simp
        go_at_call 31
        refine (LY.out.drop_calls HLX.out (by omega) a2).mono ?_
        rintro e w1 ⟨R1, rm1, rd1, R2, rm2, rd2, R3, rd3, rfl, L0, hb⟩
        have BX1 := Aside0.mk (BX.out.below hb)
        have BB1 := Aside0.mk (BB.out.below hb)
        have LQ1 := Aside0.mk (LQ.out.below hb)
        have HB1 := Aside0.mk (below_step HB.out hb)
        clear HS HB BX BB LQ
        have HB := HB1; clear HB1
        have BX := BX1; clear BX1
        have BB := BB1; clear BB1
        have LQ := LQ1; clear LQ1
        have LR := Aside0.mk L0
        clear L0
        clear hb
        have HS := Aside0.mk (show _ ∧ _ ∧ _ ∧ _ ∧ _ ∧ _ ∧ _ ∧ _ from ⟨BB.out.cells.1, BB.out.cells.2.1, BB.out.cells.2.2.1, BB.out.cells.2.2.2, BX.out.cells.1, BX.out.cells.2.1, BX.out.cells.2.2.1, BX.out.cells.2.2.2⟩)
        refine HK.out _ _ (fun _ => HS.out) ?_
        clear HK K
        try simp only [Act.put, o12_5_11, List.setIfInBounds_toArray, List.set_cons_zero, List.set_cons_succ]
        refine wpAnyP_one 13 (o := o12_5_13) rfl (by kernel_rfl) (by rfl) (fun K hK => ?_)
        have HK := Aside0.mk hK
        clear hK
        try simp only [o12_5_13]
        go_simp
        go_at_call 31
        refine (LR.out.drop_calls HD2.out (by omega) a1).mono ?_
        rintro e w1 ⟨S1, sm1, sd1, S2, sm2, sd2, S3, sd3, rfl, L0, hb⟩
        have BX1 := Aside0.mk (BX.out.below hb)
        have BB1 := Aside0.mk (BB.out.below hb)
        have LQ1 := Aside0.mk (LQ.out.below hb)
        have HB1 := Aside0.mk (below_step HB.out hb)
        clear HS HB BX BB LQ
        have HB := HB1; clear HB1
        have BX := BX1; clear BX1
        have BB := BB1; clear BB1
        have LQ := LQ1; clear LQ1
        have LS := Aside0.mk L0
        clear L0
        clear hb
        have HS := Aside0.mk (show _ ∧ _ ∧ _ ∧ _ ∧ _ ∧ _ ∧ _ ∧ _ from ⟨BB.out.cells.1, BB.out.cells.2.1, BB.out.cells.2.2.1, BB.out.cells.2.2.2, BX.out.cells.1, BX.out.cells.2.1, BX.out.cells.2.2.1, BX.out.cells.2.2.2⟩)
        refine HK.out _ _ (fun _ => HS.out) ?_
        clear HK K
        try simp only [Act.put, o12_5_13, List.setIfInBounds_toArray, List.set_cons_zero, List.set_cons_succ]
        have LS0 := LS.out
        rw [← ED1.out, ← ED2.out] at LS0
        have LT := Aside0.mk LS0
        clear LS0 LS
        refine wpAnyP_one 14 (o := o12_5_14) rfl (by kernel_rfl) (by rfl) (fun K hK => ?_)
        have HK := Aside0.mk hK
        clear hK
        try simp only [o12_5_14]
        go_simp
        go_at_call 23
        refine (LQ.out.same_calls LT.out HD12.out (by omega)).mono ?_
        rintro e w1 ⟨rfl, hb⟩
        have BX1 := Aside0.mk (BX.out.below hb)
        have BB1 := Aside0.mk (BB.out.below hb)
        have HB1 := Aside0.mk (below_step HB.out hb)
        clear HS HB BX BB
        have HB := HB1; clear HB1
        have BX := BX1; clear BX1
        have BB := BB1; clear BB1
        clear hb
        have HS := Aside0.mk (show _ ∧ _ ∧ _ ∧ _ ∧ _ ∧ _ ∧ _ ∧ _ from ⟨BB.out.cells.1, BB.out.cells.2.1, BB.out.cells.2.2.1, BB.out.cells.2.2.2, BX.out.cells.1, BX.out.cells.2.1, BX.out.cells.2.2.1, BX.out.cells.2.2.2⟩)
        refine HK.out _ _ (fun _ => HS.out) ?_
        clear HK K
        try simp only [Act.put, o12_5_14, List.setIfInBounds_toArray, List.set_cons_zero, List.set_cons_succ]
        refine wpAnyP_take 15 (oi := o12_5_15) (v := ?_) rfl (by kernel_rfl) (fun _ _ _ h => h) (by rfl) HS.out ?_ ?_; rotate_left
        · intro w_ hSw; obtain ⟨hs0, hs1, hs2, hs3, ht0, ht1, ht2, ht3⟩ := hSw; (try simp only [o12_5_15]); first | (go_simp; done) | (go_simp; with_reducible rfl)
        try simp only [Act.put, o12_5_15, List.setIfInBounds_toArray, List.set_cons_zero, List.set_cons_succ]
        refine wpAnyP_one 16 (o := o12_5_16) rfl (by kernel_rfl) (by rfl) (fun K hK => ?_)
        have HK := Aside0.mk hK
        clear hK
        try simp only [o12_5_16]
        go_simp
        refine HK.out _ _ (fun h_ => absurd h_ (by decide)) ?_
        clear HK K
        try simp only [Act.put, o12_5_16, List.setIfInBounds_toArray, List.set_cons_zero, List.set_cons_succ]
        refine wpAnyP_done (by kernel_rfl) ?_ _
        clear HS
        go_wp2
        go_ret
        exact ⟨rfl, HB.out⟩
end Go.Proofs.Ytpdlbebiapimoaa.PN
