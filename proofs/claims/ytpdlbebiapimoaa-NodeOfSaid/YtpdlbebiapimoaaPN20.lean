-- Written for this claim by hprint.py, a program of this session over the kit's printer; Lean checks it.
import Derived.Test.YtpdlbebiapimoaaPN0
import Derived.Test.YtpdlbebiapimoaaPN7
import Derived.Test.YtpdlbebiapimoaaPN8
import Derived.Test.YtpdlbebiapimoaaPN9
import Derived.Test.YtpdlbebiapimoaaPN11
import Derived.Test.YtpdlbebiapimoaaPN15
import Derived.Test.YtpdlbebiapimoaaPN18
namespace Go.Proofs.Ytpdlbebiapimoaa.PN
open Go.RowKit Go.Proofs.YtpdlbebiapimoaaW.PrintWords Go.Proofs.YtpdlbebiapimoaaW.PrintLast Go.Proofs.YtpdlbebiapimoaaW.PrintMore
attribute [local go_sem] max2_int min2_int max_two min_two max_three min_three max_four min_four   -- for this text's walks alone
set_option linter.unusedVariables false
set_option linter.unusedSimpArgs false

/-! ### lunettelaw05_NodeOf: function 4 -/
mutual
def lunettelaw05_NodeOf.j0 : Nat → Bool → List ByteArray → Bool → Option (Bool)
  | 0, _, _, _ => none
  | k + 1, x0, x1, x14 => if x14 = true then ((lunettelaw05_awake.f k).bind fun t272 => (some t272)) else (lunettelaw05_NodeOf.l0 k x0 x1 0)
def lunettelaw05_NodeOf.l0 : Nat → Bool → List ByteArray → Int → Option (Bool)
  | 0, _, _, _ => none
  | k + 1, x0, x1, x5 => if x5 < (x1.length : Int) then (if 0 ≤ x5 then (if ((rdOf ByteArray.empty x1 x5).size : Int) > 300 then (some true) else (lunettelaw05_NodeOf.l0 k x0 x1 (wrap64 (x5 + 1)))) else (none)) else ((some (([] : List ByteArray) : List ByteArray)).bind fun y274 => (if y274.length + x1.length < 8796093022208 then ((node_Of.f k x0 (y274 ++ x1)).bind fun bt280 => (if bt280.2.2.2.2 = 0 then (if (bt280.1 == x0) = true then ((lunetteref05_Check.f k bt280.1 bt280.2.1 bt280.2.2.1 bt280.2.2.2.1).bind fun t292 => (if t292 = 0 then ((lunetteref05_Cells.f k bt280.1 bt280.2.1 bt280.2.2.1 bt280.2.2.2.1).bind fun t293 => ((lunetteref01_Same.f k t293 x1).bind fun t296 => (some t296))) else (none))) else (none)) else (if bt280.2.2.2.2 = 50 then ((lunetteref05_Same.f k bt280.1 bt280.2.1 bt280.2.2.1 bt280.2.2.2.1 false ([] : List ByteArray) ([] : List ByteArray) ([] : List Int)).bind fun t297 => (some t297)) else (none)))) else (none)))
end
def lunettelaw05_NodeOf.f (k : Nat) (a0 : Bool) (l1 : List ByteArray) : Option (Bool) := (lunettelaw05_awake.f k).bind fun t271 => (if t271 = true then (lunettelaw05_NodeOf.j0 k a0 l1 (decide ((l1.length : Int) > 100))) else (none))
theorem lunettelaw05_NodeOf.mono_l : ∀ k, (∀ y0 y1 y2, LeO (lunettelaw05_NodeOf.j0 k y0 y1 y2) (lunettelaw05_NodeOf.j0 (k + 1) y0 y1 y2)) ∧ (∀ y0 y1 y2, LeO (lunettelaw05_NodeOf.l0 k y0 y1 y2) (lunettelaw05_NodeOf.l0 (k + 1) y0 y1 y2))
  | 0 => ⟨fun _ _ _ r h => by simp [lunettelaw05_NodeOf.j0] at h, fun _ _ _ r h => by simp [lunettelaw05_NodeOf.l0] at h⟩
  | k + 1 => by
    obtain ⟨ih0, ih1⟩ := lunettelaw05_NodeOf.mono_l k
    refine ⟨?_, ?_⟩
    · intro y0 y1 y2
      unfold lunettelaw05_NodeOf.j0
      repeat' first
      | (with_reducible exact ih0 _ _ _)
      | (with_reducible exact ih1 _ _ _)
      | (with_reducible exact lunettelaw05_awake.mono _)
      | (with_reducible exact lunetteref01_Same.mono _ _ _)
      | (with_reducible exact lunetteref05_Cells.mono _ _ _ _ _)
      | (with_reducible exact lunetteref05_Check.mono _ _ _ _ _)
      | (with_reducible exact lunetteref05_Same.mono _ _ _ _ _ _ _ _ _)
      | (with_reducible exact node_Of.mono _ _ _)
      | (with_reducible exact LeO.refl _)
      | (with_reducible exact LeO.none _)
      | (with_reducible refine LeO.ite ?_ ?_)
      | (with_reducible refine LeO.bind ?_ (fun _ => ?_))
      | exact ih0 _ _ _
      | exact ih1 _ _ _
      | exact lunettelaw05_awake.mono _
      | exact lunetteref01_Same.mono _ _ _
      | exact lunetteref05_Cells.mono _ _ _ _ _
      | exact lunetteref05_Check.mono _ _ _ _ _
      | exact lunetteref05_Same.mono _ _ _ _ _ _ _ _ _
      | exact node_Of.mono _ _ _
      | exact LeO.none _
      | refine LeO.ite ?_ ?_
      | refine LeO.bind ?_ (fun _ => ?_)
    · intro y0 y1 y2
      unfold lunettelaw05_NodeOf.l0
      repeat' first
      | (with_reducible exact ih0 _ _ _)
      | (with_reducible exact ih1 _ _ _)
      | (with_reducible exact lunettelaw05_awake.mono _)
      | (with_reducible exact lunetteref01_Same.mono _ _ _)
      | (with_reducible exact lunetteref05_Cells.mono _ _ _ _ _)
      | (with_reducible exact lunetteref05_Check.mono _ _ _ _ _)
      | (with_reducible exact lunetteref05_Same.mono _ _ _ _ _ _ _ _ _)
      | (with_reducible exact node_Of.mono _ _ _)
      | (with_reducible exact LeO.refl _)
      | (with_reducible exact LeO.none _)
      | (with_reducible refine LeO.ite ?_ ?_)
      | (with_reducible refine LeO.bind ?_ (fun _ => ?_))
      | exact ih0 _ _ _
      | exact ih1 _ _ _
      | exact lunettelaw05_awake.mono _
      | exact lunetteref01_Same.mono _ _ _
      | exact lunetteref05_Cells.mono _ _ _ _ _
      | exact lunetteref05_Check.mono _ _ _ _ _
      | exact lunetteref05_Same.mono _ _ _ _ _ _ _ _ _
      | exact node_Of.mono _ _ _
      | exact LeO.none _
      | refine LeO.ite ?_ ?_
      | refine LeO.bind ?_ (fun _ => ?_)
theorem lunettelaw05_NodeOf.mono : ∀ a0 a1 k, LeO (lunettelaw05_NodeOf.f k a0 a1) (lunettelaw05_NodeOf.f (k + 1) a0 a1) := by
  intro a0 a1 k
  obtain ⟨ih0, ih1⟩ := lunettelaw05_NodeOf.mono_l k
  unfold lunettelaw05_NodeOf.f
  repeat' first
      | (with_reducible exact ih0 _ _ _)
      | (with_reducible exact ih1 _ _ _)
      | (with_reducible exact lunettelaw05_awake.mono _)
      | (with_reducible exact lunetteref01_Same.mono _ _ _)
      | (with_reducible exact lunetteref05_Cells.mono _ _ _ _ _)
      | (with_reducible exact lunetteref05_Check.mono _ _ _ _ _)
      | (with_reducible exact lunetteref05_Same.mono _ _ _ _ _ _ _ _ _)
      | (with_reducible exact node_Of.mono _ _ _)
      | (with_reducible exact LeO.refl _)
      | (with_reducible exact LeO.none _)
      | (with_reducible refine LeO.ite ?_ ?_)
      | (with_reducible refine LeO.bind ?_ (fun _ => ?_))
      | exact ih0 _ _ _
      | exact ih1 _ _ _
      | exact lunettelaw05_awake.mono _
      | exact lunetteref01_Same.mono _ _ _
      | exact lunetteref05_Cells.mono _ _ _ _ _
      | exact lunetteref05_Check.mono _ _ _ _ _
      | exact lunetteref05_Same.mono _ _ _ _ _ _ _ _ _
      | exact node_Of.mono _ _ _
      | exact LeO.none _
      | refine LeO.ite ?_ ?_
      | refine LeO.bind ?_ (fun _ => ?_)
set_option maxHeartbeats 8000000 in
set_option maxRecDepth 100000 in
theorem lunettelaw05_NodeOf.calls (k : Nat) (a0 : Bool) (A1 : Option Addr) (c1 : Nat) (l1 : List ByteArray) (r : Bool) (w : World) (hr1 : Kd.C Kd.string w A1 l1.length l1) (hc1 : l1.length ≤ c1) (h : lunettelaw05_NodeOf.f k a0 l1 = some r) :
    Calls Try.prog 4 #[.bool a0, .slice A1 l1.length c1] w fun e w' => e = .returned (.bool r) ∧ Below w.heap.size w w' := by
  have hu25 := Try.underlying25
  have HR1 := Aside0.mk hr1
  have HC1 := Aside0.mk hc1
  clear hr1 hc1
  have HB := Aside0.mk (Below.refl w.heap.size w)
  have H : ((lunettelaw05_awake.f k).bind fun t271 => (if t271 = true then (lunettelaw05_NodeOf.j0 k a0 l1 (decide ((l1.length : Int) > 100))) else (none))) = some r := h
  clear h
  have HC3 := Aside0.mk H
  clear H
  go_enter Try.func4, Try.ntmps4
  go_upto_region 1 with (fail)
  go_cut [14] (fun v14 wc => ∃ (kq : Nat) (x14_2 : Bool), v14 = .bool x14_2 ∧ Aside0 (lunettelaw05_NodeOf.j0 kq a0 l1 x14_2 = some r) ∧ Aside0 (kq ≤ k) ∧ Aside0 (Below w.heap.size w wc))
  case first =>
    have H := HC3.out
    clear HC3
    replace H := Option.bind_eq_some_iff.mp H
    obtain ⟨t271, A40, H⟩ := H
    replace H : (if t271 = true then (lunettelaw05_NodeOf.j0 k a0 l1 (decide ((l1.length : Int) > 100))) else (none)) = some r := H
    have A4 := Aside0.mk A40
    clear A40
    by_cases c5 : t271 = true
    · subst c5
      have H1 : (lunettelaw05_NodeOf.j0 k a0 l1 (decide ((l1.length : Int) > 100))) = some r := by rw [if_pos rfl] at H; exact H
      clear H
      have H := H1
      clear H1
      have H' := Aside0.mk H
      clear H
      go_wp2_with (first | ((with_reducible refine gate_callee (f := 13) rfl ?_); refine goesL_ (some 8) rfl rfl Try.func13 (by kernel_rfl) rfl #[] rfl (by (try simp only [List.map_toArray, List.map_cons, List.map_nil]); first | done | rfl | (simp only [List.length_drop, List.length_take]; rfl)) ?_; (with_reducible refine (lunettelaw05_awake.calls k  true _ A4.out).mono ?_); rintro e w6 ⟨rfl, hb⟩; refine ⟨_, rfl, ?_⟩; have n0_ := Aside0.mk (below_step (by repeat (first | (with_reducible first | exact HB.out | apply below_alloc | apply pw_below_drewN | apply below_drew1) | exact HB.out)) hb); clear HB; have HB := n0_; clear n0_; (try clear hb); (try clear hb2); (try clear hk); (try clear hi)))
      go_meet
      case rel => exact ⟨_, (decide ((l1.length : Int) > 100)), (by first | rfl | (simp; done) | (simp [*]; done)), H', ⟨by first | omega | exact Nat.le_refl _⟩, ⟨by repeat (first | (with_reducible first | exact HB.out | apply below_alloc | apply pw_below_drewN | apply below_drew1) | exact HB.out)⟩⟩
    · replace c5 := Bool.eq_false_iff.mpr c5
      subst c5
      have H1 : (none) = some r := by rw [if_neg (show ¬ (false = true) by decide)] at H; exact H
      clear H
      have H := H1
      clear H1
      exact absurd H (by simp)
  case rest =>
    clear HC3
    try clear c1
    try clear p2
    try clear c4
    try clear c5
    obtain ⟨kq, x14_2, rfl, HA, HJ2, HB⟩ := hcut
    cases kq with
    | zero => exact absurd HA.out (by simp [lunettelaw05_NodeOf.j0])
    | succ kj2 =>
      have H := HA.out
      clear HA
      simp only [lunettelaw05_NodeOf.j0] at H
      by_cases c7 : x14_2 = true
      · subst c7
        have H1 : ((lunettelaw05_awake.f kj2).bind fun t272 => (some t272)) = some r := by rw [if_pos rfl] at H; exact H
        clear H
        have H := H1
        clear H1
        replace H := Option.bind_eq_some_iff.mp H
        obtain ⟨t272, A80, H⟩ := H
        replace H : (some t272) = some r := H
        have A8 := Aside0.mk A80
        clear A80
        obtain rfl := Option.some.inj H
        go_wp2_with (first | ((with_reducible refine gate_callee (f := 13) rfl ?_); refine goesL_ (some 15) rfl rfl Try.func13 (by kernel_rfl) rfl #[] rfl (by (try simp only [List.map_toArray, List.map_cons, List.map_nil]); first | done | rfl | (simp only [List.length_drop, List.length_take]; rfl)) ?_; (with_reducible refine (lunettelaw05_awake.calls kj2  t272 _ A8.out).mono ?_); rintro e w9 ⟨rfl, hb⟩; refine ⟨_, rfl, ?_⟩; have n0_ := Aside0.mk (below_step (by repeat (first | (with_reducible first | exact HB.out | apply below_alloc | apply pw_below_drewN | apply below_drew1) | exact HB.out)) hb); clear HB; have HB := n0_; clear n0_; (try clear hb); (try clear hb2); (try clear hk); (try clear hi)))
        go_ret
        exact ⟨by first | rfl | (simp [errW_none, errW_some] <;> rfl) | (simp [*, errW_none, errW_some] <;> rfl), by repeat (first | (with_reducible first | exact HB.out | apply below_alloc | apply pw_below_drewN | apply below_drew1) | exact HB.out)⟩
      · replace c7 := Bool.eq_false_iff.mpr c7
        subst c7
        have H1 : (lunettelaw05_NodeOf.l0 kj2 a0 l1 0) = some r := by rw [if_neg (show ¬ (false = true) by decide)] at H; exact H
        clear H
        have H := H1
        clear H1
        have H' := Aside0.mk H
        clear H
        go_wp2
        go_loopg [5] kj2 (fun kq v5 w' => ∃ (x5_2 : Int), v5 = .int .i64 x5_2 ∧ Aside0 (lunettelaw05_NodeOf.l0 kq a0 l1 x5_2 = some r) ∧ Aside0 (kq ≤ kj2) ∧ Aside0 (Below w.heap.size w w'))
        case atStart => exact ⟨(0), (by first | rfl | (simp; done) | (simp [*]; done)), H', ⟨Nat.le_refl _⟩, ⟨by repeat (first | (with_reducible first | exact HB.out | apply below_alloc | apply pw_below_drewN | apply below_drew1) | exact HB.out)⟩⟩
        case round =>
          clear H'
          try clear c1
          try clear p2
          try clear c4
          try clear c5
          try clear c7
          try clear p2
          obtain ⟨x5_2, rfl, HA, HK2, HB⟩ := hrel
          cases gk with
          | zero => exact absurd HA.out (by simp [lunettelaw05_NodeOf.l0])
          | succ k2 =>
            have H := HA.out
            clear HA
            simp only [lunettelaw05_NodeOf.l0] at H
            by_cases c10 : x5_2 < (l1.length : Int)
            · rw [if_pos c10] at H
              have c10b0 : decide (x5_2 < (l1.length : Int)) = true := decide_eq_true c10
              clear c10
              by_cases c11 : 0 ≤ x5_2
              · rw [if_pos c11] at H
                have c11b0 : decide (0 ≤ x5_2) = true := decide_eq_true c11
                clear c11
                by_cases c12 : ((rdOf ByteArray.empty l1 x5_2).size : Int) > 300
                · rw [if_pos c12] at H
                  have c12b0 : decide (300 < ((rdOf ByteArray.empty l1 x5_2).size : Int)) = true := decide_eq_true c12
                  have c12b1 : decide (300 < (rdOf ByteArray.empty l1 x5_2).size) = true := decide_eq_true (by omega)
                  clear c12
                  obtain rfl := Option.some.inj H
                  have p273 : 0 ≤ (x5_2 : Int) := of_decide_eq_true (by first | (with_reducible assumption) | assumption)
                  have q273 : x5_2 < (l1.length : Int) := of_decide_eq_true (by first | (with_reducible assumption) | assumption)
                  obtain ⟨ad273, e273, hx273_0⟩ := Kd.at_string HR1.out x5_2 p273 q273
                  cases e273
                  replace hx273_0 := (HB.out.cell (World.block_lt_of_cell? w _ hx273_0)).trans hx273_0
                  replace p273 := eq_true p273
                  replace q273 := eq_true q273
                  go_wp2
                  go_ret
                  exact ⟨by first | rfl | (simp [errW_none, errW_some] <;> rfl) | (simp [*, errW_none, errW_some] <;> rfl), by repeat (first | (with_reducible first | exact HB.out | apply below_alloc | apply pw_below_drewN | apply below_drew1) | exact HB.out)⟩
                · rw [if_neg c12] at H
                  have c12b0 : decide (300 < ((rdOf ByteArray.empty l1 x5_2).size : Int)) = false := decide_eq_false c12
                  have c12b1 : decide (300 < (rdOf ByteArray.empty l1 x5_2).size) = false := decide_eq_false (by omega)
                  clear c12
                  have H' := Aside0.mk H
                  clear H
                  have p273 : 0 ≤ (x5_2 : Int) := of_decide_eq_true (by first | (with_reducible assumption) | assumption)
                  have q273 : x5_2 < (l1.length : Int) := of_decide_eq_true (by first | (with_reducible assumption) | assumption)
                  obtain ⟨ad273, e273, hx273_0⟩ := Kd.at_string HR1.out x5_2 p273 q273
                  cases e273
                  replace hx273_0 := (HB.out.cell (World.block_lt_of_cell? w _ hx273_0)).trans hx273_0
                  replace p273 := eq_true p273
                  replace q273 := eq_true q273
                  go_wp2
                  go_roundg k2
                  case measure => have := HJ2.out; have := HK2.out; omega
                  case rel => exact ⟨(wrap64 (x5_2 + 1)), (by first | rfl | (simp; done) | (simp [*]; done)), H', ⟨by have := HJ2.out; have := HK2.out; omega⟩, ⟨by repeat (first | (with_reducible first | exact HB.out | apply below_alloc | apply pw_below_drewN | apply below_drew1) | exact HB.out)⟩⟩
              · rw [if_neg c11] at H
                exact absurd H (by simp)
            · rw [if_neg c10] at H
              have c10b0 : decide (x5_2 < (l1.length : Int)) = false := decide_eq_false c10
              clear c10
              obtain ⟨y274, hy274⟩ : ∃ y_ : List ByteArray, y_ = (([] : List ByteArray)) := ⟨_, rfl⟩
              replace H : (if y274.length + l1.length < 8796093022208 then ((node_Of.f k2 a0 (y274 ++ l1)).bind fun bt280 => (if bt280.2.2.2.2 = 0 then (if (bt280.1 == a0) = true then ((lunetteref05_Check.f k2 bt280.1 bt280.2.1 bt280.2.2.1 bt280.2.2.2.1).bind fun t292 => (if t292 = 0 then ((lunetteref05_Cells.f k2 bt280.1 bt280.2.1 bt280.2.2.1 bt280.2.2.2.1).bind fun t293 => ((lunetteref01_Same.f k2 t293 l1).bind fun t296 => (some t296))) else (none))) else (none)) else (if bt280.2.2.2.2 = 50 then ((lunetteref05_Same.f k2 bt280.1 bt280.2.1 bt280.2.2.1 bt280.2.2.2.1 false ([] : List ByteArray) ([] : List ByteArray) ([] : List Int)).bind fun t297 => (some t297)) else (none)))) else (none)) = some r := by first | (rw [hy274]; with_reducible exact H) | (have H2_ := (Option.bind_some _ _).symm.trans H; rw [hy274]; with_reducible exact H2_) | (have H2_ := (Option.bind_some _ _).symm.trans H; with_reducible exact H2_) | with_reducible exact H | (rw [hy274]; exact H) | exact H
              have Ny274 := Aside0.mk hy274
              clear hy274
              by_cases c13 : y274.length + l1.length < 8796093022208
              · rw [if_pos c13] at H
                have LMc13 := Aside0.mk c13
                clear c13
                obtain ⟨y277, hy277⟩ : ∃ y_ : List ByteArray, y_ = (y274 ++ l1) := ⟨_, rfl⟩
                replace H : ((node_Of.f k2 a0 y277).bind fun bt280 => (if bt280.2.2.2.2 = 0 then (if (bt280.1 == a0) = true then ((lunetteref05_Check.f k2 bt280.1 bt280.2.1 bt280.2.2.1 bt280.2.2.2.1).bind fun t292 => (if t292 = 0 then ((lunetteref05_Cells.f k2 bt280.1 bt280.2.1 bt280.2.2.1 bt280.2.2.2.1).bind fun t293 => ((lunetteref01_Same.f k2 t293 l1).bind fun t296 => (some t296))) else (none))) else (none)) else (if bt280.2.2.2.2 = 50 then ((lunetteref05_Same.f k2 bt280.1 bt280.2.1 bt280.2.2.1 bt280.2.2.2.1 false ([] : List ByteArray) ([] : List ByteArray) ([] : List Int)).bind fun t297 => (some t297)) else (none)))) = some r := by first | (rw [hy277]; with_reducible exact H) | (have H2_ := (Option.bind_some _ _).symm.trans H; rw [hy277]; with_reducible exact H2_) | (have H2_ := (Option.bind_some _ _).symm.trans H; with_reducible exact H2_) | with_reducible exact H | (rw [hy277]; exact H) | exact H
                have Ny277 := Aside0.mk hy277
                clear hy277
                replace H := Option.bind_eq_some_iff.mp H
                obtain ⟨⟨t280, t281, t284, t287, t290⟩, A140, H⟩ := H
                replace H : (if t290 = 0 then (if (t280 == a0) = true then ((lunetteref05_Check.f k2 t280 t281 t284 t287).bind fun t292 => (if t292 = 0 then ((lunetteref05_Cells.f k2 t280 t281 t284 t287).bind fun t293 => ((lunetteref01_Same.f k2 t293 l1).bind fun t296 => (some t296))) else (none))) else (none)) else (if t290 = 50 then ((lunetteref05_Same.f k2 t280 t281 t284 t287 false ([] : List ByteArray) ([] : List ByteArray) ([] : List Int)).bind fun t297 => (some t297)) else (none))) = some r := H
                have A14 := Aside0.mk A140
                clear A140
                by_cases c15 : t290 = 0
                · rw [if_pos c15] at H
                  have c15b0 : (t290 == 0) = true := beq_iff_eq.mpr c15
                  have c15b1 : (t290 != 0) = false := bne_eq_false_iff_eq.mpr c15
                  clear c15
                  by_cases c16 : (t280 == a0) = true
                  · rw [if_pos c16] at H
                    have c16b0 : (t280 == a0) = true := c16
                    (try (have c16b1 : decide (t280 = a0) = true := by simpa using c16))
                    (try (have c16b2 : (t280 == a0) = true := by simpa using c16))
                    clear c16
                    replace H := Option.bind_eq_some_iff.mp H
                    obtain ⟨t292, A170, H⟩ := H
                    replace H : (if t292 = 0 then ((lunetteref05_Cells.f k2 t280 t281 t284 t287).bind fun t293 => ((lunetteref01_Same.f k2 t293 l1).bind fun t296 => (some t296))) else (none)) = some r := H
                    have A17 := Aside0.mk A170
                    clear A170
                    by_cases c18 : t292 = 0
                    · rw [if_pos c18] at H
                      have c18b0 : (t292 == 0) = true := beq_iff_eq.mpr c18
                      have c18b1 : (t292 != 0) = false := bne_eq_false_iff_eq.mpr c18
                      clear c18
                      replace H := Option.bind_eq_some_iff.mp H
                      obtain ⟨t293, A190, H⟩ := H
                      replace H : ((lunetteref01_Same.f k2 t293 l1).bind fun t296 => (some t296)) = some r := H
                      have A19 := Aside0.mk A190
                      clear A190
                      replace H := Option.bind_eq_some_iff.mp H
                      obtain ⟨t296, A200, H⟩ := H
                      replace H : (some t296) = some r := H
                      have A20 := Aside0.mk A200
                      clear A200
                      obtain rfl := Option.some.inj H
                      go_wp2_with (first | ((with_reducible refine gate_dst (N := 30) rfl ?_); (try (refine gate_guard (by rfl) ?_; dsimp only)); refine Kd.R_lit Kd.string _ 9 ?hg (N := 30) ?hd (xs := ([] : List ByteArray)) (inner := []) (ok := fun _ => True) (okp := fun _ => True) ?hr ?hp (fun _ hk => hk) trivial (Below.refl _ _) (Nat.le_refl _) (by simp) ?_; (case hd => rfl); (case hg => rfl); (case hr => first | (go_simp; done) | (go_simp; rfl)); (case hp => exact (Reps.none _ _)); intro v275 w21 ho22 hb hg_ hnew_; clear hg_ hnew_; (first | rw [← Ny274.out] at ho22 | (simp only [Int.reduceToNat] at ho22; rw [← Ny274.out] at ho22)); have n0_ := Aside0.mk (Kd.R_lower ho22 (below_size (by repeat (first | (with_reducible first | exact HB.out | apply below_alloc | apply pw_below_drewN | apply below_drew1) | exact HB.out)))); have n1_ := Aside0.mk (below_step (by repeat (first | (with_reducible first | exact HB.out | apply below_alloc | apply pw_below_drewN | apply below_drew1) | exact HB.out)) hb); clear HB; have HO276 := n0_; have HB := n1_; clear n0_ n1_; clear hb ho22) | ((with_reducible refine gate_builtin (b := .append) (xs := #[.tmp 30, .tmp 31]) rfl ?_); (try (refine gate_guard (by rfl) ?_; dsimp only)); at_builtin; refine Kd.R_append_rows Kd.string (w0 := w) w.heap.size rfl (.tmp 30) (.tmp 31) 22 9 (.string ⟨#[]⟩) 16 rfl Try.underlying22 info9 rfl (by decide) (by omega) v275 y274 l1 _ _ _ (fun _ => True) (fun _ => False) rfl rfl ?aO ?aR (fun _ _ h => h) (fun _ h => h.elim) ?aF ?aB ?aS ?aL ?_; (case aR => repeat (first | exact (Kd.C_below HR1.out HB.out) | (with_reducible refine Kd.C_alloc ?_ _) | (with_reducible refine Kd.C_drewN ?_ _) | (with_reducible refine Kd.C_drew ?_))); (case aB => exact (by repeat (first | (with_reducible first | exact HB.out | apply below_alloc | apply pw_below_drewN | apply below_drew1) | exact HB.out))); (case aF => exact (fun _ _ => trivial)); (case aO => exact (by (with_reducible repeat (first | apply Kd.R_alloc | apply Kd.R_drewN | apply Kd.R_drew)); exact HO276.out)); (case aS => exact (below_size (by repeat (first | (with_reducible first | exact HB.out | apply below_alloc | apply pw_below_drewN | apply below_drew1) | exact HB.out)))); (case aL => have := LMc13.out; omega); intro v278 w23 ho hb hg hat; rw [← Ny277.out] at ho; have n0_ := Aside0.mk (hb); have n1_ := Aside0.mk (ho); clear HB; clear HO276; have HB := n0_; have HO279 := n1_; clear n0_ n1_; clear ho hb hg hat; obtain ⟨Ao24, co24, eo24⟩ := Kd.R_slice HO279.out; subst eo24) | ((with_reducible refine gate_callee (f := 20) rfl ?_); refine goesL_ (some 33) rfl rfl Try.func20 (by kernel_rfl) rfl #[.bool a0, .slice Ao24 y277.length co24] rfl (by (try simp only [List.map_toArray, List.map_cons, List.map_nil]); first | done | rfl | (simp only [List.length_drop, List.length_take]; rfl)) ?_; (with_reducible refine (node_Of.calls k2 a0 (fun k_ => some k_ = (.slice Ao24 y277.length co24 : Value).ownBlock) _ _ y277 t280 t281 t284 t287 t290 _ ?side1 A14.out).mono ?_); (case side1 => exact Kd.R_V (Kd.R_tight rfl (HO279.out))); rintro e w25 ⟨v282, v285, v288, rfl, ho0, ho1, ho2, hb⟩; refine ⟨_, rfl, ?_⟩; have n0_ := Aside0.mk (Kd.R_mono (Kd.R_told (Kd.R_told (Kd.R_old (by (with_reducible repeat (first | apply Kd.R_alloc | apply Kd.R_drewN | apply Kd.R_drew)); exact HO279.out) hb) (Kd.R_base ho0)) (Kd.R_base ho1)) (fun _ h_ => h_.1)); have n1_ := Aside0.mk (Kd.R_lower (Kd.R_new' (Kd.R_mono (ok' := fun k_ => some k_ ≠ (v285 : Value).ownBlock) ho0 (fun _ hk_ => hk_.2)) (Kd.R_lt (by (with_reducible repeat (first | apply Kd.R_alloc | apply Kd.R_drewN | apply Kd.R_drew)); exact HO279.out))) (below_size (by repeat (first | (with_reducible first | exact HB.out | apply below_alloc | apply pw_below_drewN | apply below_drew1) | exact HB.out)))); have n2_ := Aside0.mk (Kd.R_lower (Kd.R_new' (Kd.R_mono (ok' := fun k_ => some k_ ≠ (v282 : Value).ownBlock) ho1 (fun _ hk_ => hk_.2)) (Kd.R_lt (by (with_reducible repeat (first | apply Kd.R_alloc | apply Kd.R_drewN | apply Kd.R_drew)); exact HO279.out))) (below_size (by repeat (first | (with_reducible first | exact HB.out | apply below_alloc | apply pw_below_drewN | apply below_drew1) | exact HB.out)))); have n3_ := Aside0.mk (Kd.R_lower (Kd.R_mono (ok' := fun k_ => True) ho2 (fun _ hk_ => trivial)) (below_size (by repeat (first | (with_reducible first | exact HB.out | apply below_alloc | apply pw_below_drewN | apply below_drew1) | exact HB.out)))); have n4_ := Aside0.mk (below_step (by repeat (first | (with_reducible first | exact HB.out | apply below_alloc | apply pw_below_drewN | apply below_drew1) | exact HB.out)) hb); clear HO279; clear HB; have HO279 := n0_; have HO283 := n1_; have HO286 := n2_; have HO289 := n3_; have HB := n4_; clear n0_ n1_ n2_ n3_ n4_; (try clear hb); (try clear hb2); (try clear hk); (try clear hi); (try clear ho0); (try clear ho1); (try clear ho2)) | ((with_reducible refine gate_dst (N := 6) rfl ?_); (try (refine gate_guard (by rfl) ?_; dsimp only)); refine box_event ?hg (N := 6) ?hd (cs := #[.bool false, .slice none 0 0, .slice none 0 0, .slice none 0 0]) (t := 25) ?hr ?_; (case hd => rfl); (case hg => rfl); (case hr => first | (go_simp; done) | (go_simp; rfl)); intro gb291 hg w26 hbox hb; have n0_ := Aside0.mk (Kd.R_below (by (with_reducible repeat (first | apply Kd.R_alloc | apply Kd.R_drewN | apply Kd.R_drew)); exact HO279.out) hb); have n1_ := Aside0.mk (Kd.R_below (by (with_reducible repeat (first | apply Kd.R_alloc | apply Kd.R_drewN | apply Kd.R_drew)); exact HO283.out) hb); have n2_ := Aside0.mk (Kd.R_below (by (with_reducible repeat (first | apply Kd.R_alloc | apply Kd.R_drewN | apply Kd.R_drew)); exact HO286.out) hb); have n3_ := Aside0.mk (Kd.R_below (by (with_reducible repeat (first | apply Kd.R_alloc | apply Kd.R_drewN | apply Kd.R_drew)); exact HO289.out) hb); have n4_ := Aside0.mk (below_step (by repeat (first | (with_reducible first | exact HB.out | apply below_alloc | apply pw_below_drewN | apply below_drew1) | exact HB.out)) hb); have n5_ := Aside0.mk (hbox); have n6_ := Aside0.mk ((by rw [hg]; exact (below_size (by repeat (first | (with_reducible first | exact HB.out | apply below_alloc | apply pw_below_drewN | apply below_drew1) | exact HB.out))) : w.heap.size ≤ gb291)); have n7_ := Aside0.mk ((by rw [hg]; exact (below_size (by repeat (first | (with_reducible first | exact HB.out | apply below_alloc | apply pw_below_drewN | apply below_drew1) | exact HB.out))) : w.heap.size ≤ gb291)); clear HO279; clear HO283; clear HO286; clear HO289; clear HB; have HO279 := n0_; have HO283 := n1_; have HO286 := n2_; have HO289 := n3_; have HB := n4_; have BK291 := n5_; have GW291 := n6_; have GE291 := n7_; clear n0_ n1_ n2_ n3_ n4_ n5_ n6_ n7_; clear hb hbox hg; have hcz27_0 : w26.cell? ⟨gb291, 0, none⟩ = some (.bool false) := (blk_cell BK291.out 0).trans rfl; have hcz27_1 : w26.cell? ⟨gb291, 1, none⟩ = some (.slice none 0 0) := (blk_cell BK291.out 1).trans rfl; have hcz27_2 : w26.cell? ⟨gb291, 2, none⟩ = some (.slice none 0 0) := (blk_cell BK291.out 2).trans rfl; have hcz27_3 : w26.cell? ⟨gb291, 3, none⟩ = some (.slice none 0 0) := (blk_cell BK291.out 3).trans rfl; have hfz27_0 := blk_frozen BK291.out 0; have hfz27_1 := blk_frozen BK291.out 1; have hfz27_2 := blk_frozen BK291.out 2; have hfz27_3 := blk_frozen BK291.out 3; obtain ⟨Ao28, co28, eo28⟩ := Kd.R_slice HO283.out; subst eo28; obtain ⟨Ao29, co29, eo29⟩ := Kd.R_slice HO286.out; subst eo29; obtain ⟨Ao30, co30, eo30⟩ := Kd.R_slice HO289.out; subst eo30) | (go_at_call 16; (with_reducible refine (lunetteref05_Check.calls k2 t280 _ _ t281 _ _ t284 _ _ t287 t292 _ ?side1 ?side2 ?side3 ?side4 ?side5 ?side6 A17.out).mono ?_); (case side1 => refine (Kd.R_reads' (e := 9) (base := w.heap.size) (ok := fun k_ => (some k_ ≠ (.slice Ao29 t284.length co29 : Value).ownBlock ∧ some k_ ≠ (.slice Ao24 y277.length co24 : Value).ownBlock)) (n := t281.length) (c := co28) ?_).2.2; exact (by (with_reducible repeat (first | apply Kd.R_alloc | apply Kd.R_drewN | apply Kd.R_drew)); exact (Kd.R_mono (Kd.R_far (p := ⟨gb291, 3, none⟩) (Kd.R_far (p := ⟨gb291, 2, none⟩) (Kd.R_far (p := ⟨gb291, 1, none⟩) (Kd.R_far (p := ⟨gb291, 0, none⟩) (Kd.R_types HO283.out BK291.out (by decide)) (fun _ hk => hk.2) (.bool t280)) (fun _ hk => hk.2) (.slice Ao28 t281.length co28)) (fun _ hk => hk.2) (.slice Ao29 t284.length co29)) (fun _ hk => hk.2) (.slice Ao30 t287.length co30)) (fun _ h_ => h_.1)))); (case side2 => exact (Kd.R_reads' HO283.out).2.1); (case side3 => refine (Kd.R_reads' (e := 9) (base := w.heap.size) (ok := fun k_ => (some k_ ≠ (.slice Ao28 t281.length co28 : Value).ownBlock ∧ some k_ ≠ (.slice Ao24 y277.length co24 : Value).ownBlock)) (n := t284.length) (c := co29) ?_).2.2; exact (by (with_reducible repeat (first | apply Kd.R_alloc | apply Kd.R_drewN | apply Kd.R_drew)); exact (Kd.R_mono (Kd.R_far (p := ⟨gb291, 3, none⟩) (Kd.R_far (p := ⟨gb291, 2, none⟩) (Kd.R_far (p := ⟨gb291, 1, none⟩) (Kd.R_far (p := ⟨gb291, 0, none⟩) (Kd.R_types HO286.out BK291.out (by decide)) (fun _ hk => hk.2) (.bool t280)) (fun _ hk => hk.2) (.slice Ao28 t281.length co28)) (fun _ hk => hk.2) (.slice Ao29 t284.length co29)) (fun _ hk => hk.2) (.slice Ao30 t287.length co30)) (fun _ h_ => h_.1)))); (case side4 => exact (Kd.R_reads' HO286.out).2.1); (case side5 => refine (Kd.R_reads' (e := 3) (base := w.heap.size) (ok := fun k_ => True) (n := t287.length) (c := co30) ?_).2.2; exact (by (with_reducible repeat (first | apply Kd.R_alloc | apply Kd.R_drewN | apply Kd.R_drew)); exact (Kd.R_mono (Kd.R_far (p := ⟨gb291, 3, none⟩) (Kd.R_far (p := ⟨gb291, 2, none⟩) (Kd.R_far (p := ⟨gb291, 1, none⟩) (Kd.R_far (p := ⟨gb291, 0, none⟩) (Kd.R_types HO289.out BK291.out (by decide)) (fun _ hk => hk.2) (.bool t280)) (fun _ hk => hk.2) (.slice Ao28 t281.length co28)) (fun _ hk => hk.2) (.slice Ao29 t284.length co29)) (fun _ hk => hk.2) (.slice Ao30 t287.length co30)) (fun _ h_ => h_.1)))); (case side6 => exact (Kd.R_reads' HO289.out).2.1); rintro e w31 ⟨rfl, hb⟩; have n0_ := Aside0.mk (Kd.R_below (by (with_reducible repeat (first | apply Kd.R_alloc | apply Kd.R_drewN | apply Kd.R_drew)); exact (Kd.R_mono (Kd.R_far (p := ⟨gb291, 3, none⟩) (Kd.R_far (p := ⟨gb291, 2, none⟩) (Kd.R_far (p := ⟨gb291, 1, none⟩) (Kd.R_far (p := ⟨gb291, 0, none⟩) (Kd.R_types HO279.out BK291.out (by decide)) (fun _ hk => hk.2) (.bool t280)) (fun _ hk => hk.2) (.slice Ao28 t281.length co28)) (fun _ hk => hk.2) (.slice Ao29 t284.length co29)) (fun _ hk => hk.2) (.slice Ao30 t287.length co30)) (fun _ h_ => h_.1))) hb); have n1_ := Aside0.mk (Kd.R_below (by (with_reducible repeat (first | apply Kd.R_alloc | apply Kd.R_drewN | apply Kd.R_drew)); exact (Kd.R_mono (Kd.R_far (p := ⟨gb291, 3, none⟩) (Kd.R_far (p := ⟨gb291, 2, none⟩) (Kd.R_far (p := ⟨gb291, 1, none⟩) (Kd.R_far (p := ⟨gb291, 0, none⟩) (Kd.R_types HO283.out BK291.out (by decide)) (fun _ hk => hk.2) (.bool t280)) (fun _ hk => hk.2) (.slice Ao28 t281.length co28)) (fun _ hk => hk.2) (.slice Ao29 t284.length co29)) (fun _ hk => hk.2) (.slice Ao30 t287.length co30)) (fun _ h_ => h_.1))) hb); have n2_ := Aside0.mk (Kd.R_below (by (with_reducible repeat (first | apply Kd.R_alloc | apply Kd.R_drewN | apply Kd.R_drew)); exact (Kd.R_mono (Kd.R_far (p := ⟨gb291, 3, none⟩) (Kd.R_far (p := ⟨gb291, 2, none⟩) (Kd.R_far (p := ⟨gb291, 1, none⟩) (Kd.R_far (p := ⟨gb291, 0, none⟩) (Kd.R_types HO286.out BK291.out (by decide)) (fun _ hk => hk.2) (.bool t280)) (fun _ hk => hk.2) (.slice Ao28 t281.length co28)) (fun _ hk => hk.2) (.slice Ao29 t284.length co29)) (fun _ hk => hk.2) (.slice Ao30 t287.length co30)) (fun _ h_ => h_.1))) hb); have n3_ := Aside0.mk (Kd.R_below (by (with_reducible repeat (first | apply Kd.R_alloc | apply Kd.R_drewN | apply Kd.R_drew)); exact (Kd.R_mono (Kd.R_far (p := ⟨gb291, 3, none⟩) (Kd.R_far (p := ⟨gb291, 2, none⟩) (Kd.R_far (p := ⟨gb291, 1, none⟩) (Kd.R_far (p := ⟨gb291, 0, none⟩) (Kd.R_types HO289.out BK291.out (by decide)) (fun _ hk => hk.2) (.bool t280)) (fun _ hk => hk.2) (.slice Ao28 t281.length co28)) (fun _ hk => hk.2) (.slice Ao29 t284.length co29)) (fun _ hk => hk.2) (.slice Ao30 t287.length co30)) (fun _ h_ => h_.1))) hb); have n4_ := Aside0.mk (blk_below (g := gb291) (o := .cells #[.bool t280, .slice Ao28 t281.length co28, .slice Ao29 t284.length co29, .slice Ao30 t287.length co30] 25 (0, 0)) (by (with_reducible repeat (first | refine blk_drewN ?_ _ | refine blk_drew ?_ | refine blk_alloc ?_ _)); refine blk_put (cs := #[.bool t280, .slice Ao28 t281.length co28, .slice Ao29 t284.length co29, .slice none 0 0]) ?_ 3 _ rfl; (with_reducible repeat (first | refine blk_drewN ?_ _ | refine blk_drew ?_ | refine blk_alloc ?_ _)); refine blk_put (cs := #[.bool t280, .slice Ao28 t281.length co28, .slice none 0 0, .slice none 0 0]) ?_ 2 _ rfl; (with_reducible repeat (first | refine blk_drewN ?_ _ | refine blk_drew ?_ | refine blk_alloc ?_ _)); refine blk_put (cs := #[.bool t280, .slice none 0 0, .slice none 0 0, .slice none 0 0]) ?_ 1 _ rfl; (with_reducible repeat (first | refine blk_drewN ?_ _ | refine blk_drew ?_ | refine blk_alloc ?_ _)); refine blk_put (cs := #[.bool false, .slice none 0 0, .slice none 0 0, .slice none 0 0]) ?_ 0 _ rfl; (with_reducible repeat (first | refine blk_drewN ?_ _ | refine blk_drew ?_ | refine blk_alloc ?_ _)); exact BK291.out) hb); have n5_ := Aside0.mk (below_step (by repeat (first | (with_reducible first | exact HB.out | apply below_alloc | apply pw_below_drewN | apply below_drew1 | refine below_set ?_ GE291.out) | exact HB.out)) hb); clear HO279; clear HO283; clear HO286; clear HO289; clear BK291; clear HB; have HO279 := n0_; have HO283 := n1_; have HO286 := n2_; have HO289 := n3_; have BK291 := n4_; have HB := n5_; clear n0_ n1_ n2_ n3_ n4_ n5_; (try clear hb); (try clear hb2); (try clear hk); (try clear hi); have hcz32_0 : w31.cell? ⟨gb291, 0, none⟩ = some (.bool t280) := (blk_cell BK291.out 0).trans rfl; have hcz32_1 : w31.cell? ⟨gb291, 1, none⟩ = some (.slice Ao28 t281.length co28) := (blk_cell BK291.out 1).trans rfl; have hcz32_2 : w31.cell? ⟨gb291, 2, none⟩ = some (.slice Ao29 t284.length co29) := (blk_cell BK291.out 2).trans rfl; have hcz32_3 : w31.cell? ⟨gb291, 3, none⟩ = some (.slice Ao30 t287.length co30) := (blk_cell BK291.out 3).trans rfl; have hfz32_0 := blk_frozen BK291.out 0; have hfz32_1 := blk_frozen BK291.out 1; have hfz32_2 := blk_frozen BK291.out 2; have hfz32_3 := blk_frozen BK291.out 3) | (go_at_call 22; (with_reducible refine (lunetteref05_Cells.calls k2 t280 _ _ t281 _ _ t284 _ _ t287 t293 _ ?side1 ?side2 ?side3 ?side4 ?side5 ?side6 A19.out).mono ?_); (case side1 => repeat (first | exact (Kd.R_reads' HO283.out).2.2 | (with_reducible refine Kd.C_alloc ?_ _) | (with_reducible refine Kd.C_drewN ?_ _) | (with_reducible refine Kd.C_drew ?_))); (case side2 => exact (Kd.R_reads' HO283.out).2.1); (case side3 => repeat (first | exact (Kd.R_reads' HO286.out).2.2 | (with_reducible refine Kd.C_alloc ?_ _) | (with_reducible refine Kd.C_drewN ?_ _) | (with_reducible refine Kd.C_drew ?_))); (case side4 => exact (Kd.R_reads' HO286.out).2.1); (case side5 => repeat (first | exact (Kd.R_reads' HO289.out).2.2 | (with_reducible refine Kd.C_alloc ?_ _) | (with_reducible refine Kd.C_drewN ?_ _) | (with_reducible refine Kd.C_drew ?_))); (case side6 => exact (Kd.R_reads' HO289.out).2.1); rintro e w33 ⟨v294, rfl, ho0, hb⟩; have n0_ := Aside0.mk (Kd.R_elder' (by (with_reducible repeat (first | apply Kd.R_alloc | apply Kd.R_drewN | apply Kd.R_drew)); exact HO279.out) (Kd.R_base ho0) hb); have n1_ := Aside0.mk (Kd.R_elder' (by (with_reducible repeat (first | apply Kd.R_alloc | apply Kd.R_drewN | apply Kd.R_drew)); exact HO283.out) (Kd.R_base ho0) hb); have n2_ := Aside0.mk (Kd.R_elder' (by (with_reducible repeat (first | apply Kd.R_alloc | apply Kd.R_drewN | apply Kd.R_drew)); exact HO286.out) (Kd.R_base ho0) hb); have n3_ := Aside0.mk (Kd.R_below (by (with_reducible repeat (first | apply Kd.R_alloc | apply Kd.R_drewN | apply Kd.R_drew)); exact HO289.out) hb); have n4_ := Aside0.mk (Kd.R_lower (Kd.R_new' (Kd.R_new' (Kd.R_new' ho0 (Kd.R_lt (by (with_reducible repeat (first | apply Kd.R_alloc | apply Kd.R_drewN | apply Kd.R_drew)); exact HO279.out))) (Kd.R_lt (by (with_reducible repeat (first | apply Kd.R_alloc | apply Kd.R_drewN | apply Kd.R_drew)); exact HO283.out))) (Kd.R_lt (by (with_reducible repeat (first | apply Kd.R_alloc | apply Kd.R_drewN | apply Kd.R_drew)); exact HO286.out))) (below_size (by repeat (first | (with_reducible first | exact HB.out | apply below_alloc | apply pw_below_drewN | apply below_drew1 | refine below_set ?_ GE291.out) | exact HB.out)))); have n5_ := Aside0.mk (blk_below (g := gb291) (o := .cells #[.bool t280, .slice Ao28 t281.length co28, .slice Ao29 t284.length co29, .slice Ao30 t287.length co30] 25 (0, 0)) (by (with_reducible repeat (first | refine blk_drewN ?_ _ | refine blk_drew ?_ | refine blk_alloc ?_ _)); exact BK291.out) hb); have n6_ := Aside0.mk (below_step (by repeat (first | (with_reducible first | exact HB.out | apply below_alloc | apply pw_below_drewN | apply below_drew1 | refine below_set ?_ GE291.out) | exact HB.out)) hb); clear HO279; clear HO283; clear HO286; clear HO289; clear BK291; clear HB; have HO279 := n0_; have HO283 := n1_; have HO286 := n2_; have HO289 := n3_; have HO295 := n4_; have BK291 := n5_; have HB := n6_; clear n0_ n1_ n2_ n3_ n4_ n5_ n6_; (try clear hb); (try clear hb2); (try clear hk); (try clear hi); (try clear ho0); obtain ⟨Ao34, co34, eo34⟩ := Kd.R_slice HO295.out; subst eo34) | (go_at_call 21; (with_reducible refine (lunetteref01_Same.calls k2 _ _ t293 _ _ l1 t296 _ ?side1 ?side2 ?side3 ?side4 A20.out).mono ?_); (case side1 => repeat (first | exact (Kd.R_reads' HO295.out).2.2 | (with_reducible refine Kd.C_alloc ?_ _) | (with_reducible refine Kd.C_drewN ?_ _) | (with_reducible refine Kd.C_drew ?_))); (case side2 => exact (Kd.R_reads' HO295.out).2.1); (case side3 => repeat (first | exact (Kd.C_below HR1.out HB.out) | (with_reducible refine Kd.C_alloc ?_ _) | (with_reducible refine Kd.C_drewN ?_ _) | (with_reducible refine Kd.C_drew ?_))); (case side4 => exact HC1.out); rintro e w' ⟨rfl, ⟨nd, rfl⟩⟩))
                      go_ret
                      exact ⟨by first | rfl | (simp [errW_none, errW_some] <;> rfl) | (simp [*, errW_none, errW_some] <;> rfl), by repeat (first | (with_reducible first | exact HB.out | apply below_alloc | apply pw_below_drewN | apply below_drew1 | refine below_set ?_ GE291.out) | exact HB.out)⟩
                    · rw [if_neg c18] at H
                      exact absurd H (by simp)
                  · rw [if_neg c16] at H
                    exact absurd H (by simp)
                · rw [if_neg c15] at H
                  have c15b0 : (t290 == 0) = false := beq_eq_false_iff_ne.mpr c15
                  have c15b1 : (t290 != 0) = true := bne_iff_ne.mpr c15
                  by_cases c35 : t290 = 50
                  · rw [if_pos c35] at H
                    have c35b0 : (t290 == 50) = true := beq_iff_eq.mpr c35
                    have c35b1 : (t290 != 50) = false := bne_eq_false_iff_eq.mpr c35
                    clear c35
                    replace H := Option.bind_eq_some_iff.mp H
                    obtain ⟨t297, A360, H⟩ := H
                    replace H : (some t297) = some r := H
                    have A36 := Aside0.mk A360
                    clear A360
                    obtain rfl := Option.some.inj H
                    go_wp2_with (first | ((with_reducible refine gate_dst (N := 30) rfl ?_); (try (refine gate_guard (by rfl) ?_; dsimp only)); refine Kd.R_lit Kd.string _ 9 ?hg (N := 30) ?hd (xs := ([] : List ByteArray)) (inner := []) (ok := fun _ => True) (okp := fun _ => True) ?hr ?hp (fun _ hk => hk) trivial (Below.refl _ _) (Nat.le_refl _) (by simp) ?_; (case hd => rfl); (case hg => rfl); (case hr => first | (go_simp; done) | (go_simp; rfl)); (case hp => exact (Reps.none _ _)); intro v275 w37 ho38 hb hg_ hnew_; clear hg_ hnew_; (first | rw [← Ny274.out] at ho38 | (simp only [Int.reduceToNat] at ho38; rw [← Ny274.out] at ho38)); have n0_ := Aside0.mk (Kd.R_lower ho38 (below_size (by repeat (first | (with_reducible first | exact HB.out | apply below_alloc | apply pw_below_drewN | apply below_drew1) | exact HB.out)))); have n1_ := Aside0.mk (below_step (by repeat (first | (with_reducible first | exact HB.out | apply below_alloc | apply pw_below_drewN | apply below_drew1) | exact HB.out)) hb); clear HB; have HO276 := n0_; have HB := n1_; clear n0_ n1_; clear hb ho38) | ((with_reducible refine gate_builtin (b := .append) (xs := #[.tmp 30, .tmp 31]) rfl ?_); (try (refine gate_guard (by rfl) ?_; dsimp only)); at_builtin; refine Kd.R_append_rows Kd.string (w0 := w) w.heap.size rfl (.tmp 30) (.tmp 31) 22 9 (.string ⟨#[]⟩) 16 rfl Try.underlying22 info9 rfl (by decide) (by omega) v275 y274 l1 _ _ _ (fun _ => True) (fun _ => False) rfl rfl ?aO ?aR (fun _ _ h => h) (fun _ h => h.elim) ?aF ?aB ?aS ?aL ?_; (case aR => repeat (first | exact (Kd.C_below HR1.out HB.out) | (with_reducible refine Kd.C_alloc ?_ _) | (with_reducible refine Kd.C_drewN ?_ _) | (with_reducible refine Kd.C_drew ?_))); (case aB => exact (by repeat (first | (with_reducible first | exact HB.out | apply below_alloc | apply pw_below_drewN | apply below_drew1) | exact HB.out))); (case aF => exact (fun _ _ => trivial)); (case aO => exact (by (with_reducible repeat (first | apply Kd.R_alloc | apply Kd.R_drewN | apply Kd.R_drew)); exact HO276.out)); (case aS => exact (below_size (by repeat (first | (with_reducible first | exact HB.out | apply below_alloc | apply pw_below_drewN | apply below_drew1) | exact HB.out)))); (case aL => have := LMc13.out; omega); intro v278 w39 ho hb hg hat; rw [← Ny277.out] at ho; have n0_ := Aside0.mk (hb); have n1_ := Aside0.mk (ho); clear HB; clear HO276; have HB := n0_; have HO279 := n1_; clear n0_ n1_; clear ho hb hg hat; obtain ⟨Ao40, co40, eo40⟩ := Kd.R_slice HO279.out; subst eo40) | ((with_reducible refine gate_callee (f := 20) rfl ?_); refine goesL_ (some 33) rfl rfl Try.func20 (by kernel_rfl) rfl #[.bool a0, .slice Ao40 y277.length co40] rfl (by (try simp only [List.map_toArray, List.map_cons, List.map_nil]); first | done | rfl | (simp only [List.length_drop, List.length_take]; rfl)) ?_; (with_reducible refine (node_Of.calls k2 a0 (fun k_ => some k_ = (.slice Ao40 y277.length co40 : Value).ownBlock) _ _ y277 t280 t281 t284 t287 t290 _ ?side1 A14.out).mono ?_); (case side1 => exact Kd.R_V (Kd.R_tight rfl (HO279.out))); rintro e w41 ⟨v282, v285, v288, rfl, ho0, ho1, ho2, hb⟩; refine ⟨_, rfl, ?_⟩; have n0_ := Aside0.mk (Kd.R_mono (Kd.R_told (Kd.R_told (Kd.R_old (by (with_reducible repeat (first | apply Kd.R_alloc | apply Kd.R_drewN | apply Kd.R_drew)); exact HO279.out) hb) (Kd.R_base ho0)) (Kd.R_base ho1)) (fun _ h_ => h_.1)); have n1_ := Aside0.mk (Kd.R_lower (Kd.R_new' (Kd.R_mono (ok' := fun k_ => some k_ ≠ (v285 : Value).ownBlock) ho0 (fun _ hk_ => hk_.2)) (Kd.R_lt (by (with_reducible repeat (first | apply Kd.R_alloc | apply Kd.R_drewN | apply Kd.R_drew)); exact HO279.out))) (below_size (by repeat (first | (with_reducible first | exact HB.out | apply below_alloc | apply pw_below_drewN | apply below_drew1) | exact HB.out)))); have n2_ := Aside0.mk (Kd.R_lower (Kd.R_new' (Kd.R_mono (ok' := fun k_ => some k_ ≠ (v282 : Value).ownBlock) ho1 (fun _ hk_ => hk_.2)) (Kd.R_lt (by (with_reducible repeat (first | apply Kd.R_alloc | apply Kd.R_drewN | apply Kd.R_drew)); exact HO279.out))) (below_size (by repeat (first | (with_reducible first | exact HB.out | apply below_alloc | apply pw_below_drewN | apply below_drew1) | exact HB.out)))); have n3_ := Aside0.mk (Kd.R_lower (Kd.R_mono (ok' := fun k_ => True) ho2 (fun _ hk_ => trivial)) (below_size (by repeat (first | (with_reducible first | exact HB.out | apply below_alloc | apply pw_below_drewN | apply below_drew1) | exact HB.out)))); have n4_ := Aside0.mk (below_step (by repeat (first | (with_reducible first | exact HB.out | apply below_alloc | apply pw_below_drewN | apply below_drew1) | exact HB.out)) hb); clear HO279; clear HB; have HO279 := n0_; have HO283 := n1_; have HO286 := n2_; have HO289 := n3_; have HB := n4_; clear n0_ n1_ n2_ n3_ n4_; (try clear hb); (try clear hb2); (try clear hk); (try clear hi); (try clear ho0); (try clear ho1); (try clear ho2)) | ((with_reducible refine gate_dst (N := 6) rfl ?_); (try (refine gate_guard (by rfl) ?_; dsimp only)); refine box_event ?hg (N := 6) ?hd (cs := #[.bool false, .slice none 0 0, .slice none 0 0, .slice none 0 0]) (t := 25) ?hr ?_; (case hd => rfl); (case hg => rfl); (case hr => first | (go_simp; done) | (go_simp; rfl)); intro gb291 hg w42 hbox hb; have n0_ := Aside0.mk (Kd.R_below (by (with_reducible repeat (first | apply Kd.R_alloc | apply Kd.R_drewN | apply Kd.R_drew)); exact HO279.out) hb); have n1_ := Aside0.mk (Kd.R_below (by (with_reducible repeat (first | apply Kd.R_alloc | apply Kd.R_drewN | apply Kd.R_drew)); exact HO283.out) hb); have n2_ := Aside0.mk (Kd.R_below (by (with_reducible repeat (first | apply Kd.R_alloc | apply Kd.R_drewN | apply Kd.R_drew)); exact HO286.out) hb); have n3_ := Aside0.mk (Kd.R_below (by (with_reducible repeat (first | apply Kd.R_alloc | apply Kd.R_drewN | apply Kd.R_drew)); exact HO289.out) hb); have n4_ := Aside0.mk (below_step (by repeat (first | (with_reducible first | exact HB.out | apply below_alloc | apply pw_below_drewN | apply below_drew1) | exact HB.out)) hb); have n5_ := Aside0.mk (hbox); have n6_ := Aside0.mk ((by rw [hg]; exact (below_size (by repeat (first | (with_reducible first | exact HB.out | apply below_alloc | apply pw_below_drewN | apply below_drew1) | exact HB.out))) : w.heap.size ≤ gb291)); have n7_ := Aside0.mk ((by rw [hg]; exact (below_size (by repeat (first | (with_reducible first | exact HB.out | apply below_alloc | apply pw_below_drewN | apply below_drew1) | exact HB.out))) : w.heap.size ≤ gb291)); clear HO279; clear HO283; clear HO286; clear HO289; clear HB; have HO279 := n0_; have HO283 := n1_; have HO286 := n2_; have HO289 := n3_; have HB := n4_; have BK291 := n5_; have GW291 := n6_; have GE291 := n7_; clear n0_ n1_ n2_ n3_ n4_ n5_ n6_ n7_; clear hb hbox hg; have hcz43_0 : w42.cell? ⟨gb291, 0, none⟩ = some (.bool false) := (blk_cell BK291.out 0).trans rfl; have hcz43_1 : w42.cell? ⟨gb291, 1, none⟩ = some (.slice none 0 0) := (blk_cell BK291.out 1).trans rfl; have hcz43_2 : w42.cell? ⟨gb291, 2, none⟩ = some (.slice none 0 0) := (blk_cell BK291.out 2).trans rfl; have hcz43_3 : w42.cell? ⟨gb291, 3, none⟩ = some (.slice none 0 0) := (blk_cell BK291.out 3).trans rfl; have hfz43_0 := blk_frozen BK291.out 0; have hfz43_1 := blk_frozen BK291.out 1; have hfz43_2 := blk_frozen BK291.out 2; have hfz43_3 := blk_frozen BK291.out 3; obtain ⟨Ao44, co44, eo44⟩ := Kd.R_slice HO283.out; subst eo44; obtain ⟨Ao45, co45, eo45⟩ := Kd.R_slice HO286.out; subst eo45; obtain ⟨Ao46, co46, eo46⟩ := Kd.R_slice HO289.out; subst eo46) | (go_at_call 23; (refine (lunetteref05_Same.calls k2 t280 _ _ t281 _ _ t284 _ _ t287 false _ _ ([] : List ByteArray) _ _ ([] : List ByteArray) _ _ ([] : List Int) t297 _ ?side1 ?side2 ?side3 ?side4 ?side5 ?side6 ?side7 ?side8 ?side9 ?side10 ?side11 ?side12 A36.out).mono ?_); (case side1 => refine (Kd.R_reads' (e := 9) (base := w.heap.size) (ok := fun k_ => (some k_ ≠ (.slice Ao45 t284.length co45 : Value).ownBlock ∧ some k_ ≠ (.slice Ao40 y277.length co40 : Value).ownBlock)) (n := t281.length) (c := co44) ?_).2.2; exact (by (with_reducible repeat (first | apply Kd.R_alloc | apply Kd.R_drewN | apply Kd.R_drew)); exact (Kd.R_mono (Kd.R_far (p := ⟨gb291, 3, none⟩) (Kd.R_far (p := ⟨gb291, 2, none⟩) (Kd.R_far (p := ⟨gb291, 1, none⟩) (Kd.R_far (p := ⟨gb291, 0, none⟩) (Kd.R_types HO283.out BK291.out (by decide)) (fun _ hk => hk.2) (.bool t280)) (fun _ hk => hk.2) (.slice Ao44 t281.length co44)) (fun _ hk => hk.2) (.slice Ao45 t284.length co45)) (fun _ hk => hk.2) (.slice Ao46 t287.length co46)) (fun _ h_ => h_.1)))); (case side2 => exact (Kd.R_reads' HO283.out).2.1); (case side3 => refine (Kd.R_reads' (e := 9) (base := w.heap.size) (ok := fun k_ => (some k_ ≠ (.slice Ao44 t281.length co44 : Value).ownBlock ∧ some k_ ≠ (.slice Ao40 y277.length co40 : Value).ownBlock)) (n := t284.length) (c := co45) ?_).2.2; exact (by (with_reducible repeat (first | apply Kd.R_alloc | apply Kd.R_drewN | apply Kd.R_drew)); exact (Kd.R_mono (Kd.R_far (p := ⟨gb291, 3, none⟩) (Kd.R_far (p := ⟨gb291, 2, none⟩) (Kd.R_far (p := ⟨gb291, 1, none⟩) (Kd.R_far (p := ⟨gb291, 0, none⟩) (Kd.R_types HO286.out BK291.out (by decide)) (fun _ hk => hk.2) (.bool t280)) (fun _ hk => hk.2) (.slice Ao44 t281.length co44)) (fun _ hk => hk.2) (.slice Ao45 t284.length co45)) (fun _ hk => hk.2) (.slice Ao46 t287.length co46)) (fun _ h_ => h_.1)))); (case side4 => exact (Kd.R_reads' HO286.out).2.1); (case side5 => refine (Kd.R_reads' (e := 3) (base := w.heap.size) (ok := fun k_ => True) (n := t287.length) (c := co46) ?_).2.2; exact (by (with_reducible repeat (first | apply Kd.R_alloc | apply Kd.R_drewN | apply Kd.R_drew)); exact (Kd.R_mono (Kd.R_far (p := ⟨gb291, 3, none⟩) (Kd.R_far (p := ⟨gb291, 2, none⟩) (Kd.R_far (p := ⟨gb291, 1, none⟩) (Kd.R_far (p := ⟨gb291, 0, none⟩) (Kd.R_types HO289.out BK291.out (by decide)) (fun _ hk => hk.2) (.bool t280)) (fun _ hk => hk.2) (.slice Ao44 t281.length co44)) (fun _ hk => hk.2) (.slice Ao45 t284.length co45)) (fun _ hk => hk.2) (.slice Ao46 t287.length co46)) (fun _ h_ => h_.1)))); (case side6 => exact (Kd.R_reads' HO289.out).2.1); (case side7 => exact Kd.C_nil _ _); (case side8 => exact Nat.le_refl _); (case side9 => exact Kd.C_nil _ _); (case side10 => exact Nat.le_refl _); (case side11 => exact Kd.C_nil _ _); (case side12 => exact Nat.le_refl _); rintro e w47 ⟨rfl, hb⟩; have n0_ := Aside0.mk (Kd.R_below (by (with_reducible repeat (first | apply Kd.R_alloc | apply Kd.R_drewN | apply Kd.R_drew)); exact (Kd.R_mono (Kd.R_far (p := ⟨gb291, 3, none⟩) (Kd.R_far (p := ⟨gb291, 2, none⟩) (Kd.R_far (p := ⟨gb291, 1, none⟩) (Kd.R_far (p := ⟨gb291, 0, none⟩) (Kd.R_types HO279.out BK291.out (by decide)) (fun _ hk => hk.2) (.bool t280)) (fun _ hk => hk.2) (.slice Ao44 t281.length co44)) (fun _ hk => hk.2) (.slice Ao45 t284.length co45)) (fun _ hk => hk.2) (.slice Ao46 t287.length co46)) (fun _ h_ => h_.1))) hb); have n1_ := Aside0.mk (Kd.R_below (by (with_reducible repeat (first | apply Kd.R_alloc | apply Kd.R_drewN | apply Kd.R_drew)); exact (Kd.R_mono (Kd.R_far (p := ⟨gb291, 3, none⟩) (Kd.R_far (p := ⟨gb291, 2, none⟩) (Kd.R_far (p := ⟨gb291, 1, none⟩) (Kd.R_far (p := ⟨gb291, 0, none⟩) (Kd.R_types HO283.out BK291.out (by decide)) (fun _ hk => hk.2) (.bool t280)) (fun _ hk => hk.2) (.slice Ao44 t281.length co44)) (fun _ hk => hk.2) (.slice Ao45 t284.length co45)) (fun _ hk => hk.2) (.slice Ao46 t287.length co46)) (fun _ h_ => h_.1))) hb); have n2_ := Aside0.mk (Kd.R_below (by (with_reducible repeat (first | apply Kd.R_alloc | apply Kd.R_drewN | apply Kd.R_drew)); exact (Kd.R_mono (Kd.R_far (p := ⟨gb291, 3, none⟩) (Kd.R_far (p := ⟨gb291, 2, none⟩) (Kd.R_far (p := ⟨gb291, 1, none⟩) (Kd.R_far (p := ⟨gb291, 0, none⟩) (Kd.R_types HO286.out BK291.out (by decide)) (fun _ hk => hk.2) (.bool t280)) (fun _ hk => hk.2) (.slice Ao44 t281.length co44)) (fun _ hk => hk.2) (.slice Ao45 t284.length co45)) (fun _ hk => hk.2) (.slice Ao46 t287.length co46)) (fun _ h_ => h_.1))) hb); have n3_ := Aside0.mk (Kd.R_below (by (with_reducible repeat (first | apply Kd.R_alloc | apply Kd.R_drewN | apply Kd.R_drew)); exact (Kd.R_mono (Kd.R_far (p := ⟨gb291, 3, none⟩) (Kd.R_far (p := ⟨gb291, 2, none⟩) (Kd.R_far (p := ⟨gb291, 1, none⟩) (Kd.R_far (p := ⟨gb291, 0, none⟩) (Kd.R_types HO289.out BK291.out (by decide)) (fun _ hk => hk.2) (.bool t280)) (fun _ hk => hk.2) (.slice Ao44 t281.length co44)) (fun _ hk => hk.2) (.slice Ao45 t284.length co45)) (fun _ hk => hk.2) (.slice Ao46 t287.length co46)) (fun _ h_ => h_.1))) hb); have n4_ := Aside0.mk (blk_below (g := gb291) (o := .cells #[.bool t280, .slice Ao44 t281.length co44, .slice Ao45 t284.length co45, .slice Ao46 t287.length co46] 25 (0, 0)) (by (with_reducible repeat (first | refine blk_drewN ?_ _ | refine blk_drew ?_ | refine blk_alloc ?_ _)); refine blk_put (cs := #[.bool t280, .slice Ao44 t281.length co44, .slice Ao45 t284.length co45, .slice none 0 0]) ?_ 3 _ rfl; (with_reducible repeat (first | refine blk_drewN ?_ _ | refine blk_drew ?_ | refine blk_alloc ?_ _)); refine blk_put (cs := #[.bool t280, .slice Ao44 t281.length co44, .slice none 0 0, .slice none 0 0]) ?_ 2 _ rfl; (with_reducible repeat (first | refine blk_drewN ?_ _ | refine blk_drew ?_ | refine blk_alloc ?_ _)); refine blk_put (cs := #[.bool t280, .slice none 0 0, .slice none 0 0, .slice none 0 0]) ?_ 1 _ rfl; (with_reducible repeat (first | refine blk_drewN ?_ _ | refine blk_drew ?_ | refine blk_alloc ?_ _)); refine blk_put (cs := #[.bool false, .slice none 0 0, .slice none 0 0, .slice none 0 0]) ?_ 0 _ rfl; (with_reducible repeat (first | refine blk_drewN ?_ _ | refine blk_drew ?_ | refine blk_alloc ?_ _)); exact BK291.out) hb); have n5_ := Aside0.mk (below_step (by repeat (first | (with_reducible first | exact HB.out | apply below_alloc | apply pw_below_drewN | apply below_drew1 | refine below_set ?_ GE291.out) | exact HB.out)) hb); clear HO279; clear HO283; clear HO286; clear HO289; clear BK291; clear HB; have HO279 := n0_; have HO283 := n1_; have HO286 := n2_; have HO289 := n3_; have BK291 := n4_; have HB := n5_; clear n0_ n1_ n2_ n3_ n4_ n5_; (try clear hb); (try clear hb2); (try clear hk); (try clear hi)))
                    go_ret
                    exact ⟨by first | rfl | (simp [errW_none, errW_some] <;> rfl) | (simp [*, errW_none, errW_some] <;> rfl), by repeat (first | (with_reducible first | exact HB.out | apply below_alloc | apply pw_below_drewN | apply below_drew1 | refine below_set ?_ GE291.out) | exact HB.out)⟩
                  · rw [if_neg c35] at H
                    exact absurd H (by simp)
              · rw [if_neg c13] at H
                exact absurd H (by simp)

end Go.Proofs.Ytpdlbebiapimoaa.PN
