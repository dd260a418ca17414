-- Written for this claim by hprint.py, a program of this session over the kit's printer; Lean checks it.
import Derived.Test.YtmplcceghjofhaaPF0
import Derived.Test.YtmplcceghjofhaaPF2
import Derived.Test.YtmplcceghjofhaaPF3
import Derived.Test.YtmplcceghjofhaaHAwake
import Derived.Test.YtmplcceghjofhaaHPut
import Derived.Test.YtmplcceghjofhaaHTake
namespace Go.Proofs.Ytmplcceghjofhaa.PF
open Go.RowKit Go.Proofs.YtmplcceghjofhaaW.PrintWords Go.Proofs.YtmplcceghjofhaaW.PrintLast Go.Proofs.YtmplcceghjofhaaW.PrintMore
attribute [local go_sem] max2_int min2_int max_two min_two max_three min_three max_four min_four   -- for this text's walks alone
set_option linter.unusedVariables false
set_option linter.unusedSimpArgs false

/-! ### lunettelaw06_FreePuts: function 3 -/
mutual
def lunettelaw06_FreePuts.j0 : Nat → List (S25) → Int → Int → Int → Bool → Option (Bool)
  | 0, _, _, _, _, _ => none
  | k + 1, x0, x1, x2, x3, x33 => if x33 = true then ((lunettelaw06_awake.f).bind fun t153 => (if t153 = true then (if (x0.length : Int) > 200 then (some true) else ((free_Check.f k x0).bind fun t154 => ((lunetteref06_Check.f k x0).bind fun t155 => (some (t154 == t155))))) else (none))) else ((some (([] : List (S25)) : List (S25))).bind fun y156 => (if y156.length + x0.length < 8796093022208 then ((free_Put.f (y156 ++ x0) x1 x2).bind fun t162 => ((some (([] : List (S25)) : List (S25))).bind fun y165 => (if y165.length + x0.length < 8796093022208 then ((free_Take.f (y165 ++ x0) x3).bind fun bt171 => ((lunetteref06_Take.f k x0 x3).bind fun bt176 => (lunettelaw06_FreePuts.l0 k x0 x1 x2 x3 t162 bt171.1 bt171.2.1 bt171.2.2 bt176.1 bt176.2.1 bt176.2.2 0 0))) else (none)))) else (none)))
def lunettelaw06_FreePuts.l0 : Nat → List (S25) → Int → Int → Int → List (S25) → Int → List (S25) → Bool → Int → List (S25) → Bool → Int → Int → Option (Bool)
  | 0, _, _, _, _, _, _, _, _, _, _, _, _, _ => none
  | k + 1, x0, x1, x2, x3, x9, x10, x11, x12, x13, x14, x15, x16, x17 => if x17 < (x0.length : Int) then (if 0 ≤ x17 then (if ((rd_T25 x0 x17).f1) ≤ x3 then (lunettelaw06_FreePuts.l0 k x0 x1 x2 x3 x9 x10 x11 x12 x13 x14 x15 (wrap64 (x16 + 1)) (wrap64 (x17 + 1))) else (lunettelaw06_FreePuts.l0 k x0 x1 x2 x3 x9 x10 x11 x12 x13 x14 x15 x16 (wrap64 (x17 + 1)))) else (none)) else ((lunettelaw06_awake.f).bind fun t182 => (if t182 = true then ((lunetteref06_Put.f k x0 x1 x2).bind fun t183 => ((lunetteref06_Same.f k x9 t183).bind fun t186 => (if t186 = true then ((free_Check.f k x9).bind fun t187 => (if t187 = true then (if x10 = x13 then (if (x12 == x15) = true then ((lunetteref06_Same.f k x11 x14).bind fun t188 => (if t188 = true then ((free_Check.f k x11).bind fun t189 => (if t189 = true then ((free_Usable.f k x0 x3).bind fun t190 => (some (t190 == x16))) else (none))) else (none))) else (none)) else (none)) else (none))) else (none)))) else (none)))
end
def lunettelaw06_FreePuts.f (k : Nat) (l0 : List (S25)) (a1 : Int) (a2 : Int) (a3 : Int) : Option (Bool) := if (l0.length : Int) > 200 then (lunettelaw06_FreePuts.j0 k l0 a1 a2 a3 true) else ((lunetteref06_Check.f k l0).bind fun t148 => (if t148 = true then ((lunetteref06_Check.f k (([(⟨a1, a2⟩ : S25)] : List (S25)))).bind fun t152 => (lunettelaw06_FreePuts.j0 k l0 a1 a2 a3 (!t152))) else (lunettelaw06_FreePuts.j0 k l0 a1 a2 a3 true)))
theorem lunettelaw06_FreePuts.mono_l : ∀ k, (∀ y0 y1 y2 y3 y4, LeO (lunettelaw06_FreePuts.j0 k y0 y1 y2 y3 y4) (lunettelaw06_FreePuts.j0 (k + 1) y0 y1 y2 y3 y4)) ∧ (∀ y0 y1 y2 y3 y4 y5 y6 y7 y8 y9 y10 y11 y12, LeO (lunettelaw06_FreePuts.l0 k y0 y1 y2 y3 y4 y5 y6 y7 y8 y9 y10 y11 y12) (lunettelaw06_FreePuts.l0 (k + 1) y0 y1 y2 y3 y4 y5 y6 y7 y8 y9 y10 y11 y12))
  | 0 => ⟨fun _ _ _ _ _ r h => by simp [lunettelaw06_FreePuts.j0] at h, fun _ _ _ _ _ _ _ _ _ _ _ _ _ r h => by simp [lunettelaw06_FreePuts.l0] at h⟩
  | k + 1 => by
    obtain ⟨ih0, ih1⟩ := lunettelaw06_FreePuts.mono_l k
    refine ⟨?_, ?_⟩
    · intro y0 y1 y2 y3 y4
      unfold lunettelaw06_FreePuts.j0
      repeat' first
      | (with_reducible exact ih0 _ _ _ _ _)
      | (with_reducible exact ih1 _ _ _ _ _ _ _ _ _ _ _ _ _)
      | (with_reducible exact free_Check.mono _ _)
      | (with_reducible exact free_Usable.mono _ _ _)
      | (with_reducible exact lunetteref06_Check.mono _ _)
      | (with_reducible exact lunetteref06_Put.mono _ _ _ _)
      | (with_reducible exact lunetteref06_Same.mono _ _ _)
      | (with_reducible exact lunetteref06_Take.mono _ _ _)
      | (with_reducible exact LeO.refl _)
      | (with_reducible exact LeO.none _)
      | (with_reducible refine LeO.ite ?_ ?_)
      | (with_reducible refine LeO.bind ?_ (fun _ => ?_))
      | exact ih0 _ _ _ _ _
      | exact ih1 _ _ _ _ _ _ _ _ _ _ _ _ _
      | exact free_Check.mono _ _
      | exact free_Usable.mono _ _ _
      | exact lunetteref06_Check.mono _ _
      | exact lunetteref06_Put.mono _ _ _ _
      | exact lunetteref06_Same.mono _ _ _
      | exact lunetteref06_Take.mono _ _ _
      | exact LeO.none _
      | refine LeO.ite ?_ ?_
      | refine LeO.bind ?_ (fun _ => ?_)
    · intro y0 y1 y2 y3 y4 y5 y6 y7 y8 y9 y10 y11 y12
      unfold lunettelaw06_FreePuts.l0
      repeat' first
      | (with_reducible exact ih0 _ _ _ _ _)
      | (with_reducible exact ih1 _ _ _ _ _ _ _ _ _ _ _ _ _)
      | (with_reducible exact free_Check.mono _ _)
      | (with_reducible exact free_Usable.mono _ _ _)
      | (with_reducible exact lunetteref06_Check.mono _ _)
      | (with_reducible exact lunetteref06_Put.mono _ _ _ _)
      | (with_reducible exact lunetteref06_Same.mono _ _ _)
      | (with_reducible exact lunetteref06_Take.mono _ _ _)
      | (with_reducible exact LeO.refl _)
      | (with_reducible exact LeO.none _)
      | (with_reducible refine LeO.ite ?_ ?_)
      | (with_reducible refine LeO.bind ?_ (fun _ => ?_))
      | exact ih0 _ _ _ _ _
      | exact ih1 _ _ _ _ _ _ _ _ _ _ _ _ _
      | exact free_Check.mono _ _
      | exact free_Usable.mono _ _ _
      | exact lunetteref06_Check.mono _ _
      | exact lunetteref06_Put.mono _ _ _ _
      | exact lunetteref06_Same.mono _ _ _
      | exact lunetteref06_Take.mono _ _ _
      | exact LeO.none _
      | refine LeO.ite ?_ ?_
      | refine LeO.bind ?_ (fun _ => ?_)
theorem lunettelaw06_FreePuts.mono : ∀ a0 a1 a2 a3 k, LeO (lunettelaw06_FreePuts.f k a0 a1 a2 a3) (lunettelaw06_FreePuts.f (k + 1) a0 a1 a2 a3) := by
  intro a0 a1 a2 a3 k
  obtain ⟨ih0, ih1⟩ := lunettelaw06_FreePuts.mono_l k
  unfold lunettelaw06_FreePuts.f
  repeat' first
      | (with_reducible exact ih0 _ _ _ _ _)
      | (with_reducible exact ih1 _ _ _ _ _ _ _ _ _ _ _ _ _)
      | (with_reducible exact free_Check.mono _ _)
      | (with_reducible exact free_Usable.mono _ _ _)
      | (with_reducible exact lunetteref06_Check.mono _ _)
      | (with_reducible exact lunetteref06_Put.mono _ _ _ _)
      | (with_reducible exact lunetteref06_Same.mono _ _ _)
      | (with_reducible exact lunetteref06_Take.mono _ _ _)
      | (with_reducible exact LeO.refl _)
      | (with_reducible exact LeO.none _)
      | (with_reducible refine LeO.ite ?_ ?_)
      | (with_reducible refine LeO.bind ?_ (fun _ => ?_))
      | exact ih0 _ _ _ _ _
      | exact ih1 _ _ _ _ _ _ _ _ _ _ _ _ _
      | exact free_Check.mono _ _
      | exact free_Usable.mono _ _ _
      | exact lunetteref06_Check.mono _ _
      | exact lunetteref06_Put.mono _ _ _ _
      | exact lunetteref06_Same.mono _ _ _
      | exact lunetteref06_Take.mono _ _ _
      | exact LeO.none _
      | refine LeO.ite ?_ ?_
      | refine LeO.bind ?_ (fun _ => ?_)
set_option maxHeartbeats 8000000 in
set_option maxRecDepth 100000 in
theorem lunettelaw06_FreePuts.calls (k : Nat) (A0 : Option Addr) (c0 : Nat) (l0 : List (S25)) (a1 : Int) (a2 : Int) (a3 : Int) (r : Bool) (w : World) (hr0 : Kd.C k25 w A0 l0.length l0) (hc0 : l0.length ≤ c0) (h : lunettelaw06_FreePuts.f k l0 a1 a2 a3 = some r) :
    Calls Try.prog 3 #[.slice A0 l0.length c0, .int .i64 a1, .int .i64 a2, .int .i64 a3] w fun e w' => e = .returned (.bool r) ∧ Below w.heap.size w w' := by
  have hu25 := Try.underlying25
  have HR0 := Aside0.mk hr0
  have HC0 := Aside0.mk hc0
  clear hr0 hc0
  have HB := Aside0.mk (Below.refl w.heap.size w)
  have H : (if (l0.length : Int) > 200 then (lunettelaw06_FreePuts.j0 k l0 a1 a2 a3 true) else ((lunetteref06_Check.f k l0).bind fun t148 => (if t148 = true then ((lunetteref06_Check.f k (([(⟨a1, a2⟩ : S25)] : List (S25)))).bind fun t152 => (lunettelaw06_FreePuts.j0 k l0 a1 a2 a3 (!t152))) else (lunettelaw06_FreePuts.j0 k l0 a1 a2 a3 true)))) = some r := h
  clear h
  have HC5 := Aside0.mk H
  clear H
  go_enter Try.func3, Try.ntmps3
  go_upto_region 1 with (fail)
  go_cut [33] (fun v33 wc => ∃ (kq : Nat) (x33_4 : Bool), v33 = .bool x33_4 ∧ Aside0 (lunettelaw06_FreePuts.j0 kq l0 a1 a2 a3 x33_4 = some r) ∧ Aside0 (kq ≤ k) ∧ Aside0 (Below w.heap.size w wc))
  case first =>
    have H := HC5.out
    clear HC5
    by_cases c6 : (l0.length : Int) > 200
    · rw [if_pos c6] at H
      have c6b0 : decide (200 < (l0.length : Int)) = true := decide_eq_true c6
      have c6b1 : decide (200 < l0.length) = true := decide_eq_true (by omega)
      clear c6
      (first | rw [c6b0] | (simp only [i64_w, i32_w]; rw [c6b0]) | skip)
      have H' := Aside0.mk H
      clear H
      go_wp2
      go_meet
      case rel => exact ⟨_, (true), (by first | rfl | (simp; done) | (simp [*]; done)), H', ⟨by first | omega | exact Nat.le_refl _⟩, ⟨by repeat (first | (with_reducible first | exact HB.out | apply below_alloc | apply pw_below_drewN | apply below_drew1) | exact HB.out)⟩⟩
    · rw [if_neg c6] at H
      have c6b0 : decide (200 < (l0.length : Int)) = false := decide_eq_false c6
      have c6b1 : decide (200 < l0.length) = false := decide_eq_false (by omega)
      clear c6
      (first | rw [c6b0] | (simp only [i64_w, i32_w]; rw [c6b0]) | skip)
      replace H := Option.bind_eq_some_iff.mp H
      obtain ⟨t148, A70, H⟩ := H
      replace H : (if t148 = true then ((lunetteref06_Check.f k (([(⟨a1, a2⟩ : S25)] : List (S25)))).bind fun t152 => (lunettelaw06_FreePuts.j0 k l0 a1 a2 a3 (!t152))) else (lunettelaw06_FreePuts.j0 k l0 a1 a2 a3 true)) = some r := H
      have A7 := Aside0.mk A70
      clear A70
      by_cases c8 : t148 = true
      · subst c8
        have H1 : ((lunetteref06_Check.f k (([(⟨a1, a2⟩ : S25)] : List (S25)))).bind fun t152 => (lunettelaw06_FreePuts.j0 k l0 a1 a2 a3 (!t152))) = some r := by rw [if_pos rfl] at H; exact H
        clear H
        have H := H1
        clear H1
        obtain ⟨y149, hy149⟩ : ∃ y_ : List (S25), y_ = (([(⟨a1, a2⟩ : S25)] : List (S25))) := ⟨_, rfl⟩
        replace H : ((lunetteref06_Check.f k y149).bind fun t152 => (lunettelaw06_FreePuts.j0 k l0 a1 a2 a3 (!t152))) = some r := by first | (rw [hy149]; with_reducible exact H) | (have H2_ := (Option.bind_some _ _).symm.trans H; rw [hy149]; with_reducible exact H2_) | (have H2_ := (Option.bind_some _ _).symm.trans H; with_reducible exact H2_) | with_reducible exact H | (rw [hy149]; exact H) | exact H
        have Ny149 := Aside0.mk hy149
        clear hy149
        replace H := Option.bind_eq_some_iff.mp H
        obtain ⟨t152, A90, H⟩ := H
        replace H : (lunettelaw06_FreePuts.j0 k l0 a1 a2 a3 (!t152)) = some r := H
        have A9 := Aside0.mk A90
        clear A90
        have H' := Aside0.mk H
        clear H
        go_wp2_with (first | (go_at_call 10; (with_reducible refine (lunetteref06_Check.calls k _ _ l0 true _ ?side1 ?side2 A7.out).mono ?_); (case side1 => repeat (first | exact (Kd.C_below HR0.out HB.out) | (with_reducible refine Kd.C_alloc ?_ _) | (with_reducible refine Kd.C_drewN ?_ _) | (with_reducible refine Kd.C_drew ?_))); (case side2 => exact HC0.out); rintro e w' ⟨rfl, ⟨nd, rfl⟩⟩) | ((with_reducible refine gate_dst (N := 30) rfl ?_); (try (refine gate_guard (by rfl) ?_; dsimp only)); refine Kd.R_lit k25 _ 25 ?hg (N := 30) ?hd (xs := ([(⟨a1, a2⟩ : S25)] : List (S25))) (inner := [.int .i64 a1, .int .i64 a2]) (ok := fun _ => True) (okp := fun _ => True) ?hr ?hp (fun _ hk => hk) trivial (Below.refl _ _) (Nat.le_refl _) (by simp) ?_; (case hd => rfl); (case hg => rfl); (case hr => first | (go_simp; done) | (go_simp; rfl)); (case hp => exact (Reps.c2 (show Kd.M k25 _ _ _ (⟨a1, a2⟩ : S25) [.int .i64 a1, .int .i64 a2] from (k25_mkM _ _ _ (⟨a1, a2⟩ : S25) )) (Reps.none _ _))); intro v150 w10 ho11 hb hg_ hnew_; clear hg_ hnew_; (first | rw [← Ny149.out] at ho11 | (simp only [Int.reduceToNat] at ho11; rw [← Ny149.out] at ho11)); have n0_ := Aside0.mk (Kd.R_lower ho11 (below_size (by repeat (first | (with_reducible first | exact HB.out | apply below_alloc | apply pw_below_drewN | apply below_drew1) | exact HB.out)))); have n1_ := Aside0.mk (below_step (by repeat (first | (with_reducible first | exact HB.out | apply below_alloc | apply pw_below_drewN | apply below_drew1) | exact HB.out)) hb); clear HB; have HO151 := n0_; have HB := n1_; clear n0_ n1_; clear hb ho11; obtain ⟨Ao12, co12, eo12⟩ := Kd.R_slice HO151.out; subst eo12) | (go_at_call 10; (with_reducible refine (lunetteref06_Check.calls k _ _ y149 t152 _ ?side1 ?side2 A9.out).mono ?_); (case side1 => repeat (first | exact (Kd.R_reads' HO151.out).2.2 | (with_reducible refine Kd.C_alloc ?_ _) | (with_reducible refine Kd.C_drewN ?_ _) | (with_reducible refine Kd.C_drew ?_))); (case side2 => exact (Kd.R_reads' HO151.out).2.1); rintro e w' ⟨rfl, ⟨nd, rfl⟩⟩))
        go_meet
        case rel => exact ⟨_, (!t152), (by first | rfl | (simp; done) | (simp [*]; done)), H', ⟨by first | omega | exact Nat.le_refl _⟩, ⟨by repeat (first | (with_reducible first | exact HB.out | apply below_alloc | apply pw_below_drewN | apply below_drew1) | exact HB.out)⟩⟩
      · replace c8 := Bool.eq_false_iff.mpr c8
        subst c8
        have H1 : (lunettelaw06_FreePuts.j0 k l0 a1 a2 a3 true) = some r := by rw [if_neg (show ¬ (false = true) by decide)] at H; exact H
        clear H
        have H := H1
        clear H1
        have H' := Aside0.mk H
        clear H
        go_wp2_with (first | (go_at_call 10; (with_reducible refine (lunetteref06_Check.calls k _ _ l0 false _ ?side1 ?side2 A7.out).mono ?_); (case side1 => repeat (first | exact (Kd.C_below HR0.out HB.out) | (with_reducible refine Kd.C_alloc ?_ _) | (with_reducible refine Kd.C_drewN ?_ _) | (with_reducible refine Kd.C_drew ?_))); (case side2 => exact HC0.out); rintro e w' ⟨rfl, ⟨nd, rfl⟩⟩))
        go_meet
        case rel => exact ⟨_, (true), (by first | rfl | (simp; done) | (simp [*]; done)), H', ⟨by first | omega | exact Nat.le_refl _⟩, ⟨by repeat (first | (with_reducible first | exact HB.out | apply below_alloc | apply pw_below_drewN | apply below_drew1) | exact HB.out)⟩⟩
  case rest =>
    clear HC5
    try clear c2
    try clear p2
    try clear c3
    try clear c6
    try clear c6b0
    try clear c6b1
    try clear c8
    obtain ⟨kq, x33_4, rfl, HA, HJ4, HB⟩ := hcut
    cases kq with
    | zero => exact absurd HA.out (by simp [lunettelaw06_FreePuts.j0])
    | succ kj4 =>
      have H := HA.out
      clear HA
      simp only [lunettelaw06_FreePuts.j0] at H
      by_cases c13 : x33_4 = true
      · subst c13
        have H1 : ((lunettelaw06_awake.f).bind fun t153 => (if t153 = true then (if (l0.length : Int) > 200 then (some true) else ((free_Check.f kj4 l0).bind fun t154 => ((lunetteref06_Check.f kj4 l0).bind fun t155 => (some (t154 == t155))))) else (none))) = some r := by rw [if_pos rfl] at H; exact H
        clear H
        have H := H1
        clear H1
        replace H := Option.bind_eq_some_iff.mp H
        obtain ⟨t153, A140, H⟩ := H
        replace H : (if t153 = true then (if (l0.length : Int) > 200 then (some true) else ((free_Check.f kj4 l0).bind fun t154 => ((lunetteref06_Check.f kj4 l0).bind fun t155 => (some (t154 == t155))))) else (none)) = some r := H
        have A14 := Aside0.mk A140
        clear A140
        by_cases c15 : t153 = true
        · subst c15
          have H1 : (if (l0.length : Int) > 200 then (some true) else ((free_Check.f kj4 l0).bind fun t154 => ((lunetteref06_Check.f kj4 l0).bind fun t155 => (some (t154 == t155))))) = some r := by rw [if_pos rfl] at H; exact H
          clear H
          have H := H1
          clear H1
          by_cases c16 : (l0.length : Int) > 200
          · rw [if_pos c16] at H
            have c16b0 : decide (200 < (l0.length : Int)) = true := decide_eq_true c16
            have c16b1 : decide (200 < l0.length) = true := decide_eq_true (by omega)
            clear c16
            obtain rfl := Option.some.inj H
            go_wp2_with (first | ((with_reducible refine gate_callee (f := 11) rfl ?_); refine goesL_ (some 34) rfl rfl Try.func11 (by kernel_rfl) rfl #[] rfl (by (try simp only [List.map_toArray, List.map_cons, List.map_nil]); first | done | rfl | (simp only [List.length_drop, List.length_take]; rfl)) ?_; (with_reducible refine (lunettelaw06_awake.calls  true _ A14.out).mono ?_); rintro e w17 ⟨rfl, hb⟩; refine ⟨_, rfl, ?_⟩; have n0_ := Aside0.mk (below_step (by repeat (first | (with_reducible first | exact HB.out | apply below_alloc | apply pw_below_drewN | apply below_drew1) | exact HB.out)) hb); clear HB; have HB := n0_; clear n0_; (try clear hb); (try clear hb2); (try clear hk); (try clear hi)))
            go_ret
            exact ⟨by first | rfl | (simp [errW_none, errW_some] <;> rfl) | (simp [*, errW_none, errW_some] <;> rfl), by repeat (first | (with_reducible first | exact HB.out | apply below_alloc | apply pw_below_drewN | apply below_drew1) | exact HB.out)⟩
          · rw [if_neg c16] at H
            have c16b0 : decide (200 < (l0.length : Int)) = false := decide_eq_false c16
            have c16b1 : decide (200 < l0.length) = false := decide_eq_false (by omega)
            clear c16
            replace H := Option.bind_eq_some_iff.mp H
            obtain ⟨t154, A180, H⟩ := H
            replace H : ((lunetteref06_Check.f kj4 l0).bind fun t155 => (some (t154 == t155))) = some r := H
            have A18 := Aside0.mk A180
            clear A180
            replace H := Option.bind_eq_some_iff.mp H
            obtain ⟨t155, A190, H⟩ := H
            replace H : (some (t154 == t155)) = some r := H
            have A19 := Aside0.mk A190
            clear A190
            obtain rfl := Option.some.inj H
            go_wp2_with (first | ((with_reducible refine gate_callee (f := 11) rfl ?_); refine goesL_ (some 34) rfl rfl Try.func11 (by kernel_rfl) rfl #[] rfl (by (try simp only [List.map_toArray, List.map_cons, List.map_nil]); first | done | rfl | (simp only [List.length_drop, List.length_take]; rfl)) ?_; (with_reducible refine (lunettelaw06_awake.calls  true _ A14.out).mono ?_); rintro e w20 ⟨rfl, hb⟩; refine ⟨_, rfl, ?_⟩; have n0_ := Aside0.mk (below_step (by repeat (first | (with_reducible first | exact HB.out | apply below_alloc | apply pw_below_drewN | apply below_drew1) | exact HB.out)) hb); clear HB; have HB := n0_; clear n0_; (try clear hb); (try clear hb2); (try clear hk); (try clear hi)) | (go_at_call 12; (with_reducible refine (free_Check.calls kj4 _ _ l0 t154 _ ?side1 ?side2 A18.out).mono ?_); (case side1 => repeat (first | exact (Kd.C_below HR0.out HB.out) | (with_reducible refine Kd.C_alloc ?_ _) | (with_reducible refine Kd.C_drewN ?_ _) | (with_reducible refine Kd.C_drew ?_))); (case side2 => exact HC0.out); rintro e w21 ⟨rfl, hb⟩; have n0_ := Aside0.mk (below_step (by repeat (first | (with_reducible first | exact HB.out | apply below_alloc | apply pw_below_drewN | apply below_drew1) | exact HB.out)) hb); clear HB; have HB := n0_; clear n0_; (try clear hb); (try clear hb2); (try clear hk); (try clear hi)) | (go_at_call 10; (with_reducible refine (lunetteref06_Check.calls kj4 _ _ l0 t155 _ ?side1 ?side2 A19.out).mono ?_); (case side1 => repeat (first | exact (Kd.C_below HR0.out HB.out) | (with_reducible refine Kd.C_alloc ?_ _) | (with_reducible refine Kd.C_drewN ?_ _) | (with_reducible refine Kd.C_drew ?_))); (case side2 => exact HC0.out); rintro e w' ⟨rfl, ⟨nd, rfl⟩⟩))
            go_ret
            exact ⟨by first | rfl | (simp [errW_none, errW_some] <;> rfl) | (simp [*, errW_none, errW_some] <;> rfl), by repeat (first | (with_reducible first | exact HB.out | apply below_alloc | apply pw_below_drewN | apply below_drew1) | exact HB.out)⟩
        · replace c15 := Bool.eq_false_iff.mpr c15
          subst c15
          have H1 : (none) = some r := by rw [if_neg (show ¬ (false = true) by decide)] at H; exact H
          clear H
          have H := H1
          clear H1
          exact absurd H (by simp)
      · replace c13 := Bool.eq_false_iff.mpr c13
        subst c13
        have H1 : ((some (([] : List (S25)) : List (S25))).bind fun y156 => (if y156.length + l0.length < 8796093022208 then ((free_Put.f (y156 ++ l0) a1 a2).bind fun t162 => ((some (([] : List (S25)) : List (S25))).bind fun y165 => (if y165.length + l0.length < 8796093022208 then ((free_Take.f (y165 ++ l0) a3).bind fun bt171 => ((lunetteref06_Take.f kj4 l0 a3).bind fun bt176 => (lunettelaw06_FreePuts.l0 kj4 l0 a1 a2 a3 t162 bt171.1 bt171.2.1 bt171.2.2 bt176.1 bt176.2.1 bt176.2.2 0 0))) else (none)))) else (none))) = some r := by rw [if_neg (show ¬ (false = true) by decide)] at H; exact H
        clear H
        have H := H1
        clear H1
        obtain ⟨y156, hy156⟩ : ∃ y_ : List (S25), y_ = (([] : List (S25))) := ⟨_, rfl⟩
        replace H : (if y156.length + l0.length < 8796093022208 then ((free_Put.f (y156 ++ l0) a1 a2).bind fun t162 => ((some (([] : List (S25)) : List (S25))).bind fun y165 => (if y165.length + l0.length < 8796093022208 then ((free_Take.f (y165 ++ l0) a3).bind fun bt171 => ((lunetteref06_Take.f kj4 l0 a3).bind fun bt176 => (lunettelaw06_FreePuts.l0 kj4 l0 a1 a2 a3 t162 bt171.1 bt171.2.1 bt171.2.2 bt176.1 bt176.2.1 bt176.2.2 0 0))) else (none)))) else (none)) = some r := by first | (rw [hy156]; with_reducible exact H) | (have H2_ := (Option.bind_some _ _).symm.trans H; rw [hy156]; with_reducible exact H2_) | (have H2_ := (Option.bind_some _ _).symm.trans H; with_reducible exact H2_) | with_reducible exact H | (rw [hy156]; exact H) | exact H
        have Ny156 := Aside0.mk hy156
        clear hy156
        by_cases c22 : y156.length + l0.length < 8796093022208
        · rw [if_pos c22] at H
          have LMc22 := Aside0.mk c22
          clear c22
          obtain ⟨y159, hy159⟩ : ∃ y_ : List (S25), y_ = (y156 ++ l0) := ⟨_, rfl⟩
          replace H : ((free_Put.f y159 a1 a2).bind fun t162 => ((some (([] : List (S25)) : List (S25))).bind fun y165 => (if y165.length + l0.length < 8796093022208 then ((free_Take.f (y165 ++ l0) a3).bind fun bt171 => ((lunetteref06_Take.f kj4 l0 a3).bind fun bt176 => (lunettelaw06_FreePuts.l0 kj4 l0 a1 a2 a3 t162 bt171.1 bt171.2.1 bt171.2.2 bt176.1 bt176.2.1 bt176.2.2 0 0))) else (none)))) = some r := by first | (rw [hy159]; with_reducible exact H) | (have H2_ := (Option.bind_some _ _).symm.trans H; rw [hy159]; with_reducible exact H2_) | (have H2_ := (Option.bind_some _ _).symm.trans H; with_reducible exact H2_) | with_reducible exact H | (rw [hy159]; exact H) | exact H
          have Ny159 := Aside0.mk hy159
          clear hy159
          replace H := Option.bind_eq_some_iff.mp H
          obtain ⟨t162, A230, H⟩ := H
          replace H : ((some (([] : List (S25)) : List (S25))).bind fun y165 => (if y165.length + l0.length < 8796093022208 then ((free_Take.f (y165 ++ l0) a3).bind fun bt171 => ((lunetteref06_Take.f kj4 l0 a3).bind fun bt176 => (lunettelaw06_FreePuts.l0 kj4 l0 a1 a2 a3 t162 bt171.1 bt171.2.1 bt171.2.2 bt176.1 bt176.2.1 bt176.2.2 0 0))) else (none))) = some r := H
          have A23 := Aside0.mk A230
          clear A230
          obtain ⟨y165, hy165⟩ : ∃ y_ : List (S25), y_ = (([] : List (S25))) := ⟨_, rfl⟩
          replace H : (if y165.length + l0.length < 8796093022208 then ((free_Take.f (y165 ++ l0) a3).bind fun bt171 => ((lunetteref06_Take.f kj4 l0 a3).bind fun bt176 => (lunettelaw06_FreePuts.l0 kj4 l0 a1 a2 a3 t162 bt171.1 bt171.2.1 bt171.2.2 bt176.1 bt176.2.1 bt176.2.2 0 0))) else (none)) = some r := by first | (rw [hy165]; with_reducible exact H) | (have H2_ := (Option.bind_some _ _).symm.trans H; rw [hy165]; with_reducible exact H2_) | (have H2_ := (Option.bind_some _ _).symm.trans H; with_reducible exact H2_) | with_reducible exact H | (rw [hy165]; exact H) | exact H
          have Ny165 := Aside0.mk hy165
          clear hy165
          by_cases c24 : y165.length + l0.length < 8796093022208
          · rw [if_pos c24] at H
            have LMc24 := Aside0.mk c24
            clear c24
            obtain ⟨y168, hy168⟩ : ∃ y_ : List (S25), y_ = (y165 ++ l0) := ⟨_, rfl⟩
            replace H : ((free_Take.f y168 a3).bind fun bt171 => ((lunetteref06_Take.f kj4 l0 a3).bind fun bt176 => (lunettelaw06_FreePuts.l0 kj4 l0 a1 a2 a3 t162 bt171.1 bt171.2.1 bt171.2.2 bt176.1 bt176.2.1 bt176.2.2 0 0))) = some r := by first | (rw [hy168]; with_reducible exact H) | (have H2_ := (Option.bind_some _ _).symm.trans H; rw [hy168]; with_reducible exact H2_) | (have H2_ := (Option.bind_some _ _).symm.trans H; with_reducible exact H2_) | with_reducible exact H | (rw [hy168]; exact H) | exact H
            have Ny168 := Aside0.mk hy168
            clear hy168
            replace H := Option.bind_eq_some_iff.mp H
            obtain ⟨⟨t171, t172, t175⟩, A250, H⟩ := H
            replace H : ((lunetteref06_Take.f kj4 l0 a3).bind fun bt176 => (lunettelaw06_FreePuts.l0 kj4 l0 a1 a2 a3 t162 t171 t172 t175 bt176.1 bt176.2.1 bt176.2.2 0 0)) = some r := H
            have A25 := Aside0.mk A250
            clear A250
            replace H := Option.bind_eq_some_iff.mp H
            obtain ⟨⟨t176, t177, t178⟩, A260, H⟩ := H
            replace H : (lunettelaw06_FreePuts.l0 kj4 l0 a1 a2 a3 t162 t171 t172 t175 t176 t177 t178 0 0) = some r := H
            have A26 := Aside0.mk A260
            clear A260
            have H' := Aside0.mk H
            clear H
            go_wp2_with (first | ((with_reducible refine gate_dst (N := 47) rfl ?_); (try (refine gate_guard (by rfl) ?_; dsimp only)); refine Kd.R_lit k25 _ 25 ?hg (N := 47) ?hd (xs := ([] : List (S25))) (inner := []) (ok := fun _ => True) (okp := fun _ => True) ?hr ?hp (fun _ hk => hk) trivial (Below.refl _ _) (Nat.le_refl _) (by simp) ?_; (case hd => rfl); (case hg => rfl); (case hr => first | (go_simp; done) | (go_simp; rfl)); (case hp => exact (Reps.none _ _)); intro v157 w27 ho28 hb hg_ hnew_; clear hg_ hnew_; (first | rw [← Ny156.out] at ho28 | (simp only [Int.reduceToNat] at ho28; rw [← Ny156.out] at ho28)); have n0_ := Aside0.mk (Kd.R_lower ho28 (below_size (by repeat (first | (with_reducible first | exact HB.out | apply below_alloc | apply pw_below_drewN | apply below_drew1) | exact HB.out)))); have n1_ := Aside0.mk (below_step (by repeat (first | (with_reducible first | exact HB.out | apply below_alloc | apply pw_below_drewN | apply below_drew1) | exact HB.out)) hb); clear HB; have HO158 := n0_; have HB := n1_; clear n0_ n1_; clear hb ho28) | ((with_reducible refine gate_builtin (b := .append) (xs := #[.tmp 47, .tmp 48]) rfl ?_); (try (refine gate_guard (by rfl) ?_; dsimp only)); at_builtin; refine Kd.R_append_rows k25 (w0 := w) w.heap.size rfl (.tmp 47) (.tmp 48) 22 25 (.agg #[(.int .i64 0), (.int .i64 0)]) 16 rfl Try.underlying22 info25 rfl (by decide) (by omega) v157 y156 l0 _ _ _ (fun _ => True) (fun _ => False) rfl rfl ?aO ?aR (fun _ _ h => h) (fun _ h => h.elim) ?aF ?aB ?aS ?aL ?_; (case aR => repeat (first | exact (Kd.C_below HR0.out HB.out) | (with_reducible refine Kd.C_alloc ?_ _) | (with_reducible refine Kd.C_drewN ?_ _) | (with_reducible refine Kd.C_drew ?_))); (case aB => exact (by repeat (first | (with_reducible first | exact HB.out | apply below_alloc | apply pw_below_drewN | apply below_drew1) | exact HB.out))); (case aF => exact (fun _ _ => trivial)); (case aO => exact (by (with_reducible repeat (first | apply Kd.R_alloc | apply Kd.R_drewN | apply Kd.R_drew)); exact HO158.out)); (case aS => exact (below_size (by repeat (first | (with_reducible first | exact HB.out | apply below_alloc | apply pw_below_drewN | apply below_drew1) | exact HB.out)))); (case aL => have := LMc22.out; omega); intro v160 w29 ho hb hg hat; rw [← Ny159.out] at ho; have n0_ := Aside0.mk (hb); have n1_ := Aside0.mk (ho); clear HB; clear HO158; have HB := n0_; have HO161 := n1_; clear n0_ n1_; clear ho hb hg hat; obtain ⟨Ao30, co30, eo30⟩ := Kd.R_slice HO161.out; subst eo30) | ((with_reducible refine gate_callee (f := 13) rfl ?_); refine goesL_ (some 52) rfl rfl Try.func13 (by kernel_rfl) rfl #[.slice Ao30 y159.length co30, .int .i64 a1, .int .i64 a2] rfl (by (try simp only [List.map_toArray, List.map_cons, List.map_nil]); first | done | rfl | (simp only [List.length_drop, List.length_take]; rfl)) ?_; (with_reducible refine (free_Put.calls _ _ y159 a1 a2 t162 _ ?side1 ?side2 A23.out).mono ?_); (case side1 => repeat (first | exact (Kd.R_reads' HO161.out).2.2 | (with_reducible refine Kd.C_alloc ?_ _) | (with_reducible refine Kd.C_drewN ?_ _) | (with_reducible refine Kd.C_drew ?_))); (case side2 => exact (Kd.R_reads' HO161.out).2.1); rintro e w31 ⟨v163, rfl, ho0, hb⟩; refine ⟨_, rfl, ?_⟩; have n0_ := Aside0.mk (Kd.R_below (by (with_reducible repeat (first | apply Kd.R_alloc | apply Kd.R_drewN | apply Kd.R_drew)); exact HO161.out) hb); have n1_ := Aside0.mk (Kd.V_lower (Kd.V_mono (ok' := fun k_ => some k_ ≠ (.slice Ao30 y159.length co30 : Value).ownBlock) ho0 (fun k_ hk_ => (Kd.fresh' (Kd.R_lt (by (with_reducible repeat (first | apply Kd.R_alloc | apply Kd.R_drewN | apply Kd.R_drew)); exact HO161.out)) k_ hk_))) (below_size (by repeat (first | (with_reducible first | exact HB.out | apply below_alloc | apply pw_below_drewN | apply below_drew1) | exact HB.out)))); have n2_ := Aside0.mk (below_step (by repeat (first | (with_reducible first | exact HB.out | apply below_alloc | apply pw_below_drewN | apply below_drew1) | exact HB.out)) hb); clear HO161; clear HB; have HO161 := n0_; have HO164 := n1_; have HB := n2_; clear n0_ n1_ n2_; (try clear hb); (try clear hb2); (try clear hk); (try clear hi); (try clear ho0)) | ((with_reducible refine gate_dst (N := 54) rfl ?_); (try (refine gate_guard (by rfl) ?_; dsimp only)); refine Kd.R_lit k25 _ 25 ?hg (N := 54) ?hd (xs := ([] : List (S25))) (inner := []) (ok := fun _ => True) (okp := fun _ => True) ?hr ?hp (fun _ hk => hk) trivial (Below.refl _ _) (Nat.le_refl _) (by simp) ?_; (case hd => rfl); (case hg => rfl); (case hr => first | (go_simp; done) | (go_simp; rfl)); (case hp => exact (Reps.none _ _)); intro v166 w32 ho33 hb hg_ hnew_; clear hg_ hnew_; (first | rw [← Ny165.out] at ho33 | (simp only [Int.reduceToNat] at ho33; rw [← Ny165.out] at ho33)); have n0_ := Aside0.mk (Kd.R_elder' (by (with_reducible repeat (first | apply Kd.R_alloc | apply Kd.R_drewN | apply Kd.R_drew)); exact HO161.out) (Kd.R_base ho33) hb); have n1_ := Aside0.mk (Kd.V_elder' (by (with_reducible repeat (first | apply Kd.V_alloc | apply Kd.V_drewN | apply Kd.V_drew)); exact HO164.out) (Kd.R_base ho33) hb); have n2_ := Aside0.mk (Kd.R_lower (Kd.R_new' ho33 (Kd.R_lt (by (with_reducible repeat (first | apply Kd.R_alloc | apply Kd.R_drewN | apply Kd.R_drew)); exact HO161.out))) (below_size (by repeat (first | (with_reducible first | exact HB.out | apply below_alloc | apply pw_below_drewN | apply below_drew1) | exact HB.out)))); have n3_ := Aside0.mk (below_step (by repeat (first | (with_reducible first | exact HB.out | apply below_alloc | apply pw_below_drewN | apply below_drew1) | exact HB.out)) hb); clear HO161; clear HO164; clear HB; have HO161 := n0_; have HO164 := n1_; have HO167 := n2_; have HB := n3_; clear n0_ n1_ n2_ n3_; clear hb ho33) | ((with_reducible refine gate_builtin (b := .append) (xs := #[.tmp 54, .tmp 55]) rfl ?_); (try (refine gate_guard (by rfl) ?_; dsimp only)); at_builtin; refine Kd.R_append_rows k25 (w0 := w) w.heap.size rfl (.tmp 54) (.tmp 55) 22 25 (.agg #[(.int .i64 0), (.int .i64 0)]) 16 rfl Try.underlying22 info25 rfl (by decide) (by omega) v166 y165 l0 _ _ _ (fun k_ => some k_ ≠ (.slice Ao30 y159.length co30 : Value).ownBlock) (fun _ => False) rfl rfl ?aO ?aR (fun _ _ h => h) (fun _ h => h.elim) ?aF ?aB ?aS ?aL ?_; (case aR => repeat (first | exact (Kd.C_below HR0.out HB.out) | (with_reducible refine Kd.C_alloc ?_ _) | (with_reducible refine Kd.C_drewN ?_ _) | (with_reducible refine Kd.C_drew ?_))); (case aB => exact (by repeat (first | (with_reducible first | exact HB.out | apply below_alloc | apply pw_below_drewN | apply below_drew1) | exact HB.out))); (case aF => exact (fun k_ hk => Kd.fresh' (Kd.R_lt (by (with_reducible repeat (first | apply Kd.R_alloc | apply Kd.R_drewN | apply Kd.R_drew)); exact HO161.out)) k_ hk)); (case aO => exact (by (with_reducible repeat (first | apply Kd.R_alloc | apply Kd.R_drewN | apply Kd.R_drew)); exact Kd.R_mono HO167.out (fun _ hk => hk.2))); (case aS => exact (below_size (by repeat (first | (with_reducible first | exact HB.out | apply below_alloc | apply pw_below_drewN | apply below_drew1) | exact HB.out)))); (case aL => have := LMc24.out; omega); intro v169 w34 ho hb hg hat; rw [← Ny168.out] at ho; have n0_ := Aside0.mk (Kd.R_after (ok := (fun _ => True)) (by (with_reducible repeat (first | apply Kd.R_alloc | apply Kd.R_drewN | apply Kd.R_drew)); exact HO161.out) hg hat); have n1_ := Aside0.mk (Kd.V_afterv (ok := (fun k_ => some k_ ≠ (.slice Ao30 y159.length co30 : Value).ownBlock)) (by (with_reducible repeat (first | apply Kd.V_alloc | apply Kd.V_drewN | apply Kd.V_drew)); exact HO164.out) hg hat); have n2_ := Aside0.mk (hb); have n3_ := Aside0.mk (ho); clear HO161; clear HO164; clear HB; clear HO167; have HO161 := n0_; have HO164 := n1_; have HB := n2_; have HO170 := n3_; clear n0_ n1_ n2_ n3_; clear ho hb hg hat; obtain ⟨Ao35, co35, eo35⟩ := Kd.R_slice HO170.out; subst eo35) | ((with_reducible refine gate_callee (f := 14) rfl ?_); refine goesL_ (some 58) rfl rfl Try.func14 (by kernel_rfl) rfl #[.slice Ao35 y168.length co35, .int .i64 a3] rfl (by (try simp only [List.map_toArray, List.map_cons, List.map_nil]); first | done | rfl | (simp only [List.length_drop, List.length_take]; rfl)) ?_; (with_reducible refine (free_Take.calls _ _ y168 a3 t171 t172 t175 _ ?side1 ?side2 A25.out).mono ?_); (case side1 => repeat (first | exact (Kd.R_reads' HO170.out).2.2 | (with_reducible refine Kd.C_alloc ?_ _) | (with_reducible refine Kd.C_drewN ?_ _) | (with_reducible refine Kd.C_drew ?_))); (case side2 => exact (Kd.R_reads' HO170.out).2.1); rintro e w36 ⟨v173, rfl, ho0, hb⟩; refine ⟨_, rfl, ?_⟩; have n0_ := Aside0.mk (Kd.R_below (by (with_reducible repeat (first | apply Kd.R_alloc | apply Kd.R_drewN | apply Kd.R_drew)); exact HO161.out) hb); have n1_ := Aside0.mk (Kd.V_below (by (with_reducible repeat (first | apply Kd.V_alloc | apply Kd.V_drewN | apply Kd.V_drew)); exact HO164.out) hb); have n2_ := Aside0.mk (Kd.R_below (by (with_reducible repeat (first | apply Kd.R_alloc | apply Kd.R_drewN | apply Kd.R_drew)); exact HO170.out) hb); have n3_ := Aside0.mk (Kd.V_lower (Kd.V_mono (ok' := fun k_ => some k_ ≠ (.slice Ao30 y159.length co30 : Value).ownBlock ∧ some k_ ≠ (.slice Ao35 y168.length co35 : Value).ownBlock) ho0 (fun k_ hk_ => ⟨(Kd.fresh' (Kd.R_lt (by (with_reducible repeat (first | apply Kd.R_alloc | apply Kd.R_drewN | apply Kd.R_drew)); exact HO161.out)) k_ hk_), (Kd.fresh' (Kd.R_lt (by (with_reducible repeat (first | apply Kd.R_alloc | apply Kd.R_drewN | apply Kd.R_drew)); exact HO170.out)) k_ hk_)⟩)) (below_size (by repeat (first | (with_reducible first | exact HB.out | apply below_alloc | apply pw_below_drewN | apply below_drew1) | exact HB.out)))); have n4_ := Aside0.mk (below_step (by repeat (first | (with_reducible first | exact HB.out | apply below_alloc | apply pw_below_drewN | apply below_drew1) | exact HB.out)) hb); clear HO161; clear HO164; clear HO170; clear HB; have HO161 := n0_; have HO164 := n1_; have HO170 := n2_; have HO174 := n3_; have HB := n4_; clear n0_ n1_ n2_ n3_ n4_; (try clear hb); (try clear hb2); (try clear hk); (try clear hi); (try clear ho0)) | ((with_reducible refine gate_callee (f := 15) rfl ?_); refine goesL_ (some 65) rfl rfl Try.func15 (by kernel_rfl) rfl #[.slice A0 l0.length c0, .int .i64 a3] rfl (by (try simp only [List.map_toArray, List.map_cons, List.map_nil]); first | done | rfl | (simp only [List.length_drop, List.length_take]; rfl)) ?_; (with_reducible refine (lunetteref06_Take.calls kj4 _ _ l0 a3 t176 t177 t178 _ ?side1 ?side2 A26.out).mono ?_); (case side1 => repeat (first | exact (Kd.C_below HR0.out HB.out) | (with_reducible refine Kd.C_alloc ?_ _) | (with_reducible refine Kd.C_drewN ?_ _) | (with_reducible refine Kd.C_drew ?_))); (case side2 => exact HC0.out); rintro e w37 ⟨v179, rfl, ho0, hb⟩; refine ⟨_, rfl, ?_⟩; have n0_ := Aside0.mk (Kd.R_elder' (by (with_reducible repeat (first | apply Kd.R_alloc | apply Kd.R_drewN | apply Kd.R_drew)); exact HO161.out) (Kd.R_base ho0) hb); have n1_ := Aside0.mk (Kd.V_elder' (by (with_reducible repeat (first | apply Kd.V_alloc | apply Kd.V_drewN | apply Kd.V_drew)); exact HO164.out) (Kd.R_base ho0) hb); have n2_ := Aside0.mk (Kd.R_elder' (by (with_reducible repeat (first | apply Kd.R_alloc | apply Kd.R_drewN | apply Kd.R_drew)); exact HO170.out) (Kd.R_base ho0) hb); have n3_ := Aside0.mk (Kd.V_elder' (by (with_reducible repeat (first | apply Kd.V_alloc | apply Kd.V_drewN | apply Kd.V_drew)); exact HO174.out) (Kd.R_base ho0) hb); have n4_ := Aside0.mk (Kd.R_lower (Kd.R_new' (Kd.R_new' ho0 (Kd.R_lt (by (with_reducible repeat (first | apply Kd.R_alloc | apply Kd.R_drewN | apply Kd.R_drew)); exact HO161.out))) (Kd.R_lt (by (with_reducible repeat (first | apply Kd.R_alloc | apply Kd.R_drewN | apply Kd.R_drew)); exact HO170.out))) (below_size (by repeat (first | (with_reducible first | exact HB.out | apply below_alloc | apply pw_below_drewN | apply below_drew1) | exact HB.out)))); have n5_ := Aside0.mk (below_step (by repeat (first | (with_reducible first | exact HB.out | apply below_alloc | apply pw_below_drewN | apply below_drew1) | exact HB.out)) hb); clear HO161; clear HO164; clear HO170; clear HO174; clear HB; have HO161 := n0_; have HO164 := n1_; have HO170 := n2_; have HO174 := n3_; have HO180 := n4_; have HB := n5_; clear n0_ n1_ n2_ n3_ n4_ n5_; (try clear hb); (try clear hb2); (try clear hk); (try clear hi); (try clear ho0)))
            go_loopg [16, 17] kj4 (fun kq v16 v17 w' => ∃ (x16_2 : Int) (x17_2 : Int), v16 = .int .i64 x16_2 ∧ v17 = .int .i64 x17_2 ∧ Aside0 (lunettelaw06_FreePuts.l0 kq l0 a1 a2 a3 t162 t171 t172 t175 t176 t177 t178 x16_2 x17_2 = some r) ∧ Aside0 (kq ≤ kj4) ∧ Aside0 (Kd.V k25 25 w' w.heap.size (fun k_ => some k_ ≠ (v179 : Value).ownBlock) v163 t162) ∧ Aside0 (Kd.V k25 25 w' w.heap.size (fun k_ => some k_ ≠ (v179 : Value).ownBlock) v173 t172) ∧ Aside0 (Kd.R k25 25 w' w.heap.size (fun _ => True) v179 t177) ∧ Aside0 (Below w.heap.size w w'))
            case atStart => exact ⟨(0), (0), (by first | rfl | (simp; done) | (simp [*]; done)), (by first | rfl | (simp; done) | (simp [*]; done)), H', ⟨Nat.le_refl _⟩, ⟨by (with_reducible repeat (first | apply Kd.V_alloc | apply Kd.V_drewN | apply Kd.V_drew)); exact Kd.V_mono HO164.out (fun _ hk => hk.2)⟩, ⟨by (with_reducible repeat (first | apply Kd.V_alloc | apply Kd.V_drewN | apply Kd.V_drew)); exact Kd.V_mono HO174.out (fun _ hk => hk.2)⟩, ⟨by (with_reducible repeat (first | apply Kd.R_alloc | apply Kd.R_drewN | apply Kd.R_drew)); exact Kd.R_mono HO180.out (fun _ hk => trivial)⟩, ⟨by repeat (first | (with_reducible first | exact HB.out | apply below_alloc | apply pw_below_drewN | apply below_drew1) | exact HB.out)⟩⟩
            case round =>
              clear H'
              try clear c1
              try clear c2
              try clear p2
              try clear c3
              try clear c6
              try clear c6b0
              try clear c6b1
              try clear c8
              try clear c11
              try clear c13
              try clear c14
              try clear c15
              try clear c16
              try clear c16b0
              try clear c16b1
              try clear c22
              try clear c24
              try clear p2
              obtain ⟨x16_2, x17_2, rfl, rfl, HA, HK2, HO_9, HO_11, HO_14, HB⟩ := hrel
              cases gk with
              | zero => exact absurd HA.out (by simp [lunettelaw06_FreePuts.l0])
              | succ k2 =>
                have H := HA.out
                clear HA
                simp only [lunettelaw06_FreePuts.l0] at H
                by_cases c38 : x17_2 < (l0.length : Int)
                · rw [if_pos c38] at H
                  have c38b0 : decide (x17_2 < (l0.length : Int)) = true := decide_eq_true c38
                  clear c38
                  by_cases c39 : 0 ≤ x17_2
                  · rw [if_pos c39] at H
                    have c39b0 : decide (0 ≤ x17_2) = true := decide_eq_true c39
                    clear c39
                    by_cases c40 : ((rd_T25 l0 x17_2).f1) ≤ a3
                    · rw [if_pos c40] at H
                      have c40b0 : decide (((rd_T25 l0 x17_2).f1) ≤ a3) = true := decide_eq_true c40
                      clear c40
                      have H' := Aside0.mk H
                      clear H
                      have p181 : 0 ≤ (x17_2 : Int) := of_decide_eq_true (by first | (with_reducible assumption) | assumption)
                      have q181 : x17_2 < (l0.length : Int) := of_decide_eq_true (by first | (with_reducible assumption) | assumption)
                      obtain ⟨ad181, e181, hx181_0, hx181_1⟩ := at_T25 HR0.out x17_2 p181 q181
                      cases e181
                      replace hx181_0 := (HB.out.cell (World.block_lt_of_cell? w _ hx181_0)).trans hx181_0
                      replace hx181_1 := (HB.out.cell (World.block_lt_of_cell? w _ hx181_1)).trans hx181_1
                      replace p181 := eq_true p181
                      replace q181 := eq_true q181
                      go_wp2
                      go_roundg k2
                      case measure => have := HJ4.out; have := HK2.out; omega
                      case rel => exact ⟨(wrap64 (x16_2 + 1)), (wrap64 (x17_2 + 1)), (by first | rfl | (simp; done) | (simp [*]; done)), (by first | rfl | (simp; done) | (simp [*]; done)), H', ⟨by have := HJ4.out; have := HK2.out; omega⟩, ⟨by (with_reducible repeat (first | apply Kd.V_alloc | apply Kd.V_drewN | apply Kd.V_drew)); exact HO_9.out⟩, ⟨by (with_reducible repeat (first | apply Kd.V_alloc | apply Kd.V_drewN | apply Kd.V_drew)); exact HO_11.out⟩, ⟨by (with_reducible repeat (first | apply Kd.R_alloc | apply Kd.R_drewN | apply Kd.R_drew)); exact HO_14.out⟩, ⟨by repeat (first | (with_reducible first | exact HB.out | apply below_alloc | apply pw_below_drewN | apply below_drew1) | exact HB.out)⟩⟩
                    · rw [if_neg c40] at H
                      have c40b0 : decide (((rd_T25 l0 x17_2).f1) ≤ a3) = false := decide_eq_false c40
                      clear c40
                      have H' := Aside0.mk H
                      clear H
                      have p181 : 0 ≤ (x17_2 : Int) := of_decide_eq_true (by first | (with_reducible assumption) | assumption)
                      have q181 : x17_2 < (l0.length : Int) := of_decide_eq_true (by first | (with_reducible assumption) | assumption)
                      obtain ⟨ad181, e181, hx181_0, hx181_1⟩ := at_T25 HR0.out x17_2 p181 q181
                      cases e181
                      replace hx181_0 := (HB.out.cell (World.block_lt_of_cell? w _ hx181_0)).trans hx181_0
                      replace hx181_1 := (HB.out.cell (World.block_lt_of_cell? w _ hx181_1)).trans hx181_1
                      replace p181 := eq_true p181
                      replace q181 := eq_true q181
                      go_wp2
                      go_roundg k2
                      case measure => have := HJ4.out; have := HK2.out; omega
                      case rel => exact ⟨(x16_2), (wrap64 (x17_2 + 1)), (by first | rfl | (simp; done) | (simp [*]; done)), (by first | rfl | (simp; done) | (simp [*]; done)), H', ⟨by have := HJ4.out; have := HK2.out; omega⟩, ⟨by (with_reducible repeat (first | apply Kd.V_alloc | apply Kd.V_drewN | apply Kd.V_drew)); exact HO_9.out⟩, ⟨by (with_reducible repeat (first | apply Kd.V_alloc | apply Kd.V_drewN | apply Kd.V_drew)); exact HO_11.out⟩, ⟨by (with_reducible repeat (first | apply Kd.R_alloc | apply Kd.R_drewN | apply Kd.R_drew)); exact HO_14.out⟩, ⟨by repeat (first | (with_reducible first | exact HB.out | apply below_alloc | apply pw_below_drewN | apply below_drew1) | exact HB.out)⟩⟩
                  · rw [if_neg c39] at H
                    exact absurd H (by simp)
                · rw [if_neg c38] at H
                  have c38b0 : decide (x17_2 < (l0.length : Int)) = false := decide_eq_false c38
                  clear c38
                  replace H := Option.bind_eq_some_iff.mp H
                  obtain ⟨t182, A410, H⟩ := H
                  replace H : (if t182 = true then ((lunetteref06_Put.f k2 l0 a1 a2).bind fun t183 => ((lunetteref06_Same.f k2 t162 t183).bind fun t186 => (if t186 = true then ((free_Check.f k2 t162).bind fun t187 => (if t187 = true then (if t171 = t176 then (if (t175 == t178) = true then ((lunetteref06_Same.f k2 t172 t177).bind fun t188 => (if t188 = true then ((free_Check.f k2 t172).bind fun t189 => (if t189 = true then ((free_Usable.f k2 l0 a3).bind fun t190 => (some (t190 == x16_2))) else (none))) else (none))) else (none)) else (none)) else (none))) else (none)))) else (none)) = some r := H
                  have A41 := Aside0.mk A410
                  clear A410
                  by_cases c42 : t182 = true
                  · subst c42
                    have H1 : ((lunetteref06_Put.f k2 l0 a1 a2).bind fun t183 => ((lunetteref06_Same.f k2 t162 t183).bind fun t186 => (if t186 = true then ((free_Check.f k2 t162).bind fun t187 => (if t187 = true then (if t171 = t176 then (if (t175 == t178) = true then ((lunetteref06_Same.f k2 t172 t177).bind fun t188 => (if t188 = true then ((free_Check.f k2 t172).bind fun t189 => (if t189 = true then ((free_Usable.f k2 l0 a3).bind fun t190 => (some (t190 == x16_2))) else (none))) else (none))) else (none)) else (none)) else (none))) else (none)))) = some r := by rw [if_pos rfl] at H; exact H
                    clear H
                    have H := H1
                    clear H1
                    replace H := Option.bind_eq_some_iff.mp H
                    obtain ⟨t183, A430, H⟩ := H
                    replace H : ((lunetteref06_Same.f k2 t162 t183).bind fun t186 => (if t186 = true then ((free_Check.f k2 t162).bind fun t187 => (if t187 = true then (if t171 = t176 then (if (t175 == t178) = true then ((lunetteref06_Same.f k2 t172 t177).bind fun t188 => (if t188 = true then ((free_Check.f k2 t172).bind fun t189 => (if t189 = true then ((free_Usable.f k2 l0 a3).bind fun t190 => (some (t190 == x16_2))) else (none))) else (none))) else (none)) else (none)) else (none))) else (none))) = some r := H
                    have A43 := Aside0.mk A430
                    clear A430
                    replace H := Option.bind_eq_some_iff.mp H
                    obtain ⟨t186, A440, H⟩ := H
                    replace H : (if t186 = true then ((free_Check.f k2 t162).bind fun t187 => (if t187 = true then (if t171 = t176 then (if (t175 == t178) = true then ((lunetteref06_Same.f k2 t172 t177).bind fun t188 => (if t188 = true then ((free_Check.f k2 t172).bind fun t189 => (if t189 = true then ((free_Usable.f k2 l0 a3).bind fun t190 => (some (t190 == x16_2))) else (none))) else (none))) else (none)) else (none)) else (none))) else (none)) = some r := H
                    have A44 := Aside0.mk A440
                    clear A440
                    by_cases c45 : t186 = true
                    · subst c45
                      have H1 : ((free_Check.f k2 t162).bind fun t187 => (if t187 = true then (if t171 = t176 then (if (t175 == t178) = true then ((lunetteref06_Same.f k2 t172 t177).bind fun t188 => (if t188 = true then ((free_Check.f k2 t172).bind fun t189 => (if t189 = true then ((free_Usable.f k2 l0 a3).bind fun t190 => (some (t190 == x16_2))) else (none))) else (none))) else (none)) else (none)) else (none))) = some r := by rw [if_pos rfl] at H; exact H
                      clear H
                      have H := H1
                      clear H1
                      replace H := Option.bind_eq_some_iff.mp H
                      obtain ⟨t187, A460, H⟩ := H
                      replace H : (if t187 = true then (if t171 = t176 then (if (t175 == t178) = true then ((lunetteref06_Same.f k2 t172 t177).bind fun t188 => (if t188 = true then ((free_Check.f k2 t172).bind fun t189 => (if t189 = true then ((free_Usable.f k2 l0 a3).bind fun t190 => (some (t190 == x16_2))) else (none))) else (none))) else (none)) else (none)) else (none)) = some r := H
                      have A46 := Aside0.mk A460
                      clear A460
                      by_cases c47 : t187 = true
                      · subst c47
                        have H1 : (if t171 = t176 then (if (t175 == t178) = true then ((lunetteref06_Same.f k2 t172 t177).bind fun t188 => (if t188 = true then ((free_Check.f k2 t172).bind fun t189 => (if t189 = true then ((free_Usable.f k2 l0 a3).bind fun t190 => (some (t190 == x16_2))) else (none))) else (none))) else (none)) else (none)) = some r := by rw [if_pos rfl] at H; exact H
                        clear H
                        have H := H1
                        clear H1
                        by_cases c48 : t171 = t176
                        · rw [if_pos c48] at H
                          have c48b0 : (t171 == t176) = true := beq_iff_eq.mpr c48
                          have c48b1 : (t171 != t176) = false := bne_eq_false_iff_eq.mpr c48
                          clear c48
                          by_cases c49 : (t175 == t178) = true
                          · rw [if_pos c49] at H
                            have c49b0 : (t175 == t178) = true := c49
                            (try (have c49b1 : decide (t175 = t178) = true := by simpa using c49))
                            (try (have c49b2 : (t175 == t178) = true := by simpa using c49))
                            clear c49
                            replace H := Option.bind_eq_some_iff.mp H
                            obtain ⟨t188, A500, H⟩ := H
                            replace H : (if t188 = true then ((free_Check.f k2 t172).bind fun t189 => (if t189 = true then ((free_Usable.f k2 l0 a3).bind fun t190 => (some (t190 == x16_2))) else (none))) else (none)) = some r := H
                            have A50 := Aside0.mk A500
                            clear A500
                            by_cases c51 : t188 = true
                            · subst c51
                              have H1 : ((free_Check.f k2 t172).bind fun t189 => (if t189 = true then ((free_Usable.f k2 l0 a3).bind fun t190 => (some (t190 == x16_2))) else (none))) = some r := by rw [if_pos rfl] at H; exact H
                              clear H
                              have H := H1
                              clear H1
                              replace H := Option.bind_eq_some_iff.mp H
                              obtain ⟨t189, A520, H⟩ := H
                              replace H : (if t189 = true then ((free_Usable.f k2 l0 a3).bind fun t190 => (some (t190 == x16_2))) else (none)) = some r := H
                              have A52 := Aside0.mk A520
                              clear A520
                              by_cases c53 : t189 = true
                              · subst c53
                                have H1 : ((free_Usable.f k2 l0 a3).bind fun t190 => (some (t190 == x16_2))) = some r := by rw [if_pos rfl] at H; exact H
                                clear H
                                have H := H1
                                clear H1
                                replace H := Option.bind_eq_some_iff.mp H
                                obtain ⟨t190, A540, H⟩ := H
                                replace H : (some (t190 == x16_2)) = some r := H
                                have A54 := Aside0.mk A540
                                clear A540
                                obtain rfl := Option.some.inj H
                                go_wp2_with (first | ((with_reducible refine gate_callee (f := 11) rfl ?_); refine goesL_ (some 84) rfl rfl Try.func11 (by kernel_rfl) rfl #[] rfl (by (try simp only [List.map_toArray, List.map_cons, List.map_nil]); first | done | rfl | (simp only [List.length_drop, List.length_take]; rfl)) ?_; (with_reducible refine (lunettelaw06_awake.calls  true _ A41.out).mono ?_); rintro e w55 ⟨rfl, hb⟩; refine ⟨_, rfl, ?_⟩; have n0_ := Aside0.mk (Kd.V_below (by (with_reducible repeat (first | apply Kd.V_alloc | apply Kd.V_drewN | apply Kd.V_drew)); exact HO_9.out) hb); have n1_ := Aside0.mk (Kd.V_below (by (with_reducible repeat (first | apply Kd.V_alloc | apply Kd.V_drewN | apply Kd.V_drew)); exact HO_11.out) hb); have n2_ := Aside0.mk (Kd.R_below (by (with_reducible repeat (first | apply Kd.R_alloc | apply Kd.R_drewN | apply Kd.R_drew)); exact HO_14.out) hb); have n3_ := Aside0.mk (below_step (by repeat (first | (with_reducible first | exact HB.out | apply below_alloc | apply pw_below_drewN | apply below_drew1) | exact HB.out)) hb); clear HO_9; clear HO_11; clear HO_14; clear HB; have HO_9 := n0_; have HO_11 := n1_; have HO_14 := n2_; have HB := n3_; clear n0_ n1_ n2_ n3_; (try clear hb); (try clear hb2); (try clear hk); (try clear hi)) | (go_at_call 17; (with_reducible refine (lunetteref06_Put.calls k2 _ _ l0 a1 a2 t183 _ ?side1 ?side2 A43.out).mono ?_); (case side1 => repeat (first | exact (Kd.C_below HR0.out HB.out) | (with_reducible refine Kd.C_alloc ?_ _) | (with_reducible refine Kd.C_drewN ?_ _) | (with_reducible refine Kd.C_drew ?_))); (case side2 => exact HC0.out); rintro e w56 ⟨v184, rfl, ho0, hb⟩; have n0_ := Aside0.mk (Kd.V_elder' (by (with_reducible repeat (first | apply Kd.V_alloc | apply Kd.V_drewN | apply Kd.V_drew)); exact HO_9.out) (Kd.R_base ho0) hb); have n1_ := Aside0.mk (Kd.V_elder' (by (with_reducible repeat (first | apply Kd.V_alloc | apply Kd.V_drewN | apply Kd.V_drew)); exact HO_11.out) (Kd.R_base ho0) hb); have n2_ := Aside0.mk (Kd.R_elder' (by (with_reducible repeat (first | apply Kd.R_alloc | apply Kd.R_drewN | apply Kd.R_drew)); exact HO_14.out) (Kd.R_base ho0) hb); have n3_ := Aside0.mk (Kd.R_lower (Kd.R_new' ho0 (Kd.R_lt (by (with_reducible repeat (first | apply Kd.R_alloc | apply Kd.R_drewN | apply Kd.R_drew)); exact HO_14.out))) (below_size (by repeat (first | (with_reducible first | exact HB.out | apply below_alloc | apply pw_below_drewN | apply below_drew1) | exact HB.out)))); have n4_ := Aside0.mk (below_step (by repeat (first | (with_reducible first | exact HB.out | apply below_alloc | apply pw_below_drewN | apply below_drew1) | exact HB.out)) hb); clear HO_9; clear HO_11; clear HO_14; clear HB; have HO_9 := n0_; have HO_11 := n1_; have HO_14 := n2_; have HO185 := n3_; have HB := n4_; clear n0_ n1_ n2_ n3_ n4_; (try clear hb); (try clear hb2); (try clear hk); (try clear hi); (try clear ho0); obtain ⟨Ao57, co57, eo57⟩ := Kd.V_slice HO_9.out; subst eo57; obtain ⟨Ao58, co58, eo58⟩ := Kd.R_slice HO185.out; subst eo58) | (go_at_call 16; (with_reducible refine (lunetteref06_Same.calls k2 _ _ t162 _ _ t183 true _ ?side1 ?side2 ?side3 ?side4 A44.out).mono ?_); (case side1 => repeat (first | exact (Kd.V_reads' HO_9.out).2.2 | (with_reducible refine Kd.C_alloc ?_ _) | (with_reducible refine Kd.C_drewN ?_ _) | (with_reducible refine Kd.C_drew ?_))); (case side2 => exact (Kd.V_reads' HO_9.out).2.1); (case side3 => repeat (first | exact (Kd.R_reads' HO185.out).2.2 | (with_reducible refine Kd.C_alloc ?_ _) | (with_reducible refine Kd.C_drewN ?_ _) | (with_reducible refine Kd.C_drew ?_))); (case side4 => exact (Kd.R_reads' HO185.out).2.1); rintro e w' ⟨rfl, ⟨nd, rfl⟩⟩) | (go_at_call 12; (with_reducible refine (free_Check.calls k2 _ _ t162 true _ ?side1 ?side2 A46.out).mono ?_); (case side1 => repeat (first | exact (Kd.V_reads' HO_9.out).2.2 | (with_reducible refine Kd.C_alloc ?_ _) | (with_reducible refine Kd.C_drewN ?_ _) | (with_reducible refine Kd.C_drew ?_))); (case side2 => exact (Kd.V_reads' HO_9.out).2.1); rintro e w59 ⟨rfl, hb⟩; have n0_ := Aside0.mk (Kd.V_below (by (with_reducible repeat (first | apply Kd.V_alloc | apply Kd.V_drewN | apply Kd.V_drew)); exact HO_9.out) hb); have n1_ := Aside0.mk (Kd.V_below (by (with_reducible repeat (first | apply Kd.V_alloc | apply Kd.V_drewN | apply Kd.V_drew)); exact HO_11.out) hb); have n2_ := Aside0.mk (Kd.R_below (by (with_reducible repeat (first | apply Kd.R_alloc | apply Kd.R_drewN | apply Kd.R_drew)); exact HO_14.out) hb); have n3_ := Aside0.mk (Kd.R_below (by (with_reducible repeat (first | apply Kd.R_alloc | apply Kd.R_drewN | apply Kd.R_drew)); exact HO185.out) hb); have n4_ := Aside0.mk (below_step (by repeat (first | (with_reducible first | exact HB.out | apply below_alloc | apply pw_below_drewN | apply below_drew1) | exact HB.out)) hb); clear HO_9; clear HO_11; clear HO_14; clear HO185; clear HB; have HO_9 := n0_; have HO_11 := n1_; have HO_14 := n2_; have HO185 := n3_; have HB := n4_; clear n0_ n1_ n2_ n3_ n4_; (try clear hb); (try clear hb2); (try clear hk); (try clear hi); obtain ⟨Ao60, co60, eo60⟩ := Kd.V_slice HO_11.out; subst eo60; obtain ⟨Ao61, co61, eo61⟩ := Kd.R_slice HO_14.out; subst eo61) | (go_at_call 16; (with_reducible refine (lunetteref06_Same.calls k2 _ _ t172 _ _ t177 true _ ?side1 ?side2 ?side3 ?side4 A50.out).mono ?_); (case side1 => repeat (first | exact (Kd.V_reads' HO_11.out).2.2 | (with_reducible refine Kd.C_alloc ?_ _) | (with_reducible refine Kd.C_drewN ?_ _) | (with_reducible refine Kd.C_drew ?_))); (case side2 => exact (Kd.V_reads' HO_11.out).2.1); (case side3 => repeat (first | exact (Kd.R_reads' HO_14.out).2.2 | (with_reducible refine Kd.C_alloc ?_ _) | (with_reducible refine Kd.C_drewN ?_ _) | (with_reducible refine Kd.C_drew ?_))); (case side4 => exact (Kd.R_reads' HO_14.out).2.1); rintro e w' ⟨rfl, ⟨nd, rfl⟩⟩) | (go_at_call 12; (with_reducible refine (free_Check.calls k2 _ _ t172 true _ ?side1 ?side2 A52.out).mono ?_); (case side1 => repeat (first | exact (Kd.V_reads' HO_11.out).2.2 | (with_reducible refine Kd.C_alloc ?_ _) | (with_reducible refine Kd.C_drewN ?_ _) | (with_reducible refine Kd.C_drew ?_))); (case side2 => exact (Kd.V_reads' HO_11.out).2.1); rintro e w62 ⟨rfl, hb⟩; have n0_ := Aside0.mk (Kd.V_below (by (with_reducible repeat (first | apply Kd.V_alloc | apply Kd.V_drewN | apply Kd.V_drew)); exact HO_9.out) hb); have n1_ := Aside0.mk (Kd.V_below (by (with_reducible repeat (first | apply Kd.V_alloc | apply Kd.V_drewN | apply Kd.V_drew)); exact HO_11.out) hb); have n2_ := Aside0.mk (Kd.R_below (by (with_reducible repeat (first | apply Kd.R_alloc | apply Kd.R_drewN | apply Kd.R_drew)); exact HO_14.out) hb); have n3_ := Aside0.mk (Kd.R_below (by (with_reducible repeat (first | apply Kd.R_alloc | apply Kd.R_drewN | apply Kd.R_drew)); exact HO185.out) hb); have n4_ := Aside0.mk (below_step (by repeat (first | (with_reducible first | exact HB.out | apply below_alloc | apply pw_below_drewN | apply below_drew1) | exact HB.out)) hb); clear HO_9; clear HO_11; clear HO_14; clear HO185; clear HB; have HO_9 := n0_; have HO_11 := n1_; have HO_14 := n2_; have HO185 := n3_; have HB := n4_; clear n0_ n1_ n2_ n3_ n4_; (try clear hb); (try clear hb2); (try clear hk); (try clear hi)) | (go_at_call 18; (with_reducible refine (free_Usable.calls k2 _ _ l0 a3 t190 _ ?side1 ?side2 A54.out).mono ?_); (case side1 => repeat (first | exact (Kd.C_below HR0.out HB.out) | (with_reducible refine Kd.C_alloc ?_ _) | (with_reducible refine Kd.C_drewN ?_ _) | (with_reducible refine Kd.C_drew ?_))); (case side2 => exact HC0.out); rintro e w63 ⟨rfl, hb⟩; have n0_ := Aside0.mk (Kd.V_below (by (with_reducible repeat (first | apply Kd.V_alloc | apply Kd.V_drewN | apply Kd.V_drew)); exact HO_9.out) hb); have n1_ := Aside0.mk (Kd.V_below (by (with_reducible repeat (first | apply Kd.V_alloc | apply Kd.V_drewN | apply Kd.V_drew)); exact HO_11.out) hb); have n2_ := Aside0.mk (Kd.R_below (by (with_reducible repeat (first | apply Kd.R_alloc | apply Kd.R_drewN | apply Kd.R_drew)); exact HO_14.out) hb); have n3_ := Aside0.mk (Kd.R_below (by (with_reducible repeat (first | apply Kd.R_alloc | apply Kd.R_drewN | apply Kd.R_drew)); exact HO185.out) hb); have n4_ := Aside0.mk (below_step (by repeat (first | (with_reducible first | exact HB.out | apply below_alloc | apply pw_below_drewN | apply below_drew1) | exact HB.out)) hb); clear HO_9; clear HO_11; clear HO_14; clear HO185; clear HB; have HO_9 := n0_; have HO_11 := n1_; have HO_14 := n2_; have HO185 := n3_; have HB := n4_; clear n0_ n1_ n2_ n3_ n4_; (try clear hb); (try clear hb2); (try clear hk); (try clear hi)))
                                go_ret
                                exact ⟨by first | rfl | (simp [errW_none, errW_some] <;> rfl) | (simp [*, errW_none, errW_some] <;> rfl), by repeat (first | (with_reducible first | exact HB.out | apply below_alloc | apply pw_below_drewN | apply below_drew1) | exact HB.out)⟩
                              · replace c53 := Bool.eq_false_iff.mpr c53
                                subst c53
                                have H1 : (none) = some r := by rw [if_neg (show ¬ (false = true) by decide)] at H; exact H
                                clear H
                                have H := H1
                                clear H1
                                exact absurd H (by simp)
                            · replace c51 := Bool.eq_false_iff.mpr c51
                              subst c51
                              have H1 : (none) = some r := by rw [if_neg (show ¬ (false = true) by decide)] at H; exact H
                              clear H
                              have H := H1
                              clear H1
                              exact absurd H (by simp)
                          · rw [if_neg c49] at H
                            exact absurd H (by simp)
                        · rw [if_neg c48] at H
                          exact absurd H (by simp)
                      · replace c47 := Bool.eq_false_iff.mpr c47
                        subst c47
                        have H1 : (none) = some r := by rw [if_neg (show ¬ (false = true) by decide)] at H; exact H
                        clear H
                        have H := H1
                        clear H1
                        exact absurd H (by simp)
                    · replace c45 := Bool.eq_false_iff.mpr c45
                      subst c45
                      have H1 : (none) = some r := by rw [if_neg (show ¬ (false = true) by decide)] at H; exact H
                      clear H
                      have H := H1
                      clear H1
                      exact absurd H (by simp)
                  · replace c42 := Bool.eq_false_iff.mpr c42
                    subst c42
                    have H1 : (none) = some r := by rw [if_neg (show ¬ (false = true) by decide)] at H; exact H
                    clear H
                    have H := H1
                    clear H1
                    exact absurd H (by simp)
          · rw [if_neg c24] at H
            exact absurd H (by simp)
        · rw [if_neg c22] at H
          exact absurd H (by simp)

/-! ### lunettelaw06_FreeAll: function 6 -/
mutual
def lunettelaw06_FreeAll.j0 : Nat → List (S25) → Int → Bool → Option (Bool)
  | 0, _, _, _ => none
  | k + 1, x0, x1, x22 => if x22 = true then ((lunettelaw06_awake.f).bind fun t192 => (some t192)) else ((free_Usable.f k x0 x1).bind fun t193 => ((some (([] : List (S25)) : List (S25))).bind fun y194 => (if y194.length + x0.length < 8796093022208 then (lunettelaw06_FreeAll.l0 k x0 x1 t193 0 (y194 ++ x0) 0) else (none))))
def lunettelaw06_FreeAll.l0 : Nat → List (S25) → Int → Int → Int → List (S25) → Int → Option (Bool)
  | 0, _, _, _, _, _, _ => none
  | k + 1, x0, x1, x5, x6, x7, x8 => if x8 < x5 then ((free_Take.f x7 x1).bind fun bt200 => (if bt200.2.2 = true then (if bt200.1 ≤ x6 then (none) else (if (bt200.2.1.length : Int) = (wrap64 ((x7.length : Int) - 1)) then (lunettelaw06_FreeAll.l0 k x0 x1 x5 bt200.1 bt200.2.1 (wrap64 (x8 + 1))) else (none))) else (none))) else ((free_Take.f x7 x1).bind fun bt205 => ((lunettelaw06_awake.f).bind fun t210 => (if t210 = true then (if bt205.2.2 = true then (none) else (if bt205.1 = 0 then (if (bt205.2.1.length : Int) = (wrap64 ((x0.length : Int) - x5)) then ((free_Usable.f k bt205.2.1 x1).bind fun t211 => (some (t211 == 0))) else (none)) else (none))) else (none))))
end
def lunettelaw06_FreeAll.f (k : Nat) (l0 : List (S25)) (a1 : Int) : Option (Bool) := if (l0.length : Int) > 100 then (lunettelaw06_FreeAll.j0 k l0 a1 true) else ((lunetteref06_Check.f k l0).bind fun t191 => (lunettelaw06_FreeAll.j0 k l0 a1 (!t191)))
theorem lunettelaw06_FreeAll.mono_l : ∀ k, (∀ y0 y1 y2, LeO (lunettelaw06_FreeAll.j0 k y0 y1 y2) (lunettelaw06_FreeAll.j0 (k + 1) y0 y1 y2)) ∧ (∀ y0 y1 y2 y3 y4 y5, LeO (lunettelaw06_FreeAll.l0 k y0 y1 y2 y3 y4 y5) (lunettelaw06_FreeAll.l0 (k + 1) y0 y1 y2 y3 y4 y5))
  | 0 => ⟨fun _ _ _ r h => by simp [lunettelaw06_FreeAll.j0] at h, fun _ _ _ _ _ _ r h => by simp [lunettelaw06_FreeAll.l0] at h⟩
  | k + 1 => by
    obtain ⟨ih0, ih1⟩ := lunettelaw06_FreeAll.mono_l k
    refine ⟨?_, ?_⟩
    · intro y0 y1 y2
      unfold lunettelaw06_FreeAll.j0
      repeat' first
      | (with_reducible exact ih0 _ _ _)
      | (with_reducible exact ih1 _ _ _ _ _ _)
      | (with_reducible exact free_Usable.mono _ _ _)
      | (with_reducible exact lunetteref06_Check.mono _ _)
      | (with_reducible exact LeO.refl _)
      | (with_reducible exact LeO.none _)
      | (with_reducible refine LeO.ite ?_ ?_)
      | (with_reducible refine LeO.bind ?_ (fun _ => ?_))
      | exact ih0 _ _ _
      | exact ih1 _ _ _ _ _ _
      | exact free_Usable.mono _ _ _
      | exact lunetteref06_Check.mono _ _
      | exact LeO.none _
      | refine LeO.ite ?_ ?_
      | refine LeO.bind ?_ (fun _ => ?_)
    · intro y0 y1 y2 y3 y4 y5
      unfold lunettelaw06_FreeAll.l0
      repeat' first
      | (with_reducible exact ih0 _ _ _)
      | (with_reducible exact ih1 _ _ _ _ _ _)
      | (with_reducible exact free_Usable.mono _ _ _)
      | (with_reducible exact lunetteref06_Check.mono _ _)
      | (with_reducible exact LeO.refl _)
      | (with_reducible exact LeO.none _)
      | (with_reducible refine LeO.ite ?_ ?_)
      | (with_reducible refine LeO.bind ?_ (fun _ => ?_))
      | exact ih0 _ _ _
      | exact ih1 _ _ _ _ _ _
      | exact free_Usable.mono _ _ _
      | exact lunetteref06_Check.mono _ _
      | exact LeO.none _
      | refine LeO.ite ?_ ?_
      | refine LeO.bind ?_ (fun _ => ?_)
theorem lunettelaw06_FreeAll.mono : ∀ a0 a1 k, LeO (lunettelaw06_FreeAll.f k a0 a1) (lunettelaw06_FreeAll.f (k + 1) a0 a1) := by
  intro a0 a1 k
  obtain ⟨ih0, ih1⟩ := lunettelaw06_FreeAll.mono_l k
  unfold lunettelaw06_FreeAll.f
  repeat' first
      | (with_reducible exact ih0 _ _ _)
      | (with_reducible exact ih1 _ _ _ _ _ _)
      | (with_reducible exact free_Usable.mono _ _ _)
      | (with_reducible exact lunetteref06_Check.mono _ _)
      | (with_reducible exact LeO.refl _)
      | (with_reducible exact LeO.none _)
      | (with_reducible refine LeO.ite ?_ ?_)
      | (with_reducible refine LeO.bind ?_ (fun _ => ?_))
      | exact ih0 _ _ _
      | exact ih1 _ _ _ _ _ _
      | exact free_Usable.mono _ _ _
      | exact lunetteref06_Check.mono _ _
      | exact LeO.none _
      | refine LeO.ite ?_ ?_
      | refine LeO.bind ?_ (fun _ => ?_)
set_option maxHeartbeats 8000000 in
set_option maxRecDepth 100000 in
theorem lunettelaw06_FreeAll.calls (k : Nat) (A0 : Option Addr) (c0 : Nat) (l0 : List (S25)) (a1 : Int) (r : Bool) (w : World) (hr0 : Kd.C k25 w A0 l0.length l0) (hc0 : l0.length ≤ c0) (h : lunettelaw06_FreeAll.f k l0 a1 = some r) :
    Calls Try.prog 6 #[.slice A0 l0.length c0, .int .i64 a1] w fun e w' => e = .returned (.bool r) ∧ Below w.heap.size w w' := by
  have HR0 := Aside0.mk hr0
  have HC0 := Aside0.mk hc0
  clear hr0 hc0
  have HB := Aside0.mk (Below.refl w.heap.size w)
  have H : (if (l0.length : Int) > 100 then (lunettelaw06_FreeAll.j0 k l0 a1 true) else ((lunetteref06_Check.f k l0).bind fun t191 => (lunettelaw06_FreeAll.j0 k l0 a1 (!t191)))) = some r := h
  clear h
  have HC3 := Aside0.mk H
  clear H
  go_enter Try.func6, Try.ntmps6
  go_upto_region 1 with (fail)
  go_cut [22] (fun v22 wc => ∃ (kq : Nat) (x22_2 : Bool), v22 = .bool x22_2 ∧ Aside0 (lunettelaw06_FreeAll.j0 kq l0 a1 x22_2 = some r) ∧ Aside0 (kq ≤ k) ∧ Aside0 (Below w.heap.size w wc))
  case first =>
    have H := HC3.out
    clear HC3
    by_cases c4 : (l0.length : Int) > 100
    · rw [if_pos c4] at H
      have c4b0 : decide (100 < (l0.length : Int)) = true := decide_eq_true c4
      have c4b1 : decide (100 < l0.length) = true := decide_eq_true (by omega)
      clear c4
      (first | rw [c4b0] | (simp only [i64_w, i32_w]; rw [c4b0]) | skip)
      have H' := Aside0.mk H
      clear H
      go_wp2
      go_meet
      case rel => exact ⟨_, (true), (by first | rfl | (simp; done) | (simp [*]; done)), H', ⟨by first | omega | exact Nat.le_refl _⟩, ⟨by repeat (first | (with_reducible first | exact HB.out | apply below_alloc | apply pw_below_drewN | apply below_drew1) | exact HB.out)⟩⟩
    · rw [if_neg c4] at H
      have c4b0 : decide (100 < (l0.length : Int)) = false := decide_eq_false c4
      have c4b1 : decide (100 < l0.length) = false := decide_eq_false (by omega)
      clear c4
      (first | rw [c4b0] | (simp only [i64_w, i32_w]; rw [c4b0]) | skip)
      replace H := Option.bind_eq_some_iff.mp H
      obtain ⟨t191, A50, H⟩ := H
      replace H : (lunettelaw06_FreeAll.j0 k l0 a1 (!t191)) = some r := H
      have A5 := Aside0.mk A50
      clear A50
      have H' := Aside0.mk H
      clear H
      go_wp2_with (first | (go_at_call 10; (with_reducible refine (lunetteref06_Check.calls k _ _ l0 t191 _ ?side1 ?side2 A5.out).mono ?_); (case side1 => repeat (first | exact (Kd.C_below HR0.out HB.out) | (with_reducible refine Kd.C_alloc ?_ _) | (with_reducible refine Kd.C_drewN ?_ _) | (with_reducible refine Kd.C_drew ?_))); (case side2 => exact HC0.out); rintro e w' ⟨rfl, ⟨nd, rfl⟩⟩))
      go_meet
      case rel => exact ⟨_, (!t191), (by first | rfl | (simp; done) | (simp [*]; done)), H', ⟨by first | omega | exact Nat.le_refl _⟩, ⟨by repeat (first | (with_reducible first | exact HB.out | apply below_alloc | apply pw_below_drewN | apply below_drew1) | exact HB.out)⟩⟩
  case rest =>
    clear HC3
    try clear p2
    try clear c4
    try clear c4b0
    try clear c4b1
    obtain ⟨kq, x22_2, rfl, HA, HJ2, HB⟩ := hcut
    cases kq with
    | zero => exact absurd HA.out (by simp [lunettelaw06_FreeAll.j0])
    | succ kj2 =>
      have H := HA.out
      clear HA
      simp only [lunettelaw06_FreeAll.j0] at H
      by_cases c6 : x22_2 = true
      · subst c6
        have H1 : ((lunettelaw06_awake.f).bind fun t192 => (some t192)) = some r := by rw [if_pos rfl] at H; exact H
        clear H
        have H := H1
        clear H1
        replace H := Option.bind_eq_some_iff.mp H
        obtain ⟨t192, A70, H⟩ := H
        replace H : (some t192) = some r := H
        have A7 := Aside0.mk A70
        clear A70
        obtain rfl := Option.some.inj H
        go_wp2_with (first | ((with_reducible refine gate_callee (f := 11) rfl ?_); refine goesL_ (some 23) rfl rfl Try.func11 (by kernel_rfl) rfl #[] rfl (by (try simp only [List.map_toArray, List.map_cons, List.map_nil]); first | done | rfl | (simp only [List.length_drop, List.length_take]; rfl)) ?_; (with_reducible refine (lunettelaw06_awake.calls  t192 _ A7.out).mono ?_); rintro e w8 ⟨rfl, hb⟩; refine ⟨_, rfl, ?_⟩; have n0_ := Aside0.mk (below_step (by repeat (first | (with_reducible first | exact HB.out | apply below_alloc | apply pw_below_drewN | apply below_drew1) | exact HB.out)) hb); clear HB; have HB := n0_; clear n0_; (try clear hb); (try clear hb2); (try clear hk); (try clear hi)))
        go_ret
        exact ⟨by first | rfl | (simp [errW_none, errW_some] <;> rfl) | (simp [*, errW_none, errW_some] <;> rfl), by repeat (first | (with_reducible first | exact HB.out | apply below_alloc | apply pw_below_drewN | apply below_drew1) | exact HB.out)⟩
      · replace c6 := Bool.eq_false_iff.mpr c6
        subst c6
        have H1 : ((free_Usable.f kj2 l0 a1).bind fun t193 => ((some (([] : List (S25)) : List (S25))).bind fun y194 => (if y194.length + l0.length < 8796093022208 then (lunettelaw06_FreeAll.l0 kj2 l0 a1 t193 0 (y194 ++ l0) 0) else (none)))) = some r := by rw [if_neg (show ¬ (false = true) by decide)] at H; exact H
        clear H
        have H := H1
        clear H1
        replace H := Option.bind_eq_some_iff.mp H
        obtain ⟨t193, A90, H⟩ := H
        replace H : ((some (([] : List (S25)) : List (S25))).bind fun y194 => (if y194.length + l0.length < 8796093022208 then (lunettelaw06_FreeAll.l0 kj2 l0 a1 t193 0 (y194 ++ l0) 0) else (none))) = some r := H
        have A9 := Aside0.mk A90
        clear A90
        obtain ⟨y194, hy194⟩ : ∃ y_ : List (S25), y_ = (([] : List (S25))) := ⟨_, rfl⟩
        replace H : (if y194.length + l0.length < 8796093022208 then (lunettelaw06_FreeAll.l0 kj2 l0 a1 t193 0 (y194 ++ l0) 0) else (none)) = some r := by first | (rw [hy194]; with_reducible exact H) | (have H2_ := (Option.bind_some _ _).symm.trans H; rw [hy194]; with_reducible exact H2_) | (have H2_ := (Option.bind_some _ _).symm.trans H; with_reducible exact H2_) | with_reducible exact H | (rw [hy194]; exact H) | exact H
        have Ny194 := Aside0.mk hy194
        clear hy194
        by_cases c10 : y194.length + l0.length < 8796093022208
        · rw [if_pos c10] at H
          have LMc10 := Aside0.mk c10
          clear c10
          obtain ⟨y197, hy197⟩ : ∃ y_ : List (S25), y_ = (y194 ++ l0) := ⟨_, rfl⟩
          replace H : (lunettelaw06_FreeAll.l0 kj2 l0 a1 t193 0 y197 0) = some r := by first | (rw [hy197]; with_reducible exact H) | (have H2_ := (Option.bind_some _ _).symm.trans H; rw [hy197]; with_reducible exact H2_) | (have H2_ := (Option.bind_some _ _).symm.trans H; with_reducible exact H2_) | with_reducible exact H | (rw [hy197]; exact H) | exact H
          have Ny197 := Aside0.mk hy197
          clear hy197
          have H' := Aside0.mk H
          clear H
          go_wp2_with (first | ((with_reducible refine gate_callee (f := 18) rfl ?_); refine goesL_ (some 26) rfl rfl Try.func18 (by kernel_rfl) rfl #[.slice A0 l0.length c0, .int .i64 a1] rfl (by (try simp only [List.map_toArray, List.map_cons, List.map_nil]); first | done | rfl | (simp only [List.length_drop, List.length_take]; rfl)) ?_; (with_reducible refine (free_Usable.calls kj2 _ _ l0 a1 t193 _ ?side1 ?side2 A9.out).mono ?_); (case side1 => repeat (first | exact (Kd.C_below HR0.out HB.out) | (with_reducible refine Kd.C_alloc ?_ _) | (with_reducible refine Kd.C_drewN ?_ _) | (with_reducible refine Kd.C_drew ?_))); (case side2 => exact HC0.out); rintro e w11 ⟨rfl, hb⟩; refine ⟨_, rfl, ?_⟩; have n0_ := Aside0.mk (below_step (by repeat (first | (with_reducible first | exact HB.out | apply below_alloc | apply pw_below_drewN | apply below_drew1) | exact HB.out)) hb); clear HB; have HB := n0_; clear n0_; (try clear hb); (try clear hb2); (try clear hk); (try clear hi)) | ((with_reducible refine gate_dst (N := 27) rfl ?_); (try (refine gate_guard (by rfl) ?_; dsimp only)); refine Kd.R_lit k25 _ 25 ?hg (N := 27) ?hd (xs := ([] : List (S25))) (inner := []) (ok := fun _ => True) (okp := fun _ => True) ?hr ?hp (fun _ hk => hk) trivial (Below.refl _ _) (Nat.le_refl _) (by simp) ?_; (case hd => rfl); (case hg => rfl); (case hr => first | (go_simp; done) | (go_simp; rfl)); (case hp => exact (Reps.none _ _)); intro v195 w12 ho13 hb hg_ hnew_; clear hg_ hnew_; (first | rw [← Ny194.out] at ho13 | (simp only [Int.reduceToNat] at ho13; rw [← Ny194.out] at ho13)); have n0_ := Aside0.mk (Kd.R_lower ho13 (below_size (by repeat (first | (with_reducible first | exact HB.out | apply below_alloc | apply pw_below_drewN | apply below_drew1) | exact HB.out)))); have n1_ := Aside0.mk (below_step (by repeat (first | (with_reducible first | exact HB.out | apply below_alloc | apply pw_below_drewN | apply below_drew1) | exact HB.out)) hb); clear HB; have HO196 := n0_; have HB := n1_; clear n0_ n1_; clear hb ho13) | ((with_reducible refine gate_builtin (b := .append) (xs := #[.tmp 27, .tmp 28]) rfl ?_); (try (refine gate_guard (by rfl) ?_; dsimp only)); at_builtin; refine Kd.R_append_rows k25 (w0 := w) w.heap.size rfl (.tmp 27) (.tmp 28) 22 25 (.agg #[(.int .i64 0), (.int .i64 0)]) 16 rfl Try.underlying22 info25 rfl (by decide) (by omega) v195 y194 l0 _ _ _ (fun _ => True) (fun _ => False) rfl rfl ?aO ?aR (fun _ _ h => h) (fun _ h => h.elim) ?aF ?aB ?aS ?aL ?_; (case aR => repeat (first | exact (Kd.C_below HR0.out HB.out) | (with_reducible refine Kd.C_alloc ?_ _) | (with_reducible refine Kd.C_drewN ?_ _) | (with_reducible refine Kd.C_drew ?_))); (case aB => exact (by repeat (first | (with_reducible first | exact HB.out | apply below_alloc | apply pw_below_drewN | apply below_drew1) | exact HB.out))); (case aF => exact (fun _ _ => trivial)); (case aO => exact (by (with_reducible repeat (first | apply Kd.R_alloc | apply Kd.R_drewN | apply Kd.R_drew)); exact HO196.out)); (case aS => exact (below_size (by repeat (first | (with_reducible first | exact HB.out | apply below_alloc | apply pw_below_drewN | apply below_drew1) | exact HB.out)))); (case aL => have := LMc10.out; omega); intro v198 w14 ho hb hg hat; rw [← Ny197.out] at ho; have n0_ := Aside0.mk (hb); have n1_ := Aside0.mk (ho); clear HB; clear HO196; have HB := n0_; have HO199 := n1_; clear n0_ n1_; clear ho hb hg hat))
          go_loopg [6, 7, 8] kj2 (fun kq v6 v7 v8 w' => ∃ (x6_2 : Int) (x7_2 : List (S25)) (x8_2 : Int), v6 = .int .i64 x6_2 ∧ v8 = .int .i64 x8_2 ∧ Aside0 (lunettelaw06_FreeAll.l0 kq l0 a1 t193 x6_2 x7_2 x8_2 = some r) ∧ Aside0 (kq ≤ kj2) ∧ Aside0 (Kd.V k25 25 w' w.heap.size (fun _ => True) v7 x7_2) ∧ Aside0 (Below w.heap.size w w'))
          case atStart => exact ⟨(0), (y197), (0), (by first | rfl | (simp; done) | (simp [*]; done)), (by first | rfl | (simp; done) | (simp [*]; done)), H', ⟨Nat.le_refl _⟩, ⟨Kd.R_V (by (with_reducible repeat (first | apply Kd.R_alloc | apply Kd.R_drewN | apply Kd.R_drew)); exact HO199.out)⟩, ⟨by repeat (first | (with_reducible first | exact HB.out | apply below_alloc | apply pw_below_drewN | apply below_drew1) | exact HB.out)⟩⟩
          case round =>
            clear H'
            try clear c1
            try clear p2
            try clear c4
            try clear c4b0
            try clear c4b1
            try clear c6
            try clear c10
            try clear c11
            try clear p2
            obtain ⟨x6_2, x7_2, x8_2, rfl, rfl, HA, HK2, HO_7, HB⟩ := hrel
            cases gk with
            | zero => exact absurd HA.out (by simp [lunettelaw06_FreeAll.l0])
            | succ k2 =>
              have H := HA.out
              clear HA
              simp only [lunettelaw06_FreeAll.l0] at H
              by_cases c15 : x8_2 < t193
              · rw [if_pos c15] at H
                have c15b0 : decide (x8_2 < t193) = true := decide_eq_true c15
                clear c15
                replace H := Option.bind_eq_some_iff.mp H
                obtain ⟨⟨t200, t201, t204⟩, A160, H⟩ := H
                replace H : (if t204 = true then (if t200 ≤ x6_2 then (none) else (if (t201.length : Int) = (wrap64 ((x7_2.length : Int) - 1)) then (lunettelaw06_FreeAll.l0 k2 l0 a1 t193 t200 t201 (wrap64 (x8_2 + 1))) else (none))) else (none)) = some r := H
                have A16 := Aside0.mk A160
                clear A160
                by_cases c17 : t204 = true
                · subst c17
                  have H1 : (if t200 ≤ x6_2 then (none) else (if (t201.length : Int) = (wrap64 ((x7_2.length : Int) - 1)) then (lunettelaw06_FreeAll.l0 k2 l0 a1 t193 t200 t201 (wrap64 (x8_2 + 1))) else (none))) = some r := by rw [if_pos rfl] at H; exact H
                  clear H
                  have H := H1
                  clear H1
                  by_cases c18 : t200 ≤ x6_2
                  · rw [if_pos c18] at H
                    exact absurd H (by simp)
                  · rw [if_neg c18] at H
                    have c18b0 : decide (t200 ≤ x6_2) = false := decide_eq_false c18
                    clear c18
                    by_cases c19 : (t201.length : Int) = (wrap64 ((x7_2.length : Int) - 1))
                    · rw [if_pos c19] at H
                      have c19b0 : ((t201.length : Int) == (wrap64 ((x7_2.length : Int) - 1))) = true := beq_iff_eq.mpr c19
                      have c19b1 : ((t201.length : Int) != (wrap64 ((x7_2.length : Int) - 1))) = false := bne_eq_false_iff_eq.mpr c19
                      clear c19
                      have H' := Aside0.mk H
                      clear H
                      obtain ⟨Ao20, co20, eo20⟩ := Kd.V_slice HO_7.out
                      subst eo20
                      go_wp2_with (first | ((with_reducible refine gate_callee (f := 14) rfl ?_); refine goesL_ (some 38) rfl rfl Try.func14 (by kernel_rfl) rfl #[.slice Ao20 x7_2.length co20, .int .i64 a1] rfl (by (try simp only [List.map_toArray, List.map_cons, List.map_nil]); first | done | rfl | (simp only [List.length_drop, List.length_take]; rfl)) ?_; (with_reducible refine (free_Take.calls _ _ x7_2 a1 t200 t201 true _ ?side1 ?side2 A16.out).mono ?_); (case side1 => repeat (first | exact (Kd.V_reads' HO_7.out).2.2 | (with_reducible refine Kd.C_alloc ?_ _) | (with_reducible refine Kd.C_drewN ?_ _) | (with_reducible refine Kd.C_drew ?_))); (case side2 => exact (Kd.V_reads' HO_7.out).2.1); rintro e w21 ⟨v202, rfl, ho0, hb⟩; refine ⟨_, rfl, ?_⟩; have n0_ := Aside0.mk (Kd.V_below (by (with_reducible repeat (first | apply Kd.V_alloc | apply Kd.V_drewN | apply Kd.V_drew)); exact HO_7.out) hb); have n1_ := Aside0.mk (Kd.V_lower (Kd.V_mono (ok' := fun k_ => True) ho0 (fun k_ hk_ => trivial)) (below_size (by repeat (first | (with_reducible first | exact HB.out | apply below_alloc | apply pw_below_drewN | apply below_drew1) | exact HB.out)))); have n2_ := Aside0.mk (below_step (by repeat (first | (with_reducible first | exact HB.out | apply below_alloc | apply pw_below_drewN | apply below_drew1) | exact HB.out)) hb); clear HO_7; clear HB; have HO_7 := n0_; have HO203 := n1_; have HB := n2_; clear n0_ n1_ n2_; (try clear hb); (try clear hb2); (try clear hk); (try clear hi); (try clear ho0); obtain ⟨Ao22, co22, eo22⟩ := Kd.V_slice HO203.out; subst eo22))
                      go_roundg k2
                      case measure => have := HJ2.out; have := HK2.out; omega
                      case rel => exact ⟨(t200), (t201), (wrap64 (x8_2 + 1)), (by first | rfl | (simp; done) | (simp [*]; done)), (by first | rfl | (simp; done) | (simp [*]; done)), H', ⟨by have := HJ2.out; have := HK2.out; omega⟩, ⟨by (with_reducible repeat (first | apply Kd.V_alloc | apply Kd.V_drewN | apply Kd.V_drew)); exact HO203.out⟩, ⟨by repeat (first | (with_reducible first | exact HB.out | apply below_alloc | apply pw_below_drewN | apply below_drew1) | exact HB.out)⟩⟩
                    · rw [if_neg c19] at H
                      exact absurd H (by simp)
                · replace c17 := Bool.eq_false_iff.mpr c17
                  subst c17
                  have H1 : (none) = some r := by rw [if_neg (show ¬ (false = true) by decide)] at H; exact H
                  clear H
                  have H := H1
                  clear H1
                  exact absurd H (by simp)
              · rw [if_neg c15] at H
                have c15b0 : decide (x8_2 < t193) = false := decide_eq_false c15
                clear c15
                replace H := Option.bind_eq_some_iff.mp H
                obtain ⟨⟨t205, t206, t209⟩, A230, H⟩ := H
                replace H : ((lunettelaw06_awake.f).bind fun t210 => (if t210 = true then (if t209 = true then (none) else (if t205 = 0 then (if (t206.length : Int) = (wrap64 ((l0.length : Int) - t193)) then ((free_Usable.f k2 t206 a1).bind fun t211 => (some (t211 == 0))) else (none)) else (none))) else (none))) = some r := H
                have A23 := Aside0.mk A230
                clear A230
                replace H := Option.bind_eq_some_iff.mp H
                obtain ⟨t210, A240, H⟩ := H
                replace H : (if t210 = true then (if t209 = true then (none) else (if t205 = 0 then (if (t206.length : Int) = (wrap64 ((l0.length : Int) - t193)) then ((free_Usable.f k2 t206 a1).bind fun t211 => (some (t211 == 0))) else (none)) else (none))) else (none)) = some r := H
                have A24 := Aside0.mk A240
                clear A240
                by_cases c25 : t210 = true
                · subst c25
                  have H1 : (if t209 = true then (none) else (if t205 = 0 then (if (t206.length : Int) = (wrap64 ((l0.length : Int) - t193)) then ((free_Usable.f k2 t206 a1).bind fun t211 => (some (t211 == 0))) else (none)) else (none))) = some r := by rw [if_pos rfl] at H; exact H
                  clear H
                  have H := H1
                  clear H1
                  by_cases c26 : t209 = true
                  · subst c26
                    have H1 : (none) = some r := by rw [if_pos rfl] at H; exact H
                    clear H
                    have H := H1
                    clear H1
                    exact absurd H (by simp)
                  · replace c26 := Bool.eq_false_iff.mpr c26
                    subst c26
                    have H1 : (if t205 = 0 then (if (t206.length : Int) = (wrap64 ((l0.length : Int) - t193)) then ((free_Usable.f k2 t206 a1).bind fun t211 => (some (t211 == 0))) else (none)) else (none)) = some r := by rw [if_neg (show ¬ (false = true) by decide)] at H; exact H
                    clear H
                    have H := H1
                    clear H1
                    by_cases c27 : t205 = 0
                    · rw [if_pos c27] at H
                      have c27b0 : (t205 == 0) = true := beq_iff_eq.mpr c27
                      have c27b1 : (t205 != 0) = false := bne_eq_false_iff_eq.mpr c27
                      clear c27
                      by_cases c28 : (t206.length : Int) = (wrap64 ((l0.length : Int) - t193))
                      · rw [if_pos c28] at H
                        have c28b0 : ((t206.length : Int) == (wrap64 ((l0.length : Int) - t193))) = true := beq_iff_eq.mpr c28
                        have c28b1 : ((t206.length : Int) != (wrap64 ((l0.length : Int) - t193))) = false := bne_eq_false_iff_eq.mpr c28
                        clear c28
                        replace H := Option.bind_eq_some_iff.mp H
                        obtain ⟨t211, A290, H⟩ := H
                        replace H : (some (t211 == 0)) = some r := H
                        have A29 := Aside0.mk A290
                        clear A290
                        obtain rfl := Option.some.inj H
                        obtain ⟨Ao30, co30, eo30⟩ := Kd.V_slice HO_7.out
                        subst eo30
                        go_wp2_with (first | ((with_reducible refine gate_callee (f := 14) rfl ?_); refine goesL_ (some 62) rfl rfl Try.func14 (by kernel_rfl) rfl #[.slice Ao30 x7_2.length co30, .int .i64 a1] rfl (by (try simp only [List.map_toArray, List.map_cons, List.map_nil]); first | done | rfl | (simp only [List.length_drop, List.length_take]; rfl)) ?_; (with_reducible refine (free_Take.calls _ _ x7_2 a1 t205 t206 false _ ?side1 ?side2 A23.out).mono ?_); (case side1 => repeat (first | exact (Kd.V_reads' HO_7.out).2.2 | (with_reducible refine Kd.C_alloc ?_ _) | (with_reducible refine Kd.C_drewN ?_ _) | (with_reducible refine Kd.C_drew ?_))); (case side2 => exact (Kd.V_reads' HO_7.out).2.1); rintro e w31 ⟨v207, rfl, ho0, hb⟩; refine ⟨_, rfl, ?_⟩; have n0_ := Aside0.mk (Kd.V_below (by (with_reducible repeat (first | apply Kd.V_alloc | apply Kd.V_drewN | apply Kd.V_drew)); exact HO_7.out) hb); have n1_ := Aside0.mk (Kd.V_lower (Kd.V_mono (ok' := fun k_ => True) ho0 (fun k_ hk_ => trivial)) (below_size (by repeat (first | (with_reducible first | exact HB.out | apply below_alloc | apply pw_below_drewN | apply below_drew1) | exact HB.out)))); have n2_ := Aside0.mk (below_step (by repeat (first | (with_reducible first | exact HB.out | apply below_alloc | apply pw_below_drewN | apply below_drew1) | exact HB.out)) hb); clear HO_7; clear HB; have HO_7 := n0_; have HO208 := n1_; have HB := n2_; clear n0_ n1_ n2_; (try clear hb); (try clear hb2); (try clear hk); (try clear hi); (try clear ho0)) | ((with_reducible refine gate_callee (f := 11) rfl ?_); refine goesL_ (some 66) rfl rfl Try.func11 (by kernel_rfl) rfl #[] rfl (by (try simp only [List.map_toArray, List.map_cons, List.map_nil]); first | done | rfl | (simp only [List.length_drop, List.length_take]; rfl)) ?_; (with_reducible refine (lunettelaw06_awake.calls  true _ A24.out).mono ?_); rintro e w32 ⟨rfl, hb⟩; refine ⟨_, rfl, ?_⟩; have n0_ := Aside0.mk (Kd.V_below (by (with_reducible repeat (first | apply Kd.V_alloc | apply Kd.V_drewN | apply Kd.V_drew)); exact HO_7.out) hb); have n1_ := Aside0.mk (Kd.V_below (by (with_reducible repeat (first | apply Kd.V_alloc | apply Kd.V_drewN | apply Kd.V_drew)); exact HO208.out) hb); have n2_ := Aside0.mk (below_step (by repeat (first | (with_reducible first | exact HB.out | apply below_alloc | apply pw_below_drewN | apply below_drew1) | exact HB.out)) hb); clear HO_7; clear HO208; clear HB; have HO_7 := n0_; have HO208 := n1_; have HB := n2_; clear n0_ n1_ n2_; (try clear hb); (try clear hb2); (try clear hk); (try clear hi); obtain ⟨Ao33, co33, eo33⟩ := Kd.V_slice HO208.out; subst eo33) | (go_at_call 18; (with_reducible refine (free_Usable.calls k2 _ _ t206 a1 t211 _ ?side1 ?side2 A29.out).mono ?_); (case side1 => repeat (first | exact (Kd.V_reads' HO208.out).2.2 | (with_reducible refine Kd.C_alloc ?_ _) | (with_reducible refine Kd.C_drewN ?_ _) | (with_reducible refine Kd.C_drew ?_))); (case side2 => exact (Kd.V_reads' HO208.out).2.1); rintro e w34 ⟨rfl, hb⟩; have n0_ := Aside0.mk (Kd.V_below (by (with_reducible repeat (first | apply Kd.V_alloc | apply Kd.V_drewN | apply Kd.V_drew)); exact HO_7.out) hb); have n1_ := Aside0.mk (Kd.V_below (by (with_reducible repeat (first | apply Kd.V_alloc | apply Kd.V_drewN | apply Kd.V_drew)); exact HO208.out) hb); have n2_ := Aside0.mk (below_step (by repeat (first | (with_reducible first | exact HB.out | apply below_alloc | apply pw_below_drewN | apply below_drew1) | exact HB.out)) hb); clear HO_7; clear HO208; clear HB; have HO_7 := n0_; have HO208 := n1_; have HB := n2_; clear n0_ n1_ n2_; (try clear hb); (try clear hb2); (try clear hk); (try clear hi)))
                        go_ret
                        exact ⟨by first | rfl | (simp [errW_none, errW_some] <;> rfl) | (simp [*, errW_none, errW_some] <;> rfl), by repeat (first | (with_reducible first | exact HB.out | apply below_alloc | apply pw_below_drewN | apply below_drew1) | exact HB.out)⟩
                      · rw [if_neg c28] at H
                        exact absurd H (by simp)
                    · rw [if_neg c27] at H
                      exact absurd H (by simp)
                · replace c25 := Bool.eq_false_iff.mpr c25
                  subst c25
                  have H1 : (none) = some r := by rw [if_neg (show ¬ (false = true) by decide)] at H; exact H
                  clear H
                  have H := H1
                  clear H1
                  exact absurd H (by simp)
        · rw [if_neg c10] at H
          exact absurd H (by simp)

end Go.Proofs.Ytmplcceghjofhaa.PF
