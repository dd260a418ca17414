-- Written for this claim by hprint.py, a program of this session over the kit's printer; Lean checks it.
import Derived.Test.YtpdlbebiapimoaaPN0
import Derived.Test.YtpdlbebiapimoaaPN11
import Derived.Test.YtpdlbebiapimoaaPN12
import Derived.Test.YtpdlbebiapimoaaPN14
import Derived.Test.YtpdlbebiapimoaaPN15
import Derived.Test.YtpdlbebiapimoaaHFind
namespace Go.Proofs.Ytpdlbebiapimoaa.PN
open Go.RowKit Go.Proofs.YtpdlbebiapimoaaW.PrintWords Go.Proofs.YtpdlbebiapimoaaW.PrintLast Go.Proofs.YtpdlbebiapimoaaW.PrintMore
attribute [local go_sem] max2_int min2_int max_two min_two max_three min_three max_four min_four   -- for this text's walks alone
set_option linter.unusedVariables false
set_option linter.unusedSimpArgs false

/-! ### lunettelaw05_NodePlaces: function 6 -/
mutual
def lunettelaw05_NodePlaces.j0 : Nat → ByteArray → Bool → Bool → List ByteArray → List ByteArray → List Int → Option (Bool)
  | 0, _, _, _, _, _, _ => none
  | k + 1, x1, x25, x309000, x309001, x309002, x309003 => if x25 = true then ((lunettelaw05_awake.f k).bind fun t312 => (some t312)) else ((node_Find.f x309000 x309001 x309002 x309003 x1).bind fun bt313 => (if bt313.1 < 0 then (lunettelaw05_NodePlaces.j1 k x1 bt313.1 bt313.2 true x309000 x309001 x309002 x309003) else (lunettelaw05_NodePlaces.j1 k x1 bt313.1 bt313.2 (decide (bt313.1 > (x309001.length : Int))) x309000 x309001 x309002 x309003)))
def lunettelaw05_NodePlaces.j1 : Nat → ByteArray → Int → Bool → Bool → Bool → List ByteArray → List ByteArray → List Int → Option (Bool)
  | 0, _, _, _, _, _, _, _, _ => none
  | k + 1, x1, x5, x6, x41, x309000, x309001, x309002, x309003 => if x41 = true then (none) else (lunettelaw05_NodePlaces.l0 k x1 x5 x6 0 x309000 x309001 x309002 x309003)
def lunettelaw05_NodePlaces.l0 : Nat → ByteArray → Int → Bool → Int → Bool → List ByteArray → List ByteArray → List Int → Option (Bool)
  | 0, _, _, _, _, _, _, _, _ => none
  | k + 1, x1, x5, x6, x7, x309000, x309001, x309002, x309003 => if x7 < (x309001.length : Int) then (if 0 ≤ x7 then ((lunetteref01_Below.f k (rdOf ByteArray.empty x309001 x7) x1).bind fun t316 => (if t316 = true then (if (true != (decide (x7 < x5))) = true then (none) else (if x6 = true then (lunettelaw05_NodePlaces.l0 k x1 x5 x6 (wrap64 (x7 + 1)) x309000 x309001 x309002 x309003) else (if (rdOf ByteArray.empty x309001 x7).toList = x1.toList then (none) else (lunettelaw05_NodePlaces.l0 k x1 x5 x6 (wrap64 (x7 + 1)) x309000 x309001 x309002 x309003)))) else (if x309000 = true then (if (false != (decide (x7 < x5))) = true then (none) else (if x6 = true then (lunettelaw05_NodePlaces.l0 k x1 x5 x6 (wrap64 (x7 + 1)) x309000 x309001 x309002 x309003) else (if (rdOf ByteArray.empty x309001 x7).toList = x1.toList then (none) else (lunettelaw05_NodePlaces.l0 k x1 x5 x6 (wrap64 (x7 + 1)) x309000 x309001 x309002 x309003)))) else (if (((rdOf ByteArray.empty x309001 x7).toList == x1.toList) != (decide (x7 < x5))) = true then (none) else (if x6 = true then (lunettelaw05_NodePlaces.l0 k x1 x5 x6 (wrap64 (x7 + 1)) x309000 x309001 x309002 x309003) else (if (rdOf ByteArray.empty x309001 x7).toList = x1.toList then (none) else (lunettelaw05_NodePlaces.l0 k x1 x5 x6 (wrap64 (x7 + 1)) x309000 x309001 x309002 x309003))))))) else (none)) else (some true)
end
def lunettelaw05_NodePlaces.f (k : Nat) (a0_0 : Bool) (l0_1 : List ByteArray) (l0_2 : List ByteArray) (l0_3 : List Int) (a1 : ByteArray) : Option (Bool) := (lunettelaw05_awake.f k).bind fun t309 => (if t309 = true then ((lunettelaw05_few.f k a0_0 l0_1 l0_2 l0_3).bind fun t310 => (if t310 = true then ((lunetteref05_Check.f k a0_0 l0_1 l0_2 l0_3).bind fun t311 => (if t311 = 0 then (lunettelaw05_NodePlaces.j0 k a1 (decide ((a1.size : Int) > 300)) a0_0 l0_1 l0_2 l0_3) else (lunettelaw05_NodePlaces.j0 k a1 true a0_0 l0_1 l0_2 l0_3))) else (lunettelaw05_NodePlaces.j0 k a1 true a0_0 l0_1 l0_2 l0_3))) else (none))
theorem lunettelaw05_NodePlaces.mono_l : ∀ k, (∀ y0 y1 y2 y3 y4 y5, LeO (lunettelaw05_NodePlaces.j0 k y0 y1 y2 y3 y4 y5) (lunettelaw05_NodePlaces.j0 (k + 1) y0 y1 y2 y3 y4 y5)) ∧ (∀ y0 y1 y2 y3 y4 y5 y6 y7, LeO (lunettelaw05_NodePlaces.j1 k y0 y1 y2 y3 y4 y5 y6 y7) (lunettelaw05_NodePlaces.j1 (k + 1) y0 y1 y2 y3 y4 y5 y6 y7)) ∧ (∀ y0 y1 y2 y3 y4 y5 y6 y7, LeO (lunettelaw05_NodePlaces.l0 k y0 y1 y2 y3 y4 y5 y6 y7) (lunettelaw05_NodePlaces.l0 (k + 1) y0 y1 y2 y3 y4 y5 y6 y7))
  | 0 => ⟨fun _ _ _ _ _ _ r h => by simp [lunettelaw05_NodePlaces.j0] at h, fun _ _ _ _ _ _ _ _ r h => by simp [lunettelaw05_NodePlaces.j1] at h, fun _ _ _ _ _ _ _ _ r h => by simp [lunettelaw05_NodePlaces.l0] at h⟩
  | k + 1 => by
    obtain ⟨ih0, ih1, ih2⟩ := lunettelaw05_NodePlaces.mono_l k
    refine ⟨?_, ?_, ?_⟩
    · intro y0 y1 y2 y3 y4 y5
      unfold lunettelaw05_NodePlaces.j0
      repeat' first
      | (with_reducible exact ih0 _ _ _ _ _ _)
      | (with_reducible exact ih1 _ _ _ _ _ _ _ _)
      | (with_reducible exact ih2 _ _ _ _ _ _ _ _)
      | (with_reducible exact lunettelaw05_awake.mono _)
      | (with_reducible exact lunettelaw05_few.mono _ _ _ _ _)
      | (with_reducible exact lunetteref01_Below.mono _ _ _)
      | (with_reducible exact lunetteref05_Check.mono _ _ _ _ _)
      | (with_reducible exact LeO.refl _)
      | (with_reducible exact LeO.none _)
      | (with_reducible refine LeO.ite ?_ ?_)
      | (with_reducible refine LeO.bind ?_ (fun _ => ?_))
      | exact ih0 _ _ _ _ _ _
      | exact ih1 _ _ _ _ _ _ _ _
      | exact ih2 _ _ _ _ _ _ _ _
      | exact lunettelaw05_awake.mono _
      | exact lunettelaw05_few.mono _ _ _ _ _
      | exact lunetteref01_Below.mono _ _ _
      | exact lunetteref05_Check.mono _ _ _ _ _
      | exact LeO.none _
      | refine LeO.ite ?_ ?_
      | refine LeO.bind ?_ (fun _ => ?_)
    · intro y0 y1 y2 y3 y4 y5 y6 y7
      unfold lunettelaw05_NodePlaces.j1
      repeat' first
      | (with_reducible exact ih0 _ _ _ _ _ _)
      | (with_reducible exact ih1 _ _ _ _ _ _ _ _)
      | (with_reducible exact ih2 _ _ _ _ _ _ _ _)
      | (with_reducible exact lunettelaw05_awake.mono _)
      | (with_reducible exact lunettelaw05_few.mono _ _ _ _ _)
      | (with_reducible exact lunetteref01_Below.mono _ _ _)
      | (with_reducible exact lunetteref05_Check.mono _ _ _ _ _)
      | (with_reducible exact LeO.refl _)
      | (with_reducible exact LeO.none _)
      | (with_reducible refine LeO.ite ?_ ?_)
      | (with_reducible refine LeO.bind ?_ (fun _ => ?_))
      | exact ih0 _ _ _ _ _ _
      | exact ih1 _ _ _ _ _ _ _ _
      | exact ih2 _ _ _ _ _ _ _ _
      | exact lunettelaw05_awake.mono _
      | exact lunettelaw05_few.mono _ _ _ _ _
      | exact lunetteref01_Below.mono _ _ _
      | exact lunetteref05_Check.mono _ _ _ _ _
      | exact LeO.none _
      | refine LeO.ite ?_ ?_
      | refine LeO.bind ?_ (fun _ => ?_)
    · intro y0 y1 y2 y3 y4 y5 y6 y7
      unfold lunettelaw05_NodePlaces.l0
      repeat' first
      | (with_reducible exact ih0 _ _ _ _ _ _)
      | (with_reducible exact ih1 _ _ _ _ _ _ _ _)
      | (with_reducible exact ih2 _ _ _ _ _ _ _ _)
      | (with_reducible exact lunettelaw05_awake.mono _)
      | (with_reducible exact lunettelaw05_few.mono _ _ _ _ _)
      | (with_reducible exact lunetteref01_Below.mono _ _ _)
      | (with_reducible exact lunetteref05_Check.mono _ _ _ _ _)
      | (with_reducible exact LeO.refl _)
      | (with_reducible exact LeO.none _)
      | (with_reducible refine LeO.ite ?_ ?_)
      | (with_reducible refine LeO.bind ?_ (fun _ => ?_))
      | exact ih0 _ _ _ _ _ _
      | exact ih1 _ _ _ _ _ _ _ _
      | exact ih2 _ _ _ _ _ _ _ _
      | exact lunettelaw05_awake.mono _
      | exact lunettelaw05_few.mono _ _ _ _ _
      | exact lunetteref01_Below.mono _ _ _
      | exact lunetteref05_Check.mono _ _ _ _ _
      | exact LeO.none _
      | refine LeO.ite ?_ ?_
      | refine LeO.bind ?_ (fun _ => ?_)
theorem lunettelaw05_NodePlaces.mono : ∀ a0 a1 a2 a3 a4 k, LeO (lunettelaw05_NodePlaces.f k a0 a1 a2 a3 a4) (lunettelaw05_NodePlaces.f (k + 1) a0 a1 a2 a3 a4) := by
  intro a0 a1 a2 a3 a4 k
  obtain ⟨ih0, ih1, ih2⟩ := lunettelaw05_NodePlaces.mono_l k
  unfold lunettelaw05_NodePlaces.f
  repeat' first
      | (with_reducible exact ih0 _ _ _ _ _ _)
      | (with_reducible exact ih1 _ _ _ _ _ _ _ _)
      | (with_reducible exact ih2 _ _ _ _ _ _ _ _)
      | (with_reducible exact lunettelaw05_awake.mono _)
      | (with_reducible exact lunettelaw05_few.mono _ _ _ _ _)
      | (with_reducible exact lunetteref01_Below.mono _ _ _)
      | (with_reducible exact lunetteref05_Check.mono _ _ _ _ _)
      | (with_reducible exact LeO.refl _)
      | (with_reducible exact LeO.none _)
      | (with_reducible refine LeO.ite ?_ ?_)
      | (with_reducible refine LeO.bind ?_ (fun _ => ?_))
      | exact ih0 _ _ _ _ _ _
      | exact ih1 _ _ _ _ _ _ _ _
      | exact ih2 _ _ _ _ _ _ _ _
      | exact lunettelaw05_awake.mono _
      | exact lunettelaw05_few.mono _ _ _ _ _
      | exact lunetteref01_Below.mono _ _ _
      | exact lunetteref05_Check.mono _ _ _ _ _
      | exact LeO.none _
      | refine LeO.ite ?_ ?_
      | refine LeO.bind ?_ (fun _ => ?_)
set_option maxHeartbeats 8000000 in
set_option maxRecDepth 100000 in
theorem lunettelaw05_NodePlaces.calls (k : Nat) (a0_0 : Bool) (A0_1 : Option Addr) (c0_1 : Nat) (l0_1 : List ByteArray) (A0_2 : Option Addr) (c0_2 : Nat) (l0_2 : List ByteArray) (A0_3 : Option Addr) (c0_3 : Nat) (l0_3 : List Int) (a1 : ByteArray) (r : Bool) (w : World) (hr0_1 : Kd.C Kd.string w A0_1 l0_1.length l0_1) (hc0_1 : l0_1.length ≤ c0_1) (hr0_2 : Kd.C Kd.string w A0_2 l0_2.length l0_2) (hc0_2 : l0_2.length ≤ c0_2) (hr0_3 : Kd.C (Kd.int .i64) w A0_3 l0_3.length l0_3) (hc0_3 : l0_3.length ≤ c0_3) (h : lunettelaw05_NodePlaces.f k a0_0 l0_1 l0_2 l0_3 a1 = some r) :
    Calls Try.prog 6 #[.agg #[.bool a0_0, .slice A0_1 l0_1.length c0_1, .slice A0_2 l0_2.length c0_2, .slice A0_3 l0_3.length c0_3], .string a1] w fun e w' => e = .returned (.bool r) ∧ Below w.heap.size w w' := by
  have hu25 := Try.underlying25
  have HR0_1 := Aside0.mk hr0_1
  have HC0_1 := Aside0.mk hc0_1
  clear hr0_1 hc0_1
  have HR0_2 := Aside0.mk hr0_2
  have HC0_2 := Aside0.mk hc0_2
  clear hr0_2 hc0_2
  have HR0_3 := Aside0.mk hr0_3
  have HC0_3 := Aside0.mk hc0_3
  clear hr0_3 hc0_3
  have HB := Aside0.mk (Below.refl w.heap.size w)
  have H : ((lunettelaw05_awake.f k).bind fun t309 => (if t309 = true then ((lunettelaw05_few.f k a0_0 l0_1 l0_2 l0_3).bind fun t310 => (if t310 = true then ((lunetteref05_Check.f k a0_0 l0_1 l0_2 l0_3).bind fun t311 => (if t311 = 0 then (lunettelaw05_NodePlaces.j0 k a1 (decide ((a1.size : Int) > 300)) a0_0 l0_1 l0_2 l0_3) else (lunettelaw05_NodePlaces.j0 k a1 true a0_0 l0_1 l0_2 l0_3))) else (lunettelaw05_NodePlaces.j0 k a1 true a0_0 l0_1 l0_2 l0_3))) else (none))) = some r := h
  clear h
  have HC3 := Aside0.mk H
  clear H
  go_enter Try.func6, Try.ntmps6
  go_upto_region 1 with (first | ((with_reducible refine gate_dst (N := 2) rfl ?_); (try (refine gate_guard (by rfl) ?_; dsimp only)); refine box_event ?hg (N := 2) ?hd (cs := #[.bool a0_0, .slice A0_1 l0_1.length c0_1, .slice A0_2 l0_2.length c0_2, .slice A0_3 l0_3.length c0_3]) (t := 25) ?hr ?_; (case hd => rfl); (case hg => rfl); (case hr => first | (go_simp; done) | (go_simp; rfl)); intro gb308 hg w4 hbox hb; have n0_ := Aside0.mk (below_step (by repeat (first | (with_reducible first | exact HB.out | apply below_alloc | apply pw_below_drewN | apply below_drew1) | exact HB.out)) hb); have n1_ := Aside0.mk (hbox); have n2_ := Aside0.mk ((by rw [hg]; exact (below_size (by repeat (first | (with_reducible first | exact HB.out | apply below_alloc | apply pw_below_drewN | apply below_drew1) | exact HB.out))) : w.heap.size ≤ gb308)); have n3_ := Aside0.mk ((by rw [hg]; exact (below_size (by repeat (first | (with_reducible first | exact HB.out | apply below_alloc | apply pw_below_drewN | apply below_drew1) | exact HB.out))) : w.heap.size ≤ gb308)); clear HB; have HB := n0_; have BK308 := n1_; have GW308 := n2_; have GE308 := n3_; clear n0_ n1_ n2_ n3_; clear hb hbox hg))
  (try simp only [Act.put, List.setIfInBounds_toArray, List.set_cons_zero, List.set_cons_succ])
  go_cut [25] (fun v25 wc => ∃ (kq : Nat) (x25_2 : Bool), v25 = .bool x25_2 ∧ Aside0 (lunettelaw05_NodePlaces.j0 kq a1 x25_2 a0_0 l0_1 l0_2 l0_3 = some r) ∧ Aside0 (kq ≤ k) ∧ Aside0 (wc.heap[gb308]? = some (.cells #[.bool a0_0, (.slice A0_1 l0_1.length c0_1), (.slice A0_2 l0_2.length c0_2), (.slice A0_3 l0_3.length c0_3)] 25 (0, 0))) ∧ Aside0 (Below w.heap.size w wc))
  case first =>
    have H := HC3.out
    clear HC3
    replace H := Option.bind_eq_some_iff.mp H
    obtain ⟨t309, A50, H⟩ := H
    replace H : (if t309 = true then ((lunettelaw05_few.f k a0_0 l0_1 l0_2 l0_3).bind fun t310 => (if t310 = true then ((lunetteref05_Check.f k a0_0 l0_1 l0_2 l0_3).bind fun t311 => (if t311 = 0 then (lunettelaw05_NodePlaces.j0 k a1 (decide ((a1.size : Int) > 300)) a0_0 l0_1 l0_2 l0_3) else (lunettelaw05_NodePlaces.j0 k a1 true a0_0 l0_1 l0_2 l0_3))) else (lunettelaw05_NodePlaces.j0 k a1 true a0_0 l0_1 l0_2 l0_3))) else (none)) = some r := H
    have A5 := Aside0.mk A50
    clear A50
    by_cases c6 : t309 = true
    · subst c6
      have H1 : ((lunettelaw05_few.f k a0_0 l0_1 l0_2 l0_3).bind fun t310 => (if t310 = true then ((lunetteref05_Check.f k a0_0 l0_1 l0_2 l0_3).bind fun t311 => (if t311 = 0 then (lunettelaw05_NodePlaces.j0 k a1 (decide ((a1.size : Int) > 300)) a0_0 l0_1 l0_2 l0_3) else (lunettelaw05_NodePlaces.j0 k a1 true a0_0 l0_1 l0_2 l0_3))) else (lunettelaw05_NodePlaces.j0 k a1 true a0_0 l0_1 l0_2 l0_3))) = some r := by rw [if_pos rfl] at H; exact H
      clear H
      have H := H1
      clear H1
      replace H := Option.bind_eq_some_iff.mp H
      obtain ⟨t310, A70, H⟩ := H
      replace H : (if t310 = true then ((lunetteref05_Check.f k a0_0 l0_1 l0_2 l0_3).bind fun t311 => (if t311 = 0 then (lunettelaw05_NodePlaces.j0 k a1 (decide ((a1.size : Int) > 300)) a0_0 l0_1 l0_2 l0_3) else (lunettelaw05_NodePlaces.j0 k a1 true a0_0 l0_1 l0_2 l0_3))) else (lunettelaw05_NodePlaces.j0 k a1 true a0_0 l0_1 l0_2 l0_3)) = some r := H
      have A7 := Aside0.mk A70
      clear A70
      by_cases c8 : t310 = true
      · subst c8
        have H1 : ((lunetteref05_Check.f k a0_0 l0_1 l0_2 l0_3).bind fun t311 => (if t311 = 0 then (lunettelaw05_NodePlaces.j0 k a1 (decide ((a1.size : Int) > 300)) a0_0 l0_1 l0_2 l0_3) else (lunettelaw05_NodePlaces.j0 k a1 true a0_0 l0_1 l0_2 l0_3))) = some r := by rw [if_pos rfl] at H; exact H
        clear H
        have H := H1
        clear H1
        replace H := Option.bind_eq_some_iff.mp H
        obtain ⟨t311, A90, H⟩ := H
        replace H : (if t311 = 0 then (lunettelaw05_NodePlaces.j0 k a1 (decide ((a1.size : Int) > 300)) a0_0 l0_1 l0_2 l0_3) else (lunettelaw05_NodePlaces.j0 k a1 true a0_0 l0_1 l0_2 l0_3)) = some r := H
        have A9 := Aside0.mk A90
        clear A90
        by_cases c10 : t311 = 0
        · rw [if_pos c10] at H
          have c10b0 : (t311 == 0) = true := beq_iff_eq.mpr c10
          have c10b1 : (t311 != 0) = false := bne_eq_false_iff_eq.mpr c10
          clear c10
          (first | rw [c10b0] | (simp only [i64_w, i32_w]; rw [c10b0]) | skip)
          have H' := Aside0.mk H
          clear H
          go_wp2_with (first | ((with_reducible refine gate_callee (f := 13) rfl ?_); refine goesL_ (some 9) rfl rfl Try.func13 (by kernel_rfl) rfl #[] rfl (by (try simp only [List.map_toArray, List.map_cons, List.map_nil]); first | done | rfl | (simp only [List.length_drop, List.length_take]; rfl)) ?_; (with_reducible refine (lunettelaw05_awake.calls k  true _ A5.out).mono ?_); rintro e w11 ⟨rfl, hb⟩; refine ⟨_, rfl, ?_⟩; have n0_ := Aside0.mk (blk_below (g := gb308) (o := .cells #[.bool a0_0, .slice A0_1 l0_1.length c0_1, .slice A0_2 l0_2.length c0_2, .slice A0_3 l0_3.length c0_3] 25 (0, 0)) (by (with_reducible repeat (first | refine blk_drewN ?_ _ | refine blk_drew ?_ | refine blk_alloc ?_ _)); exact BK308.out) hb); have n1_ := Aside0.mk (below_step (by repeat (first | (with_reducible first | exact HB.out | apply below_alloc | apply pw_below_drewN | apply below_drew1 | refine below_set ?_ GE308.out) | exact HB.out)) hb); clear BK308; clear HB; have BK308 := n0_; have HB := n1_; clear n0_ n1_; (try clear hb); (try clear hb2); (try clear hk); (try clear hi); have hcz12_0 : w11.cell? ⟨gb308, 0, none⟩ = some (.bool a0_0) := (blk_cell BK308.out 0).trans rfl; have hcz12_1 : w11.cell? ⟨gb308, 1, none⟩ = some (.slice A0_1 l0_1.length c0_1) := (blk_cell BK308.out 1).trans rfl; have hcz12_2 : w11.cell? ⟨gb308, 2, none⟩ = some (.slice A0_2 l0_2.length c0_2) := (blk_cell BK308.out 2).trans rfl; have hcz12_3 : w11.cell? ⟨gb308, 3, none⟩ = some (.slice A0_3 l0_3.length c0_3) := (blk_cell BK308.out 3).trans rfl; have hfz12_0 := blk_frozen BK308.out 0; have hfz12_1 := blk_frozen BK308.out 1; have hfz12_2 := blk_frozen BK308.out 2; have hfz12_3 := blk_frozen BK308.out 3) | (go_at_call 14; (with_reducible refine (lunettelaw05_few.calls k a0_0 _ _ l0_1 _ _ l0_2 _ _ l0_3 true _ ?side1 ?side2 ?side3 ?side4 ?side5 ?side6 A7.out).mono ?_); (case side1 => repeat (first | exact (Kd.C_below HR0_1.out HB.out) | (with_reducible refine Kd.C_alloc ?_ _) | (with_reducible refine Kd.C_drewN ?_ _) | (with_reducible refine Kd.C_drew ?_))); (case side2 => exact HC0_1.out); (case side3 => repeat (first | exact (Kd.C_below HR0_2.out HB.out) | (with_reducible refine Kd.C_alloc ?_ _) | (with_reducible refine Kd.C_drewN ?_ _) | (with_reducible refine Kd.C_drew ?_))); (case side4 => exact HC0_2.out); (case side5 => repeat (first | exact (Kd.C_below HR0_3.out HB.out) | (with_reducible refine Kd.C_alloc ?_ _) | (with_reducible refine Kd.C_drewN ?_ _) | (with_reducible refine Kd.C_drew ?_))); (case side6 => exact HC0_3.out); rintro e w13 ⟨rfl, hb⟩; have n0_ := Aside0.mk (blk_below (g := gb308) (o := .cells #[.bool a0_0, .slice A0_1 l0_1.length c0_1, .slice A0_2 l0_2.length c0_2, .slice A0_3 l0_3.length c0_3] 25 (0, 0)) (by (with_reducible repeat (first | refine blk_drewN ?_ _ | refine blk_drew ?_ | refine blk_alloc ?_ _)); exact BK308.out) hb); have n1_ := Aside0.mk (below_step (by repeat (first | (with_reducible first | exact HB.out | apply below_alloc | apply pw_below_drewN | apply below_drew1 | refine below_set ?_ GE308.out) | exact HB.out)) hb); clear BK308; clear HB; have BK308 := n0_; have HB := n1_; clear n0_ n1_; (try clear hb); (try clear hb2); (try clear hk); (try clear hi); have hcz14_0 : w13.cell? ⟨gb308, 0, none⟩ = some (.bool a0_0) := (blk_cell BK308.out 0).trans rfl; have hcz14_1 : w13.cell? ⟨gb308, 1, none⟩ = some (.slice A0_1 l0_1.length c0_1) := (blk_cell BK308.out 1).trans rfl; have hcz14_2 : w13.cell? ⟨gb308, 2, none⟩ = some (.slice A0_2 l0_2.length c0_2) := (blk_cell BK308.out 2).trans rfl; have hcz14_3 : w13.cell? ⟨gb308, 3, none⟩ = some (.slice A0_3 l0_3.length c0_3) := (blk_cell BK308.out 3).trans rfl; have hfz14_0 := blk_frozen BK308.out 0; have hfz14_1 := blk_frozen BK308.out 1; have hfz14_2 := blk_frozen BK308.out 2; have hfz14_3 := blk_frozen BK308.out 3) | (go_at_call 16; (with_reducible refine (lunetteref05_Check.calls k a0_0 _ _ l0_1 _ _ l0_2 _ _ l0_3 t311 _ ?side1 ?side2 ?side3 ?side4 ?side5 ?side6 A9.out).mono ?_); (case side1 => repeat (first | exact (Kd.C_below HR0_1.out HB.out) | (with_reducible refine Kd.C_alloc ?_ _) | (with_reducible refine Kd.C_drewN ?_ _) | (with_reducible refine Kd.C_drew ?_))); (case side2 => exact HC0_1.out); (case side3 => repeat (first | exact (Kd.C_below HR0_2.out HB.out) | (with_reducible refine Kd.C_alloc ?_ _) | (with_reducible refine Kd.C_drewN ?_ _) | (with_reducible refine Kd.C_drew ?_))); (case side4 => exact HC0_2.out); (case side5 => repeat (first | exact (Kd.C_below HR0_3.out HB.out) | (with_reducible refine Kd.C_alloc ?_ _) | (with_reducible refine Kd.C_drewN ?_ _) | (with_reducible refine Kd.C_drew ?_))); (case side6 => exact HC0_3.out); rintro e w15 ⟨rfl, hb⟩; have n0_ := Aside0.mk (blk_below (g := gb308) (o := .cells #[.bool a0_0, .slice A0_1 l0_1.length c0_1, .slice A0_2 l0_2.length c0_2, .slice A0_3 l0_3.length c0_3] 25 (0, 0)) (by (with_reducible repeat (first | refine blk_drewN ?_ _ | refine blk_drew ?_ | refine blk_alloc ?_ _)); exact BK308.out) hb); have n1_ := Aside0.mk (below_step (by repeat (first | (with_reducible first | exact HB.out | apply below_alloc | apply pw_below_drewN | apply below_drew1 | refine below_set ?_ GE308.out) | exact HB.out)) hb); clear BK308; clear HB; have BK308 := n0_; have HB := n1_; clear n0_ n1_; (try clear hb); (try clear hb2); (try clear hk); (try clear hi)))
          go_meet
          case rel => exact ⟨_, (decide ((a1.size : Int) > 300)), (by first | rfl | (simp; done) | (simp [*]; done)), H', ⟨by first | omega | exact Nat.le_refl _⟩, ⟨by (with_reducible repeat (first | refine blk_drewN ?_ _ | refine blk_drew ?_ | refine blk_alloc ?_ _)); exact BK308.out⟩, ⟨by repeat (first | (with_reducible first | exact HB.out | apply below_alloc | apply pw_below_drewN | apply below_drew1 | refine below_set ?_ GE308.out) | exact HB.out)⟩⟩
        · rw [if_neg c10] at H
          have c10b0 : (t311 == 0) = false := beq_eq_false_iff_ne.mpr c10
          have c10b1 : (t311 != 0) = true := bne_iff_ne.mpr c10
          (first | rw [c10b0] | (simp only [i64_w, i32_w]; rw [c10b0]) | skip)
          have H' := Aside0.mk H
          clear H
          go_wp2_with (first | ((with_reducible refine gate_callee (f := 13) rfl ?_); refine goesL_ (some 9) rfl rfl Try.func13 (by kernel_rfl) rfl #[] rfl (by (try simp only [List.map_toArray, List.map_cons, List.map_nil]); first | done | rfl | (simp only [List.length_drop, List.length_take]; rfl)) ?_; (with_reducible refine (lunettelaw05_awake.calls k  true _ A5.out).mono ?_); rintro e w16 ⟨rfl, hb⟩; refine ⟨_, rfl, ?_⟩; have n0_ := Aside0.mk (blk_below (g := gb308) (o := .cells #[.bool a0_0, .slice A0_1 l0_1.length c0_1, .slice A0_2 l0_2.length c0_2, .slice A0_3 l0_3.length c0_3] 25 (0, 0)) (by (with_reducible repeat (first | refine blk_drewN ?_ _ | refine blk_drew ?_ | refine blk_alloc ?_ _)); exact BK308.out) hb); have n1_ := Aside0.mk (below_step (by repeat (first | (with_reducible first | exact HB.out | apply below_alloc | apply pw_below_drewN | apply below_drew1 | refine below_set ?_ GE308.out) | exact HB.out)) hb); clear BK308; clear HB; have BK308 := n0_; have HB := n1_; clear n0_ n1_; (try clear hb); (try clear hb2); (try clear hk); (try clear hi); have hcz17_0 : w16.cell? ⟨gb308, 0, none⟩ = some (.bool a0_0) := (blk_cell BK308.out 0).trans rfl; have hcz17_1 : w16.cell? ⟨gb308, 1, none⟩ = some (.slice A0_1 l0_1.length c0_1) := (blk_cell BK308.out 1).trans rfl; have hcz17_2 : w16.cell? ⟨gb308, 2, none⟩ = some (.slice A0_2 l0_2.length c0_2) := (blk_cell BK308.out 2).trans rfl; have hcz17_3 : w16.cell? ⟨gb308, 3, none⟩ = some (.slice A0_3 l0_3.length c0_3) := (blk_cell BK308.out 3).trans rfl; have hfz17_0 := blk_frozen BK308.out 0; have hfz17_1 := blk_frozen BK308.out 1; have hfz17_2 := blk_frozen BK308.out 2; have hfz17_3 := blk_frozen BK308.out 3) | (go_at_call 14; (with_reducible refine (lunettelaw05_few.calls k a0_0 _ _ l0_1 _ _ l0_2 _ _ l0_3 true _ ?side1 ?side2 ?side3 ?side4 ?side5 ?side6 A7.out).mono ?_); (case side1 => repeat (first | exact (Kd.C_below HR0_1.out HB.out) | (with_reducible refine Kd.C_alloc ?_ _) | (with_reducible refine Kd.C_drewN ?_ _) | (with_reducible refine Kd.C_drew ?_))); (case side2 => exact HC0_1.out); (case side3 => repeat (first | exact (Kd.C_below HR0_2.out HB.out) | (with_reducible refine Kd.C_alloc ?_ _) | (with_reducible refine Kd.C_drewN ?_ _) | (with_reducible refine Kd.C_drew ?_))); (case side4 => exact HC0_2.out); (case side5 => repeat (first | exact (Kd.C_below HR0_3.out HB.out) | (with_reducible refine Kd.C_alloc ?_ _) | (with_reducible refine Kd.C_drewN ?_ _) | (with_reducible refine Kd.C_drew ?_))); (case side6 => exact HC0_3.out); rintro e w18 ⟨rfl, hb⟩; have n0_ := Aside0.mk (blk_below (g := gb308) (o := .cells #[.bool a0_0, .slice A0_1 l0_1.length c0_1, .slice A0_2 l0_2.length c0_2, .slice A0_3 l0_3.length c0_3] 25 (0, 0)) (by (with_reducible repeat (first | refine blk_drewN ?_ _ | refine blk_drew ?_ | refine blk_alloc ?_ _)); exact BK308.out) hb); have n1_ := Aside0.mk (below_step (by repeat (first | (with_reducible first | exact HB.out | apply below_alloc | apply pw_below_drewN | apply below_drew1 | refine below_set ?_ GE308.out) | exact HB.out)) hb); clear BK308; clear HB; have BK308 := n0_; have HB := n1_; clear n0_ n1_; (try clear hb); (try clear hb2); (try clear hk); (try clear hi); have hcz19_0 : w18.cell? ⟨gb308, 0, none⟩ = some (.bool a0_0) := (blk_cell BK308.out 0).trans rfl; have hcz19_1 : w18.cell? ⟨gb308, 1, none⟩ = some (.slice A0_1 l0_1.length c0_1) := (blk_cell BK308.out 1).trans rfl; have hcz19_2 : w18.cell? ⟨gb308, 2, none⟩ = some (.slice A0_2 l0_2.length c0_2) := (blk_cell BK308.out 2).trans rfl; have hcz19_3 : w18.cell? ⟨gb308, 3, none⟩ = some (.slice A0_3 l0_3.length c0_3) := (blk_cell BK308.out 3).trans rfl; have hfz19_0 := blk_frozen BK308.out 0; have hfz19_1 := blk_frozen BK308.out 1; have hfz19_2 := blk_frozen BK308.out 2; have hfz19_3 := blk_frozen BK308.out 3) | (go_at_call 16; (with_reducible refine (lunetteref05_Check.calls k a0_0 _ _ l0_1 _ _ l0_2 _ _ l0_3 t311 _ ?side1 ?side2 ?side3 ?side4 ?side5 ?side6 A9.out).mono ?_); (case side1 => repeat (first | exact (Kd.C_below HR0_1.out HB.out) | (with_reducible refine Kd.C_alloc ?_ _) | (with_reducible refine Kd.C_drewN ?_ _) | (with_reducible refine Kd.C_drew ?_))); (case side2 => exact HC0_1.out); (case side3 => repeat (first | exact (Kd.C_below HR0_2.out HB.out) | (with_reducible refine Kd.C_alloc ?_ _) | (with_reducible refine Kd.C_drewN ?_ _) | (with_reducible refine Kd.C_drew ?_))); (case side4 => exact HC0_2.out); (case side5 => repeat (first | exact (Kd.C_below HR0_3.out HB.out) | (with_reducible refine Kd.C_alloc ?_ _) | (with_reducible refine Kd.C_drewN ?_ _) | (with_reducible refine Kd.C_drew ?_))); (case side6 => exact HC0_3.out); rintro e w20 ⟨rfl, hb⟩; have n0_ := Aside0.mk (blk_below (g := gb308) (o := .cells #[.bool a0_0, .slice A0_1 l0_1.length c0_1, .slice A0_2 l0_2.length c0_2, .slice A0_3 l0_3.length c0_3] 25 (0, 0)) (by (with_reducible repeat (first | refine blk_drewN ?_ _ | refine blk_drew ?_ | refine blk_alloc ?_ _)); exact BK308.out) hb); have n1_ := Aside0.mk (below_step (by repeat (first | (with_reducible first | exact HB.out | apply below_alloc | apply pw_below_drewN | apply below_drew1 | refine below_set ?_ GE308.out) | exact HB.out)) hb); clear BK308; clear HB; have BK308 := n0_; have HB := n1_; clear n0_ n1_; (try clear hb); (try clear hb2); (try clear hk); (try clear hi)))
          go_meet
          case rel => exact ⟨_, (true), (by first | rfl | (simp; done) | (simp [*]; done)), H', ⟨by first | omega | exact Nat.le_refl _⟩, ⟨by (with_reducible repeat (first | refine blk_drewN ?_ _ | refine blk_drew ?_ | refine blk_alloc ?_ _)); exact BK308.out⟩, ⟨by repeat (first | (with_reducible first | exact HB.out | apply below_alloc | apply pw_below_drewN | apply below_drew1 | refine below_set ?_ GE308.out) | exact HB.out)⟩⟩
      · replace c8 := Bool.eq_false_iff.mpr c8
        subst c8
        have H1 : (lunettelaw05_NodePlaces.j0 k a1 true a0_0 l0_1 l0_2 l0_3) = some r := by rw [if_neg (show ¬ (false = true) by decide)] at H; exact H
        clear H
        have H := H1
        clear H1
        have H' := Aside0.mk H
        clear H
        go_wp2_with (first | ((with_reducible refine gate_callee (f := 13) rfl ?_); refine goesL_ (some 9) rfl rfl Try.func13 (by kernel_rfl) rfl #[] rfl (by (try simp only [List.map_toArray, List.map_cons, List.map_nil]); first | done | rfl | (simp only [List.length_drop, List.length_take]; rfl)) ?_; (with_reducible refine (lunettelaw05_awake.calls k  true _ A5.out).mono ?_); rintro e w21 ⟨rfl, hb⟩; refine ⟨_, rfl, ?_⟩; have n0_ := Aside0.mk (blk_below (g := gb308) (o := .cells #[.bool a0_0, .slice A0_1 l0_1.length c0_1, .slice A0_2 l0_2.length c0_2, .slice A0_3 l0_3.length c0_3] 25 (0, 0)) (by (with_reducible repeat (first | refine blk_drewN ?_ _ | refine blk_drew ?_ | refine blk_alloc ?_ _)); exact BK308.out) hb); have n1_ := Aside0.mk (below_step (by repeat (first | (with_reducible first | exact HB.out | apply below_alloc | apply pw_below_drewN | apply below_drew1 | refine below_set ?_ GE308.out) | exact HB.out)) hb); clear BK308; clear HB; have BK308 := n0_; have HB := n1_; clear n0_ n1_; (try clear hb); (try clear hb2); (try clear hk); (try clear hi); have hcz22_0 : w21.cell? ⟨gb308, 0, none⟩ = some (.bool a0_0) := (blk_cell BK308.out 0).trans rfl; have hcz22_1 : w21.cell? ⟨gb308, 1, none⟩ = some (.slice A0_1 l0_1.length c0_1) := (blk_cell BK308.out 1).trans rfl; have hcz22_2 : w21.cell? ⟨gb308, 2, none⟩ = some (.slice A0_2 l0_2.length c0_2) := (blk_cell BK308.out 2).trans rfl; have hcz22_3 : w21.cell? ⟨gb308, 3, none⟩ = some (.slice A0_3 l0_3.length c0_3) := (blk_cell BK308.out 3).trans rfl; have hfz22_0 := blk_frozen BK308.out 0; have hfz22_1 := blk_frozen BK308.out 1; have hfz22_2 := blk_frozen BK308.out 2; have hfz22_3 := blk_frozen BK308.out 3) | (go_at_call 14; (with_reducible refine (lunettelaw05_few.calls k a0_0 _ _ l0_1 _ _ l0_2 _ _ l0_3 false _ ?side1 ?side2 ?side3 ?side4 ?side5 ?side6 A7.out).mono ?_); (case side1 => repeat (first | exact (Kd.C_below HR0_1.out HB.out) | (with_reducible refine Kd.C_alloc ?_ _) | (with_reducible refine Kd.C_drewN ?_ _) | (with_reducible refine Kd.C_drew ?_))); (case side2 => exact HC0_1.out); (case side3 => repeat (first | exact (Kd.C_below HR0_2.out HB.out) | (with_reducible refine Kd.C_alloc ?_ _) | (with_reducible refine Kd.C_drewN ?_ _) | (with_reducible refine Kd.C_drew ?_))); (case side4 => exact HC0_2.out); (case side5 => repeat (first | exact (Kd.C_below HR0_3.out HB.out) | (with_reducible refine Kd.C_alloc ?_ _) | (with_reducible refine Kd.C_drewN ?_ _) | (with_reducible refine Kd.C_drew ?_))); (case side6 => exact HC0_3.out); rintro e w23 ⟨rfl, hb⟩; have n0_ := Aside0.mk (blk_below (g := gb308) (o := .cells #[.bool a0_0, .slice A0_1 l0_1.length c0_1, .slice A0_2 l0_2.length c0_2, .slice A0_3 l0_3.length c0_3] 25 (0, 0)) (by (with_reducible repeat (first | refine blk_drewN ?_ _ | refine blk_drew ?_ | refine blk_alloc ?_ _)); exact BK308.out) hb); have n1_ := Aside0.mk (below_step (by repeat (first | (with_reducible first | exact HB.out | apply below_alloc | apply pw_below_drewN | apply below_drew1 | refine below_set ?_ GE308.out) | exact HB.out)) hb); clear BK308; clear HB; have BK308 := n0_; have HB := n1_; clear n0_ n1_; (try clear hb); (try clear hb2); (try clear hk); (try clear hi)))
        go_meet
        case rel => exact ⟨_, (true), (by first | rfl | (simp; done) | (simp [*]; done)), H', ⟨by first | omega | exact Nat.le_refl _⟩, ⟨by (with_reducible repeat (first | refine blk_drewN ?_ _ | refine blk_drew ?_ | refine blk_alloc ?_ _)); exact BK308.out⟩, ⟨by repeat (first | (with_reducible first | exact HB.out | apply below_alloc | apply pw_below_drewN | apply below_drew1 | refine below_set ?_ GE308.out) | exact HB.out)⟩⟩
    · replace c6 := Bool.eq_false_iff.mpr c6
      subst c6
      have H1 : (none) = some r := by rw [if_neg (show ¬ (false = true) by decide)] at H; exact H
      clear H
      have H := H1
      clear H1
      exact absurd H (by simp)
  case rest =>
    clear HC3
    try clear c1
    try clear p2
    try clear c6
    try clear c8
    try clear c10
    try clear c10b0
    try clear c10b1
    try clear c13
    try clear hcz12_0
    try clear hcz12_1
    try clear hcz12_2
    try clear hcz12_3
    try clear hcz14_0
    try clear hcz14_1
    try clear hcz14_2
    try clear hcz14_3
    try clear hcz17_0
    try clear hcz17_1
    try clear hcz17_2
    try clear hcz17_3
    try clear hcz19_0
    try clear hcz19_1
    try clear hcz19_2
    try clear hcz19_3
    try clear hcz22_0
    try clear hcz22_1
    try clear hcz22_2
    try clear hcz22_3
    try clear hfz12_0
    try clear hfz12_1
    try clear hfz12_2
    try clear hfz12_3
    try clear hfz14_0
    try clear hfz14_1
    try clear hfz14_2
    try clear hfz14_3
    try clear hfz17_0
    try clear hfz17_1
    try clear hfz17_2
    try clear hfz17_3
    try clear hfz19_0
    try clear hfz19_1
    try clear hfz19_2
    try clear hfz19_3
    try clear hfz22_0
    try clear hfz22_1
    try clear hfz22_2
    try clear hfz22_3
    obtain ⟨kq, x25_2, rfl, HA, HJ2, BK308, HB⟩ := hcut
    cases kq with
    | zero => exact absurd HA.out (by simp [lunettelaw05_NodePlaces.j0])
    | succ kj2 =>
      have H := HA.out
      clear HA
      simp only [lunettelaw05_NodePlaces.j0] at H
      by_cases c24 : x25_2 = true
      · subst c24
        have H1 : ((lunettelaw05_awake.f kj2).bind fun t312 => (some t312)) = some r := by rw [if_pos rfl] at H; exact H
        clear H
        have H := H1
        clear H1
        replace H := Option.bind_eq_some_iff.mp H
        obtain ⟨t312, A250, H⟩ := H
        replace H : (some t312) = some r := H
        have A25 := Aside0.mk A250
        clear A250
        obtain rfl := Option.some.inj H
        go_wp2_with (first | ((with_reducible refine gate_callee (f := 13) rfl ?_); refine goesL_ (some 26) rfl rfl Try.func13 (by kernel_rfl) rfl #[] rfl (by (try simp only [List.map_toArray, List.map_cons, List.map_nil]); first | done | rfl | (simp only [List.length_drop, List.length_take]; rfl)) ?_; (with_reducible refine (lunettelaw05_awake.calls kj2  t312 _ A25.out).mono ?_); rintro e w26 ⟨rfl, hb⟩; refine ⟨_, rfl, ?_⟩; have n0_ := Aside0.mk (blk_below (g := gb308) (o := .cells #[.bool a0_0, .slice A0_1 l0_1.length c0_1, .slice A0_2 l0_2.length c0_2, .slice A0_3 l0_3.length c0_3] 25 (0, 0)) (by (with_reducible repeat (first | refine blk_drewN ?_ _ | refine blk_drew ?_ | refine blk_alloc ?_ _)); exact BK308.out) hb); have n1_ := Aside0.mk (below_step (by repeat (first | (with_reducible first | exact HB.out | apply below_alloc | apply pw_below_drewN | apply below_drew1 | refine below_set ?_ GE308.out) | exact HB.out)) hb); clear BK308; clear HB; have BK308 := n0_; have HB := n1_; clear n0_ n1_; (try clear hb); (try clear hb2); (try clear hk); (try clear hi)))
        go_ret
        exact ⟨by first | rfl | (simp [errW_none, errW_some] <;> rfl) | (simp [*, errW_none, errW_some] <;> rfl), by repeat (first | (with_reducible first | exact HB.out | apply below_alloc | apply pw_below_drewN | apply below_drew1 | refine below_set ?_ GE308.out) | exact HB.out)⟩
      · replace c24 := Bool.eq_false_iff.mpr c24
        subst c24
        have H1 : ((node_Find.f a0_0 l0_1 l0_2 l0_3 a1).bind fun bt313 => (if bt313.1 < 0 then (lunettelaw05_NodePlaces.j1 kj2 a1 bt313.1 bt313.2 true a0_0 l0_1 l0_2 l0_3) else (lunettelaw05_NodePlaces.j1 kj2 a1 bt313.1 bt313.2 (decide (bt313.1 > (l0_1.length : Int))) a0_0 l0_1 l0_2 l0_3))) = some r := by rw [if_neg (show ¬ (false = true) by decide)] at H; exact H
        clear H
        have H := H1
        clear H1
        replace H := Option.bind_eq_some_iff.mp H
        obtain ⟨⟨t313, t314⟩, A270, H⟩ := H
        replace H : (if t313 < 0 then (lunettelaw05_NodePlaces.j1 kj2 a1 t313 t314 true a0_0 l0_1 l0_2 l0_3) else (lunettelaw05_NodePlaces.j1 kj2 a1 t313 t314 (decide (t313 > (l0_1.length : Int))) a0_0 l0_1 l0_2 l0_3)) = some r := H
        have A27 := Aside0.mk A270
        clear A270
        have HC28 := Aside0.mk H
        clear H
        have hcz29_0 : wc.cell? ⟨gb308, 0, none⟩ = some (.bool a0_0) := (blk_cell BK308.out 0).trans rfl
        have hcz29_1 : wc.cell? ⟨gb308, 1, none⟩ = some (.slice A0_1 l0_1.length c0_1) := (blk_cell BK308.out 1).trans rfl
        have hcz29_2 : wc.cell? ⟨gb308, 2, none⟩ = some (.slice A0_2 l0_2.length c0_2) := (blk_cell BK308.out 2).trans rfl
        have hcz29_3 : wc.cell? ⟨gb308, 3, none⟩ = some (.slice A0_3 l0_3.length c0_3) := (blk_cell BK308.out 3).trans rfl
        have hfz29_0 := blk_frozen BK308.out 0
        have hfz29_1 := blk_frozen BK308.out 1
        have hfz29_2 := blk_frozen BK308.out 2
        have hfz29_3 := blk_frozen BK308.out 3
        go_upto_region 4 with (first | ((with_reducible refine gate_callee (f := 24) rfl ?_); refine goesL_ (some 30) rfl rfl Try.func24 (by kernel_rfl) rfl #[.agg #[.bool a0_0, .slice A0_1 l0_1.length c0_1, .slice A0_2 l0_2.length c0_2, .slice A0_3 l0_3.length c0_3], .string a1] rfl (by (try simp only [List.map_toArray, List.map_cons, List.map_nil]); first | done | rfl | (simp only [List.length_drop, List.length_take]; rfl)) ?_; (with_reducible refine (node_Find.calls a0_0 _ _ l0_1 _ _ l0_2 _ _ l0_3 a1 t313 t314 _ ?side1 ?side2 ?side3 ?side4 ?side5 ?side6 A27.out).mono ?_); (case side1 => repeat (first | exact (Kd.C_below HR0_1.out HB.out) | (with_reducible refine Kd.C_alloc ?_ _) | (with_reducible refine Kd.C_drewN ?_ _) | (with_reducible refine Kd.C_drew ?_))); (case side2 => exact HC0_1.out); (case side3 => repeat (first | exact (Kd.C_below HR0_2.out HB.out) | (with_reducible refine Kd.C_alloc ?_ _) | (with_reducible refine Kd.C_drewN ?_ _) | (with_reducible refine Kd.C_drew ?_))); (case side4 => exact HC0_2.out); (case side5 => repeat (first | exact (Kd.C_below HR0_3.out HB.out) | (with_reducible refine Kd.C_alloc ?_ _) | (with_reducible refine Kd.C_drewN ?_ _) | (with_reducible refine Kd.C_drew ?_))); (case side6 => exact HC0_3.out); rintro e w30 ⟨rfl, hb⟩; refine ⟨_, rfl, ?_⟩; have n0_ := Aside0.mk (blk_below (g := gb308) (o := .cells #[.bool a0_0, .slice A0_1 l0_1.length c0_1, .slice A0_2 l0_2.length c0_2, .slice A0_3 l0_3.length c0_3] 25 (0, 0)) (by (with_reducible repeat (first | refine blk_drewN ?_ _ | refine blk_drew ?_ | refine blk_alloc ?_ _)); exact BK308.out) hb); have n1_ := Aside0.mk (below_step (by repeat (first | (with_reducible first | exact HB.out | apply below_alloc | apply pw_below_drewN | apply below_drew1 | refine below_set ?_ GE308.out) | exact HB.out)) hb); clear BK308; clear HB; have BK308 := n0_; have HB := n1_; clear n0_ n1_; (try clear hb); (try clear hb2); (try clear hk); (try clear hi)))
        (try simp only [Act.put, List.setIfInBounds_toArray, List.set_cons_zero, List.set_cons_succ])
        go_cut [41] (fun v41 wc => ∃ (kq : Nat) (x41_27 : Bool), v41 = .bool x41_27 ∧ Aside0 (lunettelaw05_NodePlaces.j1 kq a1 t313 t314 x41_27 a0_0 l0_1 l0_2 l0_3 = some r) ∧ Aside0 (kq ≤ kj2) ∧ Aside0 (wc.heap[gb308]? = some (.cells #[.bool a0_0, (.slice A0_1 l0_1.length c0_1), (.slice A0_2 l0_2.length c0_2), (.slice A0_3 l0_3.length c0_3)] 25 (0, 0))) ∧ Aside0 (Below w.heap.size w wc))
        case first =>
          have H := HC28.out
          clear HC28
          by_cases c31 : t313 < 0
          · rw [if_pos c31] at H
            have c31b0 : decide (t313 < 0) = true := decide_eq_true c31
            clear c31
            (first | rw [c31b0] | (simp only [i64_w, i32_w]; rw [c31b0]) | skip)
            have H' := Aside0.mk H
            clear H
            go_wp2
            go_meet
            case rel => exact ⟨_, (true), (by first | rfl | (simp; done) | (simp [*]; done)), H', ⟨by have := HJ2.out; first | omega | exact Nat.le_refl _⟩, ⟨by (with_reducible repeat (first | refine blk_drewN ?_ _ | refine blk_drew ?_ | refine blk_alloc ?_ _)); exact BK308.out⟩, ⟨by repeat (first | (with_reducible first | exact HB.out | apply below_alloc | apply pw_below_drewN | apply below_drew1 | refine below_set ?_ GE308.out) | exact HB.out)⟩⟩
          · rw [if_neg c31] at H
            have c31b0 : decide (t313 < 0) = false := decide_eq_false c31
            clear c31
            (first | rw [c31b0] | (simp only [i64_w, i32_w]; rw [c31b0]) | skip)
            have H' := Aside0.mk H
            clear H
            have hcz32_0 : w30.cell? ⟨gb308, 0, none⟩ = some (.bool a0_0) := (blk_cell BK308.out 0).trans rfl
            have hcz32_1 : w30.cell? ⟨gb308, 1, none⟩ = some (.slice A0_1 l0_1.length c0_1) := (blk_cell BK308.out 1).trans rfl
            have hcz32_2 : w30.cell? ⟨gb308, 2, none⟩ = some (.slice A0_2 l0_2.length c0_2) := (blk_cell BK308.out 2).trans rfl
            have hcz32_3 : w30.cell? ⟨gb308, 3, none⟩ = some (.slice A0_3 l0_3.length c0_3) := (blk_cell BK308.out 3).trans rfl
            have hfz32_0 := blk_frozen BK308.out 0
            have hfz32_1 := blk_frozen BK308.out 1
            have hfz32_2 := blk_frozen BK308.out 2
            have hfz32_3 := blk_frozen BK308.out 3
            go_wp2
            go_meet
            case rel => exact ⟨_, (decide (t313 > (l0_1.length : Int))), (by first | rfl | (simp; done) | (simp [*]; done)), H', ⟨by have := HJ2.out; first | omega | exact Nat.le_refl _⟩, ⟨by (with_reducible repeat (first | refine blk_drewN ?_ _ | refine blk_drew ?_ | refine blk_alloc ?_ _)); exact BK308.out⟩, ⟨by repeat (first | (with_reducible first | exact HB.out | apply below_alloc | apply pw_below_drewN | apply below_drew1 | refine below_set ?_ GE308.out) | exact HB.out)⟩⟩
        case rest =>
          clear HC28
          try clear c1
          try clear c2
          try clear p2
          try clear c3
          try clear c6
          try clear c8
          try clear c10
          try clear c10b0
          try clear c10b1
          try clear c13
          try clear c24
          try clear c31
          try clear c31b0
          try clear hcz12_0
          try clear hcz12_1
          try clear hcz12_2
          try clear hcz12_3
          try clear hcz14_0
          try clear hcz14_1
          try clear hcz14_2
          try clear hcz14_3
          try clear hcz17_0
          try clear hcz17_1
          try clear hcz17_2
          try clear hcz17_3
          try clear hcz19_0
          try clear hcz19_1
          try clear hcz19_2
          try clear hcz19_3
          try clear hcz22_0
          try clear hcz22_1
          try clear hcz22_2
          try clear hcz22_3
          try clear hcz29_0
          try clear hcz29_1
          try clear hcz29_2
          try clear hcz29_3
          try clear hcz32_0
          try clear hcz32_1
          try clear hcz32_2
          try clear hcz32_3
          try clear hfz12_0
          try clear hfz12_1
          try clear hfz12_2
          try clear hfz12_3
          try clear hfz14_0
          try clear hfz14_1
          try clear hfz14_2
          try clear hfz14_3
          try clear hfz17_0
          try clear hfz17_1
          try clear hfz17_2
          try clear hfz17_3
          try clear hfz19_0
          try clear hfz19_1
          try clear hfz19_2
          try clear hfz19_3
          try clear hfz22_0
          try clear hfz22_1
          try clear hfz22_2
          try clear hfz22_3
          try clear hfz29_0
          try clear hfz29_1
          try clear hfz29_2
          try clear hfz29_3
          try clear hfz32_0
          try clear hfz32_1
          try clear hfz32_2
          try clear hfz32_3
          try clear p2
          obtain ⟨kq, x41_27, rfl, HA, HJ27, BK308, HB⟩ := hcut
          cases kq with
          | zero => exact absurd HA.out (by simp [lunettelaw05_NodePlaces.j1])
          | succ kj27 =>
            have H := HA.out
            clear HA
            simp only [lunettelaw05_NodePlaces.j1] at H
            by_cases c33 : x41_27 = true
            · subst c33
              have H1 : (none) = some r := by rw [if_pos rfl] at H; exact H
              clear H
              have H := H1
              clear H1
              exact absurd H (by simp)
            · replace c33 := Bool.eq_false_iff.mpr c33
              subst c33
              have H1 : (lunettelaw05_NodePlaces.l0 kj27 a1 t313 t314 0 a0_0 l0_1 l0_2 l0_3) = some r := by rw [if_neg (show ¬ (false = true) by decide)] at H; exact H
              clear H
              have H := H1
              clear H1
              have H' := Aside0.mk H
              clear H
              go_wp2
              go_loopg [7] kj27 (fun kq v7 w' => ∃ (x7_3 : Int), v7 = .int .i64 x7_3 ∧ Aside0 (lunettelaw05_NodePlaces.l0 kq a1 t313 t314 x7_3 a0_0 l0_1 l0_2 l0_3 = some r) ∧ Aside0 (kq ≤ kj27) ∧ Aside0 (w'.heap[gb308]? = some (.cells #[.bool a0_0, (.slice A0_1 l0_1.length c0_1), (.slice A0_2 l0_2.length c0_2), (.slice A0_3 l0_3.length c0_3)] 25 (0, 0))) ∧ Aside0 (Below w.heap.size w w'))
              case atStart => exact ⟨(0), (by first | rfl | (simp; done) | (simp [*]; done)), H', ⟨Nat.le_refl _⟩, ⟨by (with_reducible repeat (first | refine blk_drewN ?_ _ | refine blk_drew ?_ | refine blk_alloc ?_ _)); exact BK308.out⟩, ⟨by repeat (first | (with_reducible first | exact HB.out | apply below_alloc | apply pw_below_drewN | apply below_drew1 | refine below_set ?_ GE308.out) | exact HB.out)⟩⟩
              case round =>
                clear H'
                try clear c1
                try clear c2
                try clear p2
                try clear c3
                try clear c6
                try clear c8
                try clear c10
                try clear c10b0
                try clear c10b1
                try clear c13
                try clear c24
                try clear c31
                try clear c31b0
                try clear c33
                try clear hcz12_0
                try clear hcz12_1
                try clear hcz12_2
                try clear hcz12_3
                try clear hcz14_0
                try clear hcz14_1
                try clear hcz14_2
                try clear hcz14_3
                try clear hcz17_0
                try clear hcz17_1
                try clear hcz17_2
                try clear hcz17_3
                try clear hcz19_0
                try clear hcz19_1
                try clear hcz19_2
                try clear hcz19_3
                try clear hcz22_0
                try clear hcz22_1
                try clear hcz22_2
                try clear hcz22_3
                try clear hcz29_0
                try clear hcz29_1
                try clear hcz29_2
                try clear hcz29_3
                try clear hcz32_0
                try clear hcz32_1
                try clear hcz32_2
                try clear hcz32_3
                try clear hfz12_0
                try clear hfz12_1
                try clear hfz12_2
                try clear hfz12_3
                try clear hfz14_0
                try clear hfz14_1
                try clear hfz14_2
                try clear hfz14_3
                try clear hfz17_0
                try clear hfz17_1
                try clear hfz17_2
                try clear hfz17_3
                try clear hfz19_0
                try clear hfz19_1
                try clear hfz19_2
                try clear hfz19_3
                try clear hfz22_0
                try clear hfz22_1
                try clear hfz22_2
                try clear hfz22_3
                try clear hfz29_0
                try clear hfz29_1
                try clear hfz29_2
                try clear hfz29_3
                try clear hfz32_0
                try clear hfz32_1
                try clear hfz32_2
                try clear hfz32_3
                try clear p2
                obtain ⟨x7_3, rfl, HA, HK3, BK308, HB⟩ := hrel
                cases gk with
                | zero => exact absurd HA.out (by simp [lunettelaw05_NodePlaces.l0])
                | succ k3 =>
                  have H := HA.out
                  clear HA
                  simp only [lunettelaw05_NodePlaces.l0] at H
                  by_cases c34 : x7_3 < (l0_1.length : Int)
                  · rw [if_pos c34] at H
                    have c34b0 : decide (x7_3 < (l0_1.length : Int)) = true := decide_eq_true c34
                    clear c34
                    by_cases c35 : 0 ≤ x7_3
                    · rw [if_pos c35] at H
                      have c35b0 : decide (0 ≤ x7_3) = true := decide_eq_true c35
                      clear c35
                      replace H := Option.bind_eq_some_iff.mp H
                      obtain ⟨t316, A360, H⟩ := H
                      replace H : (if t316 = true then (if (true != (decide (x7_3 < t313))) = true then (none) else (if t314 = true then (lunettelaw05_NodePlaces.l0 k3 a1 t313 t314 (wrap64 (x7_3 + 1)) a0_0 l0_1 l0_2 l0_3) else (if (rdOf ByteArray.empty l0_1 x7_3).toList = a1.toList then (none) else (lunettelaw05_NodePlaces.l0 k3 a1 t313 t314 (wrap64 (x7_3 + 1)) a0_0 l0_1 l0_2 l0_3)))) else (if a0_0 = true then (if (false != (decide (x7_3 < t313))) = true then (none) else (if t314 = true then (lunettelaw05_NodePlaces.l0 k3 a1 t313 t314 (wrap64 (x7_3 + 1)) a0_0 l0_1 l0_2 l0_3) else (if (rdOf ByteArray.empty l0_1 x7_3).toList = a1.toList then (none) else (lunettelaw05_NodePlaces.l0 k3 a1 t313 t314 (wrap64 (x7_3 + 1)) a0_0 l0_1 l0_2 l0_3)))) else (if (((rdOf ByteArray.empty l0_1 x7_3).toList == a1.toList) != (decide (x7_3 < t313))) = true then (none) else (if t314 = true then (lunettelaw05_NodePlaces.l0 k3 a1 t313 t314 (wrap64 (x7_3 + 1)) a0_0 l0_1 l0_2 l0_3) else (if (rdOf ByteArray.empty l0_1 x7_3).toList = a1.toList then (none) else (lunettelaw05_NodePlaces.l0 k3 a1 t313 t314 (wrap64 (x7_3 + 1)) a0_0 l0_1 l0_2 l0_3)))))) = some r := H
                      have A36 := Aside0.mk A360
                      clear A360
                      by_cases c37 : t316 = true
                      · subst c37
                        have H1 : (if (true != (decide (x7_3 < t313))) = true then (none) else (if t314 = true then (lunettelaw05_NodePlaces.l0 k3 a1 t313 t314 (wrap64 (x7_3 + 1)) a0_0 l0_1 l0_2 l0_3) else (if (rdOf ByteArray.empty l0_1 x7_3).toList = a1.toList then (none) else (lunettelaw05_NodePlaces.l0 k3 a1 t313 t314 (wrap64 (x7_3 + 1)) a0_0 l0_1 l0_2 l0_3)))) = some r := by rw [if_pos rfl] at H; exact H
                        clear H
                        have H := H1
                        clear H1
                        by_cases c38 : (true != (decide (x7_3 < t313))) = true
                        · rw [if_pos c38] at H
                          exact absurd H (by simp)
                        · rw [if_neg c38] at H
                          have c38b0 : (true != (decide (x7_3 < t313))) = false := by simpa using c38
                          (try (have c38b1 : decide (true = (decide (x7_3 < t313))) = true := by simpa using c38))
                          (try (have c38b2 : (true == (decide (x7_3 < t313))) = true := by simpa using c38))
                          clear c38
                          by_cases c39 : t314 = true
                          · subst c39
                            have H1 : (lunettelaw05_NodePlaces.l0 k3 a1 t313 true (wrap64 (x7_3 + 1)) a0_0 l0_1 l0_2 l0_3) = some r := by rw [if_pos rfl] at H; exact H
                            clear H
                            have H := H1
                            clear H1
                            have H' := Aside0.mk H
                            clear H
                            have hcz40_0 : wr.cell? ⟨gb308, 0, none⟩ = some (.bool a0_0) := (blk_cell BK308.out 0).trans rfl
                            have hcz40_1 : wr.cell? ⟨gb308, 1, none⟩ = some (.slice A0_1 l0_1.length c0_1) := (blk_cell BK308.out 1).trans rfl
                            have hcz40_2 : wr.cell? ⟨gb308, 2, none⟩ = some (.slice A0_2 l0_2.length c0_2) := (blk_cell BK308.out 2).trans rfl
                            have hcz40_3 : wr.cell? ⟨gb308, 3, none⟩ = some (.slice A0_3 l0_3.length c0_3) := (blk_cell BK308.out 3).trans rfl
                            have hfz40_0 := blk_frozen BK308.out 0
                            have hfz40_1 := blk_frozen BK308.out 1
                            have hfz40_2 := blk_frozen BK308.out 2
                            have hfz40_3 := blk_frozen BK308.out 3
                            have p315 : 0 ≤ (x7_3 : Int) := of_decide_eq_true (by first | (with_reducible assumption) | assumption)
                            have q315 : x7_3 < (l0_1.length : Int) := of_decide_eq_true (by first | (with_reducible assumption) | assumption)
                            obtain ⟨ad315, e315, hx315_0⟩ := Kd.at_string HR0_1.out x7_3 p315 q315
                            cases e315
                            replace hx315_0 := (HB.out.cell (World.block_lt_of_cell? w _ hx315_0)).trans hx315_0
                            replace p315 := eq_true p315
                            replace q315 := eq_true q315
                            go_wp2_with (first | ((with_reducible refine gate_callee (f := 25) rfl ?_); refine goesL_ (some 55) rfl rfl Try.func25 (by kernel_rfl) rfl #[.string (rdOf ByteArray.empty l0_1 x7_3), .string a1] rfl (by (try simp only [List.map_toArray, List.map_cons, List.map_nil]); first | done | rfl | (simp only [List.length_drop, List.length_take]; rfl)) ?_; (with_reducible refine (lunetteref01_Below.calls k3 (rdOf ByteArray.empty l0_1 x7_3) a1 true _ A36.out).mono ?_); rintro e w' ⟨rfl, ⟨nd, rfl⟩⟩; refine ⟨_, rfl, ?_⟩))
                            go_roundg k3
                            case measure => have := HJ2.out; have := HJ27.out; have := HK3.out; omega
                            case rel => exact ⟨(wrap64 (x7_3 + 1)), (by first | rfl | (simp; done) | (simp [*]; done)), H', ⟨by have := HJ2.out; have := HJ27.out; have := HK3.out; omega⟩, ⟨by (with_reducible repeat (first | refine blk_drewN ?_ _ | refine blk_drew ?_ | refine blk_alloc ?_ _)); exact BK308.out⟩, ⟨by repeat (first | (with_reducible first | exact HB.out | apply below_alloc | apply pw_below_drewN | apply below_drew1 | refine below_set ?_ GE308.out) | exact HB.out)⟩⟩
                          · replace c39 := Bool.eq_false_iff.mpr c39
                            subst c39
                            have H1 : (if (rdOf ByteArray.empty l0_1 x7_3).toList = a1.toList then (none) else (lunettelaw05_NodePlaces.l0 k3 a1 t313 false (wrap64 (x7_3 + 1)) a0_0 l0_1 l0_2 l0_3)) = some r := by rw [if_neg (show ¬ (false = true) by decide)] at H; exact H
                            clear H
                            have H := H1
                            clear H1
                            by_cases c41 : (rdOf ByteArray.empty l0_1 x7_3).toList = a1.toList
                            · rw [if_pos c41] at H
                              exact absurd H (by simp)
                            · rw [if_neg c41] at H
                              have c41b0 : ((rdOf ByteArray.empty l0_1 x7_3).toList == a1.toList) = false := beq_eq_false_iff_ne.mpr c41
                              have c41b1 : ((rdOf ByteArray.empty l0_1 x7_3).toList != a1.toList) = true := bne_iff_ne.mpr c41
                              have H' := Aside0.mk H
                              clear H
                              have hcz42_0 : wr.cell? ⟨gb308, 0, none⟩ = some (.bool a0_0) := (blk_cell BK308.out 0).trans rfl
                              have hcz42_1 : wr.cell? ⟨gb308, 1, none⟩ = some (.slice A0_1 l0_1.length c0_1) := (blk_cell BK308.out 1).trans rfl
                              have hcz42_2 : wr.cell? ⟨gb308, 2, none⟩ = some (.slice A0_2 l0_2.length c0_2) := (blk_cell BK308.out 2).trans rfl
                              have hcz42_3 : wr.cell? ⟨gb308, 3, none⟩ = some (.slice A0_3 l0_3.length c0_3) := (blk_cell BK308.out 3).trans rfl
                              have hfz42_0 := blk_frozen BK308.out 0
                              have hfz42_1 := blk_frozen BK308.out 1
                              have hfz42_2 := blk_frozen BK308.out 2
                              have hfz42_3 := blk_frozen BK308.out 3
                              have p315 : 0 ≤ (x7_3 : Int) := of_decide_eq_true (by first | (with_reducible assumption) | assumption)
                              have q315 : x7_3 < (l0_1.length : Int) := of_decide_eq_true (by first | (with_reducible assumption) | assumption)
                              obtain ⟨ad315, e315, hx315_0⟩ := Kd.at_string HR0_1.out x7_3 p315 q315
                              cases e315
                              replace hx315_0 := (HB.out.cell (World.block_lt_of_cell? w _ hx315_0)).trans hx315_0
                              replace p315 := eq_true p315
                              replace q315 := eq_true q315
                              go_wp2_with (first | ((with_reducible refine gate_callee (f := 25) rfl ?_); refine goesL_ (some 55) rfl rfl Try.func25 (by kernel_rfl) rfl #[.string (rdOf ByteArray.empty l0_1 x7_3), .string a1] rfl (by (try simp only [List.map_toArray, List.map_cons, List.map_nil]); first | done | rfl | (simp only [List.length_drop, List.length_take]; rfl)) ?_; (with_reducible refine (lunetteref01_Below.calls k3 (rdOf ByteArray.empty l0_1 x7_3) a1 true _ A36.out).mono ?_); rintro e w' ⟨rfl, ⟨nd, rfl⟩⟩; refine ⟨_, rfl, ?_⟩; have p317 : 0 ≤ (x7_3 : Int) := of_decide_eq_true (by first | (with_reducible assumption) | assumption); have q317 : x7_3 < (l0_1.length : Int) := of_decide_eq_true (by first | (with_reducible assumption) | assumption); obtain ⟨ad317, e317, hx317_0⟩ := Kd.at_string HR0_1.out x7_3 p317 q317; obtain rfl : ad315 = ad317 := (by injection e317); replace hx317_0 := (HB.out.cell (World.block_lt_of_cell? w _ hx317_0)).trans hx317_0; replace p317 := eq_true p317; replace q317 := eq_true q317))
                              go_roundg k3
                              case measure => have := HJ2.out; have := HJ27.out; have := HK3.out; omega
                              case rel => exact ⟨(wrap64 (x7_3 + 1)), (by first | rfl | (simp; done) | (simp [*]; done)), H', ⟨by have := HJ2.out; have := HJ27.out; have := HK3.out; omega⟩, ⟨by (with_reducible repeat (first | refine blk_drewN ?_ _ | refine blk_drew ?_ | refine blk_alloc ?_ _)); exact BK308.out⟩, ⟨by repeat (first | (with_reducible first | exact HB.out | apply below_alloc | apply pw_below_drewN | apply below_drew1 | refine below_set ?_ GE308.out) | exact HB.out)⟩⟩
                      · replace c37 := Bool.eq_false_iff.mpr c37
                        subst c37
                        have H1 : (if a0_0 = true then (if (false != (decide (x7_3 < t313))) = true then (none) else (if t314 = true then (lunettelaw05_NodePlaces.l0 k3 a1 t313 t314 (wrap64 (x7_3 + 1)) a0_0 l0_1 l0_2 l0_3) else (if (rdOf ByteArray.empty l0_1 x7_3).toList = a1.toList then (none) else (lunettelaw05_NodePlaces.l0 k3 a1 t313 t314 (wrap64 (x7_3 + 1)) a0_0 l0_1 l0_2 l0_3)))) else (if (((rdOf ByteArray.empty l0_1 x7_3).toList == a1.toList) != (decide (x7_3 < t313))) = true then (none) else (if t314 = true then (lunettelaw05_NodePlaces.l0 k3 a1 t313 t314 (wrap64 (x7_3 + 1)) a0_0 l0_1 l0_2 l0_3) else (if (rdOf ByteArray.empty l0_1 x7_3).toList = a1.toList then (none) else (lunettelaw05_NodePlaces.l0 k3 a1 t313 t314 (wrap64 (x7_3 + 1)) a0_0 l0_1 l0_2 l0_3))))) = some r := by rw [if_neg (show ¬ (false = true) by decide)] at H; exact H
                        clear H
                        have H := H1
                        clear H1
                        by_cases c43 : a0_0 = true
                        · subst c43
                          have H1 : (if (false != (decide (x7_3 < t313))) = true then (none) else (if t314 = true then (lunettelaw05_NodePlaces.l0 k3 a1 t313 t314 (wrap64 (x7_3 + 1)) true l0_1 l0_2 l0_3) else (if (rdOf ByteArray.empty l0_1 x7_3).toList = a1.toList then (none) else (lunettelaw05_NodePlaces.l0 k3 a1 t313 t314 (wrap64 (x7_3 + 1)) true l0_1 l0_2 l0_3)))) = some r := by rw [if_pos rfl] at H; exact H
                          clear H
                          have H := H1
                          clear H1
                          by_cases c44 : (false != (decide (x7_3 < t313))) = true
                          · rw [if_pos c44] at H
                            exact absurd H (by simp)
                          · rw [if_neg c44] at H
                            have c44b0 : (false != (decide (x7_3 < t313))) = false := by simpa using c44
                            (try (have c44b1 : decide (false = (decide (x7_3 < t313))) = true := by simpa using c44))
                            (try (have c44b2 : (false == (decide (x7_3 < t313))) = true := by simpa using c44))
                            clear c44
                            by_cases c45 : t314 = true
                            · subst c45
                              have H1 : (lunettelaw05_NodePlaces.l0 k3 a1 t313 true (wrap64 (x7_3 + 1)) true l0_1 l0_2 l0_3) = some r := by rw [if_pos rfl] at H; exact H
                              clear H
                              have H := H1
                              clear H1
                              have H' := Aside0.mk H
                              clear H
                              have hcz46_0 : wr.cell? ⟨gb308, 0, none⟩ = some (.bool true) := (blk_cell BK308.out 0).trans rfl
                              have hcz46_1 : wr.cell? ⟨gb308, 1, none⟩ = some (.slice A0_1 l0_1.length c0_1) := (blk_cell BK308.out 1).trans rfl
                              have hcz46_2 : wr.cell? ⟨gb308, 2, none⟩ = some (.slice A0_2 l0_2.length c0_2) := (blk_cell BK308.out 2).trans rfl
                              have hcz46_3 : wr.cell? ⟨gb308, 3, none⟩ = some (.slice A0_3 l0_3.length c0_3) := (blk_cell BK308.out 3).trans rfl
                              have hfz46_0 := blk_frozen BK308.out 0
                              have hfz46_1 := blk_frozen BK308.out 1
                              have hfz46_2 := blk_frozen BK308.out 2
                              have hfz46_3 := blk_frozen BK308.out 3
                              have p315 : 0 ≤ (x7_3 : Int) := of_decide_eq_true (by first | (with_reducible assumption) | assumption)
                              have q315 : x7_3 < (l0_1.length : Int) := of_decide_eq_true (by first | (with_reducible assumption) | assumption)
                              obtain ⟨ad315, e315, hx315_0⟩ := Kd.at_string HR0_1.out x7_3 p315 q315
                              cases e315
                              replace hx315_0 := (HB.out.cell (World.block_lt_of_cell? w _ hx315_0)).trans hx315_0
                              replace p315 := eq_true p315
                              replace q315 := eq_true q315
                              go_wp2_with (first | ((with_reducible refine gate_callee (f := 25) rfl ?_); refine goesL_ (some 55) rfl rfl Try.func25 (by kernel_rfl) rfl #[.string (rdOf ByteArray.empty l0_1 x7_3), .string a1] rfl (by (try simp only [List.map_toArray, List.map_cons, List.map_nil]); first | done | rfl | (simp only [List.length_drop, List.length_take]; rfl)) ?_; (with_reducible refine (lunetteref01_Below.calls k3 (rdOf ByteArray.empty l0_1 x7_3) a1 false _ A36.out).mono ?_); rintro e w' ⟨rfl, ⟨nd, rfl⟩⟩; refine ⟨_, rfl, ?_⟩))
                              go_roundg k3
                              case measure => have := HJ2.out; have := HJ27.out; have := HK3.out; omega
                              case rel => exact ⟨(wrap64 (x7_3 + 1)), (by first | rfl | (simp; done) | (simp [*]; done)), H', ⟨by have := HJ2.out; have := HJ27.out; have := HK3.out; omega⟩, ⟨by (with_reducible repeat (first | refine blk_drewN ?_ _ | refine blk_drew ?_ | refine blk_alloc ?_ _)); exact BK308.out⟩, ⟨by repeat (first | (with_reducible first | exact HB.out | apply below_alloc | apply pw_below_drewN | apply below_drew1 | refine below_set ?_ GE308.out) | exact HB.out)⟩⟩
                            · replace c45 := Bool.eq_false_iff.mpr c45
                              subst c45
                              have H1 : (if (rdOf ByteArray.empty l0_1 x7_3).toList = a1.toList then (none) else (lunettelaw05_NodePlaces.l0 k3 a1 t313 false (wrap64 (x7_3 + 1)) true l0_1 l0_2 l0_3)) = some r := by rw [if_neg (show ¬ (false = true) by decide)] at H; exact H
                              clear H
                              have H := H1
                              clear H1
                              by_cases c47 : (rdOf ByteArray.empty l0_1 x7_3).toList = a1.toList
                              · rw [if_pos c47] at H
                                exact absurd H (by simp)
                              · rw [if_neg c47] at H
                                have c47b0 : ((rdOf ByteArray.empty l0_1 x7_3).toList == a1.toList) = false := beq_eq_false_iff_ne.mpr c47
                                have c47b1 : ((rdOf ByteArray.empty l0_1 x7_3).toList != a1.toList) = true := bne_iff_ne.mpr c47
                                have H' := Aside0.mk H
                                clear H
                                have hcz48_0 : wr.cell? ⟨gb308, 0, none⟩ = some (.bool true) := (blk_cell BK308.out 0).trans rfl
                                have hcz48_1 : wr.cell? ⟨gb308, 1, none⟩ = some (.slice A0_1 l0_1.length c0_1) := (blk_cell BK308.out 1).trans rfl
                                have hcz48_2 : wr.cell? ⟨gb308, 2, none⟩ = some (.slice A0_2 l0_2.length c0_2) := (blk_cell BK308.out 2).trans rfl
                                have hcz48_3 : wr.cell? ⟨gb308, 3, none⟩ = some (.slice A0_3 l0_3.length c0_3) := (blk_cell BK308.out 3).trans rfl
                                have hfz48_0 := blk_frozen BK308.out 0
                                have hfz48_1 := blk_frozen BK308.out 1
                                have hfz48_2 := blk_frozen BK308.out 2
                                have hfz48_3 := blk_frozen BK308.out 3
                                have p315 : 0 ≤ (x7_3 : Int) := of_decide_eq_true (by first | (with_reducible assumption) | assumption)
                                have q315 : x7_3 < (l0_1.length : Int) := of_decide_eq_true (by first | (with_reducible assumption) | assumption)
                                obtain ⟨ad315, e315, hx315_0⟩ := Kd.at_string HR0_1.out x7_3 p315 q315
                                cases e315
                                replace hx315_0 := (HB.out.cell (World.block_lt_of_cell? w _ hx315_0)).trans hx315_0
                                replace p315 := eq_true p315
                                replace q315 := eq_true q315
                                go_wp2_with (first | ((with_reducible refine gate_callee (f := 25) rfl ?_); refine goesL_ (some 55) rfl rfl Try.func25 (by kernel_rfl) rfl #[.string (rdOf ByteArray.empty l0_1 x7_3), .string a1] rfl (by (try simp only [List.map_toArray, List.map_cons, List.map_nil]); first | done | rfl | (simp only [List.length_drop, List.length_take]; rfl)) ?_; (with_reducible refine (lunetteref01_Below.calls k3 (rdOf ByteArray.empty l0_1 x7_3) a1 false _ A36.out).mono ?_); rintro e w' ⟨rfl, ⟨nd, rfl⟩⟩; refine ⟨_, rfl, ?_⟩; have p318 : 0 ≤ (x7_3 : Int) := of_decide_eq_true (by first | (with_reducible assumption) | assumption); have q318 : x7_3 < (l0_1.length : Int) := of_decide_eq_true (by first | (with_reducible assumption) | assumption); obtain ⟨ad318, e318, hx318_0⟩ := Kd.at_string HR0_1.out x7_3 p318 q318; obtain rfl : ad315 = ad318 := (by injection e318); replace hx318_0 := (HB.out.cell (World.block_lt_of_cell? w _ hx318_0)).trans hx318_0; replace p318 := eq_true p318; replace q318 := eq_true q318))
                                go_roundg k3
                                case measure => have := HJ2.out; have := HJ27.out; have := HK3.out; omega
                                case rel => exact ⟨(wrap64 (x7_3 + 1)), (by first | rfl | (simp; done) | (simp [*]; done)), H', ⟨by have := HJ2.out; have := HJ27.out; have := HK3.out; omega⟩, ⟨by (with_reducible repeat (first | refine blk_drewN ?_ _ | refine blk_drew ?_ | refine blk_alloc ?_ _)); exact BK308.out⟩, ⟨by repeat (first | (with_reducible first | exact HB.out | apply below_alloc | apply pw_below_drewN | apply below_drew1 | refine below_set ?_ GE308.out) | exact HB.out)⟩⟩
                        · replace c43 := Bool.eq_false_iff.mpr c43
                          subst c43
                          have H1 : (if (((rdOf ByteArray.empty l0_1 x7_3).toList == a1.toList) != (decide (x7_3 < t313))) = true then (none) else (if t314 = true then (lunettelaw05_NodePlaces.l0 k3 a1 t313 t314 (wrap64 (x7_3 + 1)) false l0_1 l0_2 l0_3) else (if (rdOf ByteArray.empty l0_1 x7_3).toList = a1.toList then (none) else (lunettelaw05_NodePlaces.l0 k3 a1 t313 t314 (wrap64 (x7_3 + 1)) false l0_1 l0_2 l0_3)))) = some r := by rw [if_neg (show ¬ (false = true) by decide)] at H; exact H
                          clear H
                          have H := H1
                          clear H1
                          by_cases c49 : (((rdOf ByteArray.empty l0_1 x7_3).toList == a1.toList) != (decide (x7_3 < t313))) = true
                          · rw [if_pos c49] at H
                            exact absurd H (by simp)
                          · rw [if_neg c49] at H
                            have c49b0 : (((rdOf ByteArray.empty l0_1 x7_3).toList == a1.toList) != (decide (x7_3 < t313))) = false := by simpa using c49
                            (try (have c49b1 : decide (((rdOf ByteArray.empty l0_1 x7_3).toList == a1.toList) = (decide (x7_3 < t313))) = true := by simpa using c49))
                            (try (have c49b2 : (((rdOf ByteArray.empty l0_1 x7_3).toList == a1.toList) == (decide (x7_3 < t313))) = true := by simpa using c49))
                            clear c49
                            by_cases c50 : t314 = true
                            · subst c50
                              have H1 : (lunettelaw05_NodePlaces.l0 k3 a1 t313 true (wrap64 (x7_3 + 1)) false l0_1 l0_2 l0_3) = some r := by rw [if_pos rfl] at H; exact H
                              clear H
                              have H := H1
                              clear H1
                              have H' := Aside0.mk H
                              clear H
                              have hcz51_0 : wr.cell? ⟨gb308, 0, none⟩ = some (.bool false) := (blk_cell BK308.out 0).trans rfl
                              have hcz51_1 : wr.cell? ⟨gb308, 1, none⟩ = some (.slice A0_1 l0_1.length c0_1) := (blk_cell BK308.out 1).trans rfl
                              have hcz51_2 : wr.cell? ⟨gb308, 2, none⟩ = some (.slice A0_2 l0_2.length c0_2) := (blk_cell BK308.out 2).trans rfl
                              have hcz51_3 : wr.cell? ⟨gb308, 3, none⟩ = some (.slice A0_3 l0_3.length c0_3) := (blk_cell BK308.out 3).trans rfl
                              have hfz51_0 := blk_frozen BK308.out 0
                              have hfz51_1 := blk_frozen BK308.out 1
                              have hfz51_2 := blk_frozen BK308.out 2
                              have hfz51_3 := blk_frozen BK308.out 3
                              have p315 : 0 ≤ (x7_3 : Int) := of_decide_eq_true (by first | (with_reducible assumption) | assumption)
                              have q315 : x7_3 < (l0_1.length : Int) := of_decide_eq_true (by first | (with_reducible assumption) | assumption)
                              obtain ⟨ad315, e315, hx315_0⟩ := Kd.at_string HR0_1.out x7_3 p315 q315
                              cases e315
                              replace hx315_0 := (HB.out.cell (World.block_lt_of_cell? w _ hx315_0)).trans hx315_0
                              replace p315 := eq_true p315
                              replace q315 := eq_true q315
                              go_wp2_with (first | ((with_reducible refine gate_callee (f := 25) rfl ?_); refine goesL_ (some 55) rfl rfl Try.func25 (by kernel_rfl) rfl #[.string (rdOf ByteArray.empty l0_1 x7_3), .string a1] rfl (by (try simp only [List.map_toArray, List.map_cons, List.map_nil]); first | done | rfl | (simp only [List.length_drop, List.length_take]; rfl)) ?_; (with_reducible refine (lunetteref01_Below.calls k3 (rdOf ByteArray.empty l0_1 x7_3) a1 false _ A36.out).mono ?_); rintro e w' ⟨rfl, ⟨nd, rfl⟩⟩; refine ⟨_, rfl, ?_⟩; have p319 : 0 ≤ (x7_3 : Int) := of_decide_eq_true (by first | (with_reducible assumption) | assumption); have q319 : x7_3 < (l0_1.length : Int) := of_decide_eq_true (by first | (with_reducible assumption) | assumption); obtain ⟨ad319, e319, hx319_0⟩ := Kd.at_string HR0_1.out x7_3 p319 q319; obtain rfl : ad315 = ad319 := (by injection e319); replace hx319_0 := (HB.out.cell (World.block_lt_of_cell? w _ hx319_0)).trans hx319_0; replace p319 := eq_true p319; replace q319 := eq_true q319))
                              go_roundg k3
                              case measure => have := HJ2.out; have := HJ27.out; have := HK3.out; omega
                              case rel => exact ⟨(wrap64 (x7_3 + 1)), (by first | rfl | (simp; done) | (simp [*]; done)), H', ⟨by have := HJ2.out; have := HJ27.out; have := HK3.out; omega⟩, ⟨by (with_reducible repeat (first | refine blk_drewN ?_ _ | refine blk_drew ?_ | refine blk_alloc ?_ _)); exact BK308.out⟩, ⟨by repeat (first | (with_reducible first | exact HB.out | apply below_alloc | apply pw_below_drewN | apply below_drew1 | refine below_set ?_ GE308.out) | exact HB.out)⟩⟩
                            · replace c50 := Bool.eq_false_iff.mpr c50
                              subst c50
                              have H1 : (if (rdOf ByteArray.empty l0_1 x7_3).toList = a1.toList then (none) else (lunettelaw05_NodePlaces.l0 k3 a1 t313 false (wrap64 (x7_3 + 1)) false l0_1 l0_2 l0_3)) = some r := by rw [if_neg (show ¬ (false = true) by decide)] at H; exact H
                              clear H
                              have H := H1
                              clear H1
                              by_cases c52 : (rdOf ByteArray.empty l0_1 x7_3).toList = a1.toList
                              · rw [if_pos c52] at H
                                exact absurd H (by simp)
                              · rw [if_neg c52] at H
                                have c52b0 : ((rdOf ByteArray.empty l0_1 x7_3).toList == a1.toList) = false := beq_eq_false_iff_ne.mpr c52
                                have c52b1 : ((rdOf ByteArray.empty l0_1 x7_3).toList != a1.toList) = true := bne_iff_ne.mpr c52
                                try (have hzc52_ : decide (x7_3 < t313) = false := by simpa [c52b0] using c49b1)
                                have H' := Aside0.mk H
                                clear H
                                have hcz53_0 : wr.cell? ⟨gb308, 0, none⟩ = some (.bool false) := (blk_cell BK308.out 0).trans rfl
                                have hcz53_1 : wr.cell? ⟨gb308, 1, none⟩ = some (.slice A0_1 l0_1.length c0_1) := (blk_cell BK308.out 1).trans rfl
                                have hcz53_2 : wr.cell? ⟨gb308, 2, none⟩ = some (.slice A0_2 l0_2.length c0_2) := (blk_cell BK308.out 2).trans rfl
                                have hcz53_3 : wr.cell? ⟨gb308, 3, none⟩ = some (.slice A0_3 l0_3.length c0_3) := (blk_cell BK308.out 3).trans rfl
                                have hfz53_0 := blk_frozen BK308.out 0
                                have hfz53_1 := blk_frozen BK308.out 1
                                have hfz53_2 := blk_frozen BK308.out 2
                                have hfz53_3 := blk_frozen BK308.out 3
                                have p315 : 0 ≤ (x7_3 : Int) := of_decide_eq_true (by first | (with_reducible assumption) | assumption)
                                have q315 : x7_3 < (l0_1.length : Int) := of_decide_eq_true (by first | (with_reducible assumption) | assumption)
                                obtain ⟨ad315, e315, hx315_0⟩ := Kd.at_string HR0_1.out x7_3 p315 q315
                                cases e315
                                replace hx315_0 := (HB.out.cell (World.block_lt_of_cell? w _ hx315_0)).trans hx315_0
                                replace p315 := eq_true p315
                                replace q315 := eq_true q315
                                go_wp2_with (first | ((with_reducible refine gate_callee (f := 25) rfl ?_); refine goesL_ (some 55) rfl rfl Try.func25 (by kernel_rfl) rfl #[.string (rdOf ByteArray.empty l0_1 x7_3), .string a1] rfl (by (try simp only [List.map_toArray, List.map_cons, List.map_nil]); first | done | rfl | (simp only [List.length_drop, List.length_take]; rfl)) ?_; (with_reducible refine (lunetteref01_Below.calls k3 (rdOf ByteArray.empty l0_1 x7_3) a1 false _ A36.out).mono ?_); rintro e w' ⟨rfl, ⟨nd, rfl⟩⟩; refine ⟨_, rfl, ?_⟩; have p319 : 0 ≤ (x7_3 : Int) := of_decide_eq_true (by first | (with_reducible assumption) | assumption); have q319 : x7_3 < (l0_1.length : Int) := of_decide_eq_true (by first | (with_reducible assumption) | assumption); obtain ⟨ad319, e319, hx319_0⟩ := Kd.at_string HR0_1.out x7_3 p319 q319; obtain rfl : ad315 = ad319 := (by injection e319); replace hx319_0 := (HB.out.cell (World.block_lt_of_cell? w _ hx319_0)).trans hx319_0; replace p319 := eq_true p319; replace q319 := eq_true q319; have p320 : 0 ≤ (x7_3 : Int) := of_decide_eq_true (by first | (with_reducible assumption) | assumption); have q320 : x7_3 < (l0_1.length : Int) := of_decide_eq_true (by first | (with_reducible assumption) | assumption); obtain ⟨ad320, e320, hx320_0⟩ := Kd.at_string HR0_1.out x7_3 p320 q320; obtain rfl : ad315 = ad320 := (by injection e320); replace hx320_0 := (HB.out.cell (World.block_lt_of_cell? w _ hx320_0)).trans hx320_0; replace p320 := eq_true p320; replace q320 := eq_true q320))
                                go_roundg k3
                                case measure => have := HJ2.out; have := HJ27.out; have := HK3.out; omega
                                case rel => exact ⟨(wrap64 (x7_3 + 1)), (by first | rfl | (simp; done) | (simp [*]; done)), H', ⟨by have := HJ2.out; have := HJ27.out; have := HK3.out; omega⟩, ⟨by (with_reducible repeat (first | refine blk_drewN ?_ _ | refine blk_drew ?_ | refine blk_alloc ?_ _)); exact BK308.out⟩, ⟨by repeat (first | (with_reducible first | exact HB.out | apply below_alloc | apply pw_below_drewN | apply below_drew1 | refine below_set ?_ GE308.out) | exact HB.out)⟩⟩
                    · rw [if_neg c35] at H
                      exact absurd H (by simp)
                  · rw [if_neg c34] at H
                    have c34b0 : decide (x7_3 < (l0_1.length : Int)) = false := decide_eq_false c34
                    clear c34
                    obtain rfl := Option.some.inj H
                    have hcz54_0 : wr.cell? ⟨gb308, 0, none⟩ = some (.bool a0_0) := (blk_cell BK308.out 0).trans rfl
                    have hcz54_1 : wr.cell? ⟨gb308, 1, none⟩ = some (.slice A0_1 l0_1.length c0_1) := (blk_cell BK308.out 1).trans rfl
                    have hcz54_2 : wr.cell? ⟨gb308, 2, none⟩ = some (.slice A0_2 l0_2.length c0_2) := (blk_cell BK308.out 2).trans rfl
                    have hcz54_3 : wr.cell? ⟨gb308, 3, none⟩ = some (.slice A0_3 l0_3.length c0_3) := (blk_cell BK308.out 3).trans rfl
                    have hfz54_0 := blk_frozen BK308.out 0
                    have hfz54_1 := blk_frozen BK308.out 1
                    have hfz54_2 := blk_frozen BK308.out 2
                    have hfz54_3 := blk_frozen BK308.out 3
                    go_wp2
                    go_ret
                    exact ⟨by first | rfl | (simp [errW_none, errW_some] <;> rfl) | (simp [*, errW_none, errW_some] <;> rfl), by repeat (first | (with_reducible first | exact HB.out | apply below_alloc | apply pw_below_drewN | apply below_drew1 | refine below_set ?_ GE308.out) | exact HB.out)⟩

end Go.Proofs.Ytpdlbebiapimoaa.PN
