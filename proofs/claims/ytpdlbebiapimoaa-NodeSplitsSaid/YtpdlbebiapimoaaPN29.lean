-- Written for this claim by hprint.py, a program of this session over the kit's printer; Lean checks it.
import Derived.Test.YtpdlbebiapimoaaPN0
import Derived.Test.YtpdlbebiapimoaaPN9
import Derived.Test.YtpdlbebiapimoaaPN11
import Derived.Test.YtpdlbebiapimoaaPN12
import Derived.Test.YtpdlbebiapimoaaPN15
import Derived.Test.YtpdlbebiapimoaaHJoin
import Derived.Test.YtpdlbebiapimoaaHSplit
namespace Go.Proofs.Ytpdlbebiapimoaa.PN
open Go.RowKit Go.Proofs.YtpdlbebiapimoaaW.PrintWords Go.Proofs.YtpdlbebiapimoaaW.PrintLast Go.Proofs.YtpdlbebiapimoaaW.PrintMore
attribute [local go_sem] max2_int min2_int max_two min_two max_three min_three max_four min_four   -- for this text's walks alone
set_option linter.unusedVariables false
set_option linter.unusedSimpArgs false

/-! ### lunettelaw05_NodeSplits: function 9 -/
mutual
def lunettelaw05_NodeSplits.j0 : Nat → Bool → Bool → List ByteArray → List ByteArray → List Int → Option (Bool)
 | 0, _, _, _, _, _ => none
 | k + 1, x19, x403000, x403001, x403002, x403003 => if x19 = true then ((lunettelaw05_awake.f k).bind fun t406 => (some t406)) else ((node_Split.f x403000 x403001 x403002 x403003).bind fun bt407 => (if (x403001.length : Int) < 2 then ((lunetteref05_Same.f k bt407.1 bt407.2.1 bt407.2.2.1 bt407.2.2.2.1 x403000 x403001 x403002 x403003).bind fun t430 => (if t430 = true then (if bt407.2.2.2.2.1.toList = ([] : List UInt8) then ((lunetteref05_Same.f k bt407.2.2.2.2.2.1 bt407.2.2.2.2.2.2.1 bt407.2.2.2.2.2.2.2.1 bt407.2.2.2.2.2.2.2.2 true ([] : List ByteArray) ([] : List ByteArray) ([] : List Int)).bind fun t431 => (some t431)) else (none)) else (none))) else (if x403000 = true then (lunettelaw05_NodeSplits.j1 k bt407.2.2.2.2.1 (wrap64 ((x403001.length : Int) / 2)) 0 x403000 x403001 x403002 x403003 bt407.1 bt407.2.1 bt407.2.2.1 bt407.2.2.2.1 bt407.2.2.2.2.2.1 bt407.2.2.2.2.2.2.1 bt407.2.2.2.2.2.2.2.1 bt407.2.2.2.2.2.2.2.2) else (lunettelaw05_NodeSplits.j1 k bt407.2.2.2.2.1 (wrap64 ((x403001.length : Int) / 2)) 1 x403000 x403001 x403002 x403003 bt407.1 bt407.2.1 bt407.2.2.1 bt407.2.2.2.1 bt407.2.2.2.2.2.1 bt407.2.2.2.2.2.2.1 bt407.2.2.2.2.2.2.2.1 bt407.2.2.2.2.2.2.2.2))))
def lunettelaw05_NodeSplits.j1 : Nat → ByteArray → Int → Int → Bool → List ByteArray → List ByteArray → List Int → Bool → List ByteArray → List ByteArray → List Int → Bool → List ByteArray → List ByteArray → List Int → Option (Bool)
 | 0, _, _, _, _, _, _, _, _, _, _, _, _, _, _, _ => none
 | k + 1, x4, x6, x7, x403000, x403001, x403002, x403003, x429000, x429001, x429002, x429003, x430000, x430001, x430002, x430003 => (lunetteref05_Check.f k x429000 x429001 x429002 x429003).bind fun t432 => (if t432 = 0 then ((lunetteref05_Check.f k x430000 x430001 x430002 x430003).bind fun t433 => (if t433 = 0 then ((node_Join.f x429000 x429001 x429002 x429003 x4 x430000 x430001 x430002 x430003).bind fun bt434 => ((lunetteref05_Same.f k bt434.1 bt434.2.1 bt434.2.2.1 bt434.2.2.2 x403000 x403001 x403002 x403003).bind fun t444 => (if t444 = true then (if (x429001.length : Int) = x6 then (if (x430001.length : Int) = (wrap64 ((wrap64 ((x403001.length : Int) - x6)) - x7)) then (if 0 ≤ x6 then (if x6 < (x403001.length : Int) then (some (x4.toList == (rdOf ByteArray.empty x403001 x6).toList)) else (none)) else (none)) else (none)) else (none)) else (none)))) else (none))) else (none))
end
def lunettelaw05_NodeSplits.f (k : Nat) (a0_0 : Bool) (l0_1 : List ByteArray) (l0_2 : List ByteArray) (l0_3 : List Int) : Option (Bool) := (lunettelaw05_awake.f k).bind fun t403 => (if t403 = true then ((lunettelaw05_few.f k a0_0 l0_1 l0_2 l0_3).bind fun t404 => (if t404 = true then ((lunetteref05_Check.f k a0_0 l0_1 l0_2 l0_3).bind fun t405 => (lunettelaw05_NodeSplits.j0 k (t405 != 0) a0_0 l0_1 l0_2 l0_3)) else (lunettelaw05_NodeSplits.j0 k true a0_0 l0_1 l0_2 l0_3))) else (none))
theorem lunettelaw05_NodeSplits.mono_l : ∀ k, (∀ y0 y1 y2 y3 y4, LeO (lunettelaw05_NodeSplits.j0 k y0 y1 y2 y3 y4) (lunettelaw05_NodeSplits.j0 (k + 1) y0 y1 y2 y3 y4)) ∧ (∀ y0 y1 y2 y3 y4 y5 y6 y7 y8 y9 y10 y11 y12 y13 y14, LeO (lunettelaw05_NodeSplits.j1 k y0 y1 y2 y3 y4 y5 y6 y7 y8 y9 y10 y11 y12 y13 y14) (lunettelaw05_NodeSplits.j1 (k + 1) y0 y1 y2 y3 y4 y5 y6 y7 y8 y9 y10 y11 y12 y13 y14))
 | 0 => ⟨fun _ _ _ _ _ r h => by simp [lunettelaw05_NodeSplits.j0] at h, fun _ _ _ _ _ _ _ _ _ _ _ _ _ _ _ r h => by simp [lunettelaw05_NodeSplits.j1] at h⟩
 | k + 1 => by
  obtain ⟨ih0, ih1⟩ := lunettelaw05_NodeSplits.mono_l k
  refine ⟨?_, ?_⟩
  ·intro y0 y1 y2 y3 y4
   unfold lunettelaw05_NodeSplits.j0
   repeat' first
   | (with_reducible exact ih0 _ _ _ _ _)
   | (with_reducible exact ih1 _ _ _ _ _ _ _ _ _ _ _ _ _ _ _)
   | (with_reducible exact lunettelaw05_awake.mono _)
   | (with_reducible exact lunettelaw05_few.mono _ _ _ _ _)
   | (with_reducible exact lunetteref05_Check.mono _ _ _ _ _)
   | (with_reducible exact lunetteref05_Same.mono _ _ _ _ _ _ _ _ _)
   | (with_reducible exact LeO.refl _)
   | (with_reducible exact LeO.none _)
   | (with_reducible refine LeO.ite ?_ ?_)
   | (with_reducible refine LeO.bind ?_ (fun _ => ?_))
   | exact ih0 _ _ _ _ _
   | exact ih1 _ _ _ _ _ _ _ _ _ _ _ _ _ _ _
   | exact lunettelaw05_awake.mono _
   | exact lunettelaw05_few.mono _ _ _ _ _
   | exact lunetteref05_Check.mono _ _ _ _ _
   | exact lunetteref05_Same.mono _ _ _ _ _ _ _ _ _
   | exact LeO.none _
   | refine LeO.ite ?_ ?_
   | refine LeO.bind ?_ (fun _ => ?_)
  ·intro y0 y1 y2 y3 y4 y5 y6 y7 y8 y9 y10 y11 y12 y13 y14
   unfold lunettelaw05_NodeSplits.j1
   repeat' first
   | (with_reducible exact ih0 _ _ _ _ _)
   | (with_reducible exact ih1 _ _ _ _ _ _ _ _ _ _ _ _ _ _ _)
   | (with_reducible exact lunettelaw05_awake.mono _)
   | (with_reducible exact lunettelaw05_few.mono _ _ _ _ _)
   | (with_reducible exact lunetteref05_Check.mono _ _ _ _ _)
   | (with_reducible exact lunetteref05_Same.mono _ _ _ _ _ _ _ _ _)
   | (with_reducible exact LeO.refl _)
   | (with_reducible exact LeO.none _)
   | (with_reducible refine LeO.ite ?_ ?_)
   | (with_reducible refine LeO.bind ?_ (fun _ => ?_))
   | exact ih0 _ _ _ _ _
   | exact ih1 _ _ _ _ _ _ _ _ _ _ _ _ _ _ _
   | exact lunettelaw05_awake.mono _
   | exact lunettelaw05_few.mono _ _ _ _ _
   | exact lunetteref05_Check.mono _ _ _ _ _
   | exact lunetteref05_Same.mono _ _ _ _ _ _ _ _ _
   | exact LeO.none _
   | refine LeO.ite ?_ ?_
   | refine LeO.bind ?_ (fun _ => ?_)
theorem lunettelaw05_NodeSplits.mono : ∀ a0 a1 a2 a3 k, LeO (lunettelaw05_NodeSplits.f k a0 a1 a2 a3) (lunettelaw05_NodeSplits.f (k + 1) a0 a1 a2 a3) := by
 intro a0 a1 a2 a3 k
 obtain ⟨ih0, ih1⟩ := lunettelaw05_NodeSplits.mono_l k
 unfold lunettelaw05_NodeSplits.f
 repeat' first
   | (with_reducible exact ih0 _ _ _ _ _)
   | (with_reducible exact ih1 _ _ _ _ _ _ _ _ _ _ _ _ _ _ _)
   | (with_reducible exact lunettelaw05_awake.mono _)
   | (with_reducible exact lunettelaw05_few.mono _ _ _ _ _)
   | (with_reducible exact lunetteref05_Check.mono _ _ _ _ _)
   | (with_reducible exact lunetteref05_Same.mono _ _ _ _ _ _ _ _ _)
   | (with_reducible exact LeO.refl _)
   | (with_reducible exact LeO.none _)
   | (with_reducible refine LeO.ite ?_ ?_)
   | (with_reducible refine LeO.bind ?_ (fun _ => ?_))
   | exact ih0 _ _ _ _ _
   | exact ih1 _ _ _ _ _ _ _ _ _ _ _ _ _ _ _
   | exact lunettelaw05_awake.mono _
   | exact lunettelaw05_few.mono _ _ _ _ _
   | exact lunetteref05_Check.mono _ _ _ _ _
   | exact lunetteref05_Same.mono _ _ _ _ _ _ _ _ _
   | exact LeO.none _
   | refine LeO.ite ?_ ?_
   | refine LeO.bind ?_ (fun _ => ?_)
def lunettelaw05_NodeSplits.T10 : Bool × List (List Nat × List Nat) := (true, [([], []), ([0], [0]), ([1], [1]), ([2, 1], [2]), ([3], [3]), ([4, 3, 3], [3, 4]), ([5, 3], [3, 5]), ([3, 6], [3, 6]), ([7, 5], [7]), ([8], [8]), ([8], [8]), ([8], [8]), ([9, 10, 11, 8, 8], [8, 9, 10, 11]), ([8], [8]), ([12, 13, 12, 8], [8, 12, 13]), ([8, 14], [8, 14]), ([15, 14], [15]), ([16], [16]), ([17, 16], [16, 17]), ([18, 16], [16, 18]), ([16], [16]), ([19, 20, 16], [16, 19, 20]), ([16, 21], [16, 21]), ([22, 16], [22]), ([23], [23]), ([24, 23], [23, 24]), ([25, 23], [23, 25]), ([23], [23]), ([27, 23], [23, 27]), ([28, 23], [23, 28]), ([23], [23]), ([29, 30, 23], [23, 29, 30]), ([23], [23]), ([31, 32, 23], [23, 31, 32]), ([26, 33, 23], [23, 26, 33]), ([23, 34], [23, 34]), ([35, 23], [35]), ([36], [36]), ([36], [36]), ([38, 36], [36, 38]), ([36], [36]), ([39, 40, 36], [36, 39, 40]), ([41, 36], [36, 41]), ([37, 42, 36], [36, 37, 42]), ([36, 43], [36, 43]), ([44, 36, 0, 1, 2, 3, 4, 5, 6, 7, 8, 9, 10, 11, 12, 13, 14, 15, 16, 17, 18, 19, 20, 21, 22, 23, 24, 25, 26, 27, 28, 29, 30, 31, 32, 33, 34, 35, 36, 37, 38, 39, 40, 41, 42, 43, 44], [44])])
def lunettelaw05_NodeSplits.B10 : List Nat := [0, 1, 3, 7, 15, 31, 63, 127, 255, 511, 511, 511, 4095, 511, 16383, 32767, 65535, 131071, 262143, 524287, 131071, 2097151, 4194303, 8388607, 16777215, 33554431, 67108863, 16777215, 150994943, 419430399, 16777215, 2030043135, 16777215, 8472494079, 17179869183, 34359738367, 68719476735, 137438953471, 137438953471, 412316860415, 137438953471, 2061584302079, 4260607557631, 8796093022207, 17592186044415, 35184372088831]
theorem lunettelaw05_NodeSplits.tab10 : rtab .any (opsOf Try.f9 10) = lunettelaw05_NodeSplits.T10 := by kernel_rfl
theorem lunettelaw05_NodeSplits.bits10 : waitsOk lunettelaw05_NodeSplits.T10.2 lunettelaw05_NodeSplits.B10 = true := by kernel_rfl
set_option maxHeartbeats 8000000 in
set_option maxRecDepth 100000 in
theorem lunettelaw05_NodeSplits.calls (k : Nat) (a0_0 : Bool) (A0_1 : Option Addr) (c0_1 : Nat) (l0_1 : List ByteArray) (A0_2 : Option Addr) (c0_2 : Nat) (l0_2 : List ByteArray) (A0_3 : Option Addr) (c0_3 : Nat) (l0_3 : List Int) (r : Bool) (w : World) (hr0_1 : Kd.C Kd.string w A0_1 l0_1.length l0_1) (hc0_1 : l0_1.length ≤ c0_1) (hr0_2 : Kd.C Kd.string w A0_2 l0_2.length l0_2) (hc0_2 : l0_2.length ≤ c0_2) (hr0_3 : Kd.C (Kd.int .i64) w A0_3 l0_3.length l0_3) (hc0_3 : l0_3.length ≤ c0_3) (h : lunettelaw05_NodeSplits.f k a0_0 l0_1 l0_2 l0_3 = some r) :
  Calls Try.prog 9 #[.agg #[.bool a0_0, .slice A0_1 l0_1.length c0_1, .slice A0_2 l0_2.length c0_2, .slice A0_3 l0_3.length c0_3]] w fun e w' => e = .returned (.bool r) ∧ Below w.heap.size w w' := by
 have hu25 := Try.underlying25
 have HR0_1 := Aside0.mk hr0_1
 have HC0_1 := Aside0.mk hc0_1
 clear hr0_1 hc0_1
 have HR0_2 := Aside0.mk hr0_2
 have HC0_2 := Aside0.mk hc0_2
 clear hr0_2 hc0_2
 have HR0_3 := Aside0.mk hr0_3
 have HC0_3 := Aside0.mk hc0_3
 clear hr0_3 hc0_3
 have HB := Aside0.mk (Below.refl w.heap.size w)
 have H : ((lunettelaw05_awake.f k).bind fun t403 => (if t403 = true then ((lunettelaw05_few.f k a0_0 l0_1 l0_2 l0_3).bind fun t404 => (if t404 = true then ((lunetteref05_Check.f k a0_0 l0_1 l0_2 l0_3).bind fun t405 => (lunettelaw05_NodeSplits.j0 k (t405 != 0) a0_0 l0_1 l0_2 l0_3)) else (lunettelaw05_NodeSplits.j0 k true a0_0 l0_1 l0_2 l0_3))) else (none))) = some r := h
 clear h
 have HC2 := Aside0.mk H
 clear H
 go_enter Try.func9, Try.ntmps9
 go_upto_region 1 with (first | ((with_reducible refine gate_dst (N := 1) rfl ?_); (try (refine gate_guard (by rfl) ?_; dsimp only)); refine box_event ?hg (N := 1) ?hd (cs := #[.bool a0_0, .slice A0_1 l0_1.length c0_1, .slice A0_2 l0_2.length c0_2, .slice A0_3 l0_3.length c0_3]) (t := 25) ?hr ?_; (case hd => rfl); (case hg => rfl); (case hr => first | (go_simp; done) | (go_simp; rfl)); intro gb402 hg w3 hbox hb; have n0_ := Aside0.mk (below_step (by repeat (first | (with_reducible first | exact HB.out | apply below_alloc | apply pw_below_drewN | apply below_drew1) | exact HB.out)) hb); have n1_ := Aside0.mk (hbox); have n2_ := Aside0.mk ((by rw [hg]; exact (below_size (by repeat (first | (with_reducible first | exact HB.out | apply below_alloc | apply pw_below_drewN | apply below_drew1) | exact HB.out))) : w.heap.size ≤ gb402)); have n3_ := Aside0.mk ((by rw [hg]; exact (below_size (by repeat (first | (with_reducible first | exact HB.out | apply below_alloc | apply pw_below_drewN | apply below_drew1) | exact HB.out))) : w.heap.size ≤ gb402)); clear HB; have HB := n0_; have BK402 := n1_; have GW402 := n2_; have GE402 := n3_; clear n0_ n1_ n2_ n3_; clear hb hbox hg))
 (try simp only [Act.put, List.setIfInBounds_toArray, List.set_cons_zero, List.set_cons_succ])
 go_cut [19] (fun v19 wc => ∃ (kq : Nat) (x19_1 : Bool), v19 = .bool x19_1 ∧ Aside0 (lunettelaw05_NodeSplits.j0 kq x19_1 a0_0 l0_1 l0_2 l0_3 = some r) ∧ Aside0 (kq ≤ k) ∧ Aside0 (wc.heap[gb402]? = some (.cells #[.bool a0_0, (.slice A0_1 l0_1.length c0_1), (.slice A0_2 l0_2.length c0_2), (.slice A0_3 l0_3.length c0_3)] 25 (0, 0))) ∧ Aside0 (Below w.heap.size w wc))
 case first =>
  have H := HC2.out
  clear HC2
  replace H := Option.bind_eq_some_iff.mp H
  obtain ⟨t403, A40, H⟩ := H
  replace H : (if t403 = true then ((lunettelaw05_few.f k a0_0 l0_1 l0_2 l0_3).bind fun t404 => (if t404 = true then ((lunetteref05_Check.f k a0_0 l0_1 l0_2 l0_3).bind fun t405 => (lunettelaw05_NodeSplits.j0 k (t405 != 0) a0_0 l0_1 l0_2 l0_3)) else (lunettelaw05_NodeSplits.j0 k true a0_0 l0_1 l0_2 l0_3))) else (none)) = some r := H
  have A4 := Aside0.mk A40
  clear A40
  by_cases c5 : t403 = true
  ·subst c5
   have H1 : ((lunettelaw05_few.f k a0_0 l0_1 l0_2 l0_3).bind fun t404 => (if t404 = true then ((lunetteref05_Check.f k a0_0 l0_1 l0_2 l0_3).bind fun t405 => (lunettelaw05_NodeSplits.j0 k (t405 != 0) a0_0 l0_1 l0_2 l0_3)) else (lunettelaw05_NodeSplits.j0 k true a0_0 l0_1 l0_2 l0_3))) = some r := by rw [if_pos rfl] at H; exact H
   clear H
   have H := H1
   clear H1
   replace H := Option.bind_eq_some_iff.mp H
   obtain ⟨t404, A60, H⟩ := H
   replace H : (if t404 = true then ((lunetteref05_Check.f k a0_0 l0_1 l0_2 l0_3).bind fun t405 => (lunettelaw05_NodeSplits.j0 k (t405 != 0) a0_0 l0_1 l0_2 l0_3)) else (lunettelaw05_NodeSplits.j0 k true a0_0 l0_1 l0_2 l0_3)) = some r := H
   have A6 := Aside0.mk A60
   clear A60
   by_cases c7 : t404 = true
   ·subst c7
    have H1 : ((lunetteref05_Check.f k a0_0 l0_1 l0_2 l0_3).bind fun t405 => (lunettelaw05_NodeSplits.j0 k (t405 != 0) a0_0 l0_1 l0_2 l0_3)) = some r := by rw [if_pos rfl] at H; exact H
    clear H
    have H := H1
    clear H1
    replace H := Option.bind_eq_some_iff.mp H
    obtain ⟨t405, A80, H⟩ := H
    replace H : (lunettelaw05_NodeSplits.j0 k (t405 != 0) a0_0 l0_1 l0_2 l0_3) = some r := H
    have A8 := Aside0.mk A80
    clear A80
    have H' := Aside0.mk H
    clear H
    go_wp2_with (first | ((with_reducible refine gate_callee (f := 13) rfl ?_); refine goesL_ (some 8) rfl rfl Try.func13 (by kernel_rfl) rfl #[] rfl (by (try simp only [List.map_toArray, List.map_cons, List.map_nil]); first | done | rfl | (simp only [List.length_drop, List.length_take]; rfl)) ?_; (with_reducible refine (lunettelaw05_awake.calls k  true _ A4.out).mono ?_); rintro e w9 ⟨rfl, hb⟩; refine ⟨_, rfl, ?_⟩; have n0_ := Aside0.mk (blk_below (g := gb402) (o := .cells #[.bool a0_0, .slice A0_1 l0_1.length c0_1, .slice A0_2 l0_2.length c0_2, .slice A0_3 l0_3.length c0_3] 25 (0, 0)) (by (with_reducible repeat (first | refine blk_drewN ?_ _ | refine blk_drew ?_ | refine blk_alloc ?_ _)); exact BK402.out) hb); have n1_ := Aside0.mk (below_step (by repeat (first | (with_reducible first | exact HB.out | apply below_alloc | apply pw_below_drewN | apply below_drew1 | refine below_set ?_ GE402.out) | exact HB.out)) hb); clear BK402; clear HB; have BK402 := n0_; have HB := n1_; clear n0_ n1_; (try clear hb); (try clear hb2); (try clear hk); (try clear hi); have hcz10_0 : w9.cell? ⟨gb402, 0, none⟩ = some (.bool a0_0) := (blk_cell BK402.out 0).trans rfl; have hcz10_1 : w9.cell? ⟨gb402, 1, none⟩ = some (.slice A0_1 l0_1.length c0_1) := (blk_cell BK402.out 1).trans rfl; have hcz10_2 : w9.cell? ⟨gb402, 2, none⟩ = some (.slice A0_2 l0_2.length c0_2) := (blk_cell BK402.out 2).trans rfl; have hcz10_3 : w9.cell? ⟨gb402, 3, none⟩ = some (.slice A0_3 l0_3.length c0_3) := (blk_cell BK402.out 3).trans rfl; have hfz10_0 := blk_frozen BK402.out 0; have hfz10_1 := blk_frozen BK402.out 1; have hfz10_2 := blk_frozen BK402.out 2; have hfz10_3 := blk_frozen BK402.out 3) | (go_at_call 14; (with_reducible refine (lunettelaw05_few.calls k a0_0 _ _ l0_1 _ _ l0_2 _ _ l0_3 true _ ?side1 ?side2 ?side3 ?side4 ?side5 ?side6 A6.out).mono ?_); (case side1 => repeat (first | exact (Kd.C_below HR0_1.out HB.out) | (with_reducible refine Kd.C_alloc ?_ _) | (with_reducible refine Kd.C_drewN ?_ _) | (with_reducible refine Kd.C_drew ?_))); (case side2 => exact HC0_1.out); (case side3 => repeat (first | exact (Kd.C_below HR0_2.out HB.out) | (with_reducible refine Kd.C_alloc ?_ _) | (with_reducible refine Kd.C_drewN ?_ _) | (with_reducible refine Kd.C_drew ?_))); (case side4 => exact HC0_2.out); (case side5 => repeat (first | exact (Kd.C_below HR0_3.out HB.out) | (with_reducible refine Kd.C_alloc ?_ _) | (with_reducible refine Kd.C_drewN ?_ _) | (with_reducible refine Kd.C_drew ?_))); (case side6 => exact HC0_3.out); rintro e w11 ⟨rfl, hb⟩; have n0_ := Aside0.mk (blk_below (g := gb402) (o := .cells #[.bool a0_0, .slice A0_1 l0_1.length c0_1, .slice A0_2 l0_2.length c0_2, .slice A0_3 l0_3.length c0_3] 25 (0, 0)) (by (with_reducible repeat (first | refine blk_drewN ?_ _ | refine blk_drew ?_ | refine blk_alloc ?_ _)); exact BK402.out) hb); have n1_ := Aside0.mk (below_step (by repeat (first | (with_reducible first | exact HB.out | apply below_alloc | apply pw_below_drewN | apply below_drew1 | refine below_set ?_ GE402.out) | exact HB.out)) hb); clear BK402; clear HB; have BK402 := n0_; have HB := n1_; clear n0_ n1_; (try clear hb); (try clear hb2); (try clear hk); (try clear hi); have hcz12_0 : w11.cell? ⟨gb402, 0, none⟩ = some (.bool a0_0) := (blk_cell BK402.out 0).trans rfl; have hcz12_1 : w11.cell? ⟨gb402, 1, none⟩ = some (.slice A0_1 l0_1.length c0_1) := (blk_cell BK402.out 1).trans rfl; have hcz12_2 : w11.cell? ⟨gb402, 2, none⟩ = some (.slice A0_2 l0_2.length c0_2) := (blk_cell BK402.out 2).trans rfl; have hcz12_3 : w11.cell? ⟨gb402, 3, none⟩ = some (.slice A0_3 l0_3.length c0_3) := (blk_cell BK402.out 3).trans rfl; have hfz12_0 := blk_frozen BK402.out 0; have hfz12_1 := blk_frozen BK402.out 1; have hfz12_2 := blk_frozen BK402.out 2; have hfz12_3 := blk_frozen BK402.out 3) | (go_at_call 16; (with_reducible refine (lunetteref05_Check.calls k a0_0 _ _ l0_1 _ _ l0_2 _ _ l0_3 t405 _ ?side1 ?side2 ?side3 ?side4 ?side5 ?side6 A8.out).mono ?_); (case side1 => repeat (first | exact (Kd.C_below HR0_1.out HB.out) | (with_reducible refine Kd.C_alloc ?_ _) | (with_reducible refine Kd.C_drewN ?_ _) | (with_reducible refine Kd.C_drew ?_))); (case side2 => exact HC0_1.out); (case side3 => repeat (first | exact (Kd.C_below HR0_2.out HB.out) | (with_reducible refine Kd.C_alloc ?_ _) | (with_reducible refine Kd.C_drewN ?_ _) | (with_reducible refine Kd.C_drew ?_))); (case side4 => exact HC0_2.out); (case side5 => repeat (first | exact (Kd.C_below HR0_3.out HB.out) | (with_reducible refine Kd.C_alloc ?_ _) | (with_reducible refine Kd.C_drewN ?_ _) | (with_reducible refine Kd.C_drew ?_))); (case side6 => exact HC0_3.out); rintro e w13 ⟨rfl, hb⟩; have n0_ := Aside0.mk (blk_below (g := gb402) (o := .cells #[.bool a0_0, .slice A0_1 l0_1.length c0_1, .slice A0_2 l0_2.length c0_2, .slice A0_3 l0_3.length c0_3] 25 (0, 0)) (by (with_reducible repeat (first | refine blk_drewN ?_ _ | refine blk_drew ?_ | refine blk_alloc ?_ _)); exact BK402.out) hb); have n1_ := Aside0.mk (below_step (by repeat (first | (with_reducible first | exact HB.out | apply below_alloc | apply pw_below_drewN | apply below_drew1 | refine below_set ?_ GE402.out) | exact HB.out)) hb); clear BK402; clear HB; have BK402 := n0_; have HB := n1_; clear n0_ n1_; (try clear hb); (try clear hb2); (try clear hk); (try clear hi)))
    go_meet
    case rel => exact ⟨_, ((t405 != 0)), (by first | rfl | (simp; done) | (simp [*]; done)), H', ⟨by first | omega | exact Nat.le_refl _⟩, ⟨by (with_reducible repeat (first | refine blk_drewN ?_ _ | refine blk_drew ?_ | refine blk_alloc ?_ _)); exact BK402.out⟩, ⟨by repeat (first | (with_reducible first | exact HB.out | apply below_alloc | apply pw_below_drewN | apply below_drew1 | refine below_set ?_ GE402.out) | exact HB.out)⟩⟩
   ·replace c7 := Bool.eq_false_iff.mpr c7
    subst c7
    have H1 : (lunettelaw05_NodeSplits.j0 k true a0_0 l0_1 l0_2 l0_3) = some r := by rw [if_neg (show ¬ (false = true) by decide)] at H; exact H
    clear H
    have H := H1
    clear H1
    have H' := Aside0.mk H
    clear H
    go_wp2_with (first | ((with_reducible refine gate_callee (f := 13) rfl ?_); refine goesL_ (some 8) rfl rfl Try.func13 (by kernel_rfl) rfl #[] rfl (by (try simp only [List.map_toArray, List.map_cons, List.map_nil]); first | done | rfl | (simp only [List.length_drop, List.length_take]; rfl)) ?_; (with_reducible refine (lunettelaw05_awake.calls k  true _ A4.out).mono ?_); rintro e w14 ⟨rfl, hb⟩; refine ⟨_, rfl, ?_⟩; have n0_ := Aside0.mk (blk_below (g := gb402) (o := .cells #[.bool a0_0, .slice A0_1 l0_1.length c0_1, .slice A0_2 l0_2.length c0_2, .slice A0_3 l0_3.length c0_3] 25 (0, 0)) (by (with_reducible repeat (first | refine blk_drewN ?_ _ | refine blk_drew ?_ | refine blk_alloc ?_ _)); exact BK402.out) hb); have n1_ := Aside0.mk (below_step (by repeat (first | (with_reducible first | exact HB.out | apply below_alloc | apply pw_below_drewN | apply below_drew1 | refine below_set ?_ GE402.out) | exact HB.out)) hb); clear BK402; clear HB; have BK402 := n0_; have HB := n1_; clear n0_ n1_; (try clear hb); (try clear hb2); (try clear hk); (try clear hi); have hcz15_0 : w14.cell? ⟨gb402, 0, none⟩ = some (.bool a0_0) := (blk_cell BK402.out 0).trans rfl; have hcz15_1 : w14.cell? ⟨gb402, 1, none⟩ = some (.slice A0_1 l0_1.length c0_1) := (blk_cell BK402.out 1).trans rfl; have hcz15_2 : w14.cell? ⟨gb402, 2, none⟩ = some (.slice A0_2 l0_2.length c0_2) := (blk_cell BK402.out 2).trans rfl; have hcz15_3 : w14.cell? ⟨gb402, 3, none⟩ = some (.slice A0_3 l0_3.length c0_3) := (blk_cell BK402.out 3).trans rfl; have hfz15_0 := blk_frozen BK402.out 0; have hfz15_1 := blk_frozen BK402.out 1; have hfz15_2 := blk_frozen BK402.out 2; have hfz15_3 := blk_frozen BK402.out 3) | (go_at_call 14; (with_reducible refine (lunettelaw05_few.calls k a0_0 _ _ l0_1 _ _ l0_2 _ _ l0_3 false _ ?side1 ?side2 ?side3 ?side4 ?side5 ?side6 A6.out).mono ?_); (case side1 => repeat (first | exact (Kd.C_below HR0_1.out HB.out) | (with_reducible refine Kd.C_alloc ?_ _) | (with_reducible refine Kd.C_drewN ?_ _) | (with_reducible refine Kd.C_drew ?_))); (case side2 => exact HC0_1.out); (case side3 => repeat (first | exact (Kd.C_below HR0_2.out HB.out) | (with_reducible refine Kd.C_alloc ?_ _) | (with_reducible refine Kd.C_drewN ?_ _) | (with_reducible refine Kd.C_drew ?_))); (case side4 => exact HC0_2.out); (case side5 => repeat (first | exact (Kd.C_below HR0_3.out HB.out) | (with_reducible refine Kd.C_alloc ?_ _) | (with_reducible refine Kd.C_drewN ?_ _) | (with_reducible refine Kd.C_drew ?_))); (case side6 => exact HC0_3.out); rintro e w16 ⟨rfl, hb⟩; have n0_ := Aside0.mk (blk_below (g := gb402) (o := .cells #[.bool a0_0, .slice A0_1 l0_1.length c0_1, .slice A0_2 l0_2.length c0_2, .slice A0_3 l0_3.length c0_3] 25 (0, 0)) (by (with_reducible repeat (first | refine blk_drewN ?_ _ | refine blk_drew ?_ | refine blk_alloc ?_ _)); exact BK402.out) hb); have n1_ := Aside0.mk (below_step (by repeat (first | (with_reducible first | exact HB.out | apply below_alloc | apply pw_below_drewN | apply below_drew1 | refine below_set ?_ GE402.out) | exact HB.out)) hb); clear BK402; clear HB; have BK402 := n0_; have HB := n1_; clear n0_ n1_; (try clear hb); (try clear hb2); (try clear hk); (try clear hi)))
    go_meet
    case rel => exact ⟨_, (true), (by first | rfl | (simp; done) | (simp [*]; done)), H', ⟨by first | omega | exact Nat.le_refl _⟩, ⟨by (with_reducible repeat (first | refine blk_drewN ?_ _ | refine blk_drew ?_ | refine blk_alloc ?_ _)); exact BK402.out⟩, ⟨by repeat (first | (with_reducible first | exact HB.out | apply below_alloc | apply pw_below_drewN | apply below_drew1 | refine below_set ?_ GE402.out) | exact HB.out)⟩⟩
  ·replace c5 := Bool.eq_false_iff.mpr c5
   subst c5
   have H1 : (none) = some r := by rw [if_neg (show ¬ (false = true) by decide)] at H; exact H
   clear H
   have H := H1
   clear H1
   exact absurd H (by simp)
 case rest =>
  clear HC2
  (try clear c1); (try clear p2); (try clear c5); (try clear c7); (try clear c9); (try clear c13); (try clear hcz10_0); (try clear hcz10_1); (try clear hcz10_2); (try clear hcz10_3); (try clear hcz12_0); (try clear hcz12_1); (try clear hcz12_2); (try clear hcz12_3); (try clear hcz15_0); (try clear hcz15_1); (try clear hcz15_2); (try clear hcz15_3); (try clear hfz10_0); (try clear hfz10_1); (try clear hfz10_2); (try clear hfz10_3); (try clear hfz12_0); (try clear hfz12_1); (try clear hfz12_2); (try clear hfz12_3); (try clear hfz15_0); (try clear hfz15_1); (try clear hfz15_2); (try clear hfz15_3)
  obtain ⟨kq, x19_1, rfl, HA, HJ1, BK402, HB⟩ := hcut
  cases kq with
  | zero => exact absurd HA.out (by simp [lunettelaw05_NodeSplits.j0])
  | succ kj1 =>
   have H := HA.out
   clear HA
   simp only [lunettelaw05_NodeSplits.j0] at H
   by_cases c17 : x19_1 = true
   ·subst c17
    have H1 : ((lunettelaw05_awake.f kj1).bind fun t406 => (some t406)) = some r := by rw [if_pos rfl] at H; exact H
    clear H
    have H := H1
    clear H1
    replace H := Option.bind_eq_some_iff.mp H
    obtain ⟨t406, A180, H⟩ := H
    replace H : (some t406) = some r := H
    have A18 := Aside0.mk A180
    clear A180
    obtain rfl := Option.some.inj H
    go_wp2_with (first | ((with_reducible refine gate_callee (f := 13) rfl ?_); refine goesL_ (some 20) rfl rfl Try.func13 (by kernel_rfl) rfl #[] rfl (by (try simp only [List.map_toArray, List.map_cons, List.map_nil]); first | done | rfl | (simp only [List.length_drop, List.length_take]; rfl)) ?_; (with_reducible refine (lunettelaw05_awake.calls kj1  t406 _ A18.out).mono ?_); rintro e w19 ⟨rfl, hb⟩; refine ⟨_, rfl, ?_⟩; have n0_ := Aside0.mk (blk_below (g := gb402) (o := .cells #[.bool a0_0, .slice A0_1 l0_1.length c0_1, .slice A0_2 l0_2.length c0_2, .slice A0_3 l0_3.length c0_3] 25 (0, 0)) (by (with_reducible repeat (first | refine blk_drewN ?_ _ | refine blk_drew ?_ | refine blk_alloc ?_ _)); exact BK402.out) hb); have n1_ := Aside0.mk (below_step (by repeat (first | (with_reducible first | exact HB.out | apply below_alloc | apply pw_below_drewN | apply below_drew1 | refine below_set ?_ GE402.out) | exact HB.out)) hb); clear BK402; clear HB; have BK402 := n0_; have HB := n1_; clear n0_ n1_; (try clear hb); (try clear hb2); (try clear hk); (try clear hi)))
    go_ret
    exact ⟨by first | rfl | (simp [errW_none, errW_some] <;> rfl) | (simp [*, errW_none, errW_some] <;> rfl), by repeat (first | (with_reducible first | exact HB.out | apply below_alloc | apply pw_below_drewN | apply below_drew1 | refine below_set ?_ GE402.out) | exact HB.out)⟩
   ·replace c17 := Bool.eq_false_iff.mpr c17
    subst c17
    have H1 : ((node_Split.f a0_0 l0_1 l0_2 l0_3).bind fun bt407 => (if (l0_1.length : Int) < 2 then ((lunetteref05_Same.f kj1 bt407.1 bt407.2.1 bt407.2.2.1 bt407.2.2.2.1 a0_0 l0_1 l0_2 l0_3).bind fun t430 => (if t430 = true then (if bt407.2.2.2.2.1.toList = ([] : List UInt8) then ((lunetteref05_Same.f kj1 bt407.2.2.2.2.2.1 bt407.2.2.2.2.2.2.1 bt407.2.2.2.2.2.2.2.1 bt407.2.2.2.2.2.2.2.2 true ([] : List ByteArray) ([] : List ByteArray) ([] : List Int)).bind fun t431 => (some t431)) else (none)) else (none))) else (if a0_0 = true then (lunettelaw05_NodeSplits.j1 kj1 bt407.2.2.2.2.1 (wrap64 ((l0_1.length : Int) / 2)) 0 a0_0 l0_1 l0_2 l0_3 bt407.1 bt407.2.1 bt407.2.2.1 bt407.2.2.2.1 bt407.2.2.2.2.2.1 bt407.2.2.2.2.2.2.1 bt407.2.2.2.2.2.2.2.1 bt407.2.2.2.2.2.2.2.2) else (lunettelaw05_NodeSplits.j1 kj1 bt407.2.2.2.2.1 (wrap64 ((l0_1.length : Int) / 2)) 1 a0_0 l0_1 l0_2 l0_3 bt407.1 bt407.2.1 bt407.2.2.1 bt407.2.2.2.1 bt407.2.2.2.2.2.1 bt407.2.2.2.2.2.2.1 bt407.2.2.2.2.2.2.2.1 bt407.2.2.2.2.2.2.2.2)))) = some r := by rw [if_neg (show ¬ (false = true) by decide)] at H; exact H
    clear H
    have H := H1
    clear H1
    replace H := Option.bind_eq_some_iff.mp H
    obtain ⟨⟨t407, t408, t411, t414, t417, t418, t419, t422, t425⟩, A200, H⟩ := H
    replace H : (if (l0_1.length : Int) < 2 then ((lunetteref05_Same.f kj1 t407 t408 t411 t414 a0_0 l0_1 l0_2 l0_3).bind fun t430 => (if t430 = true then (if t417.toList = ([] : List UInt8) then ((lunetteref05_Same.f kj1 t418 t419 t422 t425 true ([] : List ByteArray) ([] : List ByteArray) ([] : List Int)).bind fun t431 => (some t431)) else (none)) else (none))) else (if a0_0 = true then (lunettelaw05_NodeSplits.j1 kj1 t417 (wrap64 ((l0_1.length : Int) / 2)) 0 a0_0 l0_1 l0_2 l0_3 t407 t408 t411 t414 t418 t419 t422 t425) else (lunettelaw05_NodeSplits.j1 kj1 t417 (wrap64 ((l0_1.length : Int) / 2)) 1 a0_0 l0_1 l0_2 l0_3 t407 t408 t411 t414 t418 t419 t422 t425))) = some r := H
    have A20 := Aside0.mk A200
    clear A200
    by_cases c21 : (l0_1.length : Int) < 2
    ·rw [if_pos c21] at H
     have c21b0 : decide ((l0_1.length : Int) < 2) = true := decide_eq_true c21
     have c21b1 : decide (l0_1.length < 2) = true := decide_eq_true (by omega)
     clear c21
     replace H := Option.bind_eq_some_iff.mp H
     obtain ⟨t430, A220, H⟩ := H
     replace H : (if t430 = true then (if t417.toList = ([] : List UInt8) then ((lunetteref05_Same.f kj1 t418 t419 t422 t425 true ([] : List ByteArray) ([] : List ByteArray) ([] : List Int)).bind fun t431 => (some t431)) else (none)) else (none)) = some r := H
     have A22 := Aside0.mk A220
     clear A220
     by_cases c23 : t430 = true
     ·subst c23
      have H1 : (if t417.toList = ([] : List UInt8) then ((lunetteref05_Same.f kj1 t418 t419 t422 t425 true ([] : List ByteArray) ([] : List ByteArray) ([] : List Int)).bind fun t431 => (some t431)) else (none)) = some r := by rw [if_pos rfl] at H; exact H
      clear H
      have H := H1
      clear H1
      by_cases c24 : t417.toList = ([] : List UInt8)
      ·rw [if_pos c24] at H
       have c24b0 : (t417.toList == ([] : List UInt8)) = true := beq_iff_eq.mpr c24
       have c24b1 : (t417.toList != ([] : List UInt8)) = false := bne_eq_false_iff_eq.mpr c24
       clear c24
       replace H := Option.bind_eq_some_iff.mp H
       obtain ⟨t431, A250, H⟩ := H
       replace H : (some t431) = some r := H
       have A25 := Aside0.mk A250
       clear A250
       obtain rfl := Option.some.inj H
       have hcz26_0 : wc.cell? ⟨gb402, 0, none⟩ = some (.bool a0_0) := (blk_cell BK402.out 0).trans rfl
       have hcz26_1 : wc.cell? ⟨gb402, 1, none⟩ = some (.slice A0_1 l0_1.length c0_1) := (blk_cell BK402.out 1).trans rfl
       have hcz26_2 : wc.cell? ⟨gb402, 2, none⟩ = some (.slice A0_2 l0_2.length c0_2) := (blk_cell BK402.out 2).trans rfl
       have hcz26_3 : wc.cell? ⟨gb402, 3, none⟩ = some (.slice A0_3 l0_3.length c0_3) := (blk_cell BK402.out 3).trans rfl
       have hfz26_0 := blk_frozen BK402.out 0
       have hfz26_1 := blk_frozen BK402.out 1
       have hfz26_2 := blk_frozen BK402.out 2
       have hfz26_3 := blk_frozen BK402.out 3
       go_wp2_with (first | ((with_reducible refine gate_callee (f := 27) rfl ?_); refine goesL_ (some 23) rfl rfl Try.func27 (by kernel_rfl) rfl #[.agg #[.bool a0_0, .slice A0_1 l0_1.length c0_1, .slice A0_2 l0_2.length c0_2, .slice A0_3 l0_3.length c0_3]] rfl (by (try simp only [List.map_toArray, List.map_cons, List.map_nil]); first | done | rfl | (simp only [List.length_drop, List.length_take]; rfl)) ?_; (with_reducible refine (node_Split.calls a0_0 _ _ l0_1 _ _ l0_2 _ _ l0_3 t407 t408 t411 t414 t417 t418 t419 t422 t425 _ ?side1 ?side2 ?side3 ?side4 ?side5 ?side6 A20.out).mono ?_); (case side1 => repeat (first | exact (Kd.C_below HR0_1.out HB.out) | (with_reducible refine Kd.C_alloc ?_ _) | (with_reducible refine Kd.C_drewN ?_ _) | (with_reducible refine Kd.C_drew ?_))); (case side2 => exact HC0_1.out); (case side3 => repeat (first | exact (Kd.C_below HR0_2.out HB.out) | (with_reducible refine Kd.C_alloc ?_ _) | (with_reducible refine Kd.C_drewN ?_ _) | (with_reducible refine Kd.C_drew ?_))); (case side4 => exact HC0_2.out); (case side5 => repeat (first | exact (Kd.C_below HR0_3.out HB.out) | (with_reducible refine Kd.C_alloc ?_ _) | (with_reducible refine Kd.C_drewN ?_ _) | (with_reducible refine Kd.C_drew ?_))); (case side6 => exact HC0_3.out); rintro e w27 ⟨v409, v412, v415, v420, v423, v426, rfl, ho0, ho1, ho2, ho3, ho4, ho5, hb⟩; refine ⟨_, rfl, ?_⟩; have n0_ := Aside0.mk (Kd.V_lower (Kd.V_mono (ok' := fun k_ => k_ ≠ gb402) ho0 (fun k_ hk_ => (Kd.freshB (g := gb402) (o := .cells #[.bool a0_0, .slice A0_1 l0_1.length c0_1, .slice A0_2 l0_2.length c0_2, .slice A0_3 l0_3.length c0_3] 25 (0, 0)) (by (with_reducible repeat (first | refine blk_drewN ?_ _ | refine blk_drew ?_ | refine blk_alloc ?_ _)); exact BK402.out) k_ hk_))) (below_size (by repeat (first | (with_reducible first | exact HB.out | apply below_alloc | apply pw_below_drewN | apply below_drew1 | refine below_set ?_ GE402.out) | exact HB.out)))); have n1_ := Aside0.mk (Kd.V_lower (Kd.V_mono (ok' := fun k_ => k_ ≠ gb402) ho1 (fun k_ hk_ => (Kd.freshB (g := gb402) (o := .cells #[.bool a0_0, .slice A0_1 l0_1.length c0_1, .slice A0_2 l0_2.length c0_2, .slice A0_3 l0_3.length c0_3] 25 (0, 0)) (by (with_reducible repeat (first | refine blk_drewN ?_ _ | refine blk_drew ?_ | refine blk_alloc ?_ _)); exact BK402.out) k_ hk_))) (below_size (by repeat (first | (with_reducible first | exact HB.out | apply below_alloc | apply pw_below_drewN | apply below_drew1 | refine below_set ?_ GE402.out) | exact HB.out)))); have n2_ := Aside0.mk (Kd.V_lower (Kd.V_mono (ok' := fun k_ => k_ ≠ gb402) ho2 (fun k_ hk_ => (Kd.freshB (g := gb402) (o := .cells #[.bool a0_0, .slice A0_1 l0_1.length c0_1, .slice A0_2 l0_2.length c0_2, .slice A0_3 l0_3.length c0_3] 25 (0, 0)) (by (with_reducible repeat (first | refine blk_drewN ?_ _ | refine blk_drew ?_ | refine blk_alloc ?_ _)); exact BK402.out) k_ hk_))) (below_size (by repeat (first | (with_reducible first | exact HB.out | apply below_alloc | apply pw_below_drewN | apply below_drew1 | refine below_set ?_ GE402.out) | exact HB.out)))); have n3_ := Aside0.mk (Kd.V_lower (Kd.V_mono (ok' := fun k_ => k_ ≠ gb402) ho3 (fun k_ hk_ => (Kd.freshB (g := gb402) (o := .cells #[.bool a0_0, .slice A0_1 l0_1.length c0_1, .slice A0_2 l0_2.length c0_2, .slice A0_3 l0_3.length c0_3] 25 (0, 0)) (by (with_reducible repeat (first | refine blk_drewN ?_ _ | refine blk_drew ?_ | refine blk_alloc ?_ _)); exact BK402.out) k_ hk_))) (below_size (by repeat (first | (with_reducible first | exact HB.out | apply below_alloc | apply pw_below_drewN | apply below_drew1 | refine below_set ?_ GE402.out) | exact HB.out)))); have n4_ := Aside0.mk (Kd.V_lower (Kd.V_mono (ok' := fun k_ => k_ ≠ gb402) ho4 (fun k_ hk_ => (Kd.freshB (g := gb402) (o := .cells #[.bool a0_0, .slice A0_1 l0_1.length c0_1, .slice A0_2 l0_2.length c0_2, .slice A0_3 l0_3.length c0_3] 25 (0, 0)) (by (with_reducible repeat (first | refine blk_drewN ?_ _ | refine blk_drew ?_ | refine blk_alloc ?_ _)); exact BK402.out) k_ hk_))) (below_size (by repeat (first | (with_reducible first | exact HB.out | apply below_alloc | apply pw_below_drewN | apply below_drew1 | refine below_set ?_ GE402.out) | exact HB.out)))); have n5_ := Aside0.mk (Kd.V_lower (Kd.V_mono (ok' := fun k_ => k_ ≠ gb402) ho5 (fun k_ hk_ => (Kd.freshB (g := gb402) (o := .cells #[.bool a0_0, .slice A0_1 l0_1.length c0_1, .slice A0_2 l0_2.length c0_2, .slice A0_3 l0_3.length c0_3] 25 (0, 0)) (by (with_reducible repeat (first | refine blk_drewN ?_ _ | refine blk_drew ?_ | refine blk_alloc ?_ _)); exact BK402.out) k_ hk_))) (below_size (by repeat (first | (with_reducible first | exact HB.out | apply below_alloc | apply pw_below_drewN | apply below_drew1 | refine below_set ?_ GE402.out) | exact HB.out)))); have n6_ := Aside0.mk (blk_below (g := gb402) (o := .cells #[.bool a0_0, .slice A0_1 l0_1.length c0_1, .slice A0_2 l0_2.length c0_2, .slice A0_3 l0_3.length c0_3] 25 (0, 0)) (by (with_reducible repeat (first | refine blk_drewN ?_ _ | refine blk_drew ?_ | refine blk_alloc ?_ _)); exact BK402.out) hb); have n7_ := Aside0.mk (below_step (by repeat (first | (with_reducible first | exact HB.out | apply below_alloc | apply pw_below_drewN | apply below_drew1 | refine below_set ?_ GE402.out) | exact HB.out)) hb); clear BK402; clear HB; have HO410 := n0_; have HO413 := n1_; have HO416 := n2_; have HO421 := n3_; have HO424 := n4_; have HO427 := n5_; have BK402 := n6_; have HB := n7_; clear n0_ n1_ n2_ n3_ n4_ n5_ n6_ n7_; (try clear hb); (try clear hb2); (try clear hk); (try clear hi); (try clear ho0); (try clear ho1); (try clear ho2); (try clear ho3); (try clear ho4); (try clear ho5)) | ((with_reducible refine gate_dst (N := 3) rfl ?_); (try (refine gate_guard (by rfl) ?_; dsimp only)); refine box_event ?hg (N := 3) ?hd (cs := #[.bool false, .slice none 0 0, .slice none 0 0, .slice none 0 0]) (t := 25) ?hr ?_; (case hd => rfl); (case hg => rfl); (case hr => first | (go_simp; done) | (go_simp; rfl)); intro gb428 hg w28 hbox hb; have n0_ := Aside0.mk (Kd.V_below (Kd.V_elderB (by (with_reducible repeat (first | apply Kd.V_alloc | apply Kd.V_drewN | apply Kd.V_drew)); exact HO410.out) gb428 (Nat.le_of_eq hg.symm)) hb); have n1_ := Aside0.mk (Kd.V_below (Kd.V_elderB (by (with_reducible repeat (first | apply Kd.V_alloc | apply Kd.V_drewN | apply Kd.V_drew)); exact HO413.out) gb428 (Nat.le_of_eq hg.symm)) hb); have n2_ := Aside0.mk (Kd.V_below (Kd.V_elderB (by (with_reducible repeat (first | apply Kd.V_alloc | apply Kd.V_drewN | apply Kd.V_drew)); exact HO416.out) gb428 (Nat.le_of_eq hg.symm)) hb); have n3_ := Aside0.mk (Kd.V_below (Kd.V_elderB (by (with_reducible repeat (first | apply Kd.V_alloc | apply Kd.V_drewN | apply Kd.V_drew)); exact HO421.out) gb428 (Nat.le_of_eq hg.symm)) hb); have n4_ := Aside0.mk (Kd.V_below (Kd.V_elderB (by (with_reducible repeat (first | apply Kd.V_alloc | apply Kd.V_drewN | apply Kd.V_drew)); exact HO424.out) gb428 (Nat.le_of_eq hg.symm)) hb); have n5_ := Aside0.mk (Kd.V_below (Kd.V_elderB (by (with_reducible repeat (first | apply Kd.V_alloc | apply Kd.V_drewN | apply Kd.V_drew)); exact HO427.out) gb428 (Nat.le_of_eq hg.symm)) hb); have n6_ := Aside0.mk (blk_below (g := gb402) (o := .cells #[.bool a0_0, .slice A0_1 l0_1.length c0_1, .slice A0_2 l0_2.length c0_2, .slice A0_3 l0_3.length c0_3] 25 (0, 0)) (by (with_reducible repeat (first | refine blk_drewN ?_ _ | refine blk_drew ?_ | refine blk_alloc ?_ _)); exact BK402.out) hb); have n7_ := Aside0.mk (below_step (by repeat (first | (with_reducible first | exact HB.out | apply below_alloc | apply pw_below_drewN | apply below_drew1 | refine below_set ?_ GE402.out) | exact HB.out)) hb); have n8_ := Aside0.mk (hbox); have n9_ := Aside0.mk ((by rw [hg]; exact (below_size (by repeat (first | (with_reducible first | exact HB.out | apply below_alloc | apply pw_below_drewN | apply below_drew1 | refine below_set ?_ GE402.out) | exact HB.out))) : w.heap.size ≤ gb428)); have n10_ := Aside0.mk ((by rw [hg]; exact (below_size (by repeat (first | (with_reducible first | exact HB.out | apply below_alloc | apply pw_below_drewN | apply below_drew1 | refine below_set ?_ GE402.out) | exact HB.out))) : w.heap.size ≤ gb428)); have n11_ := Aside0.mk ((by rw [hg]; exact Nat.ne_of_lt (blk_lt (g := gb402) (o := .cells #[.bool a0_0, .slice A0_1 l0_1.length c0_1, .slice A0_2 l0_2.length c0_2, .slice A0_3 l0_3.length c0_3] 25 (0, 0)) (by (with_reducible repeat (first | refine blk_drewN ?_ _ | refine blk_drew ?_ | refine blk_alloc ?_ _)); exact BK402.out)) : gb402 ≠ gb428)); have n12_ := Aside0.mk ((by rw [hg]; exact Nat.ne_of_gt (blk_lt (g := gb402) (o := .cells #[.bool a0_0, .slice A0_1 l0_1.length c0_1, .slice A0_2 l0_2.length c0_2, .slice A0_3 l0_3.length c0_3] 25 (0, 0)) (by (with_reducible repeat (first | refine blk_drewN ?_ _ | refine blk_drew ?_ | refine blk_alloc ?_ _)); exact BK402.out)) : gb428 ≠ gb402)); clear HO410; clear HO413; clear HO416; clear HO421; clear HO424; clear HO427; clear BK402; clear HB; have HO410 := n0_; have HO413 := n1_; have HO416 := n2_; have HO421 := n3_; have HO424 := n4_; have HO427 := n5_; have BK402 := n6_; have HB := n7_; have BK428 := n8_; have GW428 := n9_; have GE428 := n10_; have NB402_428 := n11_; have NB428_402 := n12_; clear n0_ n1_ n2_ n3_ n4_ n5_ n6_ n7_ n8_ n9_ n10_ n11_ n12_; clear hb hbox hg) | ((with_reducible refine gate_dst (N := 5) rfl ?_); (try (refine gate_guard (by rfl) ?_; dsimp only)); refine box_event ?hg (N := 5) ?hd (cs := #[.bool false, .slice none 0 0, .slice none 0 0, .slice none 0 0]) (t := 25) ?hr ?_; (case hd => rfl); (case hg => rfl); (case hr => first | (go_simp; done) | (go_simp; rfl)); intro gb429 hg w29 hbox hb; have n0_ := Aside0.mk (Kd.V_below (Kd.V_elderB (by (with_reducible repeat (first | apply Kd.V_alloc | apply Kd.V_drewN | apply Kd.V_drew)); exact HO410.out) gb429 (Nat.le_of_eq hg.symm)) hb); have n1_ := Aside0.mk (Kd.V_below (Kd.V_elderB (by (with_reducible repeat (first | apply Kd.V_alloc | apply Kd.V_drewN | apply Kd.V_drew)); exact HO413.out) gb429 (Nat.le_of_eq hg.symm)) hb); have n2_ := Aside0.mk (Kd.V_below (Kd.V_elderB (by (with_reducible repeat (first | apply Kd.V_alloc | apply Kd.V_drewN | apply Kd.V_drew)); exact HO416.out) gb429 (Nat.le_of_eq hg.symm)) hb); have n3_ := Aside0.mk (Kd.V_below (Kd.V_elderB (by (with_reducible repeat (first | apply Kd.V_alloc | apply Kd.V_drewN | apply Kd.V_drew)); exact HO421.out) gb429 (Nat.le_of_eq hg.symm)) hb); have n4_ := Aside0.mk (Kd.V_below (Kd.V_elderB (by (with_reducible repeat (first | apply Kd.V_alloc | apply Kd.V_drewN | apply Kd.V_drew)); exact HO424.out) gb429 (Nat.le_of_eq hg.symm)) hb); have n5_ := Aside0.mk (Kd.V_below (Kd.V_elderB (by (with_reducible repeat (first | apply Kd.V_alloc | apply Kd.V_drewN | apply Kd.V_drew)); exact HO427.out) gb429 (Nat.le_of_eq hg.symm)) hb); have n6_ := Aside0.mk (blk_below (g := gb402) (o := .cells #[.bool a0_0, .slice A0_1 l0_1.length c0_1, .slice A0_2 l0_2.length c0_2, .slice A0_3 l0_3.length c0_3] 25 (0, 0)) (by (with_reducible repeat (first | refine blk_drewN ?_ _ | refine blk_drew ?_ | refine blk_alloc ?_ _)); exact BK402.out) hb); have n7_ := Aside0.mk (blk_below (g := gb428) (o := .cells #[.bool false, .slice none 0 0, .slice none 0 0, .slice none 0 0] 25 (0, 0)) (by (with_reducible repeat (first | refine blk_drewN ?_ _ | refine blk_drew ?_ | refine blk_alloc ?_ _)); exact BK428.out) hb); have n8_ := Aside0.mk (below_step (by repeat (first | (with_reducible first | exact HB.out | apply below_alloc | apply pw_below_drewN | apply below_drew1 | refine below_set ?_ GE402.out | refine below_set ?_ GE428.out) | exact HB.out)) hb); have n9_ := Aside0.mk (hbox); have n10_ := Aside0.mk ((by rw [hg]; exact (below_size (by repeat (first | (with_reducible first | exact HB.out | apply below_alloc | apply pw_below_drewN | apply below_drew1 | refine below_set ?_ GE402.out | refine below_set ?_ GE428.out) | exact HB.out))) : w.heap.size ≤ gb429)); have n11_ := Aside0.mk ((by rw [hg]; exact (below_size (by repeat (first | (with_reducible first | exact HB.out | apply below_alloc | apply pw_below_drewN | apply below_drew1 | refine below_set ?_ GE402.out | refine below_set ?_ GE428.out) | exact HB.out))) : w.heap.size ≤ gb429)); have n12_ := Aside0.mk ((by rw [hg]; exact Nat.ne_of_lt (blk_lt (g := gb402) (o := .cells #[.bool a0_0, .slice A0_1 l0_1.length c0_1, .slice A0_2 l0_2.length c0_2, .slice A0_3 l0_3.length c0_3] 25 (0, 0)) (by (with_reducible repeat (first | refine blk_drewN ?_ _ | refine blk_drew ?_ | refine blk_alloc ?_ _)); exact BK402.out)) : gb402 ≠ gb429)); have n13_ := Aside0.mk ((by rw [hg]; exact Nat.ne_of_gt (blk_lt (g := gb402) (o := .cells #[.bool a0_0, .slice A0_1 l0_1.length c0_1, .slice A0_2 l0_2.length c0_2, .slice A0_3 l0_3.length c0_3] 25 (0, 0)) (by (with_reducible repeat (first | refine blk_drewN ?_ _ | refine blk_drew ?_ | refine blk_alloc ?_ _)); exact BK402.out)) : gb429 ≠ gb402)); have n14_ := Aside0.mk ((by rw [hg]; exact Nat.ne_of_lt (blk_lt (g := gb428) (o := .cells #[.bool false, .slice none 0 0, .slice none 0 0, .slice none 0 0] 25 (0, 0)) (by (with_reducible repeat (first | refine blk_drewN ?_ _ | refine blk_drew ?_ | refine blk_alloc ?_ _)); exact BK428.out)) : gb428 ≠ gb429)); have n15_ := Aside0.mk ((by rw [hg]; exact Nat.ne_of_gt (blk_lt (g := gb428) (o := .cells #[.bool false, .slice none 0 0, .slice none 0 0, .slice none 0 0] 25 (0, 0)) (by (with_reducible repeat (first | refine blk_drewN ?_ _ | refine blk_drew ?_ | refine blk_alloc ?_ _)); exact BK428.out)) : gb429 ≠ gb428)); clear HO410; clear HO413; clear HO416; clear HO421; clear HO424; clear HO427; clear BK402; clear BK428; clear HB; have HO410 := n0_; have HO413 := n1_; have HO416 := n2_; have HO421 := n3_; have HO424 := n4_; have HO427 := n5_; have BK402 := n6_; have BK428 := n7_; have HB := n8_; have BK429 := n9_; have GW429 := n10_; have GE429 := n11_; have NB402_429 := n12_; have NB429_402 := n13_; have NB428_429 := n14_; have NB429_428 := n15_; clear n0_ n1_ n2_ n3_ n4_ n5_ n6_ n7_ n8_ n9_ n10_ n11_ n12_ n13_ n14_ n15_; clear hb hbox hg; have hnb30 := NB428_402.out; have hnc30 := NB402_428.out; have hnb31 := NB428_429.out; have hnc31 := NB429_428.out; have hcz32_0 : w29.cell? ⟨gb428, 0, none⟩ = some (.bool false) := (blk_cell BK428.out 0).trans rfl; have hcz32_1 : w29.cell? ⟨gb428, 1, none⟩ = some (.slice none 0 0) := (blk_cell BK428.out 1).trans rfl; have hcz32_2 : w29.cell? ⟨gb428, 2, none⟩ = some (.slice none 0 0) := (blk_cell BK428.out 2).trans rfl; have hcz32_3 : w29.cell? ⟨gb428, 3, none⟩ = some (.slice none 0 0) := (blk_cell BK428.out 3).trans rfl; have hfz32_0 := blk_frozen BK428.out 0; have hfz32_1 := blk_frozen BK428.out 1; have hfz32_2 := blk_frozen BK428.out 2; have hfz32_3 := blk_frozen BK428.out 3; obtain ⟨Ao33, co33, eo33⟩ := Kd.V_slice HO410.out; subst eo33; obtain ⟨Ao34, co34, eo34⟩ := Kd.V_slice HO413.out; subst eo34; obtain ⟨Ao35, co35, eo35⟩ := Kd.V_slice HO416.out; subst eo35; have hnb36 := NB429_402.out; have hnc36 := NB402_429.out; have hcz37_0 : w29.cell? ⟨gb429, 0, none⟩ = some (.bool false) := (blk_cell BK429.out 0).trans rfl; have hcz37_1 : w29.cell? ⟨gb429, 1, none⟩ = some (.slice none 0 0) := (blk_cell BK429.out 1).trans rfl; have hcz37_2 : w29.cell? ⟨gb429, 2, none⟩ = some (.slice none 0 0) := (blk_cell BK429.out 2).trans rfl; have hcz37_3 : w29.cell? ⟨gb429, 3, none⟩ = some (.slice none 0 0) := (blk_cell BK429.out 3).trans rfl; have hfz37_0 := blk_frozen BK429.out 0; have hfz37_1 := blk_frozen BK429.out 1; have hfz37_2 := blk_frozen BK429.out 2; have hfz37_3 := blk_frozen BK429.out 3; obtain ⟨Ao38, co38, eo38⟩ := Kd.V_slice HO421.out; subst eo38; obtain ⟨Ao39, co39, eo39⟩ := Kd.V_slice HO424.out; subst eo39; obtain ⟨Ao40, co40, eo40⟩ := Kd.V_slice HO427.out; subst eo40; have hcz41_0 : w29.cell? ⟨gb402, 0, none⟩ = some (.bool a0_0) := (blk_cell BK402.out 0).trans rfl; have hcz41_1 : w29.cell? ⟨gb402, 1, none⟩ = some (.slice A0_1 l0_1.length c0_1) := (blk_cell BK402.out 1).trans rfl; have hcz41_2 : w29.cell? ⟨gb402, 2, none⟩ = some (.slice A0_2 l0_2.length c0_2) := (blk_cell BK402.out 2).trans rfl; have hcz41_3 : w29.cell? ⟨gb402, 3, none⟩ = some (.slice A0_3 l0_3.length c0_3) := (blk_cell BK402.out 3).trans rfl; have hfz41_0 := blk_frozen BK402.out 0; have hfz41_1 := blk_frozen BK402.out 1; have hfz41_2 := blk_frozen BK402.out 2; have hfz41_3 := blk_frozen BK402.out 3) | ((with_reducible refine gate_callee (f := 23) rfl ?_); refine goesL_ (some 33) rfl rfl Try.func23 (by kernel_rfl) rfl #[.agg #[.bool t407, .slice Ao33 t408.length co33, .slice Ao34 t411.length co34, .slice Ao35 t414.length co35], .agg #[.bool a0_0, .slice A0_1 l0_1.length c0_1, .slice A0_2 l0_2.length c0_2, .slice A0_3 l0_3.length c0_3]] rfl (by (try simp only [List.map_toArray, List.map_cons, List.map_nil]); first | done | rfl | (simp only [List.length_drop, List.length_take]; rfl)) ?_; (with_reducible refine (lunetteref05_Same.calls kj1 t407 _ _ t408 _ _ t411 _ _ t414 a0_0 _ _ l0_1 _ _ l0_2 _ _ l0_3 true _ ?side1 ?side2 ?side3 ?side4 ?side5 ?side6 ?side7 ?side8 ?side9 ?side10 ?side11 ?side12 A22.out).mono ?_); (case side1 => refine (Kd.V_reads' (e := 9) (base := w.heap.size) (ok := fun k_ => ((k_ ≠ gb402 ∧ k_ ≠ gb428) ∧ k_ ≠ gb429)) (n := t408.length) (c := co33) ?_).2.2; exact (by (with_reducible repeat (first | apply Kd.V_alloc | apply Kd.V_drewN | apply Kd.V_drew)); exact (Kd.V_mono (Kd.V_mono (Kd.V_far (p := ⟨gb429, 3, none⟩) (Kd.V_far (p := ⟨gb429, 2, none⟩) (Kd.V_far (p := ⟨gb429, 1, none⟩) (Kd.V_far (p := ⟨gb429, 0, none⟩) (Kd.V_far (p := ⟨gb428, 3, none⟩) (Kd.V_far (p := ⟨gb428, 2, none⟩) (Kd.V_far (p := ⟨gb428, 1, none⟩) (Kd.V_far (p := ⟨gb428, 0, none⟩) (Kd.V_mono (Kd.V_mono HO410.out (fun k_ hk => (⟨hk, hk.1.2⟩ : _ ∧ k_ ≠ gb428))) (fun k_ hk => (⟨hk, hk.1.2⟩ : _ ∧ k_ ≠ gb429))) (fun _ hk => hk.1.2) (.bool t407)) (fun _ hk => hk.1.2) (.slice Ao33 t408.length co33)) (fun _ hk => hk.1.2) (.slice Ao34 t411.length co34)) (fun _ hk => hk.1.2) (.slice Ao35 t414.length co35)) (fun _ hk => hk.2) (.bool t418)) (fun _ hk => hk.2) (.slice Ao38 t419.length co38)) (fun _ hk => hk.2) (.slice Ao39 t422.length co39)) (fun _ hk => hk.2) (.slice Ao40 t425.length co40)) (fun _ h_ => h_.1)) (fun _ h_ => h_.1)))); (case side2 => exact (Kd.V_reads' HO410.out).2.1); (case side3 => refine (Kd.V_reads' (e := 9) (base := w.heap.size) (ok := fun k_ => ((k_ ≠ gb402 ∧ k_ ≠ gb428) ∧ k_ ≠ gb429)) (n := t411.length) (c := co34) ?_).2.2; exact (by (with_reducible repeat (first | apply Kd.V_alloc | apply Kd.V_drewN | apply Kd.V_drew)); exact (Kd.V_mono (Kd.V_mono (Kd.V_far (p := ⟨gb429, 3, none⟩) (Kd.V_far (p := ⟨gb429, 2, none⟩) (Kd.V_far (p := ⟨gb429, 1, none⟩) (Kd.V_far (p := ⟨gb429, 0, none⟩) (Kd.V_far (p := ⟨gb428, 3, none⟩) (Kd.V_far (p := ⟨gb428, 2, none⟩) (Kd.V_far (p := ⟨gb428, 1, none⟩) (Kd.V_far (p := ⟨gb428, 0, none⟩) (Kd.V_mono (Kd.V_mono HO413.out (fun k_ hk => (⟨hk, hk.1.2⟩ : _ ∧ k_ ≠ gb428))) (fun k_ hk => (⟨hk, hk.1.2⟩ : _ ∧ k_ ≠ gb429))) (fun _ hk => hk.1.2) (.bool t407)) (fun _ hk => hk.1.2) (.slice Ao33 t408.length co33)) (fun _ hk => hk.1.2) (.slice Ao34 t411.length co34)) (fun _ hk => hk.1.2) (.slice Ao35 t414.length co35)) (fun _ hk => hk.2) (.bool t418)) (fun _ hk => hk.2) (.slice Ao38 t419.length co38)) (fun _ hk => hk.2) (.slice Ao39 t422.length co39)) (fun _ hk => hk.2) (.slice Ao40 t425.length co40)) (fun _ h_ => h_.1)) (fun _ h_ => h_.1)))); (case side4 => exact (Kd.V_reads' HO413.out).2.1); (case side5 => refine (Kd.V_reads' (e := 3) (base := w.heap.size) (ok := fun k_ => ((k_ ≠ gb402 ∧ k_ ≠ gb428) ∧ k_ ≠ gb429)) (n := t414.length) (c := co35) ?_).2.2; exact (by (with_reducible repeat (first | apply Kd.V_alloc | apply Kd.V_drewN | apply Kd.V_drew)); exact (Kd.V_mono (Kd.V_mono (Kd.V_far (p := ⟨gb429, 3, none⟩) (Kd.V_far (p := ⟨gb429, 2, none⟩) (Kd.V_far (p := ⟨gb429, 1, none⟩) (Kd.V_far (p := ⟨gb429, 0, none⟩) (Kd.V_far (p := ⟨gb428, 3, none⟩) (Kd.V_far (p := ⟨gb428, 2, none⟩) (Kd.V_far (p := ⟨gb428, 1, none⟩) (Kd.V_far (p := ⟨gb428, 0, none⟩) (Kd.V_mono (Kd.V_mono HO416.out (fun k_ hk => (⟨hk, hk.1.2⟩ : _ ∧ k_ ≠ gb428))) (fun k_ hk => (⟨hk, hk.1.2⟩ : _ ∧ k_ ≠ gb429))) (fun _ hk => hk.1.2) (.bool t407)) (fun _ hk => hk.1.2) (.slice Ao33 t408.length co33)) (fun _ hk => hk.1.2) (.slice Ao34 t411.length co34)) (fun _ hk => hk.1.2) (.slice Ao35 t414.length co35)) (fun _ hk => hk.2) (.bool t418)) (fun _ hk => hk.2) (.slice Ao38 t419.length co38)) (fun _ hk => hk.2) (.slice Ao39 t422.length co39)) (fun _ hk => hk.2) (.slice Ao40 t425.length co40)) (fun _ h_ => h_.1)) (fun _ h_ => h_.1)))); (case side6 => exact (Kd.V_reads' HO416.out).2.1); (case side7 => exact Kd.C_below HR0_1.out (by repeat (first | (with_reducible first | exact HB.out | apply below_alloc | apply pw_below_drewN | apply below_drew1 | refine below_set ?_ GE402.out | refine below_set ?_ GE428.out | refine below_set ?_ GE429.out) | exact HB.out))); (case side8 => exact HC0_1.out); (case side9 => exact Kd.C_below HR0_2.out (by repeat (first | (with_reducible first | exact HB.out | apply below_alloc | apply pw_below_drewN | apply below_drew1 | refine below_set ?_ GE402.out | refine below_set ?_ GE428.out | refine below_set ?_ GE429.out) | exact HB.out))); (case side10 => exact HC0_2.out); (case side11 => exact Kd.C_below HR0_3.out (by repeat (first | (with_reducible first | exact HB.out | apply below_alloc | apply pw_below_drewN | apply below_drew1 | refine below_set ?_ GE402.out | refine below_set ?_ GE428.out | refine below_set ?_ GE429.out) | exact HB.out))); (case side12 => exact HC0_3.out); rintro e w42 ⟨rfl, hb⟩; refine ⟨_, rfl, ?_⟩; have n0_ := Aside0.mk (Kd.V_below (by (with_reducible repeat (first | apply Kd.V_alloc | apply Kd.V_drewN | apply Kd.V_drew)); exact (Kd.V_mono (Kd.V_mono (Kd.V_far (p := ⟨gb429, 3, none⟩) (Kd.V_far (p := ⟨gb429, 2, none⟩) (Kd.V_far (p := ⟨gb429, 1, none⟩) (Kd.V_far (p := ⟨gb429, 0, none⟩) (Kd.V_far (p := ⟨gb428, 3, none⟩) (Kd.V_far (p := ⟨gb428, 2, none⟩) (Kd.V_far (p := ⟨gb428, 1, none⟩) (Kd.V_far (p := ⟨gb428, 0, none⟩) (Kd.V_mono (Kd.V_mono HO410.out (fun k_ hk => (⟨hk, hk.1.2⟩ : _ ∧ k_ ≠ gb428))) (fun k_ hk => (⟨hk, hk.1.2⟩ : _ ∧ k_ ≠ gb429))) (fun _ hk => hk.1.2) (.bool t407)) (fun _ hk => hk.1.2) (.slice Ao33 t408.length co33)) (fun _ hk => hk.1.2) (.slice Ao34 t411.length co34)) (fun _ hk => hk.1.2) (.slice Ao35 t414.length co35)) (fun _ hk => hk.2) (.bool t418)) (fun _ hk => hk.2) (.slice Ao38 t419.length co38)) (fun _ hk => hk.2) (.slice Ao39 t422.length co39)) (fun _ hk => hk.2) (.slice Ao40 t425.length co40)) (fun _ h_ => h_.1)) (fun _ h_ => h_.1))) hb); have n1_ := Aside0.mk (Kd.V_below (by (with_reducible repeat (first | apply Kd.V_alloc | apply Kd.V_drewN | apply Kd.V_drew)); exact (Kd.V_mono (Kd.V_mono (Kd.V_far (p := ⟨gb429, 3, none⟩) (Kd.V_far (p := ⟨gb429, 2, none⟩) (Kd.V_far (p := ⟨gb429, 1, none⟩) (Kd.V_far (p := ⟨gb429, 0, none⟩) (Kd.V_far (p := ⟨gb428, 3, none⟩) (Kd.V_far (p := ⟨gb428, 2, none⟩) (Kd.V_far (p := ⟨gb428, 1, none⟩) (Kd.V_far (p := ⟨gb428, 0, none⟩) (Kd.V_mono (Kd.V_mono HO413.out (fun k_ hk => (⟨hk, hk.1.2⟩ : _ ∧ k_ ≠ gb428))) (fun k_ hk => (⟨hk, hk.1.2⟩ : _ ∧ k_ ≠ gb429))) (fun _ hk => hk.1.2) (.bool t407)) (fun _ hk => hk.1.2) (.slice Ao33 t408.length co33)) (fun _ hk => hk.1.2) (.slice Ao34 t411.length co34)) (fun _ hk => hk.1.2) (.slice Ao35 t414.length co35)) (fun _ hk => hk.2) (.bool t418)) (fun _ hk => hk.2) (.slice Ao38 t419.length co38)) (fun _ hk => hk.2) (.slice Ao39 t422.length co39)) (fun _ hk => hk.2) (.slice Ao40 t425.length co40)) (fun _ h_ => h_.1)) (fun _ h_ => h_.1))) hb); have n2_ := Aside0.mk (Kd.V_below (by (with_reducible repeat (first | apply Kd.V_alloc | apply Kd.V_drewN | apply Kd.V_drew)); exact (Kd.V_mono (Kd.V_mono (Kd.V_far (p := ⟨gb429, 3, none⟩) (Kd.V_far (p := ⟨gb429, 2, none⟩) (Kd.V_far (p := ⟨gb429, 1, none⟩) (Kd.V_far (p := ⟨gb429, 0, none⟩) (Kd.V_far (p := ⟨gb428, 3, none⟩) (Kd.V_far (p := ⟨gb428, 2, none⟩) (Kd.V_far (p := ⟨gb428, 1, none⟩) (Kd.V_far (p := ⟨gb428, 0, none⟩) (Kd.V_mono (Kd.V_mono HO416.out (fun k_ hk => (⟨hk, hk.1.2⟩ : _ ∧ k_ ≠ gb428))) (fun k_ hk => (⟨hk, hk.1.2⟩ : _ ∧ k_ ≠ gb429))) (fun _ hk => hk.1.2) (.bool t407)) (fun _ hk => hk.1.2) (.slice Ao33 t408.length co33)) (fun _ hk => hk.1.2) (.slice Ao34 t411.length co34)) (fun _ hk => hk.1.2) (.slice Ao35 t414.length co35)) (fun _ hk => hk.2) (.bool t418)) (fun _ hk => hk.2) (.slice Ao38 t419.length co38)) (fun _ hk => hk.2) (.slice Ao39 t422.length co39)) (fun _ hk => hk.2) (.slice Ao40 t425.length co40)) (fun _ h_ => h_.1)) (fun _ h_ => h_.1))) hb); have n3_ := Aside0.mk (Kd.V_below (by (with_reducible repeat (first | apply Kd.V_alloc | apply Kd.V_drewN | apply Kd.V_drew)); exact (Kd.V_mono (Kd.V_mono (Kd.V_far (p := ⟨gb429, 3, none⟩) (Kd.V_far (p := ⟨gb429, 2, none⟩) (Kd.V_far (p := ⟨gb429, 1, none⟩) (Kd.V_far (p := ⟨gb429, 0, none⟩) (Kd.V_far (p := ⟨gb428, 3, none⟩) (Kd.V_far (p := ⟨gb428, 2, none⟩) (Kd.V_far (p := ⟨gb428, 1, none⟩) (Kd.V_far (p := ⟨gb428, 0, none⟩) (Kd.V_mono (Kd.V_mono HO421.out (fun k_ hk => (⟨hk, hk.1.2⟩ : _ ∧ k_ ≠ gb428))) (fun k_ hk => (⟨hk, hk.1.2⟩ : _ ∧ k_ ≠ gb429))) (fun _ hk => hk.1.2) (.bool t407)) (fun _ hk => hk.1.2) (.slice Ao33 t408.length co33)) (fun _ hk => hk.1.2) (.slice Ao34 t411.length co34)) (fun _ hk => hk.1.2) (.slice Ao35 t414.length co35)) (fun _ hk => hk.2) (.bool t418)) (fun _ hk => hk.2) (.slice Ao38 t419.length co38)) (fun _ hk => hk.2) (.slice Ao39 t422.length co39)) (fun _ hk => hk.2) (.slice Ao40 t425.length co40)) (fun _ h_ => h_.1)) (fun _ h_ => h_.1))) hb); have n4_ := Aside0.mk (Kd.V_below (by (with_reducible repeat (first | apply Kd.V_alloc | apply Kd.V_drewN | apply Kd.V_drew)); exact (Kd.V_mono (Kd.V_mono (Kd.V_far (p := ⟨gb429, 3, none⟩) (Kd.V_far (p := ⟨gb429, 2, none⟩) (Kd.V_far (p := ⟨gb429, 1, none⟩) (Kd.V_far (p := ⟨gb429, 0, none⟩) (Kd.V_far (p := ⟨gb428, 3, none⟩) (Kd.V_far (p := ⟨gb428, 2, none⟩) (Kd.V_far (p := ⟨gb428, 1, none⟩) (Kd.V_far (p := ⟨gb428, 0, none⟩) (Kd.V_mono (Kd.V_mono HO424.out (fun k_ hk => (⟨hk, hk.1.2⟩ : _ ∧ k_ ≠ gb428))) (fun k_ hk => (⟨hk, hk.1.2⟩ : _ ∧ k_ ≠ gb429))) (fun _ hk => hk.1.2) (.bool t407)) (fun _ hk => hk.1.2) (.slice Ao33 t408.length co33)) (fun _ hk => hk.1.2) (.slice Ao34 t411.length co34)) (fun _ hk => hk.1.2) (.slice Ao35 t414.length co35)) (fun _ hk => hk.2) (.bool t418)) (fun _ hk => hk.2) (.slice Ao38 t419.length co38)) (fun _ hk => hk.2) (.slice Ao39 t422.length co39)) (fun _ hk => hk.2) (.slice Ao40 t425.length co40)) (fun _ h_ => h_.1)) (fun _ h_ => h_.1))) hb); have n5_ := Aside0.mk (Kd.V_below (by (with_reducible repeat (first | apply Kd.V_alloc | apply Kd.V_drewN | apply Kd.V_drew)); exact (Kd.V_mono (Kd.V_mono (Kd.V_far (p := ⟨gb429, 3, none⟩) (Kd.V_far (p := ⟨gb429, 2, none⟩) (Kd.V_far (p := ⟨gb429, 1, none⟩) (Kd.V_far (p := ⟨gb429, 0, none⟩) (Kd.V_far (p := ⟨gb428, 3, none⟩) (Kd.V_far (p := ⟨gb428, 2, none⟩) (Kd.V_far (p := ⟨gb428, 1, none⟩) (Kd.V_far (p := ⟨gb428, 0, none⟩) (Kd.V_mono (Kd.V_mono HO427.out (fun k_ hk => (⟨hk, hk.1.2⟩ : _ ∧ k_ ≠ gb428))) (fun k_ hk => (⟨hk, hk.1.2⟩ : _ ∧ k_ ≠ gb429))) (fun _ hk => hk.1.2) (.bool t407)) (fun _ hk => hk.1.2) (.slice Ao33 t408.length co33)) (fun _ hk => hk.1.2) (.slice Ao34 t411.length co34)) (fun _ hk => hk.1.2) (.slice Ao35 t414.length co35)) (fun _ hk => hk.2) (.bool t418)) (fun _ hk => hk.2) (.slice Ao38 t419.length co38)) (fun _ hk => hk.2) (.slice Ao39 t422.length co39)) (fun _ hk => hk.2) (.slice Ao40 t425.length co40)) (fun _ h_ => h_.1)) (fun _ h_ => h_.1))) hb); have n6_ := Aside0.mk (blk_below (g := gb402) (o := .cells #[.bool a0_0, .slice A0_1 l0_1.length c0_1, .slice A0_2 l0_2.length c0_2, .slice A0_3 l0_3.length c0_3] 25 (0, 0)) (by (with_reducible repeat (first | refine blk_drewN ?_ _ | refine blk_drew ?_ | refine blk_alloc ?_ _)); refine blk_far ?_ NB402_429.out _; (with_reducible repeat (first | refine blk_drewN ?_ _ | refine blk_drew ?_ | refine blk_alloc ?_ _)); refine blk_far ?_ NB402_429.out _; (with_reducible repeat (first | refine blk_drewN ?_ _ | refine blk_drew ?_ | refine blk_alloc ?_ _)); refine blk_far ?_ NB402_429.out _; (with_reducible repeat (first | refine blk_drewN ?_ _ | refine blk_drew ?_ | refine blk_alloc ?_ _)); refine blk_far ?_ NB402_429.out _; (with_reducible repeat (first | refine blk_drewN ?_ _ | refine blk_drew ?_ | refine blk_alloc ?_ _)); refine blk_far ?_ NB402_428.out _; (with_reducible repeat (first | refine blk_drewN ?_ _ | refine blk_drew ?_ | refine blk_alloc ?_ _)); refine blk_far ?_ NB402_428.out _; (with_reducible repeat (first | refine blk_drewN ?_ _ | refine blk_drew ?_ | refine blk_alloc ?_ _)); refine blk_far ?_ NB402_428.out _; (with_reducible repeat (first | refine blk_drewN ?_ _ | refine blk_drew ?_ | refine blk_alloc ?_ _)); refine blk_far ?_ NB402_428.out _; (with_reducible repeat (first | refine blk_drewN ?_ _ | refine blk_drew ?_ | refine blk_alloc ?_ _)); exact BK402.out) hb); have n7_ := Aside0.mk (blk_below (g := gb428) (o := .cells #[.bool t407, .slice Ao33 t408.length co33, .slice Ao34 t411.length co34, .slice Ao35 t414.length co35] 25 (0, 0)) (by (with_reducible repeat (first | refine blk_drewN ?_ _ | refine blk_drew ?_ | refine blk_alloc ?_ _)); refine blk_far ?_ NB428_429.out _; (with_reducible repeat (first | refine blk_drewN ?_ _ | refine blk_drew ?_ | refine blk_alloc ?_ _)); refine blk_far ?_ NB428_429.out _; (with_reducible repeat (first | refine blk_drewN ?_ _ | refine blk_drew ?_ | refine blk_alloc ?_ _)); refine blk_far ?_ NB428_429.out _; (with_reducible repeat (first | refine blk_drewN ?_ _ | refine blk_drew ?_ | refine blk_alloc ?_ _)); refine blk_far ?_ NB428_429.out _; (with_reducible repeat (first | refine blk_drewN ?_ _ | refine blk_drew ?_ | refine blk_alloc ?_ _)); refine blk_put (cs := #[.bool t407, .slice Ao33 t408.length co33, .slice Ao34 t411.length co34, .slice none 0 0]) ?_ 3 _ rfl; (with_reducible repeat (first | refine blk_drewN ?_ _ | refine blk_drew ?_ | refine blk_alloc ?_ _)); refine blk_put (cs := #[.bool t407, .slice Ao33 t408.length co33, .slice none 0 0, .slice none 0 0]) ?_ 2 _ rfl; (with_reducible repeat (first | refine blk_drewN ?_ _ | refine blk_drew ?_ | refine blk_alloc ?_ _)); refine blk_put (cs := #[.bool t407, .slice none 0 0, .slice none 0 0, .slice none 0 0]) ?_ 1 _ rfl; (with_reducible repeat (first | refine blk_drewN ?_ _ | refine blk_drew ?_ | refine blk_alloc ?_ _)); refine blk_put (cs := #[.bool false, .slice none 0 0, .slice none 0 0, .slice none 0 0]) ?_ 0 _ rfl; (with_reducible repeat (first | refine blk_drewN ?_ _ | refine blk_drew ?_ | refine blk_alloc ?_ _)); exact BK428.out) hb); have n8_ := Aside0.mk (blk_below (g := gb429) (o := .cells #[.bool t418, .slice Ao38 t419.length co38, .slice Ao39 t422.length co39, .slice Ao40 t425.length co40] 25 (0, 0)) (by (with_reducible repeat (first | refine blk_drewN ?_ _ | refine blk_drew ?_ | refine blk_alloc ?_ _)); refine blk_put (cs := #[.bool t418, .slice Ao38 t419.length co38, .slice Ao39 t422.length co39, .slice none 0 0]) ?_ 3 _ rfl; (with_reducible repeat (first | refine blk_drewN ?_ _ | refine blk_drew ?_ | refine blk_alloc ?_ _)); refine blk_put (cs := #[.bool t418, .slice Ao38 t419.length co38, .slice none 0 0, .slice none 0 0]) ?_ 2 _ rfl; (with_reducible repeat (first | refine blk_drewN ?_ _ | refine blk_drew ?_ | refine blk_alloc ?_ _)); refine blk_put (cs := #[.bool t418, .slice none 0 0, .slice none 0 0, .slice none 0 0]) ?_ 1 _ rfl; (with_reducible repeat (first | refine blk_drewN ?_ _ | refine blk_drew ?_ | refine blk_alloc ?_ _)); refine blk_put (cs := #[.bool false, .slice none 0 0, .slice none 0 0, .slice none 0 0]) ?_ 0 _ rfl; (with_reducible repeat (first | refine blk_drewN ?_ _ | refine blk_drew ?_ | refine blk_alloc ?_ _)); refine blk_far ?_ NB429_428.out _; (with_reducible repeat (first | refine blk_drewN ?_ _ | refine blk_drew ?_ | refine blk_alloc ?_ _)); refine blk_far ?_ NB429_428.out _; (with_reducible repeat (first | refine blk_drewN ?_ _ | refine blk_drew ?_ | refine blk_alloc ?_ _)); refine blk_far ?_ NB429_428.out _; (with_reducible repeat (first | refine blk_drewN ?_ _ | refine blk_drew ?_ | refine blk_alloc ?_ _)); refine blk_far ?_ NB429_428.out _; (with_reducible repeat (first | refine blk_drewN ?_ _ | refine blk_drew ?_ | refine blk_alloc ?_ _)); exact BK429.out) hb); have n9_ := Aside0.mk (below_step (by repeat (first | (with_reducible first | exact HB.out | apply below_alloc | apply pw_below_drewN | apply below_drew1 | refine below_set ?_ GE402.out | refine below_set ?_ GE428.out | refine below_set ?_ GE429.out) | exact HB.out)) hb); clear HO410; clear HO413; clear HO416; clear HO421; clear HO424; clear HO427; clear BK402; clear BK428; clear BK429; clear HB; have HO410 := n0_; have HO413 := n1_; have HO416 := n2_; have HO421 := n3_; have HO424 := n4_; have HO427 := n5_; have BK402 := n6_; have BK428 := n7_; have BK429 := n8_; have HB := n9_; clear n0_ n1_ n2_ n3_ n4_ n5_ n6_ n7_ n8_ n9_; (try clear hb); (try clear hb2); (try clear hk); (try clear hi); have hcz43_0 : w42.cell? ⟨gb429, 0, none⟩ = some (.bool t418) := (blk_cell BK429.out 0).trans rfl; have hcz43_1 : w42.cell? ⟨gb429, 1, none⟩ = some (.slice Ao38 t419.length co38) := (blk_cell BK429.out 1).trans rfl; have hcz43_2 : w42.cell? ⟨gb429, 2, none⟩ = some (.slice Ao39 t422.length co39) := (blk_cell BK429.out 2).trans rfl; have hcz43_3 : w42.cell? ⟨gb429, 3, none⟩ = some (.slice Ao40 t425.length co40) := (blk_cell BK429.out 3).trans rfl; have hfz43_0 := blk_frozen BK429.out 0; have hfz43_1 := blk_frozen BK429.out 1; have hfz43_2 := blk_frozen BK429.out 2; have hfz43_3 := blk_frozen BK429.out 3) | (go_at_call 23; (refine (lunetteref05_Same.calls kj1 t418 _ _ t419 _ _ t422 _ _ t425 true _ _ ([] : List ByteArray) _ _ ([] : List ByteArray) _ _ ([] : List Int) t431 _ ?side1 ?side2 ?side3 ?side4 ?side5 ?side6 ?side7 ?side8 ?side9 ?side10 ?side11 ?side12 A25.out).mono ?_); (case side1 => repeat (first | exact (Kd.V_reads' HO421.out).2.2 | (with_reducible refine Kd.C_alloc ?_ _) | (with_reducible refine Kd.C_drewN ?_ _) | (with_reducible refine Kd.C_drew ?_))); (case side2 => exact (Kd.V_reads' HO421.out).2.1); (case side3 => repeat (first | exact (Kd.V_reads' HO424.out).2.2 | (with_reducible refine Kd.C_alloc ?_ _) | (with_reducible refine Kd.C_drewN ?_ _) | (with_reducible refine Kd.C_drew ?_))); (case side4 => exact (Kd.V_reads' HO424.out).2.1); (case side5 => repeat (first | exact (Kd.V_reads' HO427.out).2.2 | (with_reducible refine Kd.C_alloc ?_ _) | (with_reducible refine Kd.C_drewN ?_ _) | (with_reducible refine Kd.C_drew ?_))); (case side6 => exact (Kd.V_reads' HO427.out).2.1); (case side7 => exact Kd.C_nil _ _); (case side8 => exact Nat.le_refl _); (case side9 => exact Kd.C_nil _ _); (case side10 => exact Nat.le_refl _); (case side11 => exact Kd.C_nil _ _); (case side12 => exact Nat.le_refl _); rintro e w44 ⟨rfl, hb⟩; have n0_ := Aside0.mk (Kd.V_below (by (with_reducible repeat (first | apply Kd.V_alloc | apply Kd.V_drewN | apply Kd.V_drew)); exact HO410.out) hb); have n1_ := Aside0.mk (Kd.V_below (by (with_reducible repeat (first | apply Kd.V_alloc | apply Kd.V_drewN | apply Kd.V_drew)); exact HO413.out) hb); have n2_ := Aside0.mk (Kd.V_below (by (with_reducible repeat (first | apply Kd.V_alloc | apply Kd.V_drewN | apply Kd.V_drew)); exact HO416.out) hb); have n3_ := Aside0.mk (Kd.V_below (by (with_reducible repeat (first | apply Kd.V_alloc | apply Kd.V_drewN | apply Kd.V_drew)); exact HO421.out) hb); have n4_ := Aside0.mk (Kd.V_below (by (with_reducible repeat (first | apply Kd.V_alloc | apply Kd.V_drewN | apply Kd.V_drew)); exact HO424.out) hb); have n5_ := Aside0.mk (Kd.V_below (by (with_reducible repeat (first | apply Kd.V_alloc | apply Kd.V_drewN | apply Kd.V_drew)); exact HO427.out) hb); have n6_ := Aside0.mk (blk_below (g := gb402) (o := .cells #[.bool a0_0, .slice A0_1 l0_1.length c0_1, .slice A0_2 l0_2.length c0_2, .slice A0_3 l0_3.length c0_3] 25 (0, 0)) (by (with_reducible repeat (first | refine blk_drewN ?_ _ | refine blk_drew ?_ | refine blk_alloc ?_ _)); exact BK402.out) hb); have n7_ := Aside0.mk (blk_below (g := gb428) (o := .cells #[.bool t407, .slice Ao33 t408.length co33, .slice Ao34 t411.length co34, .slice Ao35 t414.length co35] 25 (0, 0)) (by (with_reducible repeat (first | refine blk_drewN ?_ _ | refine blk_drew ?_ | refine blk_alloc ?_ _)); exact BK428.out) hb); have n8_ := Aside0.mk (blk_below (g := gb429) (o := .cells #[.bool t418, .slice Ao38 t419.length co38, .slice Ao39 t422.length co39, .slice Ao40 t425.length co40] 25 (0, 0)) (by (with_reducible repeat (first | refine blk_drewN ?_ _ | refine blk_drew ?_ | refine blk_alloc ?_ _)); exact BK429.out) hb); have n9_ := Aside0.mk (below_step (by repeat (first | (with_reducible first | exact HB.out | apply below_alloc | apply pw_below_drewN | apply below_drew1 | refine below_set ?_ GE402.out | refine below_set ?_ GE428.out | refine below_set ?_ GE429.out) | exact HB.out)) hb); clear HO410; clear HO413; clear HO416; clear HO421; clear HO424; clear HO427; clear BK402; clear BK428; clear BK429; clear HB; have HO410 := n0_; have HO413 := n1_; have HO416 := n2_; have HO421 := n3_; have HO424 := n4_; have HO427 := n5_; have BK402 := n6_; have BK428 := n7_; have BK429 := n8_; have HB := n9_; clear n0_ n1_ n2_ n3_ n4_ n5_ n6_ n7_ n8_ n9_; (try clear hb); (try clear hb2); (try clear hk); (try clear hi)))
       go_ret
       exact ⟨by first | rfl | (simp [errW_none, errW_some] <;> rfl) | (simp [*, errW_none, errW_some] <;> rfl), by repeat (first | (with_reducible first | exact HB.out | apply below_alloc | apply pw_below_drewN | apply below_drew1 | refine below_set ?_ GE402.out | refine below_set ?_ GE428.out | refine below_set ?_ GE429.out) | exact HB.out)⟩
      ·rw [if_neg c24] at H
       exact absurd H (by simp)
     ·replace c23 := Bool.eq_false_iff.mpr c23
      subst c23
      have H1 : (none) = some r := by rw [if_neg (show ¬ (false = true) by decide)] at H; exact H
      clear H
      have H := H1
      clear H1
      exact absurd H (by simp)
    ·rw [if_neg c21] at H
     have c21b0 : decide ((l0_1.length : Int) < 2) = false := decide_eq_false c21
     have c21b1 : decide (l0_1.length < 2) = false := decide_eq_false (by omega)
     clear c21
     have HC45 := Aside0.mk H
     clear H
     have hcz46_0 : wc.cell? ⟨gb402, 0, none⟩ = some (.bool a0_0) := (blk_cell BK402.out 0).trans rfl
     have hcz46_1 : wc.cell? ⟨gb402, 1, none⟩ = some (.slice A0_1 l0_1.length c0_1) := (blk_cell BK402.out 1).trans rfl
     have hcz46_2 : wc.cell? ⟨gb402, 2, none⟩ = some (.slice A0_2 l0_2.length c0_2) := (blk_cell BK402.out 2).trans rfl
     have hcz46_3 : wc.cell? ⟨gb402, 3, none⟩ = some (.slice A0_3 l0_3.length c0_3) := (blk_cell BK402.out 3).trans rfl
     have hfz46_0 := blk_frozen BK402.out 0
     have hfz46_1 := blk_frozen BK402.out 1
     have hfz46_2 := blk_frozen BK402.out 2
     have hfz46_3 := blk_frozen BK402.out 3
     go_upto_if 49 with (first | ((with_reducible refine gate_callee (f := 27) rfl ?_); refine goesL_ (some 23) rfl rfl Try.func27 (by kernel_rfl) rfl #[.agg #[.bool a0_0, .slice A0_1 l0_1.length c0_1, .slice A0_2 l0_2.length c0_2, .slice A0_3 l0_3.length c0_3]] rfl (by (try simp only [List.map_toArray, List.map_cons, List.map_nil]); first | done | rfl | (simp only [List.length_drop, List.length_take]; rfl)) ?_; (with_reducible refine (node_Split.calls a0_0 _ _ l0_1 _ _ l0_2 _ _ l0_3 t407 t408 t411 t414 t417 t418 t419 t422 t425 _ ?side1 ?side2 ?side3 ?side4 ?side5 ?side6 A20.out).mono ?_); (case side1 => repeat (first | exact (Kd.C_below HR0_1.out HB.out) | (with_reducible refine Kd.C_alloc ?_ _) | (with_reducible refine Kd.C_drewN ?_ _) | (with_reducible refine Kd.C_drew ?_))); (case side2 => exact HC0_1.out); (case side3 => repeat (first | exact (Kd.C_below HR0_2.out HB.out) | (with_reducible refine Kd.C_alloc ?_ _) | (with_reducible refine Kd.C_drewN ?_ _) | (with_reducible refine Kd.C_drew ?_))); (case side4 => exact HC0_2.out); (case side5 => repeat (first | exact (Kd.C_below HR0_3.out HB.out) | (with_reducible refine Kd.C_alloc ?_ _) | (with_reducible refine Kd.C_drewN ?_ _) | (with_reducible refine Kd.C_drew ?_))); (case side6 => exact HC0_3.out); rintro e w47 ⟨v409, v412, v415, v420, v423, v426, rfl, ho0, ho1, ho2, ho3, ho4, ho5, hb⟩; refine ⟨_, rfl, ?_⟩; have n0_ := Aside0.mk (Kd.V_lower (Kd.V_mono (ok' := fun k_ => k_ ≠ gb402) ho0 (fun k_ hk_ => (Kd.freshB (g := gb402) (o := .cells #[.bool a0_0, .slice A0_1 l0_1.length c0_1, .slice A0_2 l0_2.length c0_2, .slice A0_3 l0_3.length c0_3] 25 (0, 0)) (by (with_reducible repeat (first | refine blk_drewN ?_ _ | refine blk_drew ?_ | refine blk_alloc ?_ _)); exact BK402.out) k_ hk_))) (below_size (by repeat (first | (with_reducible first | exact HB.out | apply below_alloc | apply pw_below_drewN | apply below_drew1 | refine below_set ?_ GE402.out) | exact HB.out)))); have n1_ := Aside0.mk (Kd.V_lower (Kd.V_mono (ok' := fun k_ => k_ ≠ gb402) ho1 (fun k_ hk_ => (Kd.freshB (g := gb402) (o := .cells #[.bool a0_0, .slice A0_1 l0_1.length c0_1, .slice A0_2 l0_2.length c0_2, .slice A0_3 l0_3.length c0_3] 25 (0, 0)) (by (with_reducible repeat (first | refine blk_drewN ?_ _ | refine blk_drew ?_ | refine blk_alloc ?_ _)); exact BK402.out) k_ hk_))) (below_size (by repeat (first | (with_reducible first | exact HB.out | apply below_alloc | apply pw_below_drewN | apply below_drew1 | refine below_set ?_ GE402.out) | exact HB.out)))); have n2_ := Aside0.mk (Kd.V_lower (Kd.V_mono (ok' := fun k_ => k_ ≠ gb402) ho2 (fun k_ hk_ => (Kd.freshB (g := gb402) (o := .cells #[.bool a0_0, .slice A0_1 l0_1.length c0_1, .slice A0_2 l0_2.length c0_2, .slice A0_3 l0_3.length c0_3] 25 (0, 0)) (by (with_reducible repeat (first | refine blk_drewN ?_ _ | refine blk_drew ?_ | refine blk_alloc ?_ _)); exact BK402.out) k_ hk_))) (below_size (by repeat (first | (with_reducible first | exact HB.out | apply below_alloc | apply pw_below_drewN | apply below_drew1 | refine below_set ?_ GE402.out) | exact HB.out)))); have n3_ := Aside0.mk (Kd.V_lower (Kd.V_mono (ok' := fun k_ => k_ ≠ gb402) ho3 (fun k_ hk_ => (Kd.freshB (g := gb402) (o := .cells #[.bool a0_0, .slice A0_1 l0_1.length c0_1, .slice A0_2 l0_2.length c0_2, .slice A0_3 l0_3.length c0_3] 25 (0, 0)) (by (with_reducible repeat (first | refine blk_drewN ?_ _ | refine blk_drew ?_ | refine blk_alloc ?_ _)); exact BK402.out) k_ hk_))) (below_size (by repeat (first | (with_reducible first | exact HB.out | apply below_alloc | apply pw_below_drewN | apply below_drew1 | refine below_set ?_ GE402.out) | exact HB.out)))); have n4_ := Aside0.mk (Kd.V_lower (Kd.V_mono (ok' := fun k_ => k_ ≠ gb402) ho4 (fun k_ hk_ => (Kd.freshB (g := gb402) (o := .cells #[.bool a0_0, .slice A0_1 l0_1.length c0_1, .slice A0_2 l0_2.length c0_2, .slice A0_3 l0_3.length c0_3] 25 (0, 0)) (by (with_reducible repeat (first | refine blk_drewN ?_ _ | refine blk_drew ?_ | refine blk_alloc ?_ _)); exact BK402.out) k_ hk_))) (below_size (by repeat (first | (with_reducible first | exact HB.out | apply below_alloc | apply pw_below_drewN | apply below_drew1 | refine below_set ?_ GE402.out) | exact HB.out)))); have n5_ := Aside0.mk (Kd.V_lower (Kd.V_mono (ok' := fun k_ => k_ ≠ gb402) ho5 (fun k_ hk_ => (Kd.freshB (g := gb402) (o := .cells #[.bool a0_0, .slice A0_1 l0_1.length c0_1, .slice A0_2 l0_2.length c0_2, .slice A0_3 l0_3.length c0_3] 25 (0, 0)) (by (with_reducible repeat (first | refine blk_drewN ?_ _ | refine blk_drew ?_ | refine blk_alloc ?_ _)); exact BK402.out) k_ hk_))) (below_size (by repeat (first | (with_reducible first | exact HB.out | apply below_alloc | apply pw_below_drewN | apply below_drew1 | refine below_set ?_ GE402.out) | exact HB.out)))); have n6_ := Aside0.mk (blk_below (g := gb402) (o := .cells #[.bool a0_0, .slice A0_1 l0_1.length c0_1, .slice A0_2 l0_2.length c0_2, .slice A0_3 l0_3.length c0_3] 25 (0, 0)) (by (with_reducible repeat (first | refine blk_drewN ?_ _ | refine blk_drew ?_ | refine blk_alloc ?_ _)); exact BK402.out) hb); have n7_ := Aside0.mk (below_step (by repeat (first | (with_reducible first | exact HB.out | apply below_alloc | apply pw_below_drewN | apply below_drew1 | refine below_set ?_ GE402.out) | exact HB.out)) hb); clear BK402; clear HB; have HO410 := n0_; have HO413 := n1_; have HO416 := n2_; have HO421 := n3_; have HO424 := n4_; have HO427 := n5_; have BK402 := n6_; have HB := n7_; clear n0_ n1_ n2_ n3_ n4_ n5_ n6_ n7_; (try clear hb); (try clear hb2); (try clear hk); (try clear hi); (try clear ho0); (try clear ho1); (try clear ho2); (try clear ho3); (try clear ho4); (try clear ho5)) | ((with_reducible refine gate_dst (N := 3) rfl ?_); (try (refine gate_guard (by rfl) ?_; dsimp only)); refine box_event ?hg (N := 3) ?hd (cs := #[.bool false, .slice none 0 0, .slice none 0 0, .slice none 0 0]) (t := 25) ?hr ?_; (case hd => rfl); (case hg => rfl); (case hr => first | (go_simp; done) | (go_simp; rfl)); intro gb428 hg w48 hbox hb; have n0_ := Aside0.mk (Kd.V_below (Kd.V_elderB (by (with_reducible repeat (first | apply Kd.V_alloc | apply Kd.V_drewN | apply Kd.V_drew)); exact HO410.out) gb428 (Nat.le_of_eq hg.symm)) hb); have n1_ := Aside0.mk (Kd.V_below (Kd.V_elderB (by (with_reducible repeat (first | apply Kd.V_alloc | apply Kd.V_drewN | apply Kd.V_drew)); exact HO413.out) gb428 (Nat.le_of_eq hg.symm)) hb); have n2_ := Aside0.mk (Kd.V_below (Kd.V_elderB (by (with_reducible repeat (first | apply Kd.V_alloc | apply Kd.V_drewN | apply Kd.V_drew)); exact HO416.out) gb428 (Nat.le_of_eq hg.symm)) hb); have n3_ := Aside0.mk (Kd.V_below (Kd.V_elderB (by (with_reducible repeat (first | apply Kd.V_alloc | apply Kd.V_drewN | apply Kd.V_drew)); exact HO421.out) gb428 (Nat.le_of_eq hg.symm)) hb); have n4_ := Aside0.mk (Kd.V_below (Kd.V_elderB (by (with_reducible repeat (first | apply Kd.V_alloc | apply Kd.V_drewN | apply Kd.V_drew)); exact HO424.out) gb428 (Nat.le_of_eq hg.symm)) hb); have n5_ := Aside0.mk (Kd.V_below (Kd.V_elderB (by (with_reducible repeat (first | apply Kd.V_alloc | apply Kd.V_drewN | apply Kd.V_drew)); exact HO427.out) gb428 (Nat.le_of_eq hg.symm)) hb); have n6_ := Aside0.mk (blk_below (g := gb402) (o := .cells #[.bool a0_0, .slice A0_1 l0_1.length c0_1, .slice A0_2 l0_2.length c0_2, .slice A0_3 l0_3.length c0_3] 25 (0, 0)) (by (with_reducible repeat (first | refine blk_drewN ?_ _ | refine blk_drew ?_ | refine blk_alloc ?_ _)); exact BK402.out) hb); have n7_ := Aside0.mk (below_step (by repeat (first | (with_reducible first | exact HB.out | apply below_alloc | apply pw_below_drewN | apply below_drew1 | refine below_set ?_ GE402.out) | exact HB.out)) hb); have n8_ := Aside0.mk (hbox); have n9_ := Aside0.mk ((by rw [hg]; exact (below_size (by repeat (first | (with_reducible first | exact HB.out | apply below_alloc | apply pw_below_drewN | apply below_drew1 | refine below_set ?_ GE402.out) | exact HB.out))) : w.heap.size ≤ gb428)); have n10_ := Aside0.mk ((by rw [hg]; exact (below_size (by repeat (first | (with_reducible first | exact HB.out | apply below_alloc | apply pw_below_drewN | apply below_drew1 | refine below_set ?_ GE402.out) | exact HB.out))) : w.heap.size ≤ gb428)); have n11_ := Aside0.mk ((by rw [hg]; exact Nat.ne_of_lt (blk_lt (g := gb402) (o := .cells #[.bool a0_0, .slice A0_1 l0_1.length c0_1, .slice A0_2 l0_2.length c0_2, .slice A0_3 l0_3.length c0_3] 25 (0, 0)) (by (with_reducible repeat (first | refine blk_drewN ?_ _ | refine blk_drew ?_ | refine blk_alloc ?_ _)); exact BK402.out)) : gb402 ≠ gb428)); have n12_ := Aside0.mk ((by rw [hg]; exact Nat.ne_of_gt (blk_lt (g := gb402) (o := .cells #[.bool a0_0, .slice A0_1 l0_1.length c0_1, .slice A0_2 l0_2.length c0_2, .slice A0_3 l0_3.length c0_3] 25 (0, 0)) (by (with_reducible repeat (first | refine blk_drewN ?_ _ | refine blk_drew ?_ | refine blk_alloc ?_ _)); exact BK402.out)) : gb428 ≠ gb402)); clear HO410; clear HO413; clear HO416; clear HO421; clear HO424; clear HO427; clear BK402; clear HB; have HO410 := n0_; have HO413 := n1_; have HO416 := n2_; have HO421 := n3_; have HO424 := n4_; have HO427 := n5_; have BK402 := n6_; have HB := n7_; have BK428 := n8_; have GW428 := n9_; have GE428 := n10_; have NB402_428 := n11_; have NB428_402 := n12_; clear n0_ n1_ n2_ n3_ n4_ n5_ n6_ n7_ n8_ n9_ n10_ n11_ n12_; clear hb hbox hg) | ((with_reducible refine gate_dst (N := 5) rfl ?_); (try (refine gate_guard (by rfl) ?_; dsimp only)); refine box_event ?hg (N := 5) ?hd (cs := #[.bool false, .slice none 0 0, .slice none 0 0, .slice none 0 0]) (t := 25) ?hr ?_; (case hd => rfl); (case hg => rfl); (case hr => first | (go_simp; done) | (go_simp; rfl)); intro gb429 hg w49 hbox hb; have n0_ := Aside0.mk (Kd.V_below (Kd.V_elderB (by (with_reducible repeat (first | apply Kd.V_alloc | apply Kd.V_drewN | apply Kd.V_drew)); exact HO410.out) gb429 (Nat.le_of_eq hg.symm)) hb); have n1_ := Aside0.mk (Kd.V_below (Kd.V_elderB (by (with_reducible repeat (first | apply Kd.V_alloc | apply Kd.V_drewN | apply Kd.V_drew)); exact HO413.out) gb429 (Nat.le_of_eq hg.symm)) hb); have n2_ := Aside0.mk (Kd.V_below (Kd.V_elderB (by (with_reducible repeat (first | apply Kd.V_alloc | apply Kd.V_drewN | apply Kd.V_drew)); exact HO416.out) gb429 (Nat.le_of_eq hg.symm)) hb); have n3_ := Aside0.mk (Kd.V_below (Kd.V_elderB (by (with_reducible repeat (first | apply Kd.V_alloc | apply Kd.V_drewN | apply Kd.V_drew)); exact HO421.out) gb429 (Nat.le_of_eq hg.symm)) hb); have n4_ := Aside0.mk (Kd.V_below (Kd.V_elderB (by (with_reducible repeat (first | apply Kd.V_alloc | apply Kd.V_drewN | apply Kd.V_drew)); exact HO424.out) gb429 (Nat.le_of_eq hg.symm)) hb); have n5_ := Aside0.mk (Kd.V_below (Kd.V_elderB (by (with_reducible repeat (first | apply Kd.V_alloc | apply Kd.V_drewN | apply Kd.V_drew)); exact HO427.out) gb429 (Nat.le_of_eq hg.symm)) hb); have n6_ := Aside0.mk (blk_below (g := gb402) (o := .cells #[.bool a0_0, .slice A0_1 l0_1.length c0_1, .slice A0_2 l0_2.length c0_2, .slice A0_3 l0_3.length c0_3] 25 (0, 0)) (by (with_reducible repeat (first | refine blk_drewN ?_ _ | refine blk_drew ?_ | refine blk_alloc ?_ _)); exact BK402.out) hb); have n7_ := Aside0.mk (blk_below (g := gb428) (o := .cells #[.bool false, .slice none 0 0, .slice none 0 0, .slice none 0 0] 25 (0, 0)) (by (with_reducible repeat (first | refine blk_drewN ?_ _ | refine blk_drew ?_ | refine blk_alloc ?_ _)); exact BK428.out) hb); have n8_ := Aside0.mk (below_step (by repeat (first | (with_reducible first | exact HB.out | apply below_alloc | apply pw_below_drewN | apply below_drew1 | refine below_set ?_ GE402.out | refine below_set ?_ GE428.out) | exact HB.out)) hb); have n9_ := Aside0.mk (hbox); have n10_ := Aside0.mk ((by rw [hg]; exact (below_size (by repeat (first | (with_reducible first | exact HB.out | apply below_alloc | apply pw_below_drewN | apply below_drew1 | refine below_set ?_ GE402.out | refine below_set ?_ GE428.out) | exact HB.out))) : w.heap.size ≤ gb429)); have n11_ := Aside0.mk ((by rw [hg]; exact (below_size (by repeat (first | (with_reducible first | exact HB.out | apply below_alloc | apply pw_below_drewN | apply below_drew1 | refine below_set ?_ GE402.out | refine below_set ?_ GE428.out) | exact HB.out))) : w.heap.size ≤ gb429)); have n12_ := Aside0.mk ((by rw [hg]; exact Nat.ne_of_lt (blk_lt (g := gb402) (o := .cells #[.bool a0_0, .slice A0_1 l0_1.length c0_1, .slice A0_2 l0_2.length c0_2, .slice A0_3 l0_3.length c0_3] 25 (0, 0)) (by (with_reducible repeat (first | refine blk_drewN ?_ _ | refine blk_drew ?_ | refine blk_alloc ?_ _)); exact BK402.out)) : gb402 ≠ gb429)); have n13_ := Aside0.mk ((by rw [hg]; exact Nat.ne_of_gt (blk_lt (g := gb402) (o := .cells #[.bool a0_0, .slice A0_1 l0_1.length c0_1, .slice A0_2 l0_2.length c0_2, .slice A0_3 l0_3.length c0_3] 25 (0, 0)) (by (with_reducible repeat (first | refine blk_drewN ?_ _ | refine blk_drew ?_ | refine blk_alloc ?_ _)); exact BK402.out)) : gb429 ≠ gb402)); have n14_ := Aside0.mk ((by rw [hg]; exact Nat.ne_of_lt (blk_lt (g := gb428) (o := .cells #[.bool false, .slice none 0 0, .slice none 0 0, .slice none 0 0] 25 (0, 0)) (by (with_reducible repeat (first | refine blk_drewN ?_ _ | refine blk_drew ?_ | refine blk_alloc ?_ _)); exact BK428.out)) : gb428 ≠ gb429)); have n15_ := Aside0.mk ((by rw [hg]; exact Nat.ne_of_gt (blk_lt (g := gb428) (o := .cells #[.bool false, .slice none 0 0, .slice none 0 0, .slice none 0 0] 25 (0, 0)) (by (with_reducible repeat (first | refine blk_drewN ?_ _ | refine blk_drew ?_ | refine blk_alloc ?_ _)); exact BK428.out)) : gb429 ≠ gb428)); clear HO410; clear HO413; clear HO416; clear HO421; clear HO424; clear HO427; clear BK402; clear BK428; clear HB; have HO410 := n0_; have HO413 := n1_; have HO416 := n2_; have HO421 := n3_; have HO424 := n4_; have HO427 := n5_; have BK402 := n6_; have BK428 := n7_; have HB := n8_; have BK429 := n9_; have GW429 := n10_; have GE429 := n11_; have NB402_429 := n12_; have NB429_402 := n13_; have NB428_429 := n14_; have NB429_428 := n15_; clear n0_ n1_ n2_ n3_ n4_ n5_ n6_ n7_ n8_ n9_ n10_ n11_ n12_ n13_ n14_ n15_; clear hb hbox hg; have hnb50 := NB428_402.out; have hnc50 := NB402_428.out; have hnb51 := NB428_429.out; have hnc51 := NB429_428.out; have hcz52_0 : w49.cell? ⟨gb428, 0, none⟩ = some (.bool false) := (blk_cell BK428.out 0).trans rfl; have hcz52_1 : w49.cell? ⟨gb428, 1, none⟩ = some (.slice none 0 0) := (blk_cell BK428.out 1).trans rfl; have hcz52_2 : w49.cell? ⟨gb428, 2, none⟩ = some (.slice none 0 0) := (blk_cell BK428.out 2).trans rfl; have hcz52_3 : w49.cell? ⟨gb428, 3, none⟩ = some (.slice none 0 0) := (blk_cell BK428.out 3).trans rfl; have hfz52_0 := blk_frozen BK428.out 0; have hfz52_1 := blk_frozen BK428.out 1; have hfz52_2 := blk_frozen BK428.out 2; have hfz52_3 := blk_frozen BK428.out 3; obtain ⟨Ao53, co53, eo53⟩ := Kd.V_slice HO410.out; subst eo53; obtain ⟨Ao54, co54, eo54⟩ := Kd.V_slice HO413.out; subst eo54; obtain ⟨Ao55, co55, eo55⟩ := Kd.V_slice HO416.out; subst eo55; have hnb56 := NB429_402.out; have hnc56 := NB402_429.out; have hcz57_0 : w49.cell? ⟨gb429, 0, none⟩ = some (.bool false) := (blk_cell BK429.out 0).trans rfl; have hcz57_1 : w49.cell? ⟨gb429, 1, none⟩ = some (.slice none 0 0) := (blk_cell BK429.out 1).trans rfl; have hcz57_2 : w49.cell? ⟨gb429, 2, none⟩ = some (.slice none 0 0) := (blk_cell BK429.out 2).trans rfl; have hcz57_3 : w49.cell? ⟨gb429, 3, none⟩ = some (.slice none 0 0) := (blk_cell BK429.out 3).trans rfl; have hfz57_0 := blk_frozen BK429.out 0; have hfz57_1 := blk_frozen BK429.out 1; have hfz57_2 := blk_frozen BK429.out 2; have hfz57_3 := blk_frozen BK429.out 3; obtain ⟨Ao58, co58, eo58⟩ := Kd.V_slice HO421.out; subst eo58; obtain ⟨Ao59, co59, eo59⟩ := Kd.V_slice HO424.out; subst eo59; obtain ⟨Ao60, co60, eo60⟩ := Kd.V_slice HO427.out; subst eo60; have hcz61_0 : w49.cell? ⟨gb402, 0, none⟩ = some (.bool a0_0) := (blk_cell BK402.out 0).trans rfl; have hcz61_1 : w49.cell? ⟨gb402, 1, none⟩ = some (.slice A0_1 l0_1.length c0_1) := (blk_cell BK402.out 1).trans rfl; have hcz61_2 : w49.cell? ⟨gb402, 2, none⟩ = some (.slice A0_2 l0_2.length c0_2) := (blk_cell BK402.out 2).trans rfl; have hcz61_3 : w49.cell? ⟨gb402, 3, none⟩ = some (.slice A0_3 l0_3.length c0_3) := (blk_cell BK402.out 3).trans rfl; have hfz61_0 := blk_frozen BK402.out 0; have hfz61_1 := blk_frozen BK402.out 1; have hfz61_2 := blk_frozen BK402.out 2; have hfz61_3 := blk_frozen BK402.out 3))
     (try simp only [Act.put, List.setIfInBounds_toArray, List.set_cons_zero, List.set_cons_succ])
     go_cut [7] (fun v7 wc => ∃ (kq : Nat) (x7_44 : Int), v7 = .int .i64 x7_44 ∧ Aside0 (lunettelaw05_NodeSplits.j1 kq t417 (wrap64 ((l0_1.length : Int) / 2)) x7_44 a0_0 l0_1 l0_2 l0_3 t407 t408 t411 t414 t418 t419 t422 t425 = some r) ∧ Aside0 (kq ≤ kj1) ∧ Aside0 (Kd.V Kd.string 9 wc w.heap.size (fun k_ => k_ ≠ gb402 ∧ k_ ≠ gb428 ∧ k_ ≠ gb429) (.slice Ao53 t408.length co53) t408) ∧ Aside0 (Kd.V Kd.string 9 wc w.heap.size (fun k_ => k_ ≠ gb402 ∧ k_ ≠ gb428 ∧ k_ ≠ gb429) (.slice Ao54 t411.length co54) t411) ∧ Aside0 (Kd.V (Kd.int .i64) 3 wc w.heap.size (fun k_ => k_ ≠ gb402 ∧ k_ ≠ gb428 ∧ k_ ≠ gb429) (.slice Ao55 t414.length co55) t414) ∧ Aside0 (Kd.V Kd.string 9 wc w.heap.size (fun k_ => k_ ≠ gb402 ∧ k_ ≠ gb428 ∧ k_ ≠ gb429) (.slice Ao58 t419.length co58) t419) ∧ Aside0 (Kd.V Kd.string 9 wc w.heap.size (fun k_ => k_ ≠ gb402 ∧ k_ ≠ gb428 ∧ k_ ≠ gb429) (.slice Ao59 t422.length co59) t422) ∧ Aside0 (Kd.V (Kd.int .i64) 3 wc w.heap.size (fun k_ => k_ ≠ gb402 ∧ k_ ≠ gb428 ∧ k_ ≠ gb429) (.slice Ao60 t425.length co60) t425) ∧ Aside0 (wc.heap[gb402]? = some (.cells #[.bool a0_0, (.slice A0_1 l0_1.length c0_1), (.slice A0_2 l0_2.length c0_2), (.slice A0_3 l0_3.length c0_3)] 25 (0, 0))) ∧ Aside0 (wc.heap[gb428]? = some (.cells #[.bool t407, (.slice Ao53 t408.length co53), (.slice Ao54 t411.length co54), (.slice Ao55 t414.length co55)] 25 (0, 0))) ∧ Aside0 (wc.heap[gb429]? = some (.cells #[.bool t418, (.slice Ao58 t419.length co58), (.slice Ao59 t422.length co59), (.slice Ao60 t425.length co60)] 25 (0, 0))) ∧ Aside0 (Below w.heap.size w wc))
     case first =>
      have H := HC45.out
      clear HC45
      by_cases c62 : a0_0 = true
      ·subst c62
       have H1 : (lunettelaw05_NodeSplits.j1 kj1 t417 (wrap64 ((l0_1.length : Int) / 2)) 0 true l0_1 l0_2 l0_3 t407 t408 t411 t414 t418 t419 t422 t425) = some r := by rw [if_pos rfl] at H; exact H
       clear H
       have H := H1
       clear H1
       have H' := Aside0.mk H
       clear H
       go_wp2
       go_meet
       case rel => exact ⟨_, (0), (by first | rfl | (simp; done) | (simp [*]; done)), H', ⟨by have := HJ1.out; first | omega | exact Nat.le_refl _⟩, ⟨by (with_reducible repeat (first | apply Kd.V_alloc | apply Kd.V_drewN | apply Kd.V_drew)); exact Kd.V_mono (Kd.V_far (p := ⟨gb429, 3, none⟩) (Kd.V_far (p := ⟨gb429, 2, none⟩) (Kd.V_far (p := ⟨gb429, 1, none⟩) (Kd.V_far (p := ⟨gb429, 0, none⟩) (Kd.V_far (p := ⟨gb428, 3, none⟩) (Kd.V_far (p := ⟨gb428, 2, none⟩) (Kd.V_far (p := ⟨gb428, 1, none⟩) (Kd.V_far (p := ⟨gb428, 0, none⟩) (Kd.V_mono (Kd.V_mono HO410.out (fun k_ hk => (⟨hk, hk.1.2⟩ : _ ∧ k_ ≠ gb428))) (fun k_ hk => (⟨hk, hk.1.2⟩ : _ ∧ k_ ≠ gb429))) (fun _ hk => hk.1.2) (.bool t407)) (fun _ hk => hk.1.2) (.slice Ao53 t408.length co53)) (fun _ hk => hk.1.2) (.slice Ao54 t411.length co54)) (fun _ hk => hk.1.2) (.slice Ao55 t414.length co55)) (fun _ hk => hk.2) (.bool t418)) (fun _ hk => hk.2) (.slice Ao58 t419.length co58)) (fun _ hk => hk.2) (.slice Ao59 t422.length co59)) (fun _ hk => hk.2) (.slice Ao60 t425.length co60)) (fun _ hk => ⟨hk.1.1.1.1, ⟨hk.1.1.1.2, hk.1.1.2⟩⟩)⟩, ⟨by (with_reducible repeat (first | apply Kd.V_alloc | apply Kd.V_drewN | apply Kd.V_drew)); exact Kd.V_mono (Kd.V_far (p := ⟨gb429, 3, none⟩) (Kd.V_far (p := ⟨gb429, 2, none⟩) (Kd.V_far (p := ⟨gb429, 1, none⟩) (Kd.V_far (p := ⟨gb429, 0, none⟩) (Kd.V_far (p := ⟨gb428, 3, none⟩) (Kd.V_far (p := ⟨gb428, 2, none⟩) (Kd.V_far (p := ⟨gb428, 1, none⟩) (Kd.V_far (p := ⟨gb428, 0, none⟩) (Kd.V_mono (Kd.V_mono HO413.out (fun k_ hk => (⟨hk, hk.1.2⟩ : _ ∧ k_ ≠ gb428))) (fun k_ hk => (⟨hk, hk.1.2⟩ : _ ∧ k_ ≠ gb429))) (fun _ hk => hk.1.2) (.bool t407)) (fun _ hk => hk.1.2) (.slice Ao53 t408.length co53)) (fun _ hk => hk.1.2) (.slice Ao54 t411.length co54)) (fun _ hk => hk.1.2) (.slice Ao55 t414.length co55)) (fun _ hk => hk.2) (.bool t418)) (fun _ hk => hk.2) (.slice Ao58 t419.length co58)) (fun _ hk => hk.2) (.slice Ao59 t422.length co59)) (fun _ hk => hk.2) (.slice Ao60 t425.length co60)) (fun _ hk => ⟨hk.1.1.1.1, ⟨hk.1.1.1.2, hk.1.1.2⟩⟩)⟩, ⟨by (with_reducible repeat (first | apply Kd.V_alloc | apply Kd.V_drewN | apply Kd.V_drew)); exact Kd.V_mono (Kd.V_far (p := ⟨gb429, 3, none⟩) (Kd.V_far (p := ⟨gb429, 2, none⟩) (Kd.V_far (p := ⟨gb429, 1, none⟩) (Kd.V_far (p := ⟨gb429, 0, none⟩) (Kd.V_far (p := ⟨gb428, 3, none⟩) (Kd.V_far (p := ⟨gb428, 2, none⟩) (Kd.V_far (p := ⟨gb428, 1, none⟩) (Kd.V_far (p := ⟨gb428, 0, none⟩) (Kd.V_mono (Kd.V_mono HO416.out (fun k_ hk => (⟨hk, hk.1.2⟩ : _ ∧ k_ ≠ gb428))) (fun k_ hk => (⟨hk, hk.1.2⟩ : _ ∧ k_ ≠ gb429))) (fun _ hk => hk.1.2) (.bool t407)) (fun _ hk => hk.1.2) (.slice Ao53 t408.length co53)) (fun _ hk => hk.1.2) (.slice Ao54 t411.length co54)) (fun _ hk => hk.1.2) (.slice Ao55 t414.length co55)) (fun _ hk => hk.2) (.bool t418)) (fun _ hk => hk.2) (.slice Ao58 t419.length co58)) (fun _ hk => hk.2) (.slice Ao59 t422.length co59)) (fun _ hk => hk.2) (.slice Ao60 t425.length co60)) (fun _ hk => ⟨hk.1.1.1.1, ⟨hk.1.1.1.2, hk.1.1.2⟩⟩)⟩, ⟨by (with_reducible repeat (first | apply Kd.V_alloc | apply Kd.V_drewN | apply Kd.V_drew)); exact Kd.V_mono (Kd.V_far (p := ⟨gb429, 3, none⟩) (Kd.V_far (p := ⟨gb429, 2, none⟩) (Kd.V_far (p := ⟨gb429, 1, none⟩) (Kd.V_far (p := ⟨gb429, 0, none⟩) (Kd.V_far (p := ⟨gb428, 3, none⟩) (Kd.V_far (p := ⟨gb428, 2, none⟩) (Kd.V_far (p := ⟨gb428, 1, none⟩) (Kd.V_far (p := ⟨gb428, 0, none⟩) (Kd.V_mono (Kd.V_mono HO421.out (fun k_ hk => (⟨hk, hk.1.2⟩ : _ ∧ k_ ≠ gb428))) (fun k_ hk => (⟨hk, hk.1.2⟩ : _ ∧ k_ ≠ gb429))) (fun _ hk => hk.1.2) (.bool t407)) (fun _ hk => hk.1.2) (.slice Ao53 t408.length co53)) (fun _ hk => hk.1.2) (.slice Ao54 t411.length co54)) (fun _ hk => hk.1.2) (.slice Ao55 t414.length co55)) (fun _ hk => hk.2) (.bool t418)) (fun _ hk => hk.2) (.slice Ao58 t419.length co58)) (fun _ hk => hk.2) (.slice Ao59 t422.length co59)) (fun _ hk => hk.2) (.slice Ao60 t425.length co60)) (fun _ hk => ⟨hk.1.1.1.1, ⟨hk.1.1.1.2, hk.1.1.2⟩⟩)⟩, ⟨by (with_reducible repeat (first | apply Kd.V_alloc | apply Kd.V_drewN | apply Kd.V_drew)); exact Kd.V_mono (Kd.V_far (p := ⟨gb429, 3, none⟩) (Kd.V_far (p := ⟨gb429, 2, none⟩) (Kd.V_far (p := ⟨gb429, 1, none⟩) (Kd.V_far (p := ⟨gb429, 0, none⟩) (Kd.V_far (p := ⟨gb428, 3, none⟩) (Kd.V_far (p := ⟨gb428, 2, none⟩) (Kd.V_far (p := ⟨gb428, 1, none⟩) (Kd.V_far (p := ⟨gb428, 0, none⟩) (Kd.V_mono (Kd.V_mono HO424.out (fun k_ hk => (⟨hk, hk.1.2⟩ : _ ∧ k_ ≠ gb428))) (fun k_ hk => (⟨hk, hk.1.2⟩ : _ ∧ k_ ≠ gb429))) (fun _ hk => hk.1.2) (.bool t407)) (fun _ hk => hk.1.2) (.slice Ao53 t408.length co53)) (fun _ hk => hk.1.2) (.slice Ao54 t411.length co54)) (fun _ hk => hk.1.2) (.slice Ao55 t414.length co55)) (fun _ hk => hk.2) (.bool t418)) (fun _ hk => hk.2) (.slice Ao58 t419.length co58)) (fun _ hk => hk.2) (.slice Ao59 t422.length co59)) (fun _ hk => hk.2) (.slice Ao60 t425.length co60)) (fun _ hk => ⟨hk.1.1.1.1, ⟨hk.1.1.1.2, hk.1.1.2⟩⟩)⟩, ⟨by (with_reducible repeat (first | apply Kd.V_alloc | apply Kd.V_drewN | apply Kd.V_drew)); exact Kd.V_mono (Kd.V_far (p := ⟨gb429, 3, none⟩) (Kd.V_far (p := ⟨gb429, 2, none⟩) (Kd.V_far (p := ⟨gb429, 1, none⟩) (Kd.V_far (p := ⟨gb429, 0, none⟩) (Kd.V_far (p := ⟨gb428, 3, none⟩) (Kd.V_far (p := ⟨gb428, 2, none⟩) (Kd.V_far (p := ⟨gb428, 1, none⟩) (Kd.V_far (p := ⟨gb428, 0, none⟩) (Kd.V_mono (Kd.V_mono HO427.out (fun k_ hk => (⟨hk, hk.1.2⟩ : _ ∧ k_ ≠ gb428))) (fun k_ hk => (⟨hk, hk.1.2⟩ : _ ∧ k_ ≠ gb429))) (fun _ hk => hk.1.2) (.bool t407)) (fun _ hk => hk.1.2) (.slice Ao53 t408.length co53)) (fun _ hk => hk.1.2) (.slice Ao54 t411.length co54)) (fun _ hk => hk.1.2) (.slice Ao55 t414.length co55)) (fun _ hk => hk.2) (.bool t418)) (fun _ hk => hk.2) (.slice Ao58 t419.length co58)) (fun _ hk => hk.2) (.slice Ao59 t422.length co59)) (fun _ hk => hk.2) (.slice Ao60 t425.length co60)) (fun _ hk => ⟨hk.1.1.1.1, ⟨hk.1.1.1.2, hk.1.1.2⟩⟩)⟩, ⟨by (with_reducible repeat (first | refine blk_drewN ?_ _ | refine blk_drew ?_ | refine blk_alloc ?_ _)); refine blk_far ?_ NB402_429.out _; (with_reducible repeat (first | refine blk_drewN ?_ _ | refine blk_drew ?_ | refine blk_alloc ?_ _)); refine blk_far ?_ NB402_429.out _; (with_reducible repeat (first | refine blk_drewN ?_ _ | refine blk_drew ?_ | refine blk_alloc ?_ _)); refine blk_far ?_ NB402_429.out _; (with_reducible repeat (first | refine blk_drewN ?_ _ | refine blk_drew ?_ | refine blk_alloc ?_ _)); refine blk_far ?_ NB402_429.out _; (with_reducible repeat (first | refine blk_drewN ?_ _ | refine blk_drew ?_ | refine blk_alloc ?_ _)); refine blk_far ?_ NB402_428.out _; (with_reducible repeat (first | refine blk_drewN ?_ _ | refine blk_drew ?_ | refine blk_alloc ?_ _)); refine blk_far ?_ NB402_428.out _; (with_reducible repeat (first | refine blk_drewN ?_ _ | refine blk_drew ?_ | refine blk_alloc ?_ _)); refine blk_far ?_ NB402_428.out _; (with_reducible repeat (first | refine blk_drewN ?_ _ | refine blk_drew ?_ | refine blk_alloc ?_ _)); refine blk_far ?_ NB402_428.out _; (with_reducible repeat (first | refine blk_drewN ?_ _ | refine blk_drew ?_ | refine blk_alloc ?_ _)); exact BK402.out⟩, ⟨by (with_reducible repeat (first | refine blk_drewN ?_ _ | refine blk_drew ?_ | refine blk_alloc ?_ _)); refine blk_far ?_ NB428_429.out _; (with_reducible repeat (first | refine blk_drewN ?_ _ | refine blk_drew ?_ | refine blk_alloc ?_ _)); refine blk_far ?_ NB428_429.out _; (with_reducible repeat (first | refine blk_drewN ?_ _ | refine blk_drew ?_ | refine blk_alloc ?_ _)); refine blk_far ?_ NB428_429.out _; (with_reducible repeat (first | refine blk_drewN ?_ _ | refine blk_drew ?_ | refine blk_alloc ?_ _)); refine blk_far ?_ NB428_429.out _; (with_reducible repeat (first | refine blk_drewN ?_ _ | refine blk_drew ?_ | refine blk_alloc ?_ _)); refine blk_put (cs := #[.bool t407, .slice Ao53 t408.length co53, .slice Ao54 t411.length co54, .slice none 0 0]) ?_ 3 _ rfl; (with_reducible repeat (first | refine blk_drewN ?_ _ | refine blk_drew ?_ | refine blk_alloc ?_ _)); refine blk_put (cs := #[.bool t407, .slice Ao53 t408.length co53, .slice none 0 0, .slice none 0 0]) ?_ 2 _ rfl; (with_reducible repeat (first | refine blk_drewN ?_ _ | refine blk_drew ?_ | refine blk_alloc ?_ _)); refine blk_put (cs := #[.bool t407, .slice none 0 0, .slice none 0 0, .slice none 0 0]) ?_ 1 _ rfl; (with_reducible repeat (first | refine blk_drewN ?_ _ | refine blk_drew ?_ | refine blk_alloc ?_ _)); refine blk_put (cs := #[.bool false, .slice none 0 0, .slice none 0 0, .slice none 0 0]) ?_ 0 _ rfl; (with_reducible repeat (first | refine blk_drewN ?_ _ | refine blk_drew ?_ | refine blk_alloc ?_ _)); exact BK428.out⟩, ⟨by (with_reducible repeat (first | refine blk_drewN ?_ _ | refine blk_drew ?_ | refine blk_alloc ?_ _)); refine blk_put (cs := #[.bool t418, .slice Ao58 t419.length co58, .slice Ao59 t422.length co59, .slice none 0 0]) ?_ 3 _ rfl; (with_reducible repeat (first | refine blk_drewN ?_ _ | refine blk_drew ?_ | refine blk_alloc ?_ _)); refine blk_put (cs := #[.bool t418, .slice Ao58 t419.length co58, .slice none 0 0, .slice none 0 0]) ?_ 2 _ rfl; (with_reducible repeat (first | refine blk_drewN ?_ _ | refine blk_drew ?_ | refine blk_alloc ?_ _)); refine blk_put (cs := #[.bool t418, .slice none 0 0, .slice none 0 0, .slice none 0 0]) ?_ 1 _ rfl; (with_reducible repeat (first | refine blk_drewN ?_ _ | refine blk_drew ?_ | refine blk_alloc ?_ _)); refine blk_put (cs := #[.bool false, .slice none 0 0, .slice none 0 0, .slice none 0 0]) ?_ 0 _ rfl; (with_reducible repeat (first | refine blk_drewN ?_ _ | refine blk_drew ?_ | refine blk_alloc ?_ _)); refine blk_far ?_ NB429_428.out _; (with_reducible repeat (first | refine blk_drewN ?_ _ | refine blk_drew ?_ | refine blk_alloc ?_ _)); refine blk_far ?_ NB429_428.out _; (with_reducible repeat (first | refine blk_drewN ?_ _ | refine blk_drew ?_ | refine blk_alloc ?_ _)); refine blk_far ?_ NB429_428.out _; (with_reducible repeat (first | refine blk_drewN ?_ _ | refine blk_drew ?_ | refine blk_alloc ?_ _)); refine blk_far ?_ NB429_428.out _; (with_reducible repeat (first | refine blk_drewN ?_ _ | refine blk_drew ?_ | refine blk_alloc ?_ _)); exact BK429.out⟩, ⟨by repeat (first | (with_reducible first | exact HB.out | apply below_alloc | apply pw_below_drewN | apply below_drew1 | refine below_set ?_ GE402.out | refine below_set ?_ GE428.out | refine below_set ?_ GE429.out) | exact HB.out)⟩⟩
      ·replace c62 := Bool.eq_false_iff.mpr c62
       subst c62
       have H1 : (lunettelaw05_NodeSplits.j1 kj1 t417 (wrap64 ((l0_1.length : Int) / 2)) 1 false l0_1 l0_2 l0_3 t407 t408 t411 t414 t418 t419 t422 t425) = some r := by rw [if_neg (show ¬ (false = true) by decide)] at H; exact H
       clear H
       have H := H1
       clear H1
       have H' := Aside0.mk H
       clear H
       go_wp2
       go_meet
       case rel => exact ⟨_, (1), (by first | rfl | (simp; done) | (simp [*]; done)), H', ⟨by have := HJ1.out; first | omega | exact Nat.le_refl _⟩, ⟨by (with_reducible repeat (first | apply Kd.V_alloc | apply Kd.V_drewN | apply Kd.V_drew)); exact Kd.V_mono (Kd.V_far (p := ⟨gb429, 3, none⟩) (Kd.V_far (p := ⟨gb429, 2, none⟩) (Kd.V_far (p := ⟨gb429, 1, none⟩) (Kd.V_far (p := ⟨gb429, 0, none⟩) (Kd.V_far (p := ⟨gb428, 3, none⟩) (Kd.V_far (p := ⟨gb428, 2, none⟩) (Kd.V_far (p := ⟨gb428, 1, none⟩) (Kd.V_far (p := ⟨gb428, 0, none⟩) (Kd.V_mono (Kd.V_mono HO410.out (fun k_ hk => (⟨hk, hk.1.2⟩ : _ ∧ k_ ≠ gb428))) (fun k_ hk => (⟨hk, hk.1.2⟩ : _ ∧ k_ ≠ gb429))) (fun _ hk => hk.1.2) (.bool t407)) (fun _ hk => hk.1.2) (.slice Ao53 t408.length co53)) (fun _ hk => hk.1.2) (.slice Ao54 t411.length co54)) (fun _ hk => hk.1.2) (.slice Ao55 t414.length co55)) (fun _ hk => hk.2) (.bool t418)) (fun _ hk => hk.2) (.slice Ao58 t419.length co58)) (fun _ hk => hk.2) (.slice Ao59 t422.length co59)) (fun _ hk => hk.2) (.slice Ao60 t425.length co60)) (fun _ hk => ⟨hk.1.1.1.1, ⟨hk.1.1.1.2, hk.1.1.2⟩⟩)⟩, ⟨by (with_reducible repeat (first | apply Kd.V_alloc | apply Kd.V_drewN | apply Kd.V_drew)); exact Kd.V_mono (Kd.V_far (p := ⟨gb429, 3, none⟩) (Kd.V_far (p := ⟨gb429, 2, none⟩) (Kd.V_far (p := ⟨gb429, 1, none⟩) (Kd.V_far (p := ⟨gb429, 0, none⟩) (Kd.V_far (p := ⟨gb428, 3, none⟩) (Kd.V_far (p := ⟨gb428, 2, none⟩) (Kd.V_far (p := ⟨gb428, 1, none⟩) (Kd.V_far (p := ⟨gb428, 0, none⟩) (Kd.V_mono (Kd.V_mono HO413.out (fun k_ hk => (⟨hk, hk.1.2⟩ : _ ∧ k_ ≠ gb428))) (fun k_ hk => (⟨hk, hk.1.2⟩ : _ ∧ k_ ≠ gb429))) (fun _ hk => hk.1.2) (.bool t407)) (fun _ hk => hk.1.2) (.slice Ao53 t408.length co53)) (fun _ hk => hk.1.2) (.slice Ao54 t411.length co54)) (fun _ hk => hk.1.2) (.slice Ao55 t414.length co55)) (fun _ hk => hk.2) (.bool t418)) (fun _ hk => hk.2) (.slice Ao58 t419.length co58)) (fun _ hk => hk.2) (.slice Ao59 t422.length co59)) (fun _ hk => hk.2) (.slice Ao60 t425.length co60)) (fun _ hk => ⟨hk.1.1.1.1, ⟨hk.1.1.1.2, hk.1.1.2⟩⟩)⟩, ⟨by (with_reducible repeat (first | apply Kd.V_alloc | apply Kd.V_drewN | apply Kd.V_drew)); exact Kd.V_mono (Kd.V_far (p := ⟨gb429, 3, none⟩) (Kd.V_far (p := ⟨gb429, 2, none⟩) (Kd.V_far (p := ⟨gb429, 1, none⟩) (Kd.V_far (p := ⟨gb429, 0, none⟩) (Kd.V_far (p := ⟨gb428, 3, none⟩) (Kd.V_far (p := ⟨gb428, 2, none⟩) (Kd.V_far (p := ⟨gb428, 1, none⟩) (Kd.V_far (p := ⟨gb428, 0, none⟩) (Kd.V_mono (Kd.V_mono HO416.out (fun k_ hk => (⟨hk, hk.1.2⟩ : _ ∧ k_ ≠ gb428))) (fun k_ hk => (⟨hk, hk.1.2⟩ : _ ∧ k_ ≠ gb429))) (fun _ hk => hk.1.2) (.bool t407)) (fun _ hk => hk.1.2) (.slice Ao53 t408.length co53)) (fun _ hk => hk.1.2) (.slice Ao54 t411.length co54)) (fun _ hk => hk.1.2) (.slice Ao55 t414.length co55)) (fun _ hk => hk.2) (.bool t418)) (fun _ hk => hk.2) (.slice Ao58 t419.length co58)) (fun _ hk => hk.2) (.slice Ao59 t422.length co59)) (fun _ hk => hk.2) (.slice Ao60 t425.length co60)) (fun _ hk => ⟨hk.1.1.1.1, ⟨hk.1.1.1.2, hk.1.1.2⟩⟩)⟩, ⟨by (with_reducible repeat (first | apply Kd.V_alloc | apply Kd.V_drewN | apply Kd.V_drew)); exact Kd.V_mono (Kd.V_far (p := ⟨gb429, 3, none⟩) (Kd.V_far (p := ⟨gb429, 2, none⟩) (Kd.V_far (p := ⟨gb429, 1, none⟩) (Kd.V_far (p := ⟨gb429, 0, none⟩) (Kd.V_far (p := ⟨gb428, 3, none⟩) (Kd.V_far (p := ⟨gb428, 2, none⟩) (Kd.V_far (p := ⟨gb428, 1, none⟩) (Kd.V_far (p := ⟨gb428, 0, none⟩) (Kd.V_mono (Kd.V_mono HO421.out (fun k_ hk => (⟨hk, hk.1.2⟩ : _ ∧ k_ ≠ gb428))) (fun k_ hk => (⟨hk, hk.1.2⟩ : _ ∧ k_ ≠ gb429))) (fun _ hk => hk.1.2) (.bool t407)) (fun _ hk => hk.1.2) (.slice Ao53 t408.length co53)) (fun _ hk => hk.1.2) (.slice Ao54 t411.length co54)) (fun _ hk => hk.1.2) (.slice Ao55 t414.length co55)) (fun _ hk => hk.2) (.bool t418)) (fun _ hk => hk.2) (.slice Ao58 t419.length co58)) (fun _ hk => hk.2) (.slice Ao59 t422.length co59)) (fun _ hk => hk.2) (.slice Ao60 t425.length co60)) (fun _ hk => ⟨hk.1.1.1.1, ⟨hk.1.1.1.2, hk.1.1.2⟩⟩)⟩, ⟨by (with_reducible repeat (first | apply Kd.V_alloc | apply Kd.V_drewN | apply Kd.V_drew)); exact Kd.V_mono (Kd.V_far (p := ⟨gb429, 3, none⟩) (Kd.V_far (p := ⟨gb429, 2, none⟩) (Kd.V_far (p := ⟨gb429, 1, none⟩) (Kd.V_far (p := ⟨gb429, 0, none⟩) (Kd.V_far (p := ⟨gb428, 3, none⟩) (Kd.V_far (p := ⟨gb428, 2, none⟩) (Kd.V_far (p := ⟨gb428, 1, none⟩) (Kd.V_far (p := ⟨gb428, 0, none⟩) (Kd.V_mono (Kd.V_mono HO424.out (fun k_ hk => (⟨hk, hk.1.2⟩ : _ ∧ k_ ≠ gb428))) (fun k_ hk => (⟨hk, hk.1.2⟩ : _ ∧ k_ ≠ gb429))) (fun _ hk => hk.1.2) (.bool t407)) (fun _ hk => hk.1.2) (.slice Ao53 t408.length co53)) (fun _ hk => hk.1.2) (.slice Ao54 t411.length co54)) (fun _ hk => hk.1.2) (.slice Ao55 t414.length co55)) (fun _ hk => hk.2) (.bool t418)) (fun _ hk => hk.2) (.slice Ao58 t419.length co58)) (fun _ hk => hk.2) (.slice Ao59 t422.length co59)) (fun _ hk => hk.2) (.slice Ao60 t425.length co60)) (fun _ hk => ⟨hk.1.1.1.1, ⟨hk.1.1.1.2, hk.1.1.2⟩⟩)⟩, ⟨by (with_reducible repeat (first | apply Kd.V_alloc | apply Kd.V_drewN | apply Kd.V_drew)); exact Kd.V_mono (Kd.V_far (p := ⟨gb429, 3, none⟩) (Kd.V_far (p := ⟨gb429, 2, none⟩) (Kd.V_far (p := ⟨gb429, 1, none⟩) (Kd.V_far (p := ⟨gb429, 0, none⟩) (Kd.V_far (p := ⟨gb428, 3, none⟩) (Kd.V_far (p := ⟨gb428, 2, none⟩) (Kd.V_far (p := ⟨gb428, 1, none⟩) (Kd.V_far (p := ⟨gb428, 0, none⟩) (Kd.V_mono (Kd.V_mono HO427.out (fun k_ hk => (⟨hk, hk.1.2⟩ : _ ∧ k_ ≠ gb428))) (fun k_ hk => (⟨hk, hk.1.2⟩ : _ ∧ k_ ≠ gb429))) (fun _ hk => hk.1.2) (.bool t407)) (fun _ hk => hk.1.2) (.slice Ao53 t408.length co53)) (fun _ hk => hk.1.2) (.slice Ao54 t411.length co54)) (fun _ hk => hk.1.2) (.slice Ao55 t414.length co55)) (fun _ hk => hk.2) (.bool t418)) (fun _ hk => hk.2) (.slice Ao58 t419.length co58)) (fun _ hk => hk.2) (.slice Ao59 t422.length co59)) (fun _ hk => hk.2) (.slice Ao60 t425.length co60)) (fun _ hk => ⟨hk.1.1.1.1, ⟨hk.1.1.1.2, hk.1.1.2⟩⟩)⟩, ⟨by (with_reducible repeat (first | refine blk_drewN ?_ _ | refine blk_drew ?_ | refine blk_alloc ?_ _)); refine blk_far ?_ NB402_429.out _; (with_reducible repeat (first | refine blk_drewN ?_ _ | refine blk_drew ?_ | refine blk_alloc ?_ _)); refine blk_far ?_ NB402_429.out _; (with_reducible repeat (first | refine blk_drewN ?_ _ | refine blk_drew ?_ | refine blk_alloc ?_ _)); refine blk_far ?_ NB402_429.out _; (with_reducible repeat (first | refine blk_drewN ?_ _ | refine blk_drew ?_ | refine blk_alloc ?_ _)); refine blk_far ?_ NB402_429.out _; (with_reducible repeat (first | refine blk_drewN ?_ _ | refine blk_drew ?_ | refine blk_alloc ?_ _)); refine blk_far ?_ NB402_428.out _; (with_reducible repeat (first | refine blk_drewN ?_ _ | refine blk_drew ?_ | refine blk_alloc ?_ _)); refine blk_far ?_ NB402_428.out _; (with_reducible repeat (first | refine blk_drewN ?_ _ | refine blk_drew ?_ | refine blk_alloc ?_ _)); refine blk_far ?_ NB402_428.out _; (with_reducible repeat (first | refine blk_drewN ?_ _ | refine blk_drew ?_ | refine blk_alloc ?_ _)); refine blk_far ?_ NB402_428.out _; (with_reducible repeat (first | refine blk_drewN ?_ _ | refine blk_drew ?_ | refine blk_alloc ?_ _)); exact BK402.out⟩, ⟨by (with_reducible repeat (first | refine blk_drewN ?_ _ | refine blk_drew ?_ | refine blk_alloc ?_ _)); refine blk_far ?_ NB428_429.out _; (with_reducible repeat (first | refine blk_drewN ?_ _ | refine blk_drew ?_ | refine blk_alloc ?_ _)); refine blk_far ?_ NB428_429.out _; (with_reducible repeat (first | refine blk_drewN ?_ _ | refine blk_drew ?_ | refine blk_alloc ?_ _)); refine blk_far ?_ NB428_429.out _; (with_reducible repeat (first | refine blk_drewN ?_ _ | refine blk_drew ?_ | refine blk_alloc ?_ _)); refine blk_far ?_ NB428_429.out _; (with_reducible repeat (first | refine blk_drewN ?_ _ | refine blk_drew ?_ | refine blk_alloc ?_ _)); refine blk_put (cs := #[.bool t407, .slice Ao53 t408.length co53, .slice Ao54 t411.length co54, .slice none 0 0]) ?_ 3 _ rfl; (with_reducible repeat (first | refine blk_drewN ?_ _ | refine blk_drew ?_ | refine blk_alloc ?_ _)); refine blk_put (cs := #[.bool t407, .slice Ao53 t408.length co53, .slice none 0 0, .slice none 0 0]) ?_ 2 _ rfl; (with_reducible repeat (first | refine blk_drewN ?_ _ | refine blk_drew ?_ | refine blk_alloc ?_ _)); refine blk_put (cs := #[.bool t407, .slice none 0 0, .slice none 0 0, .slice none 0 0]) ?_ 1 _ rfl; (with_reducible repeat (first | refine blk_drewN ?_ _ | refine blk_drew ?_ | refine blk_alloc ?_ _)); refine blk_put (cs := #[.bool false, .slice none 0 0, .slice none 0 0, .slice none 0 0]) ?_ 0 _ rfl; (with_reducible repeat (first | refine blk_drewN ?_ _ | refine blk_drew ?_ | refine blk_alloc ?_ _)); exact BK428.out⟩, ⟨by (with_reducible repeat (first | refine blk_drewN ?_ _ | refine blk_drew ?_ | refine blk_alloc ?_ _)); refine blk_put (cs := #[.bool t418, .slice Ao58 t419.length co58, .slice Ao59 t422.length co59, .slice none 0 0]) ?_ 3 _ rfl; (with_reducible repeat (first | refine blk_drewN ?_ _ | refine blk_drew ?_ | refine blk_alloc ?_ _)); refine blk_put (cs := #[.bool t418, .slice Ao58 t419.length co58, .slice none 0 0, .slice none 0 0]) ?_ 2 _ rfl; (with_reducible repeat (first | refine blk_drewN ?_ _ | refine blk_drew ?_ | refine blk_alloc ?_ _)); refine blk_put (cs := #[.bool t418, .slice none 0 0, .slice none 0 0, .slice none 0 0]) ?_ 1 _ rfl; (with_reducible repeat (first | refine blk_drewN ?_ _ | refine blk_drew ?_ | refine blk_alloc ?_ _)); refine blk_put (cs := #[.bool false, .slice none 0 0, .slice none 0 0, .slice none 0 0]) ?_ 0 _ rfl; (with_reducible repeat (first | refine blk_drewN ?_ _ | refine blk_drew ?_ | refine blk_alloc ?_ _)); refine blk_far ?_ NB429_428.out _; (with_reducible repeat (first | refine blk_drewN ?_ _ | refine blk_drew ?_ | refine blk_alloc ?_ _)); refine blk_far ?_ NB429_428.out _; (with_reducible repeat (first | refine blk_drewN ?_ _ | refine blk_drew ?_ | refine blk_alloc ?_ _)); refine blk_far ?_ NB429_428.out _; (with_reducible repeat (first | refine blk_drewN ?_ _ | refine blk_drew ?_ | refine blk_alloc ?_ _)); refine blk_far ?_ NB429_428.out _; (with_reducible repeat (first | refine blk_drewN ?_ _ | refine blk_drew ?_ | refine blk_alloc ?_ _)); exact BK429.out⟩, ⟨by repeat (first | (with_reducible first | exact HB.out | apply below_alloc | apply pw_below_drewN | apply below_drew1 | refine below_set ?_ GE402.out | refine below_set ?_ GE428.out | refine below_set ?_ GE429.out) | exact HB.out)⟩⟩
     case rest =>
      clear HC45
      (try clear c1); (try clear c2); (try clear p2); (try clear c3); (try clear c5); (try clear c6); (try clear p6); (try clear c7); (try clear c9); (try clear c13); (try clear c17); (try clear c21); (try clear c21b0); (try clear c21b1); (try clear c23); (try clear c24); (try clear c24b0); (try clear c24b1); (try clear c27); (try clear c30); (try clear c31); (try clear c36); (try clear c50); (try clear c51); (try clear c56); (try clear c62); (try clear hcz10_0); (try clear hcz10_1); (try clear hcz10_2); (try clear hcz10_3); (try clear hcz12_0); (try clear hcz12_1); (try clear hcz12_2); (try clear hcz12_3); (try clear hcz15_0); (try clear hcz15_1); (try clear hcz15_2); (try clear hcz15_3); (try clear hcz26_0); (try clear hcz26_1); (try clear hcz26_2); (try clear hcz26_3); (try clear hcz32_0); (try clear hcz32_1); (try clear hcz32_2); (try clear hcz32_3); (try clear hcz37_0); (try clear hcz37_1); (try clear hcz37_2); (try clear hcz37_3); (try clear hcz41_0); (try clear hcz41_1); (try clear hcz41_2); (try clear hcz41_3); (try clear hcz43_0); (try clear hcz43_1); (try clear hcz43_2); (try clear hcz43_3); (try clear hcz46_0); (try clear hcz46_1); (try clear hcz46_2); (try clear hcz46_3); (try clear hcz52_0); (try clear hcz52_1); (try clear hcz52_2); (try clear hcz52_3); (try clear hcz57_0); (try clear hcz57_1); (try clear hcz57_2); (try clear hcz57_3); (try clear hcz61_0); (try clear hcz61_1); (try clear hcz61_2); (try clear hcz61_3); (try clear hfz10_0); (try clear hfz10_1); (try clear hfz10_2); (try clear hfz10_3); (try clear hfz12_0); (try clear hfz12_1); (try clear hfz12_2); (try clear hfz12_3); (try clear hfz15_0); (try clear hfz15_1); (try clear hfz15_2); (try clear hfz15_3); (try clear hfz26_0); (try clear hfz26_1); (try clear hfz26_2); (try clear hfz26_3); (try clear hfz32_0); (try clear hfz32_1); (try clear hfz32_2); (try clear hfz32_3); (try clear hfz37_0); (try clear hfz37_1); (try clear hfz37_2); (try clear hfz37_3); (try clear hfz41_0); (try clear hfz41_1); (try clear hfz41_2); (try clear hfz41_3); (try clear hfz43_0); (try clear hfz43_1); (try clear hfz43_2); (try clear hfz43_3); (try clear hfz46_0); (try clear hfz46_1); (try clear hfz46_2); (try clear hfz46_3); (try clear hfz52_0); (try clear hfz52_1); (try clear hfz52_2); (try clear hfz52_3); (try clear hfz57_0); (try clear hfz57_1); (try clear hfz57_2); (try clear hfz57_3); (try clear hfz61_0); (try clear hfz61_1); (try clear hfz61_2); (try clear hfz61_3); (try clear p2)
      obtain ⟨kq, x7_44, rfl, HA, HJ44, HO_429001, HO_429002, HO_429003, HO_430001, HO_430002, HO_430003, BK402, BK428, BK429, HB⟩ := hcut
      cases kq with
      | zero => exact absurd HA.out (by simp [lunettelaw05_NodeSplits.j1])
      | succ kj44 =>
       have H := HA.out
       clear HA
       simp only [lunettelaw05_NodeSplits.j1] at H
       replace H := Option.bind_eq_some_iff.mp H
       obtain ⟨t432, A630, H⟩ := H
       replace H : (if t432 = 0 then ((lunetteref05_Check.f kj44 t418 t419 t422 t425).bind fun t433 => (if t433 = 0 then ((node_Join.f t407 t408 t411 t414 t417 t418 t419 t422 t425).bind fun bt434 => ((lunetteref05_Same.f kj44 bt434.1 bt434.2.1 bt434.2.2.1 bt434.2.2.2 a0_0 l0_1 l0_2 l0_3).bind fun t444 => (if t444 = true then (if (t408.length : Int) = (wrap64 ((l0_1.length : Int) / 2)) then (if (t419.length : Int) = (wrap64 ((wrap64 ((l0_1.length : Int) - (wrap64 ((l0_1.length : Int) / 2)))) - x7_44)) then (if 0 ≤ (wrap64 ((l0_1.length : Int) / 2)) then (if (wrap64 ((l0_1.length : Int) / 2)) < (l0_1.length : Int) then (some (t417.toList == (rdOf ByteArray.empty l0_1 (wrap64 ((l0_1.length : Int) / 2))).toList)) else (none)) else (none)) else (none)) else (none)) else (none)))) else (none))) else (none)) = some r := H
       have A63 := Aside0.mk A630
       clear A630
       by_cases c64 : t432 = 0
       ·rw [if_pos c64] at H
        have c64b0 : (t432 == 0) = true := beq_iff_eq.mpr c64
        have c64b1 : (t432 != 0) = false := bne_eq_false_iff_eq.mpr c64
        clear c64
        replace H := Option.bind_eq_some_iff.mp H
        obtain ⟨t433, A650, H⟩ := H
        replace H : (if t433 = 0 then ((node_Join.f t407 t408 t411 t414 t417 t418 t419 t422 t425).bind fun bt434 => ((lunetteref05_Same.f kj44 bt434.1 bt434.2.1 bt434.2.2.1 bt434.2.2.2 a0_0 l0_1 l0_2 l0_3).bind fun t444 => (if t444 = true then (if (t408.length : Int) = (wrap64 ((l0_1.length : Int) / 2)) then (if (t419.length : Int) = (wrap64 ((wrap64 ((l0_1.length : Int) - (wrap64 ((l0_1.length : Int) / 2)))) - x7_44)) then (if 0 ≤ (wrap64 ((l0_1.length : Int) / 2)) then (if (wrap64 ((l0_1.length : Int) / 2)) < (l0_1.length : Int) then (some (t417.toList == (rdOf ByteArray.empty l0_1 (wrap64 ((l0_1.length : Int) / 2))).toList)) else (none)) else (none)) else (none)) else (none)) else (none)))) else (none)) = some r := H
        have A65 := Aside0.mk A650
        clear A650
        by_cases c66 : t433 = 0
        ·rw [if_pos c66] at H
         have c66b0 : (t433 == 0) = true := beq_iff_eq.mpr c66
         have c66b1 : (t433 != 0) = false := bne_eq_false_iff_eq.mpr c66
         clear c66
         replace H := Option.bind_eq_some_iff.mp H
         obtain ⟨⟨t434, t435, t438, t441⟩, A670, H⟩ := H
         replace H : ((lunetteref05_Same.f kj44 t434 t435 t438 t441 a0_0 l0_1 l0_2 l0_3).bind fun t444 => (if t444 = true then (if (t408.length : Int) = (wrap64 ((l0_1.length : Int) / 2)) then (if (t419.length : Int) = (wrap64 ((wrap64 ((l0_1.length : Int) - (wrap64 ((l0_1.length : Int) / 2)))) - x7_44)) then (if 0 ≤ (wrap64 ((l0_1.length : Int) / 2)) then (if (wrap64 ((l0_1.length : Int) / 2)) < (l0_1.length : Int) then (some (t417.toList == (rdOf ByteArray.empty l0_1 (wrap64 ((l0_1.length : Int) / 2))).toList)) else (none)) else (none)) else (none)) else (none)) else (none))) = some r := H
         have A67 := Aside0.mk A670
         clear A670
         replace H := Option.bind_eq_some_iff.mp H
         obtain ⟨t444, A680, H⟩ := H
         replace H : (if t444 = true then (if (t408.length : Int) = (wrap64 ((l0_1.length : Int) / 2)) then (if (t419.length : Int) = (wrap64 ((wrap64 ((l0_1.length : Int) - (wrap64 ((l0_1.length : Int) / 2)))) - x7_44)) then (if 0 ≤ (wrap64 ((l0_1.length : Int) / 2)) then (if (wrap64 ((l0_1.length : Int) / 2)) < (l0_1.length : Int) then (some (t417.toList == (rdOf ByteArray.empty l0_1 (wrap64 ((l0_1.length : Int) / 2))).toList)) else (none)) else (none)) else (none)) else (none)) else (none)) = some r := H
         have A68 := Aside0.mk A680
         clear A680
         by_cases c69 : t444 = true
         ·subst c69
          have H1 : (if (t408.length : Int) = (wrap64 ((l0_1.length : Int) / 2)) then (if (t419.length : Int) = (wrap64 ((wrap64 ((l0_1.length : Int) - (wrap64 ((l0_1.length : Int) / 2)))) - x7_44)) then (if 0 ≤ (wrap64 ((l0_1.length : Int) / 2)) then (if (wrap64 ((l0_1.length : Int) / 2)) < (l0_1.length : Int) then (some (t417.toList == (rdOf ByteArray.empty l0_1 (wrap64 ((l0_1.length : Int) / 2))).toList)) else (none)) else (none)) else (none)) else (none)) = some r := by rw [if_pos rfl] at H; exact H
          clear H
          have H := H1
          clear H1
          by_cases c70 : (t408.length : Int) = (wrap64 ((l0_1.length : Int) / 2))
          ·rw [if_pos c70] at H
           have c70b0 : ((t408.length : Int) == (wrap64 ((l0_1.length : Int) / 2))) = true := beq_iff_eq.mpr c70
           have c70b1 : ((t408.length : Int) != (wrap64 ((l0_1.length : Int) / 2))) = false := bne_eq_false_iff_eq.mpr c70
           clear c70
           by_cases c71 : (t419.length : Int) = (wrap64 ((wrap64 ((l0_1.length : Int) - (wrap64 ((l0_1.length : Int) / 2)))) - x7_44))
           ·rw [if_pos c71] at H
            have c71b0 : ((t419.length : Int) == (wrap64 ((wrap64 ((l0_1.length : Int) - (wrap64 ((l0_1.length : Int) / 2)))) - x7_44))) = true := beq_iff_eq.mpr c71
            have c71b1 : ((t419.length : Int) != (wrap64 ((wrap64 ((l0_1.length : Int) - (wrap64 ((l0_1.length : Int) / 2)))) - x7_44))) = false := bne_eq_false_iff_eq.mpr c71
            clear c71
            obtain ⟨ji72, hji72⟩ : ∃ j_ : Int, (wrap64 ((l0_1.length : Int) / 2)) = j_ := ⟨_, rfl⟩
            replace H : (if 0 ≤ (ji72) then (if (ji72) < (l0_1.length : Int) then (some (t417.toList == (rdOf ByteArray.empty l0_1 (ji72)).toList)) else (none)) else (none)) = some r := by first | (rw [hji72] at H; exact H) | (simp only [hji72] at H ⊢; exact H)
            (try rw [hji72] at c70b0)
            (try rw [hji72] at c70b1)
            (try rw [hji72] at c71b0)
            (try rw [hji72] at c71b1)
            (try rw [hji72] at A63)
            (try rw [hji72] at A65)
            (try rw [hji72] at A67)
            (try rw [hji72] at A68)
            have hji72w : (IntKind.i64.wrap ((l0_1.length : Int) / 2)) = ji72 := (i64_w _).trans hji72
            by_cases c73 : 0 ≤ (ji72)
            ·rw [if_pos c73] at H
             have c73b0 : decide (0 ≤ (ji72)) = true := decide_eq_true c73
             clear c73
             by_cases c74 : (ji72) < (l0_1.length : Int)
             ·rw [if_pos c74] at H
              have c74b0 : decide ((ji72) < (l0_1.length : Int)) = true := decide_eq_true c74
              clear c74
              obtain rfl := Option.some.inj H
              try go_wp2
              have n0_ := Aside0.mk (Kd.V_drew HO_429001.out)
              have n1_ := Aside0.mk (Kd.V_drew HO_429002.out)
              have n2_ := Aside0.mk (Kd.V_drew HO_429003.out)
              have n3_ := Aside0.mk (Kd.V_drew HO_430001.out)
              have n4_ := Aside0.mk (Kd.V_drew HO_430002.out)
              have n5_ := Aside0.mk (Kd.V_drew HO_430003.out)
              have n6_ := Aside0.mk (blk_drew BK402.out)
              have n7_ := Aside0.mk (blk_drew BK428.out)
              have n8_ := Aside0.mk (blk_drew BK429.out)
              have n9_ := Aside0.mk (below_drew1 HB.out)
              clear HO_429001
              clear HO_429002
              clear HO_429003
              clear HO_430001
              clear HO_430002
              clear HO_430003
              clear BK402
              clear BK428
              clear BK429
              clear HB
              have HO_429001 := n0_
              have HO_429002 := n1_
              have HO_429003 := n2_
              have HO_430001 := n3_
              have HO_430002 := n4_
              have HO_430003 := n5_
              have BK402 := n6_
              have BK428 := n7_
              have BK429 := n8_
              have HB := n9_
              clear n0_ n1_ n2_ n3_ n4_ n5_ n6_ n7_ n8_ n9_
              have p445 : 0 ≤ ((ji72) : Int) := of_decide_eq_true (by first | (with_reducible assumption) | assumption)
              have q445 : (ji72) < (l0_1.length : Int) := of_decide_eq_true (by first | (with_reducible assumption) | assumption)
              obtain ⟨ad445, e445, hx445_0⟩ := Kd.at_string HR0_1.out (ji72) p445 q445
              have hw445_0 := hx445_0
              cases e445
              replace hx445_0 := (HB.out.cell (World.block_lt_of_cell? w _ hx445_0)).trans hx445_0
              replace p445 := eq_true p445
              replace q445 := eq_true q445
              refine start_ (n := 46) (S := fun w' => w'.cell? ⟨gb428, 0, none⟩ = some (.bool t407) ∧ w'.cell? ⟨gb428, 1, none⟩ = some (.slice Ao53 t408.length co53) ∧ w'.cell? ⟨gb428, 2, none⟩ = some (.slice Ao54 t411.length co54) ∧ w'.cell? ⟨gb428, 3, none⟩ = some (.slice Ao55 t414.length co55) ∧ w'.cell? ⟨gb429, 0, none⟩ = some (.bool t418) ∧ w'.cell? ⟨gb429, 1, none⟩ = some (.slice Ao58 t419.length co58) ∧ w'.cell? ⟨gb429, 2, none⟩ = some (.slice Ao59 t422.length co59) ∧ w'.cell? ⟨gb429, 3, none⟩ = some (.slice Ao60 t425.length co60) ∧ w'.cell? ⟨gb402, 0, none⟩ = some (.bool a0_0) ∧ w'.cell? ⟨gb402, 1, none⟩ = some (.slice (some ad445) l0_1.length c0_1) ∧ w'.cell? ⟨gb402, 2, none⟩ = some (.slice A0_2 l0_2.length c0_2) ∧ w'.cell? ⟨gb402, 3, none⟩ = some (.slice A0_3 l0_3.length c0_3) ∧ w'.cell? (ad445.add ((ji72)).toNat) = some (.string (rdOf ByteArray.empty l0_1 (ji72)))) (ds := []) #[false, false, false, false, false, false, false, false, false, false, false, false, false, false, false, false, false, false, false, false, false, false, false, false, false, false, false, false, false, false, false, false, false, false, false, false, false, false, false, false, false, false, false, false, false, false] (by kernel_rfl) rfl rfl ⟨(blk_cell BK428.out 0).trans rfl, (blk_cell BK428.out 1).trans rfl, (blk_cell BK428.out 2).trans rfl, (blk_cell BK428.out 3).trans rfl, (blk_cell BK429.out 0).trans rfl, (blk_cell BK429.out 1).trans rfl, (blk_cell BK429.out 2).trans rfl, (blk_cell BK429.out 3).trans rfl, (blk_cell BK402.out 0).trans rfl, (blk_cell BK402.out 1).trans rfl, (blk_cell BK402.out 2).trans rfl, (blk_cell BK402.out 3).trans rfl, ((HB.out.cell (World.block_lt_of_cell? w _ hw445_0)).trans hw445_0)⟩ (fun hHeld => ?_); refine with_tabW lunettelaw05_NodeSplits.tab10 lunettelaw05_NodeSplits.bits10 (fun HT_ HW_ => ?_)
              generalize wc.drew = w75 at HO_429001 HO_429002 HO_429003 HO_430001 HO_430002 HO_430003 BK402 BK428 BK429 HB hx445_0 hHeld ⊢
              refine take_ (i := 0) (N := some 50) (v := ?_) (a' := ?_) #[true, false, false, false, false, false, false, false, false, false, false, false, false, false, false, false, false, false, false, false, false, false, false, false, false, false, false, false, false, false, false, false, false, false, false, false, false, false, false, false, false, false, false, false, false, false] rfl rfl (take_ofW HT_.out HW_.out (by kernel_rfl)) (fun _ _ _ h => h) (Or.inl ⟨by rfl, ?_⟩) hHeld ?_ ?_
              rotate_left
              ·rintro w' ⟨s0, s1, s2, s3, s4, s5, s6, s7, s8, s9, s10, s11, s12⟩
               go_simp
               with_reducible rfl
              rotate_left
              ·simp only [Act.put, List.setIfInBounds_toArray, List.set_cons_zero, List.set_cons_succ, i64_w, i32_w]
               rfl
              refine one_ (i := 1) (N := some 51) #[true, true, false, false, false, false, false, false, false, false, false, false, false, false, false, false, false, false, false, false, false, false, false, false, false, false, false, false, false, false, false, false, false, false, false, false, false, false, false, false, false, false, false, false, false, false] rfl rfl (one_of HT_.out (by kernel_rfl)) (by decide) (fun K hK => ?_)
              refine goes_ Try.func16 (by kernel_rfl) rfl #[.agg #[.bool t407, .slice Ao53 t408.length co53, .slice Ao54 t411.length co54, .slice Ao55 t414.length co55]] (by rfl) rfl rfl (by (try simp only [List.map_toArray, List.map_cons, List.map_nil]); first | done | rfl | (simp only [List.length_drop, List.length_take]; rfl)) ?_
              with_reducible refine (lunetteref05_Check.calls kj44 t407 _ _ t408 _ _ t411 _ _ t414 t432 _ ?side1 ?side2 ?side3 ?side4 ?side5 ?side6 A63.out).mono ?_
              (case side1 => repeat (first | exact (Kd.V_reads' HO_429001.out).2.2 | (with_reducible refine Kd.C_alloc ?_ _) | (with_reducible refine Kd.C_drewN ?_ _) | (with_reducible refine Kd.C_drew ?_)))
              (case side2 => exact (Kd.V_reads' HO_429001.out).2.1)
              (case side3 => repeat (first | exact (Kd.V_reads' HO_429002.out).2.2 | (with_reducible refine Kd.C_alloc ?_ _) | (with_reducible refine Kd.C_drewN ?_ _) | (with_reducible refine Kd.C_drew ?_)))
              (case side4 => exact (Kd.V_reads' HO_429002.out).2.1)
              (case side5 => repeat (first | exact (Kd.V_reads' HO_429003.out).2.2 | (with_reducible refine Kd.C_alloc ?_ _) | (with_reducible refine Kd.C_drewN ?_ _) | (with_reducible refine Kd.C_drew ?_)))
              (case side6 => exact (Kd.V_reads' HO_429003.out).2.1)
              rintro e w76 ⟨rfl, hb⟩
              refine ⟨_, rfl, ?_⟩
              have n0_ := Aside0.mk (Kd.V_below (by (with_reducible repeat (first | apply Kd.V_alloc | apply Kd.V_drewN | apply Kd.V_drew)); exact HO_429001.out) hb)
              have n1_ := Aside0.mk (Kd.V_below (by (with_reducible repeat (first | apply Kd.V_alloc | apply Kd.V_drewN | apply Kd.V_drew)); exact HO_429002.out) hb)
              have n2_ := Aside0.mk (Kd.V_below (by (with_reducible repeat (first | apply Kd.V_alloc | apply Kd.V_drewN | apply Kd.V_drew)); exact HO_429003.out) hb)
              have n3_ := Aside0.mk (Kd.V_below (by (with_reducible repeat (first | apply Kd.V_alloc | apply Kd.V_drewN | apply Kd.V_drew)); exact HO_430001.out) hb)
              have n4_ := Aside0.mk (Kd.V_below (by (with_reducible repeat (first | apply Kd.V_alloc | apply Kd.V_drewN | apply Kd.V_drew)); exact HO_430002.out) hb)
              have n5_ := Aside0.mk (Kd.V_below (by (with_reducible repeat (first | apply Kd.V_alloc | apply Kd.V_drewN | apply Kd.V_drew)); exact HO_430003.out) hb)
              have n6_ := Aside0.mk (blk_below (g := gb402) (o := .cells #[.bool a0_0, .slice (some ad445) l0_1.length c0_1, .slice A0_2 l0_2.length c0_2, .slice A0_3 l0_3.length c0_3] 25 (0, 0)) (by (with_reducible repeat (first | refine blk_drewN ?_ _ | refine blk_drew ?_ | refine blk_alloc ?_ _)); exact BK402.out) hb)
              have n7_ := Aside0.mk (blk_below (g := gb428) (o := .cells #[.bool t407, .slice Ao53 t408.length co53, .slice Ao54 t411.length co54, .slice Ao55 t414.length co55] 25 (0, 0)) (by (with_reducible repeat (first | refine blk_drewN ?_ _ | refine blk_drew ?_ | refine blk_alloc ?_ _)); exact BK428.out) hb)
              have n8_ := Aside0.mk (blk_below (g := gb429) (o := .cells #[.bool t418, .slice Ao58 t419.length co58, .slice Ao59 t422.length co59, .slice Ao60 t425.length co60] 25 (0, 0)) (by (with_reducible repeat (first | refine blk_drewN ?_ _ | refine blk_drew ?_ | refine blk_alloc ?_ _)); exact BK429.out) hb)
              have n9_ := Aside0.mk (below_step (by repeat (first | (with_reducible first | exact HB.out | apply below_alloc | apply pw_below_drewN | apply below_drew1 | refine below_set ?_ GE402.out | refine below_set ?_ GE428.out | refine below_set ?_ GE429.out) | exact HB.out)) hb)
              clear HO_429001
              clear HO_429002
              clear HO_429003
              clear HO_430001
              clear HO_430002
              clear HO_430003
              clear BK402
              clear BK428
              clear BK429
              clear HB
              have HO_429001 := n0_
              have HO_429002 := n1_
              have HO_429003 := n2_
              have HO_430001 := n3_
              have HO_430002 := n4_
              have HO_430003 := n5_
              have BK402 := n6_
              have BK428 := n7_
              have BK429 := n8_
              have HB := n9_
              clear n0_ n1_ n2_ n3_ n4_ n5_ n6_ n7_ n8_ n9_
              (try clear hb)
              (try clear hb2)
              (try clear hk)
              (try clear hi)
              refine hK.out _ _ ⟨(blk_cell BK428.out 0).trans rfl, (blk_cell BK428.out 1).trans rfl, (blk_cell BK428.out 2).trans rfl, (blk_cell BK428.out 3).trans rfl, (blk_cell BK429.out 0).trans rfl, (blk_cell BK429.out 1).trans rfl, (blk_cell BK429.out 2).trans rfl, (blk_cell BK429.out 3).trans rfl, (blk_cell BK402.out 0).trans rfl, (blk_cell BK402.out 1).trans rfl, (blk_cell BK402.out 2).trans rfl, (blk_cell BK402.out 3).trans rfl, ((HB.out.cell (World.block_lt_of_cell? w _ hw445_0)).trans hw445_0)⟩ (fun hHeld => ?_)
              clear hK K
              refine norm_ (a' := ?_) ?_ ?_
              rotate_left
              ·show Act.put _ (some 51) _ = _
               simp only [Act.put, List.setIfInBounds_toArray, List.set_cons_zero, List.set_cons_succ, i64_w, i32_w]
               rfl
              refine pure_ (i := 2) (N := some 52) (v := ?_) (a' := ?_) #[true, true, true, false, false, false, false, false, false, false, false, false, false, false, false, false, false, false, false, false, false, false, false, false, false, false, false, false, false, false, false, false, false, false, false, false, false, false, false, false, false, false, false, false, false, false] rfl rfl (any_of HT_.out (by kernel_rfl)) (fun _ _ _ h => h) (Or.inl ⟨by rfl, ?_⟩) ?_ ?_
              rotate_left
              ·intro w'
               go_simp
               with_reducible rfl
              rotate_left
              ·simp only [Act.put, List.setIfInBounds_toArray, List.set_cons_zero, List.set_cons_succ, i64_w, i32_w]
               rfl
              refine pure_ (i := 3) (N := some 53) (v := ?_) (a' := ?_) #[true, true, true, true, false, false, false, false, false, false, false, false, false, false, false, false, false, false, false, false, false, false, false, false, false, false, false, false, false, false, false, false, false, false, false, false, false, false, false, false, false, false, false, false, false, false] rfl rfl (any_of HT_.out (by kernel_rfl)) (fun _ _ _ h => h) (Or.inl ⟨by rfl, ?_⟩) ?_ ?_
              rotate_left
              ·intro w'
               go_simp
               with_reducible rfl
              rotate_left
              ·simp only [Act.put, List.setIfInBounds_toArray, List.set_cons_zero, List.set_cons_succ, i64_w, i32_w]
               rfl
              refine take_ (i := 4) (N := some 54) (v := ?_) (a' := ?_) #[true, true, true, true, true, false, false, false, false, false, false, false, false, false, false, false, false, false, false, false, false, false, false, false, false, false, false, false, false, false, false, false, false, false, false, false, false, false, false, false, false, false, false, false, false, false] rfl rfl (take_ofW HT_.out HW_.out (by kernel_rfl)) (fun _ _ _ h => h) (Or.inl ⟨by rfl, ?_⟩) hHeld ?_ ?_
              rotate_left
              ·rintro w' ⟨s0, s1, s2, s3, s4, s5, s6, s7, s8, s9, s10, s11, s12⟩
               go_simp
               with_reducible rfl
              rotate_left
              ·simp only [Act.put, List.setIfInBounds_toArray, List.set_cons_zero, List.set_cons_succ, i64_w, i32_w]
               rfl
              refine one_ (i := 5) (N := some 55) #[true, true, true, true, true, true, false, false, false, false, false, false, false, false, false, false, false, false, false, false, false, false, false, false, false, false, false, false, false, false, false, false, false, false, false, false, false, false, false, false, false, false, false, false, false, false] rfl rfl (one_of HT_.out (by kernel_rfl)) (by decide) (fun K hK => ?_)
              refine goes_ Try.func16 (by kernel_rfl) rfl #[.agg #[.bool t418, .slice Ao58 t419.length co58, .slice Ao59 t422.length co59, .slice Ao60 t425.length co60]] (by rfl) rfl rfl (by (try simp only [List.map_toArray, List.map_cons, List.map_nil]); first | done | rfl | (simp only [List.length_drop, List.length_take]; rfl)) ?_
              with_reducible refine (lunetteref05_Check.calls kj44 t418 _ _ t419 _ _ t422 _ _ t425 t433 _ ?side1 ?side2 ?side3 ?side4 ?side5 ?side6 A65.out).mono ?_
              (case side1 => repeat (first | exact (Kd.V_reads' HO_430001.out).2.2 | (with_reducible refine Kd.C_alloc ?_ _) | (with_reducible refine Kd.C_drewN ?_ _) | (with_reducible refine Kd.C_drew ?_)))
              (case side2 => exact (Kd.V_reads' HO_430001.out).2.1)
              (case side3 => repeat (first | exact (Kd.V_reads' HO_430002.out).2.2 | (with_reducible refine Kd.C_alloc ?_ _) | (with_reducible refine Kd.C_drewN ?_ _) | (with_reducible refine Kd.C_drew ?_)))
              (case side4 => exact (Kd.V_reads' HO_430002.out).2.1)
              (case side5 => repeat (first | exact (Kd.V_reads' HO_430003.out).2.2 | (with_reducible refine Kd.C_alloc ?_ _) | (with_reducible refine Kd.C_drewN ?_ _) | (with_reducible refine Kd.C_drew ?_)))
              (case side6 => exact (Kd.V_reads' HO_430003.out).2.1)
              rintro e w77 ⟨rfl, hb⟩
              refine ⟨_, rfl, ?_⟩
              have n0_ := Aside0.mk (Kd.V_below (by (with_reducible repeat (first | apply Kd.V_alloc | apply Kd.V_drewN | apply Kd.V_drew)); exact HO_429001.out) hb)
              have n1_ := Aside0.mk (Kd.V_below (by (with_reducible repeat (first | apply Kd.V_alloc | apply Kd.V_drewN | apply Kd.V_drew)); exact HO_429002.out) hb)
              have n2_ := Aside0.mk (Kd.V_below (by (with_reducible repeat (first | apply Kd.V_alloc | apply Kd.V_drewN | apply Kd.V_drew)); exact HO_429003.out) hb)
              have n3_ := Aside0.mk (Kd.V_below (by (with_reducible repeat (first | apply Kd.V_alloc | apply Kd.V_drewN | apply Kd.V_drew)); exact HO_430001.out) hb)
              have n4_ := Aside0.mk (Kd.V_below (by (with_reducible repeat (first | apply Kd.V_alloc | apply Kd.V_drewN | apply Kd.V_drew)); exact HO_430002.out) hb)
              have n5_ := Aside0.mk (Kd.V_below (by (with_reducible repeat (first | apply Kd.V_alloc | apply Kd.V_drewN | apply Kd.V_drew)); exact HO_430003.out) hb)
              have n6_ := Aside0.mk (blk_below (g := gb402) (o := .cells #[.bool a0_0, .slice (some ad445) l0_1.length c0_1, .slice A0_2 l0_2.length c0_2, .slice A0_3 l0_3.length c0_3] 25 (0, 0)) (by (with_reducible repeat (first | refine blk_drewN ?_ _ | refine blk_drew ?_ | refine blk_alloc ?_ _)); exact BK402.out) hb)
              have n7_ := Aside0.mk (blk_below (g := gb428) (o := .cells #[.bool t407, .slice Ao53 t408.length co53, .slice Ao54 t411.length co54, .slice Ao55 t414.length co55] 25 (0, 0)) (by (with_reducible repeat (first | refine blk_drewN ?_ _ | refine blk_drew ?_ | refine blk_alloc ?_ _)); exact BK428.out) hb)
              have n8_ := Aside0.mk (blk_below (g := gb429) (o := .cells #[.bool t418, .slice Ao58 t419.length co58, .slice Ao59 t422.length co59, .slice Ao60 t425.length co60] 25 (0, 0)) (by (with_reducible repeat (first | refine blk_drewN ?_ _ | refine blk_drew ?_ | refine blk_alloc ?_ _)); exact BK429.out) hb)
              have n9_ := Aside0.mk (below_step (by repeat (first | (with_reducible first | exact HB.out | apply below_alloc | apply pw_below_drewN | apply below_drew1 | refine below_set ?_ GE402.out | refine below_set ?_ GE428.out | refine below_set ?_ GE429.out) | exact HB.out)) hb)
              clear HO_429001
              clear HO_429002
              clear HO_429003
              clear HO_430001
              clear HO_430002
              clear HO_430003
              clear BK402
              clear BK428
              clear BK429
              clear HB
              have HO_429001 := n0_
              have HO_429002 := n1_
              have HO_429003 := n2_
              have HO_430001 := n3_
              have HO_430002 := n4_
              have HO_430003 := n5_
              have BK402 := n6_
              have BK428 := n7_
              have BK429 := n8_
              have HB := n9_
              clear n0_ n1_ n2_ n3_ n4_ n5_ n6_ n7_ n8_ n9_
              (try clear hb)
              (try clear hb2)
              (try clear hk)
              (try clear hi)
              refine hK.out _ _ ⟨(blk_cell BK428.out 0).trans rfl, (blk_cell BK428.out 1).trans rfl, (blk_cell BK428.out 2).trans rfl, (blk_cell BK428.out 3).trans rfl, (blk_cell BK429.out 0).trans rfl, (blk_cell BK429.out 1).trans rfl, (blk_cell BK429.out 2).trans rfl, (blk_cell BK429.out 3).trans rfl, (blk_cell BK402.out 0).trans rfl, (blk_cell BK402.out 1).trans rfl, (blk_cell BK402.out 2).trans rfl, (blk_cell BK402.out 3).trans rfl, ((HB.out.cell (World.block_lt_of_cell? w _ hw445_0)).trans hw445_0)⟩ (fun hHeld => ?_)
              clear hK K
              refine norm_ (a' := ?_) ?_ ?_
              rotate_left
              ·show Act.put _ (some 55) _ = _
               simp only [Act.put, List.setIfInBounds_toArray, List.set_cons_zero, List.set_cons_succ, i64_w, i32_w]
               rfl
              refine pure_ (i := 6) (N := some 56) (v := ?_) (a' := ?_) #[true, true, true, true, true, true, true, false, false, false, false, false, false, false, false, false, false, false, false, false, false, false, false, false, false, false, false, false, false, false, false, false, false, false, false, false, false, false, false, false, false, false, false, false, false, false] rfl rfl (any_of HT_.out (by kernel_rfl)) (fun _ _ _ h => h) (Or.inl ⟨by rfl, ?_⟩) ?_ ?_
              rotate_left
              ·intro w'
               go_simp
               with_reducible rfl
              rotate_left
              ·simp only [Act.put, List.setIfInBounds_toArray, List.set_cons_zero, List.set_cons_succ, i64_w, i32_w]
               rfl
              refine pure_ (i := 7) (N := some 57) (v := ?_) (a' := ?_) #[true, true, true, true, true, true, true, true, false, false, false, false, false, false, false, false, false, false, false, false, false, false, false, false, false, false, false, false, false, false, false, false, false, false, false, false, false, false, false, false, false, false, false, false, false, false] rfl rfl (any_of HT_.out (by kernel_rfl)) (fun _ _ _ h => h) (Or.inl ⟨by rfl, ?_⟩) ?_ ?_
              rotate_left
              ·intro w'
               go_simp
               with_reducible rfl
              rotate_left
              ·simp only [Act.put, List.setIfInBounds_toArray, List.set_cons_zero, List.set_cons_succ, i64_w, i32_w]
               rfl
              refine pure_ (i := 8) (N := some 58) (v := ?_) (a' := ?_) #[true, true, true, true, true, true, true, true, true, false, false, false, false, false, false, false, false, false, false, false, false, false, false, false, false, false, false, false, false, false, false, false, false, false, false, false, false, false, false, false, false, false, false, false, false, false] rfl rfl (any_of HT_.out (by kernel_rfl)) (fun _ _ _ h => h) (Or.inl ⟨by rfl, ?_⟩) ?_ ?_
              rotate_left
              ·intro w'
               go_simp
               with_reducible rfl
              rotate_left
              ·simp only [Act.put, List.setIfInBounds_toArray, List.set_cons_zero, List.set_cons_succ, i64_w, i32_w]
               rfl
              refine pure_ (i := 10) (N := some 60) (v := ?_) (a' := ?_) #[true, true, true, true, true, true, true, true, true, false, true, false, false, false, false, false, false, false, false, false, false, false, false, false, false, false, false, false, false, false, false, false, false, false, false, false, false, false, false, false, false, false, false, false, false, false] rfl rfl (any_of HT_.out (by kernel_rfl)) (fun _ _ _ h => h) (Or.inl ⟨by rfl, ?_⟩) ?_ ?_
              rotate_left
              ·intro w'
               go_simp
               with_reducible rfl
              rotate_left
              ·simp only [Act.put, List.setIfInBounds_toArray, List.set_cons_zero, List.set_cons_succ, i64_w, i32_w]
               rfl
              refine take_ (i := 9) (N := some 59) (v := ?_) (a' := ?_) #[true, true, true, true, true, true, true, true, true, true, true, false, false, false, false, false, false, false, false, false, false, false, false, false, false, false, false, false, false, false, false, false, false, false, false, false, false, false, false, false, false, false, false, false, false, false] rfl rfl (take_ofW HT_.out HW_.out (by kernel_rfl)) (fun _ _ _ h => h) (Or.inl ⟨by rfl, ?_⟩) hHeld ?_ ?_
              rotate_left
              ·rintro w' ⟨s0, s1, s2, s3, s4, s5, s6, s7, s8, s9, s10, s11, s12⟩
               go_simp
               with_reducible rfl
              rotate_left
              ·simp only [Act.put, List.setIfInBounds_toArray, List.set_cons_zero, List.set_cons_succ, i64_w, i32_w]
               rfl
              refine take_ (i := 11) (N := some 61) (v := ?_) (a' := ?_) #[true, true, true, true, true, true, true, true, true, true, true, true, false, false, false, false, false, false, false, false, false, false, false, false, false, false, false, false, false, false, false, false, false, false, false, false, false, false, false, false, false, false, false, false, false, false] rfl rfl (take_ofW HT_.out HW_.out (by kernel_rfl)) (fun _ _ _ h => h) (Or.inl ⟨by rfl, ?_⟩) hHeld ?_ ?_
              rotate_left
              ·rintro w' ⟨s0, s1, s2, s3, s4, s5, s6, s7, s8, s9, s10, s11, s12⟩
               go_simp
               with_reducible rfl
              rotate_left
              ·simp only [Act.put, List.setIfInBounds_toArray, List.set_cons_zero, List.set_cons_succ, i64_w, i32_w]
               rfl
              refine take_ (i := 13) (N := some 63) (v := ?_) (a' := ?_) #[true, true, true, true, true, true, true, true, true, true, true, true, false, true, false, false, false, false, false, false, false, false, false, false, false, false, false, false, false, false, false, false, false, false, false, false, false, false, false, false, false, false, false, false, false, false] rfl rfl (take_ofW HT_.out HW_.out (by kernel_rfl)) (fun _ _ _ h => h) (Or.inl ⟨by rfl, ?_⟩) hHeld ?_ ?_
              rotate_left
              ·rintro w' ⟨s0, s1, s2, s3, s4, s5, s6, s7, s8, s9, s10, s11, s12⟩
               go_simp
               with_reducible rfl
              rotate_left
              ·simp only [Act.put, List.setIfInBounds_toArray, List.set_cons_zero, List.set_cons_succ, i64_w, i32_w]
               rfl
              refine one_ (i := 12) (N := some 62) #[true, true, true, true, true, true, true, true, true, true, true, true, true, true, false, false, false, false, false, false, false, false, false, false, false, false, false, false, false, false, false, false, false, false, false, false, false, false, false, false, false, false, false, false, false, false] rfl rfl (one_of HT_.out (by kernel_rfl)) (by decide) (fun K hK => ?_)
              refine goes_ Try.func26 (by kernel_rfl) rfl #[.agg #[.bool t407, .slice Ao53 t408.length co53, .slice Ao54 t411.length co54, .slice Ao55 t414.length co55], .string t417, .agg #[.bool t418, .slice Ao58 t419.length co58, .slice Ao59 t422.length co59, .slice Ao60 t425.length co60]] (by rfl) rfl rfl (by (try simp only [List.map_toArray, List.map_cons, List.map_nil]); first | done | rfl | (simp only [List.length_drop, List.length_take]; rfl)) ?_
              with_reducible refine (node_Join.calls t407 _ _ t408 _ _ t411 _ _ t414 t417 t418 _ _ t419 _ _ t422 _ _ t425 t434 t435 t438 t441 _ ?side1 ?side2 ?side3 ?side4 ?side5 ?side6 ?side7 ?side8 ?side9 ?side10 ?side11 ?side12 A67.out).mono ?_
              (case side1 => repeat (first | exact (Kd.V_reads' HO_429001.out).2.2 | (with_reducible refine Kd.C_alloc ?_ _) | (with_reducible refine Kd.C_drewN ?_ _) | (with_reducible refine Kd.C_drew ?_)))
              (case side2 => exact (Kd.V_reads' HO_429001.out).2.1)
              (case side3 => repeat (first | exact (Kd.V_reads' HO_429002.out).2.2 | (with_reducible refine Kd.C_alloc ?_ _) | (with_reducible refine Kd.C_drewN ?_ _) | (with_reducible refine Kd.C_drew ?_)))
              (case side4 => exact (Kd.V_reads' HO_429002.out).2.1)
              (case side5 => repeat (first | exact (Kd.V_reads' HO_429003.out).2.2 | (with_reducible refine Kd.C_alloc ?_ _) | (with_reducible refine Kd.C_drewN ?_ _) | (with_reducible refine Kd.C_drew ?_)))
              (case side6 => exact (Kd.V_reads' HO_429003.out).2.1)
              (case side7 => repeat (first | exact (Kd.V_reads' HO_430001.out).2.2 | (with_reducible refine Kd.C_alloc ?_ _) | (with_reducible refine Kd.C_drewN ?_ _) | (with_reducible refine Kd.C_drew ?_)))
              (case side8 => exact (Kd.V_reads' HO_430001.out).2.1)
              (case side9 => repeat (first | exact (Kd.V_reads' HO_430002.out).2.2 | (with_reducible refine Kd.C_alloc ?_ _) | (with_reducible refine Kd.C_drewN ?_ _) | (with_reducible refine Kd.C_drew ?_)))
              (case side10 => exact (Kd.V_reads' HO_430002.out).2.1)
              (case side11 => repeat (first | exact (Kd.V_reads' HO_430003.out).2.2 | (with_reducible refine Kd.C_alloc ?_ _) | (with_reducible refine Kd.C_drewN ?_ _) | (with_reducible refine Kd.C_drew ?_)))
              (case side12 => exact (Kd.V_reads' HO_430003.out).2.1)
              rintro e w78 ⟨v436, v439, v442, rfl, ho0, ho1, ho2, hb⟩
              refine ⟨_, rfl, ?_⟩
              have n0_ := Aside0.mk (Kd.V_below (by (with_reducible repeat (first | apply Kd.V_alloc | apply Kd.V_drewN | apply Kd.V_drew)); exact HO_429001.out) hb)
              have n1_ := Aside0.mk (Kd.V_below (by (with_reducible repeat (first | apply Kd.V_alloc | apply Kd.V_drewN | apply Kd.V_drew)); exact HO_429002.out) hb)
              have n2_ := Aside0.mk (Kd.V_below (by (with_reducible repeat (first | apply Kd.V_alloc | apply Kd.V_drewN | apply Kd.V_drew)); exact HO_429003.out) hb)
              have n3_ := Aside0.mk (Kd.V_below (by (with_reducible repeat (first | apply Kd.V_alloc | apply Kd.V_drewN | apply Kd.V_drew)); exact HO_430001.out) hb)
              have n4_ := Aside0.mk (Kd.V_below (by (with_reducible repeat (first | apply Kd.V_alloc | apply Kd.V_drewN | apply Kd.V_drew)); exact HO_430002.out) hb)
              have n5_ := Aside0.mk (Kd.V_below (by (with_reducible repeat (first | apply Kd.V_alloc | apply Kd.V_drewN | apply Kd.V_drew)); exact HO_430003.out) hb)
              have n6_ := Aside0.mk (Kd.V_lower (Kd.V_mono (ok' := fun k_ => k_ ≠ gb402 ∧ k_ ≠ gb428 ∧ k_ ≠ gb429) ho0 (fun k_ hk_ => ⟨(Kd.freshB (g := gb402) (o := .cells #[.bool a0_0, .slice (some ad445) l0_1.length c0_1, .slice A0_2 l0_2.length c0_2, .slice A0_3 l0_3.length c0_3] 25 (0, 0)) (by (with_reducible repeat (first | refine blk_drewN ?_ _ | refine blk_drew ?_ | refine blk_alloc ?_ _)); exact BK402.out) k_ hk_), (Kd.freshB (g := gb428) (o := .cells #[.bool t407, .slice Ao53 t408.length co53, .slice Ao54 t411.length co54, .slice Ao55 t414.length co55] 25 (0, 0)) (by (with_reducible repeat (first | refine blk_drewN ?_ _ | refine blk_drew ?_ | refine blk_alloc ?_ _)); exact BK428.out) k_ hk_), (Kd.freshB (g := gb429) (o := .cells #[.bool t418, .slice Ao58 t419.length co58, .slice Ao59 t422.length co59, .slice Ao60 t425.length co60] 25 (0, 0)) (by (with_reducible repeat (first | refine blk_drewN ?_ _ | refine blk_drew ?_ | refine blk_alloc ?_ _)); exact BK429.out) k_ hk_)⟩)) (below_size (by repeat (first | (with_reducible first | exact HB.out | apply below_alloc | apply pw_below_drewN | apply below_drew1 | refine below_set ?_ GE402.out | refine below_set ?_ GE428.out | refine below_set ?_ GE429.out) | exact HB.out))))
              have n7_ := Aside0.mk (Kd.V_lower (Kd.V_mono (ok' := fun k_ => k_ ≠ gb402 ∧ k_ ≠ gb428 ∧ k_ ≠ gb429) ho1 (fun k_ hk_ => ⟨(Kd.freshB (g := gb402) (o := .cells #[.bool a0_0, .slice (some ad445) l0_1.length c0_1, .slice A0_2 l0_2.length c0_2, .slice A0_3 l0_3.length c0_3] 25 (0, 0)) (by (with_reducible repeat (first | refine blk_drewN ?_ _ | refine blk_drew ?_ | refine blk_alloc ?_ _)); exact BK402.out) k_ hk_), (Kd.freshB (g := gb428) (o := .cells #[.bool t407, .slice Ao53 t408.length co53, .slice Ao54 t411.length co54, .slice Ao55 t414.length co55] 25 (0, 0)) (by (with_reducible repeat (first | refine blk_drewN ?_ _ | refine blk_drew ?_ | refine blk_alloc ?_ _)); exact BK428.out) k_ hk_), (Kd.freshB (g := gb429) (o := .cells #[.bool t418, .slice Ao58 t419.length co58, .slice Ao59 t422.length co59, .slice Ao60 t425.length co60] 25 (0, 0)) (by (with_reducible repeat (first | refine blk_drewN ?_ _ | refine blk_drew ?_ | refine blk_alloc ?_ _)); exact BK429.out) k_ hk_)⟩)) (below_size (by repeat (first | (with_reducible first | exact HB.out | apply below_alloc | apply pw_below_drewN | apply below_drew1 | refine below_set ?_ GE402.out | refine below_set ?_ GE428.out | refine below_set ?_ GE429.out) | exact HB.out))))
              have n8_ := Aside0.mk (Kd.V_lower (Kd.V_mono (ok' := fun k_ => k_ ≠ gb402 ∧ k_ ≠ gb428 ∧ k_ ≠ gb429) ho2 (fun k_ hk_ => ⟨(Kd.freshB (g := gb402) (o := .cells #[.bool a0_0, .slice (some ad445) l0_1.length c0_1, .slice A0_2 l0_2.length c0_2, .slice A0_3 l0_3.length c0_3] 25 (0, 0)) (by (with_reducible repeat (first | refine blk_drewN ?_ _ | refine blk_drew ?_ | refine blk_alloc ?_ _)); exact BK402.out) k_ hk_), (Kd.freshB (g := gb428) (o := .cells #[.bool t407, .slice Ao53 t408.length co53, .slice Ao54 t411.length co54, .slice Ao55 t414.length co55] 25 (0, 0)) (by (with_reducible repeat (first | refine blk_drewN ?_ _ | refine blk_drew ?_ | refine blk_alloc ?_ _)); exact BK428.out) k_ hk_), (Kd.freshB (g := gb429) (o := .cells #[.bool t418, .slice Ao58 t419.length co58, .slice Ao59 t422.length co59, .slice Ao60 t425.length co60] 25 (0, 0)) (by (with_reducible repeat (first | refine blk_drewN ?_ _ | refine blk_drew ?_ | refine blk_alloc ?_ _)); exact BK429.out) k_ hk_)⟩)) (below_size (by repeat (first | (with_reducible first | exact HB.out | apply below_alloc | apply pw_below_drewN | apply below_drew1 | refine below_set ?_ GE402.out | refine below_set ?_ GE428.out | refine below_set ?_ GE429.out) | exact HB.out))))
              have n9_ := Aside0.mk (blk_below (g := gb402) (o := .cells #[.bool a0_0, .slice (some ad445) l0_1.length c0_1, .slice A0_2 l0_2.length c0_2, .slice A0_3 l0_3.length c0_3] 25 (0, 0)) (by (with_reducible repeat (first | refine blk_drewN ?_ _ | refine blk_drew ?_ | refine blk_alloc ?_ _)); exact BK402.out) hb)
              have n10_ := Aside0.mk (blk_below (g := gb428) (o := .cells #[.bool t407, .slice Ao53 t408.length co53, .slice Ao54 t411.length co54, .slice Ao55 t414.length co55] 25 (0, 0)) (by (with_reducible repeat (first | refine blk_drewN ?_ _ | refine blk_drew ?_ | refine blk_alloc ?_ _)); exact BK428.out) hb)
              have n11_ := Aside0.mk (blk_below (g := gb429) (o := .cells #[.bool t418, .slice Ao58 t419.length co58, .slice Ao59 t422.length co59, .slice Ao60 t425.length co60] 25 (0, 0)) (by (with_reducible repeat (first | refine blk_drewN ?_ _ | refine blk_drew ?_ | refine blk_alloc ?_ _)); exact BK429.out) hb)
              have n12_ := Aside0.mk (below_step (by repeat (first | (with_reducible first | exact HB.out | apply below_alloc | apply pw_below_drewN | apply below_drew1 | refine below_set ?_ GE402.out | refine below_set ?_ GE428.out | refine below_set ?_ GE429.out) | exact HB.out)) hb)
              clear HO_429001
              clear HO_429002
              clear HO_429003
              clear HO_430001
              clear HO_430002
              clear HO_430003
              clear BK402
              clear BK428
              clear BK429
              clear HB
              have HO_429001 := n0_
              have HO_429002 := n1_
              have HO_429003 := n2_
              have HO_430001 := n3_
              have HO_430002 := n4_
              have HO_430003 := n5_
              have HO437 := n6_
              have HO440 := n7_
              have HO443 := n8_
              have BK402 := n9_
              have BK428 := n10_
              have BK429 := n11_
              have HB := n12_
              clear n0_ n1_ n2_ n3_ n4_ n5_ n6_ n7_ n8_ n9_ n10_ n11_ n12_
              (try clear hb)
              (try clear hb2)
              (try clear hk)
              (try clear hi)
              (try clear ho0)
              (try clear ho1)
              (try clear ho2)
              obtain ⟨Ao79, co79, eo79⟩ := Kd.V_slice HO437.out
              (first | subst eo79 | (injection eo79 with f1_ f2_ f3_; have f4_ := f1_.symm; have f5_ := f3_.symm; clear f1_ f2_ f3_; subst f4_; subst f5_))
              obtain ⟨Ao80, co80, eo80⟩ := Kd.V_slice HO440.out
              (first | subst eo80 | (injection eo80 with f1_ f2_ f3_; have f4_ := f1_.symm; have f5_ := f3_.symm; clear f1_ f2_ f3_; subst f4_; subst f5_))
              obtain ⟨Ao81, co81, eo81⟩ := Kd.V_slice HO443.out
              (first | subst eo81 | (injection eo81 with f1_ f2_ f3_; have f4_ := f1_.symm; have f5_ := f3_.symm; clear f1_ f2_ f3_; subst f4_; subst f5_))
              refine hK.out _ _ ⟨(blk_cell BK428.out 0).trans rfl, (blk_cell BK428.out 1).trans rfl, (blk_cell BK428.out 2).trans rfl, (blk_cell BK428.out 3).trans rfl, (blk_cell BK429.out 0).trans rfl, (blk_cell BK429.out 1).trans rfl, (blk_cell BK429.out 2).trans rfl, (blk_cell BK429.out 3).trans rfl, (blk_cell BK402.out 0).trans rfl, (blk_cell BK402.out 1).trans rfl, (blk_cell BK402.out 2).trans rfl, (blk_cell BK402.out 3).trans rfl, ((HB.out.cell (World.block_lt_of_cell? w _ hw445_0)).trans hw445_0)⟩ (fun hHeld => ?_)
              clear hK K
              refine norm_ (a' := ?_) ?_ ?_
              rotate_left
              ·show Act.put _ (some 62) _ = _
               simp only [Act.put, List.setIfInBounds_toArray, List.set_cons_zero, List.set_cons_succ, i64_w, i32_w]
               rfl
              refine one_ (i := 14) (N := some 64) #[true, true, true, true, true, true, true, true, true, true, true, true, true, true, true, false, false, false, false, false, false, false, false, false, false, false, false, false, false, false, false, false, false, false, false, false, false, false, false, false, false, false, false, false, false, false] rfl rfl (one_of HT_.out (by kernel_rfl)) (by decide) (fun K hK => ?_)
              refine goes_ Try.func23 (by kernel_rfl) rfl #[.agg #[.bool t434, .slice Ao79 t435.length co79, .slice Ao80 t438.length co80, .slice Ao81 t441.length co81], .agg #[.bool a0_0, .slice (some ad445) l0_1.length c0_1, .slice A0_2 l0_2.length c0_2, .slice A0_3 l0_3.length c0_3]] (by rfl) rfl rfl (by (try simp only [List.map_toArray, List.map_cons, List.map_nil]); first | done | rfl | (simp only [List.length_drop, List.length_take]; rfl)) ?_
              with_reducible refine (lunetteref05_Same.calls kj44 t434 _ _ t435 _ _ t438 _ _ t441 a0_0 _ _ l0_1 _ _ l0_2 _ _ l0_3 true _ ?side1 ?side2 ?side3 ?side4 ?side5 ?side6 ?side7 ?side8 ?side9 ?side10 ?side11 ?side12 A68.out).mono ?_
              (case side1 => repeat (first | exact (Kd.V_reads' HO437.out).2.2 | (with_reducible refine Kd.C_alloc ?_ _) | (with_reducible refine Kd.C_drewN ?_ _) | (with_reducible refine Kd.C_drew ?_)))
              (case side2 => exact (Kd.V_reads' HO437.out).2.1)
              (case side3 => repeat (first | exact (Kd.V_reads' HO440.out).2.2 | (with_reducible refine Kd.C_alloc ?_ _) | (with_reducible refine Kd.C_drewN ?_ _) | (with_reducible refine Kd.C_drew ?_)))
              (case side4 => exact (Kd.V_reads' HO440.out).2.1)
              (case side5 => repeat (first | exact (Kd.V_reads' HO443.out).2.2 | (with_reducible refine Kd.C_alloc ?_ _) | (with_reducible refine Kd.C_drewN ?_ _) | (with_reducible refine Kd.C_drew ?_)))
              (case side6 => exact (Kd.V_reads' HO443.out).2.1)
              (case side7 => repeat (first | exact (Kd.C_below HR0_1.out HB.out) | (with_reducible refine Kd.C_alloc ?_ _) | (with_reducible refine Kd.C_drewN ?_ _) | (with_reducible refine Kd.C_drew ?_)))
              (case side8 => exact HC0_1.out)
              (case side9 => repeat (first | exact (Kd.C_below HR0_2.out HB.out) | (with_reducible refine Kd.C_alloc ?_ _) | (with_reducible refine Kd.C_drewN ?_ _) | (with_reducible refine Kd.C_drew ?_)))
              (case side10 => exact HC0_2.out)
              (case side11 => repeat (first | exact (Kd.C_below HR0_3.out HB.out) | (with_reducible refine Kd.C_alloc ?_ _) | (with_reducible refine Kd.C_drewN ?_ _) | (with_reducible refine Kd.C_drew ?_)))
              (case side12 => exact HC0_3.out)
              rintro e w82 ⟨rfl, hb⟩
              refine ⟨_, rfl, ?_⟩
              have n0_ := Aside0.mk (Kd.V_below (by (with_reducible repeat (first | apply Kd.V_alloc | apply Kd.V_drewN | apply Kd.V_drew)); exact HO_429001.out) hb)
              have n1_ := Aside0.mk (Kd.V_below (by (with_reducible repeat (first | apply Kd.V_alloc | apply Kd.V_drewN | apply Kd.V_drew)); exact HO_429002.out) hb)
              have n2_ := Aside0.mk (Kd.V_below (by (with_reducible repeat (first | apply Kd.V_alloc | apply Kd.V_drewN | apply Kd.V_drew)); exact HO_429003.out) hb)
              have n3_ := Aside0.mk (Kd.V_below (by (with_reducible repeat (first | apply Kd.V_alloc | apply Kd.V_drewN | apply Kd.V_drew)); exact HO_430001.out) hb)
              have n4_ := Aside0.mk (Kd.V_below (by (with_reducible repeat (first | apply Kd.V_alloc | apply Kd.V_drewN | apply Kd.V_drew)); exact HO_430002.out) hb)
              have n5_ := Aside0.mk (Kd.V_below (by (with_reducible repeat (first | apply Kd.V_alloc | apply Kd.V_drewN | apply Kd.V_drew)); exact HO_430003.out) hb)
              have n6_ := Aside0.mk (Kd.V_below (by (with_reducible repeat (first | apply Kd.V_alloc | apply Kd.V_drewN | apply Kd.V_drew)); exact HO437.out) hb)
              have n7_ := Aside0.mk (Kd.V_below (by (with_reducible repeat (first | apply Kd.V_alloc | apply Kd.V_drewN | apply Kd.V_drew)); exact HO440.out) hb)
              have n8_ := Aside0.mk (Kd.V_below (by (with_reducible repeat (first | apply Kd.V_alloc | apply Kd.V_drewN | apply Kd.V_drew)); exact HO443.out) hb)
              have n9_ := Aside0.mk (blk_below (g := gb402) (o := .cells #[.bool a0_0, .slice (some ad445) l0_1.length c0_1, .slice A0_2 l0_2.length c0_2, .slice A0_3 l0_3.length c0_3] 25 (0, 0)) (by (with_reducible repeat (first | refine blk_drewN ?_ _ | refine blk_drew ?_ | refine blk_alloc ?_ _)); exact BK402.out) hb)
              have n10_ := Aside0.mk (blk_below (g := gb428) (o := .cells #[.bool t407, .slice Ao53 t408.length co53, .slice Ao54 t411.length co54, .slice Ao55 t414.length co55] 25 (0, 0)) (by (with_reducible repeat (first | refine blk_drewN ?_ _ | refine blk_drew ?_ | refine blk_alloc ?_ _)); exact BK428.out) hb)
              have n11_ := Aside0.mk (blk_below (g := gb429) (o := .cells #[.bool t418, .slice Ao58 t419.length co58, .slice Ao59 t422.length co59, .slice Ao60 t425.length co60] 25 (0, 0)) (by (with_reducible repeat (first | refine blk_drewN ?_ _ | refine blk_drew ?_ | refine blk_alloc ?_ _)); exact BK429.out) hb)
              have n12_ := Aside0.mk (below_step (by repeat (first | (with_reducible first | exact HB.out | apply below_alloc | apply pw_below_drewN | apply below_drew1 | refine below_set ?_ GE402.out | refine below_set ?_ GE428.out | refine below_set ?_ GE429.out) | exact HB.out)) hb)
              clear HO_429001
              clear HO_429002
              clear HO_429003
              clear HO_430001
              clear HO_430002
              clear HO_430003
              clear HO437
              clear HO440
              clear HO443
              clear BK402
              clear BK428
              clear BK429
              clear HB
              have HO_429001 := n0_
              have HO_429002 := n1_
              have HO_429003 := n2_
              have HO_430001 := n3_
              have HO_430002 := n4_
              have HO_430003 := n5_
              have HO437 := n6_
              have HO440 := n7_
              have HO443 := n8_
              have BK402 := n9_
              have BK428 := n10_
              have BK429 := n11_
              have HB := n12_
              clear n0_ n1_ n2_ n3_ n4_ n5_ n6_ n7_ n8_ n9_ n10_ n11_ n12_
              (try clear hb)
              (try clear hb2)
              (try clear hk)
              (try clear hi)
              refine hK.out _ _ ⟨(blk_cell BK428.out 0).trans rfl, (blk_cell BK428.out 1).trans rfl, (blk_cell BK428.out 2).trans rfl, (blk_cell BK428.out 3).trans rfl, (blk_cell BK429.out 0).trans rfl, (blk_cell BK429.out 1).trans rfl, (blk_cell BK429.out 2).trans rfl, (blk_cell BK429.out 3).trans rfl, (blk_cell BK402.out 0).trans rfl, (blk_cell BK402.out 1).trans rfl, (blk_cell BK402.out 2).trans rfl, (blk_cell BK402.out 3).trans rfl, ((HB.out.cell (World.block_lt_of_cell? w _ hw445_0)).trans hw445_0)⟩ (fun hHeld => ?_)
              clear hK K
              refine norm_ (a' := ?_) ?_ ?_
              rotate_left
              ·show Act.put _ (some 64) _ = _
               simp only [Act.put, List.setIfInBounds_toArray, List.set_cons_zero, List.set_cons_succ, i64_w, i32_w]
               rfl
              refine pure_ (i := 15) (N := some 65) (v := ?_) (a' := ?_) #[true, true, true, true, true, true, true, true, true, true, true, true, true, true, true, true, false, false, false, false, false, false, false, false, false, false, false, false, false, false, false, false, false, false, false, false, false, false, false, false, false, false, false, false, false, false] rfl rfl (any_of HT_.out (by kernel_rfl)) (fun _ _ _ h => h) (Or.inl ⟨by rfl, ?_⟩) ?_ ?_
              rotate_left
              ·intro w'
               go_simp
               with_reducible rfl
              rotate_left
              ·simp only [Act.put, List.setIfInBounds_toArray, List.set_cons_zero, List.set_cons_succ, i64_w, i32_w]
               rfl
              refine pure_ (i := 16) (N := some 66) (v := ?_) (a' := ?_) #[true, true, true, true, true, true, true, true, true, true, true, true, true, true, true, true, true, false, false, false, false, false, false, false, false, false, false, false, false, false, false, false, false, false, false, false, false, false, false, false, false, false, false, false, false, false] rfl rfl (any_of HT_.out (by kernel_rfl)) (fun _ _ _ h => h) (Or.inl ⟨by rfl, ?_⟩) ?_ ?_
              rotate_left
              ·intro w'
               go_simp
               with_reducible rfl
              rotate_left
              ·simp only [Act.put, List.setIfInBounds_toArray, List.set_cons_zero, List.set_cons_succ, i64_w, i32_w]
               rfl
              refine pure_ (i := 17) (N := some 67) (v := ?_) (a' := ?_) #[true, true, true, true, true, true, true, true, true, true, true, true, true, true, true, true, true, true, false, false, false, false, false, false, false, false, false, false, false, false, false, false, false, false, false, false, false, false, false, false, false, false, false, false, false, false] rfl rfl (any_of HT_.out (by kernel_rfl)) (fun _ _ _ h => h) (Or.inl ⟨by rfl, ?_⟩) ?_ ?_
              rotate_left
              ·intro w'
               go_simp
               with_reducible rfl
              rotate_left
              ·simp only [Act.put, List.setIfInBounds_toArray, List.set_cons_zero, List.set_cons_succ, i64_w, i32_w]
               rfl
              refine pure_ (i := 20) (N := some 70) (v := ?_) (a' := ?_) #[true, true, true, true, true, true, true, true, true, true, true, true, true, true, true, true, true, true, false, false, true, false, false, false, false, false, false, false, false, false, false, false, false, false, false, false, false, false, false, false, false, false, false, false, false, false] rfl rfl (any_of HT_.out (by kernel_rfl)) (fun _ _ _ h => h) (Or.inl ⟨by rfl, ?_⟩) ?_ ?_
              rotate_left
              ·intro w'
               go_simp
               with_reducible rfl
              rotate_left
              ·simp only [Act.put, List.setIfInBounds_toArray, List.set_cons_zero, List.set_cons_succ, i64_w, i32_w]
               rfl
              refine take_ (i := 18) (N := some 68) (v := ?_) (a' := ?_) #[true, true, true, true, true, true, true, true, true, true, true, true, true, true, true, true, true, true, true, false, true, false, false, false, false, false, false, false, false, false, false, false, false, false, false, false, false, false, false, false, false, false, false, false, false, false] rfl rfl (take_ofW HT_.out HW_.out (by kernel_rfl)) (fun _ _ _ h => h) (Or.inl ⟨by rfl, ?_⟩) hHeld ?_ ?_
              rotate_left
              ·rintro w' ⟨s0, s1, s2, s3, s4, s5, s6, s7, s8, s9, s10, s11, s12⟩
               go_simp
               with_reducible rfl
              rotate_left
              ·simp only [Act.put, List.setIfInBounds_toArray, List.set_cons_zero, List.set_cons_succ, i64_w, i32_w]
               rfl
              refine pure_ (i := 19) (N := some 69) (v := ?_) (a' := ?_) #[true, true, true, true, true, true, true, true, true, true, true, true, true, true, true, true, true, true, true, true, true, false, false, false, false, false, false, false, false, false, false, false, false, false, false, false, false, false, false, false, false, false, false, false, false, false] rfl rfl (any_of HT_.out (by kernel_rfl)) (fun _ _ _ h => h) (Or.inl ⟨by rfl, ?_⟩) ?_ ?_
              rotate_left
              ·intro w'
               go_simp
               with_reducible rfl
              rotate_left
              ·simp only [Act.put, List.setIfInBounds_toArray, List.set_cons_zero, List.set_cons_succ, i64_w, i32_w]
               rfl
              refine pure_ (i := 21) (N := some 71) (v := ?_) (a' := ?_) #[true, true, true, true, true, true, true, true, true, true, true, true, true, true, true, true, true, true, true, true, true, true, false, false, false, false, false, false, false, false, false, false, false, false, false, false, false, false, false, false, false, false, false, false, false, false] rfl rfl (any_of HT_.out (by kernel_rfl)) (fun _ _ _ h => h) (Or.inl ⟨by rfl, ?_⟩) ?_ ?_
              rotate_left
              ·intro w'
               go_simp
               with_reducible rfl
              rotate_left
              ·simp only [Act.put, List.setIfInBounds_toArray, List.set_cons_zero, List.set_cons_succ, i64_w, i32_w]
               rfl
              refine pure_ (i := 22) (N := some 72) (v := ?_) (a' := ?_) #[true, true, true, true, true, true, true, true, true, true, true, true, true, true, true, true, true, true, true, true, true, true, true, false, false, false, false, false, false, false, false, false, false, false, false, false, false, false, false, false, false, false, false, false, false, false] rfl rfl (any_of HT_.out (by kernel_rfl)) (fun _ _ _ h => h) (Or.inl ⟨by rfl, ?_⟩) ?_ ?_
              rotate_left
              ·intro w'
               go_simp
               with_reducible rfl
              rotate_left
              ·simp only [Act.put, List.setIfInBounds_toArray, List.set_cons_zero, List.set_cons_succ, i64_w, i32_w]
               rfl
              refine pure_ (i := 23) (N := some 73) (v := ?_) (a' := ?_) #[true, true, true, true, true, true, true, true, true, true, true, true, true, true, true, true, true, true, true, true, true, true, true, true, false, false, false, false, false, false, false, false, false, false, false, false, false, false, false, false, false, false, false, false, false, false] rfl rfl (any_of HT_.out (by kernel_rfl)) (fun _ _ _ h => h) (Or.inl ⟨by rfl, ?_⟩) ?_ ?_
              rotate_left
              ·intro w'
               go_simp
               with_reducible rfl
              rotate_left
              ·simp only [Act.put, List.setIfInBounds_toArray, List.set_cons_zero, List.set_cons_succ, i64_w, i32_w]
               rfl
              refine pure_ (i := 24) (N := some 74) (v := ?_) (a' := ?_) #[true, true, true, true, true, true, true, true, true, true, true, true, true, true, true, true, true, true, true, true, true, true, true, true, true, false, false, false, false, false, false, false, false, false, false, false, false, false, false, false, false, false, false, false, false, false] rfl rfl (any_of HT_.out (by kernel_rfl)) (fun _ _ _ h => h) (Or.inl ⟨by rfl, ?_⟩) ?_ ?_
              rotate_left
              ·intro w'
               go_simp
               with_reducible rfl
              rotate_left
              ·simp only [Act.put, List.setIfInBounds_toArray, List.set_cons_zero, List.set_cons_succ, i64_w, i32_w]
               rfl
              refine pure_ (i := 27) (N := some 77) (v := ?_) (a' := ?_) #[true, true, true, true, true, true, true, true, true, true, true, true, true, true, true, true, true, true, true, true, true, true, true, true, true, false, false, true, false, false, false, false, false, false, false, false, false, false, false, false, false, false, false, false, false, false] rfl rfl (any_of HT_.out (by kernel_rfl)) (fun _ _ _ h => h) (Or.inl ⟨by rfl, ?_⟩) ?_ ?_
              rotate_left
              ·intro w'
               go_simp
               with_reducible rfl
              rotate_left
              ·simp only [Act.put, List.setIfInBounds_toArray, List.set_cons_zero, List.set_cons_succ, i64_w, i32_w]
               rfl
              refine pure_ (i := 30) (N := some 80) (v := ?_) (a' := ?_) #[true, true, true, true, true, true, true, true, true, true, true, true, true, true, true, true, true, true, true, true, true, true, true, true, true, false, false, true, false, false, true, false, false, false, false, false, false, false, false, false, false, false, false, false, false, false] rfl rfl (any_of HT_.out (by kernel_rfl)) (fun _ _ _ h => h) (Or.inl ⟨by rfl, ?_⟩) ?_ ?_
              rotate_left
              ·intro w'
               go_simp
               with_reducible rfl
              rotate_left
              ·simp only [Act.put, List.setIfInBounds_toArray, List.set_cons_zero, List.set_cons_succ, i64_w, i32_w]
               rfl
              refine pure_ (i := 32) (N := some 82) (v := ?_) (a' := ?_) #[true, true, true, true, true, true, true, true, true, true, true, true, true, true, true, true, true, true, true, true, true, true, true, true, true, false, false, true, false, false, true, false, true, false, false, false, false, false, false, false, false, false, false, false, false, false] rfl rfl (any_of HT_.out (by kernel_rfl)) (fun _ _ _ h => h) (Or.inl ⟨by rfl, ?_⟩) ?_ ?_
              rotate_left
              ·intro w'
               go_simp
               with_reducible rfl
              rotate_left
              ·simp only [Act.put, List.setIfInBounds_toArray, List.set_cons_zero, List.set_cons_succ, i64_w, i32_w]
               rfl
              refine take_ (i := 25) (N := some 75) (v := ?_) (a' := ?_) #[true, true, true, true, true, true, true, true, true, true, true, true, true, true, true, true, true, true, true, true, true, true, true, true, true, true, false, true, false, false, true, false, true, false, false, false, false, false, false, false, false, false, false, false, false, false] rfl rfl (take_ofW HT_.out HW_.out (by kernel_rfl)) (fun _ _ _ h => h) (Or.inl ⟨by rfl, ?_⟩) hHeld ?_ ?_
              rotate_left
              ·rintro w' ⟨s0, s1, s2, s3, s4, s5, s6, s7, s8, s9, s10, s11, s12⟩
               go_simp
               with_reducible rfl
              rotate_left
              ·simp only [Act.put, List.setIfInBounds_toArray, List.set_cons_zero, List.set_cons_succ, i64_w, i32_w]
               rfl
              refine pure_ (i := 26) (N := some 76) (v := ?_) (a' := ?_) #[true, true, true, true, true, true, true, true, true, true, true, true, true, true, true, true, true, true, true, true, true, true, true, true, true, true, true, true, false, false, true, false, true, false, false, false, false, false, false, false, false, false, false, false, false, false] rfl rfl (any_of HT_.out (by kernel_rfl)) (fun _ _ _ h => h) (Or.inl ⟨by rfl, ?_⟩) ?_ ?_
              rotate_left
              ·intro w'
               go_simp
               with_reducible rfl
              rotate_left
              ·simp only [Act.put, List.setIfInBounds_toArray, List.set_cons_zero, List.set_cons_succ, i64_w, i32_w]
               rfl
              refine take_ (i := 28) (N := some 78) (v := ?_) (a' := ?_) #[true, true, true, true, true, true, true, true, true, true, true, true, true, true, true, true, true, true, true, true, true, true, true, true, true, true, true, true, true, false, true, false, true, false, false, false, false, false, false, false, false, false, false, false, false, false] rfl rfl (take_ofW HT_.out HW_.out (by kernel_rfl)) (fun _ _ _ h => h) (Or.inl ⟨by rfl, ?_⟩) hHeld ?_ ?_
              rotate_left
              ·rintro w' ⟨s0, s1, s2, s3, s4, s5, s6, s7, s8, s9, s10, s11, s12⟩
               go_simp
               with_reducible rfl
              rotate_left
              ·simp only [Act.put, List.setIfInBounds_toArray, List.set_cons_zero, List.set_cons_succ, i64_w, i32_w]
               rfl
              refine pure_ (i := 29) (N := some 79) (v := ?_) (a' := ?_) #[true, true, true, true, true, true, true, true, true, true, true, true, true, true, true, true, true, true, true, true, true, true, true, true, true, true, true, true, true, true, true, false, true, false, false, false, false, false, false, false, false, false, false, false, false, false] rfl rfl (any_of HT_.out (by kernel_rfl)) (fun _ _ _ h => h) (Or.inl ⟨by rfl, ?_⟩) ?_ ?_
              rotate_left
              ·intro w'
               go_simp
               with_reducible rfl
              rotate_left
              ·simp only [Act.put, List.setIfInBounds_toArray, List.set_cons_zero, List.set_cons_succ, i64_w, i32_w]
               rfl
              refine pure_ (i := 31) (N := some 81) (v := ?_) (a' := ?_) #[true, true, true, true, true, true, true, true, true, true, true, true, true, true, true, true, true, true, true, true, true, true, true, true, true, true, true, true, true, true, true, true, true, false, false, false, false, false, false, false, false, false, false, false, false, false] rfl rfl (any_of HT_.out (by kernel_rfl)) (fun _ _ _ h => h) (Or.inl ⟨by rfl, ?_⟩) ?_ ?_
              rotate_left
              ·intro w'
               go_simp
               with_reducible rfl
              rotate_left
              ·simp only [Act.put, List.setIfInBounds_toArray, List.set_cons_zero, List.set_cons_succ, i64_w, i32_w]
               rfl
              refine pure_ (i := 33) (N := some 83) (v := ?_) (a' := ?_) #[true, true, true, true, true, true, true, true, true, true, true, true, true, true, true, true, true, true, true, true, true, true, true, true, true, true, true, true, true, true, true, true, true, true, false, false, false, false, false, false, false, false, false, false, false, false] rfl rfl (any_of HT_.out (by kernel_rfl)) (fun _ _ _ h => h) (Or.inl ⟨by rfl, ?_⟩) ?_ ?_
              rotate_left
              ·intro w'
               go_simp
               with_reducible rfl
              rotate_left
              ·simp only [Act.put, List.setIfInBounds_toArray, List.set_cons_zero, List.set_cons_succ, i64_w, i32_w]
               rfl
              refine pure_ (i := 34) (N := some 84) (v := ?_) (a' := ?_) #[true, true, true, true, true, true, true, true, true, true, true, true, true, true, true, true, true, true, true, true, true, true, true, true, true, true, true, true, true, true, true, true, true, true, true, false, false, false, false, false, false, false, false, false, false, false] rfl rfl (any_of HT_.out (by kernel_rfl)) (fun _ _ _ h => h) (Or.inl ⟨by rfl, ?_⟩) ?_ ?_
              rotate_left
              ·intro w'
               go_simp
               with_reducible rfl
              rotate_left
              ·simp only [Act.put, List.setIfInBounds_toArray, List.set_cons_zero, List.set_cons_succ, i64_w, i32_w]
               rfl
              refine pure_ (i := 35) (N := some 85) (v := ?_) (a' := ?_) #[true, true, true, true, true, true, true, true, true, true, true, true, true, true, true, true, true, true, true, true, true, true, true, true, true, true, true, true, true, true, true, true, true, true, true, true, false, false, false, false, false, false, false, false, false, false] rfl rfl (any_of HT_.out (by kernel_rfl)) (fun _ _ _ h => h) (Or.inl ⟨by rfl, ?_⟩) ?_ ?_
              rotate_left
              ·intro w'
               go_simp
               with_reducible rfl
              rotate_left
              ·simp only [Act.put, List.setIfInBounds_toArray, List.set_cons_zero, List.set_cons_succ, i64_w, i32_w]
               rfl
              refine pure_ (i := 36) (N := some 86) (v := ?_) (a' := ?_) #[true, true, true, true, true, true, true, true, true, true, true, true, true, true, true, true, true, true, true, true, true, true, true, true, true, true, true, true, true, true, true, true, true, true, true, true, true, false, false, false, false, false, false, false, false, false] rfl rfl (any_of HT_.out (by kernel_rfl)) (fun _ _ _ h => h) (Or.inl ⟨by rfl, ?_⟩) ?_ ?_
              rotate_left
              ·intro w'
               go_simp
               with_reducible rfl
              rotate_left
              ·simp only [Act.put, List.setIfInBounds_toArray, List.set_cons_zero, List.set_cons_succ, i64_w, i32_w]
               rfl
              refine pure_ (i := 37) (N := some 87) (v := ?_) (a' := ?_) #[true, true, true, true, true, true, true, true, true, true, true, true, true, true, true, true, true, true, true, true, true, true, true, true, true, true, true, true, true, true, true, true, true, true, true, true, true, true, false, false, false, false, false, false, false, false] rfl rfl (any_of HT_.out (by kernel_rfl)) (fun _ _ _ h => h) (Or.inl ⟨by rfl, ?_⟩) ?_ ?_
              rotate_left
              ·intro w'
               go_simp
               with_reducible rfl
              rotate_left
              ·simp only [Act.put, List.setIfInBounds_toArray, List.set_cons_zero, List.set_cons_succ, i64_w, i32_w]
               rfl
              refine pure_ (i := 38) (N := some 88) (v := ?_) (a' := ?_) #[true, true, true, true, true, true, true, true, true, true, true, true, true, true, true, true, true, true, true, true, true, true, true, true, true, true, true, true, true, true, true, true, true, true, true, true, true, true, true, false, false, false, false, false, false, false] rfl rfl (any_of HT_.out (by kernel_rfl)) (fun _ _ _ h => h) (Or.inl ⟨by rfl, ?_⟩) ?_ ?_
              rotate_left
              ·intro w'
               go_simp
               with_reducible rfl
              rotate_left
              ·simp only [Act.put, List.setIfInBounds_toArray, List.set_cons_zero, List.set_cons_succ, i64_w, i32_w]
               rfl
              refine pure_ (i := 40) (N := some 90) (v := ?_) (a' := ?_) #[true, true, true, true, true, true, true, true, true, true, true, true, true, true, true, true, true, true, true, true, true, true, true, true, true, true, true, true, true, true, true, true, true, true, true, true, true, true, true, false, true, false, false, false, false, false] rfl rfl (any_of HT_.out (by kernel_rfl)) (fun _ _ _ h => h) (Or.inl ⟨by rfl, ?_⟩) ?_ ?_
              rotate_left
              ·intro w'
               go_simp
               with_reducible rfl
              rotate_left
              ·simp only [Act.put, List.setIfInBounds_toArray, List.set_cons_zero, List.set_cons_succ, i64_w, i32_w]
               rfl
              refine take_ (i := 39) (N := some 89) (v := ?_) (a' := ?_) #[true, true, true, true, true, true, true, true, true, true, true, true, true, true, true, true, true, true, true, true, true, true, true, true, true, true, true, true, true, true, true, true, true, true, true, true, true, true, true, true, true, false, false, false, false, false] rfl rfl (take_ofW HT_.out HW_.out (by kernel_rfl)) (fun _ _ _ h => h) (Or.inl ⟨by rfl, ?_⟩) hHeld ?_ ?_
              rotate_left
              ·rintro w' ⟨s0, s1, s2, s3, s4, s5, s6, s7, s8, s9, s10, s11, s12⟩
               go_simp
               with_reducible rfl
              rotate_left
              ·simp only [Act.put, List.setIfInBounds_toArray, List.set_cons_zero, List.set_cons_succ, i64_w, i32_w]
               rfl
              refine pure_ (i := 41) (N := some 91) (v := ?_) (a' := ?_) #[true, true, true, true, true, true, true, true, true, true, true, true, true, true, true, true, true, true, true, true, true, true, true, true, true, true, true, true, true, true, true, true, true, true, true, true, true, true, true, true, true, true, false, false, false, false] rfl rfl (any_of HT_.out (by kernel_rfl)) (fun _ _ _ h => h) (Or.inl ⟨by rfl, ?_⟩) ?_ ?_
              rotate_left
              ·intro w'
               go_simp
               with_reducible rfl
              rotate_left
              ·simp only [Act.put, List.setIfInBounds_toArray, List.set_cons_zero, List.set_cons_succ, i64_w, i32_w]
               rfl
              refine take_ (i := 42) (N := some 92) (v := ?_) (a' := ?_) #[true, true, true, true, true, true, true, true, true, true, true, true, true, true, true, true, true, true, true, true, true, true, true, true, true, true, true, true, true, true, true, true, true, true, true, true, true, true, true, true, true, true, true, false, false, false] rfl rfl (take_ofW HT_.out HW_.out (by kernel_rfl)) (fun _ _ _ h => h) (Or.inl ⟨by rfl, ?_⟩) hHeld ?_ ?_
              rotate_left
              ·rintro w' ⟨s0, s1, s2, s3, s4, s5, s6, s7, s8, s9, s10, s11, s12⟩
               go_simp
               with_reducible rfl
              rotate_left
              ·simp only [Act.put, List.setIfInBounds_toArray, List.set_cons_zero, List.set_cons_succ, i64_w, i32_w]
               rfl
              refine pure_ (i := 43) (N := some 93) (v := ?_) (a' := ?_) #[true, true, true, true, true, true, true, true, true, true, true, true, true, true, true, true, true, true, true, true, true, true, true, true, true, true, true, true, true, true, true, true, true, true, true, true, true, true, true, true, true, true, true, true, false, false] rfl rfl (any_of HT_.out (by kernel_rfl)) (fun _ _ _ h => h) (Or.inl ⟨by rfl, ?_⟩) ?_ ?_
              rotate_left
              ·intro w'
               go_simp
               with_reducible rfl
              rotate_left
              ·simp only [Act.put, List.setIfInBounds_toArray, List.set_cons_zero, List.set_cons_succ, i64_w, i32_w]
               rfl
              refine pure_ (i := 44) (N := some 94) (v := ?_) (a' := ?_) #[true, true, true, true, true, true, true, true, true, true, true, true, true, true, true, true, true, true, true, true, true, true, true, true, true, true, true, true, true, true, true, true, true, true, true, true, true, true, true, true, true, true, true, true, true, false] rfl rfl (any_of HT_.out (by kernel_rfl)) (fun _ _ _ h => h) (Or.inl ⟨by rfl, ?_⟩) ?_ ?_
              rotate_left
              ·intro w'
               go_simp
               with_reducible rfl
              rotate_left
              ·simp only [Act.put, List.setIfInBounds_toArray, List.set_cons_zero, List.set_cons_succ, i64_w, i32_w]
               rfl
              refine pure_ (i := 45) (N := some 2) (v := ?_) (a' := ?_) #[true, true, true, true, true, true, true, true, true, true, true, true, true, true, true, true, true, true, true, true, true, true, true, true, true, true, true, true, true, true, true, true, true, true, true, true, true, true, true, true, true, true, true, true, true, true] rfl rfl (any_of HT_.out (by kernel_rfl)) (fun _ _ _ h => h) (Or.inl ⟨by rfl, ?_⟩) ?_ ?_
              rotate_left
              ·intro w'
               go_simp
               with_reducible rfl
              rotate_left
              ·simp only [Act.put, List.setIfInBounds_toArray, List.set_cons_zero, List.set_cons_succ, i64_w, i32_w]
               rfl
              refine done_ (done_of HT_.out (by kernel_rfl)) ?_
              try go_wp2
              go_ret
              exact ⟨by first | rfl | (simp [errW_none, errW_some] <;> rfl) | (simp only [← hji72]; first | rfl | (simp [errW_none, errW_some] <;> rfl)) | (simp [*, errW_none, errW_some] <;> rfl), by repeat (first | (with_reducible first | exact HB.out | apply below_alloc | apply pw_below_drewN | apply below_drew1 | refine below_set ?_ GE402.out | refine below_set ?_ GE428.out | refine below_set ?_ GE429.out) | exact HB.out)⟩
             ·rw [if_neg c74] at H
              exact absurd H (by simp)
            ·rw [if_neg c73] at H
             exact absurd H (by simp)
           ·rw [if_neg c71] at H
            exact absurd H (by simp)
          ·rw [if_neg c70] at H
           exact absurd H (by simp)
         ·replace c69 := Bool.eq_false_iff.mpr c69
          subst c69
          have H1 : (none) = some r := by rw [if_neg (show ¬ (false = true) by decide)] at H; exact H
          clear H
          have H := H1
          clear H1
          exact absurd H (by simp)
        ·rw [if_neg c66] at H
         exact absurd H (by simp)
       ·rw [if_neg c64] at H
        exact absurd H (by simp)

end Go.Proofs.Ytpdlbebiapimoaa.PN
