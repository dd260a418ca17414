-- Written for this claim by hprint.py, a program of this session over the kit's printer; Lean checks it.
import Derived.Test.YtpdlbebiapimoaaPN0
import Derived.Test.YtpdlbebiapimoaaPN14
namespace Go.Proofs.Ytpdlbebiapimoaa.PN
open Go.RowKit Go.Proofs.YtpdlbebiapimoaaW.PrintWords Go.Proofs.YtpdlbebiapimoaaW.PrintLast Go.Proofs.YtpdlbebiapimoaaW.PrintMore
attribute [local go_sem] max2_int min2_int max_two min_two max_three min_three max_four min_four   -- for this text's walks alone
set_option linter.unusedVariables false
set_option linter.unusedSimpArgs false

/-! ### lunetteref05_Find: function 28 -/
def lunetteref05_Find.l0 : Nat → ByteArray → Int → Bool → Int → Bool → List ByteArray → List ByteArray → List Int → Option (Int × Bool)
 | 0, _, _, _, _, _, _, _, _ => none
 | k + 1, x1, x6, x7, x8, x208000, x208001, x208002, x208003 => if x8 < (x208001.length : Int) then (if x7 = true then (if 0 ≤ x8 then ((lunetteref01_Below.f k (rdOf ByteArray.empty x208001 x8) x1).bind fun t209 => (if t209 = true then (lunetteref05_Find.l0 k x1 (wrap64 (x6 + 1)) true (wrap64 (x8 + 1)) x208000 x208001 x208002 x208003) else (if x208000 = true then (lunetteref05_Find.l0 k x1 x6 true (wrap64 (x8 + 1)) x208000 x208001 x208002 x208003) else (if (rdOf ByteArray.empty x208001 x8).toList = x1.toList then (lunetteref05_Find.l0 k x1 (wrap64 (x6 + 1)) true (wrap64 (x8 + 1)) x208000 x208001 x208002 x208003) else (lunetteref05_Find.l0 k x1 x6 true (wrap64 (x8 + 1)) x208000 x208001 x208002 x208003))))) else (none)) else (if 0 ≤ x8 then ((lunetteref01_Below.f k (rdOf ByteArray.empty x208001 x8) x1).bind fun t213 => (if t213 = true then (lunetteref05_Find.l0 k x1 (wrap64 (x6 + 1)) ((rdOf ByteArray.empty x208001 x8).toList == x1.toList) (wrap64 (x8 + 1)) x208000 x208001 x208002 x208003) else (if x208000 = true then (lunetteref05_Find.l0 k x1 x6 ((rdOf ByteArray.empty x208001 x8).toList == x1.toList) (wrap64 (x8 + 1)) x208000 x208001 x208002 x208003) else (if (rdOf ByteArray.empty x208001 x8).toList = x1.toList then (lunetteref05_Find.l0 k x1 (wrap64 (x6 + 1)) ((rdOf ByteArray.empty x208001 x8).toList == x1.toList) (wrap64 (x8 + 1)) x208000 x208001 x208002 x208003) else (lunetteref05_Find.l0 k x1 x6 ((rdOf ByteArray.empty x208001 x8).toList == x1.toList) (wrap64 (x8 + 1)) x208000 x208001 x208002 x208003))))) else (none))) else (some (x6, x7))
def lunetteref05_Find.f (k : Nat) (a0_0 : Bool) (l0_1 : List ByteArray) (l0_2 : List ByteArray) (l0_3 : List Int) (a1 : ByteArray) : Option (Int × Bool) := lunetteref05_Find.l0 k a1 0 false 0 a0_0 l0_1 l0_2 l0_3
theorem lunetteref05_Find.mono_l : ∀ k, (∀ y0 y1 y2 y3 y4 y5 y6 y7, LeO (lunetteref05_Find.l0 k y0 y1 y2 y3 y4 y5 y6 y7) (lunetteref05_Find.l0 (k + 1) y0 y1 y2 y3 y4 y5 y6 y7))
 | 0 => fun _ _ _ _ _ _ _ _ r h => by simp [lunetteref05_Find.l0] at h
 | k + 1 => by
  have ih0 := lunetteref05_Find.mono_l k
  ·intro y0 y1 y2 y3 y4 y5 y6 y7
   unfold lunetteref05_Find.l0
   repeat' first
   | (with_reducible exact ih0 _ _ _ _ _ _ _ _)
   | (with_reducible exact lunetteref01_Below.mono _ _ _)
   | (with_reducible exact LeO.refl _)
   | (with_reducible exact LeO.none _)
   | (with_reducible refine LeO.ite ?_ ?_)
   | (with_reducible refine LeO.bind ?_ (fun _ => ?_))
   | exact ih0 _ _ _ _ _ _ _ _
   | exact lunetteref01_Below.mono _ _ _
   | exact LeO.none _
   | refine LeO.ite ?_ ?_
   | refine LeO.bind ?_ (fun _ => ?_)
theorem lunetteref05_Find.mono : ∀ a0 a1 a2 a3 a4 k, LeO (lunetteref05_Find.f k a0 a1 a2 a3 a4) (lunetteref05_Find.f (k + 1) a0 a1 a2 a3 a4) := by
 intro a0 a1 a2 a3 a4 k
 have ih0 := lunetteref05_Find.mono_l k
 unfold lunetteref05_Find.f
 repeat' first
   | (with_reducible exact ih0 _ _ _ _ _ _ _ _)
   | (with_reducible exact lunetteref01_Below.mono _ _ _)
   | (with_reducible exact LeO.refl _)
   | (with_reducible exact LeO.none _)
   | (with_reducible refine LeO.ite ?_ ?_)
   | (with_reducible refine LeO.bind ?_ (fun _ => ?_))
   | exact ih0 _ _ _ _ _ _ _ _
   | exact lunetteref01_Below.mono _ _ _
   | exact LeO.none _
   | refine LeO.ite ?_ ?_
   | refine LeO.bind ?_ (fun _ => ?_)
set_option maxHeartbeats 8000000 in
set_option maxRecDepth 100000 in
theorem lunetteref05_Find.calls (k : Nat) (a0_0 : Bool) (A0_1 : Option Addr) (c0_1 : Nat) (l0_1 : List ByteArray) (A0_2 : Option Addr) (c0_2 : Nat) (l0_2 : List ByteArray) (A0_3 : Option Addr) (c0_3 : Nat) (l0_3 : List Int) (a1 : ByteArray) (r1 : Int) (r2 : Bool) (w : World) (hr0_1 : Kd.C Kd.string w A0_1 l0_1.length l0_1) (hc0_1 : l0_1.length ≤ c0_1) (hr0_2 : Kd.C Kd.string w A0_2 l0_2.length l0_2) (hc0_2 : l0_2.length ≤ c0_2) (hr0_3 : Kd.C (Kd.int .i64) w A0_3 l0_3.length l0_3) (hc0_3 : l0_3.length ≤ c0_3) (h : lunetteref05_Find.f k a0_0 l0_1 l0_2 l0_3 a1 = some (r1, r2)) :
  Calls Try.prog 28 #[.agg #[.bool a0_0, .slice A0_1 l0_1.length c0_1, .slice A0_2 l0_2.length c0_2, .slice A0_3 l0_3.length c0_3], .string a1] w fun e w' => e = .returned (.tuple #[.int .i64 r1, .bool r2]) ∧ Below w.heap.size w w' := by
 have hu25 := Try.underlying25
 have HR0_1 := Aside0.mk hr0_1
 have HC0_1 := Aside0.mk hc0_1
 clear hr0_1 hc0_1
 have HR0_2 := Aside0.mk hr0_2
 have HC0_2 := Aside0.mk hc0_2
 clear hr0_2 hc0_2
 have HR0_3 := Aside0.mk hr0_3
 have HC0_3 := Aside0.mk hc0_3
 clear hr0_3 hc0_3
 have HB := Aside0.mk (Below.refl w.heap.size w)
 have H : (lunetteref05_Find.l0 k a1 0 false 0 a0_0 l0_1 l0_2 l0_3) = some (r1, r2) := h
 clear h
 have H' := Aside0.mk H
 clear H
 go_enter Try.func28, Try.ntmps28
 go_wp2_with (first | ((with_reducible refine gate_dst (N := 2) rfl ?_); refine box_event ?hg (N := 2) ?hd (cs := #[.bool a0_0, .slice A0_1 l0_1.length c0_1, .slice A0_2 l0_2.length c0_2, .slice A0_3 l0_3.length c0_3]) (t := 25) ?hr ?_; (case hd => rfl); (case hg => rfl); (case hr => first | (go_simp; done) | (go_simp; rfl)); intro gb207 hg w3 hbox hb; have n0_ := Aside0.mk (below_step (by repeat (first | (with_reducible first | exact HB.out | apply below_alloc | apply pw_below_drewN | apply below_drew1) | exact HB.out)) hb); have n1_ := Aside0.mk (hbox); have n2_ := Aside0.mk ((by rw [hg]; exact (below_size (by repeat (first | (with_reducible first | exact HB.out | apply below_alloc | apply pw_below_drewN | apply below_drew1) | exact HB.out))) : w.heap.size ≤ gb207)); have n3_ := Aside0.mk ((by rw [hg]; exact (below_size (by repeat (first | (with_reducible first | exact HB.out | apply below_alloc | apply pw_below_drewN | apply below_drew1) | exact HB.out))) : w.heap.size ≤ gb207)); clear HB; have HB := n0_; have BK207 := n1_; have GW207 := n2_; have GE207 := n3_; clear n0_ n1_ n2_ n3_; clear hb hbox hg))
 go_loopg [6, 7, 8] k (fun kq v6 v7 v8 w' => ∃ (x6_1 : Int) (x7_1 : Bool) (x8_1 : Int), v6 = .int .i64 x6_1 ∧ v7 = .bool x7_1 ∧ v8 = .int .i64 x8_1 ∧ Aside0 (lunetteref05_Find.l0 kq a1 x6_1 x7_1 x8_1 a0_0 l0_1 l0_2 l0_3 = some (r1, r2)) ∧ Aside0 (kq ≤ k) ∧ Aside0 (w'.heap[gb207]? = some (.cells #[.bool a0_0, (.slice A0_1 l0_1.length c0_1), (.slice A0_2 l0_2.length c0_2), (.slice A0_3 l0_3.length c0_3)] 25 (0, 0))) ∧ Aside0 (Below w.heap.size w w'))
 case atStart => exact ⟨(0), (false), (0), (by first | rfl | (simp; done) | (simp [*]; done)), (by first | rfl | (simp; done) | (simp [*]; done)), (by first | rfl | (simp; done) | (simp [*]; done)), H', ⟨Nat.le_refl _⟩, ⟨by (with_reducible repeat (first | refine blk_drewN ?_ _ | refine blk_drew ?_ | refine blk_alloc ?_ _)); exact BK207.out⟩, ⟨by repeat (first | (with_reducible first | exact HB.out | apply below_alloc | apply pw_below_drewN | apply below_drew1 | refine below_set ?_ GE207.out) | exact HB.out)⟩⟩
 case round =>
  clear H'
  (try clear c2); (try clear p2)
  obtain ⟨x6_1, x7_1, x8_1, rfl, rfl, rfl, HA, HK1, BK207, HB⟩ := hrel
  cases gk with
  | zero => exact absurd HA.out (by simp [lunetteref05_Find.l0])
  | succ k1 =>
   have H := HA.out
   clear HA
   simp only [lunetteref05_Find.l0] at H
   by_cases c4 : x8_1 < (l0_1.length : Int)
   ·rw [if_pos c4] at H
    have c4b0 : decide (x8_1 < (l0_1.length : Int)) = true := decide_eq_true c4
    clear c4
    by_cases c5 : x7_1 = true
    ·subst c5
     have H1 : (if 0 ≤ x8_1 then ((lunetteref01_Below.f k1 (rdOf ByteArray.empty l0_1 x8_1) a1).bind fun t209 => (if t209 = true then (lunetteref05_Find.l0 k1 a1 (wrap64 (x6_1 + 1)) true (wrap64 (x8_1 + 1)) a0_0 l0_1 l0_2 l0_3) else (if a0_0 = true then (lunetteref05_Find.l0 k1 a1 x6_1 true (wrap64 (x8_1 + 1)) a0_0 l0_1 l0_2 l0_3) else (if (rdOf ByteArray.empty l0_1 x8_1).toList = a1.toList then (lunetteref05_Find.l0 k1 a1 (wrap64 (x6_1 + 1)) true (wrap64 (x8_1 + 1)) a0_0 l0_1 l0_2 l0_3) else (lunetteref05_Find.l0 k1 a1 x6_1 true (wrap64 (x8_1 + 1)) a0_0 l0_1 l0_2 l0_3))))) else (none)) = some (r1, r2) := by rw [if_pos rfl] at H; exact H
     clear H
     have H := H1
     clear H1
     by_cases c6 : 0 ≤ x8_1
     ·rw [if_pos c6] at H
      have c6b0 : decide (0 ≤ x8_1) = true := decide_eq_true c6
      clear c6
      replace H := Option.bind_eq_some_iff.mp H
      obtain ⟨t209, A70, H⟩ := H
      replace H : (if t209 = true then (lunetteref05_Find.l0 k1 a1 (wrap64 (x6_1 + 1)) true (wrap64 (x8_1 + 1)) a0_0 l0_1 l0_2 l0_3) else (if a0_0 = true then (lunetteref05_Find.l0 k1 a1 x6_1 true (wrap64 (x8_1 + 1)) a0_0 l0_1 l0_2 l0_3) else (if (rdOf ByteArray.empty l0_1 x8_1).toList = a1.toList then (lunetteref05_Find.l0 k1 a1 (wrap64 (x6_1 + 1)) true (wrap64 (x8_1 + 1)) a0_0 l0_1 l0_2 l0_3) else (lunetteref05_Find.l0 k1 a1 x6_1 true (wrap64 (x8_1 + 1)) a0_0 l0_1 l0_2 l0_3)))) = some (r1, r2) := H
      have A7 := Aside0.mk A70
      clear A70
      by_cases c8 : t209 = true
      ·subst c8
       have H1 : (lunetteref05_Find.l0 k1 a1 (wrap64 (x6_1 + 1)) true (wrap64 (x8_1 + 1)) a0_0 l0_1 l0_2 l0_3) = some (r1, r2) := by rw [if_pos rfl] at H; exact H
       clear H
       have H := H1
       clear H1
       have H' := Aside0.mk H
       clear H
       have hcz9_0 : wr.cell? ⟨gb207, 0, none⟩ = some (.bool a0_0) := (blk_cell BK207.out 0).trans rfl
       have hcz9_1 : wr.cell? ⟨gb207, 1, none⟩ = some (.slice A0_1 l0_1.length c0_1) := (blk_cell BK207.out 1).trans rfl
       have hcz9_2 : wr.cell? ⟨gb207, 2, none⟩ = some (.slice A0_2 l0_2.length c0_2) := (blk_cell BK207.out 2).trans rfl
       have hcz9_3 : wr.cell? ⟨gb207, 3, none⟩ = some (.slice A0_3 l0_3.length c0_3) := (blk_cell BK207.out 3).trans rfl
       have hfz9_0 := blk_frozen BK207.out 0
       have hfz9_1 := blk_frozen BK207.out 1
       have hfz9_2 := blk_frozen BK207.out 2
       have hfz9_3 := blk_frozen BK207.out 3
       have p208 : 0 ≤ (x8_1 : Int) := of_decide_eq_true (by first | (with_reducible assumption) | assumption)
       have q208 : x8_1 < (l0_1.length : Int) := of_decide_eq_true (by first | (with_reducible assumption) | assumption)
       obtain ⟨ad208, e208, hx208_0⟩ := Kd.at_string HR0_1.out x8_1 p208 q208
       cases e208
       replace hx208_0 := (HB.out.cell (World.block_lt_of_cell? w _ hx208_0)).trans hx208_0
       replace p208 := eq_true p208
       replace q208 := eq_true q208
       go_wp2_with (first | ((with_reducible refine gate_callee (f := 25) rfl ?_); refine goesL_ (some 32) rfl rfl Try.func25 (by kernel_rfl) rfl #[.string (rdOf ByteArray.empty l0_1 x8_1), .string a1] rfl (by (try simp only [List.map_toArray, List.map_cons, List.map_nil]); first | done | rfl | (simp only [List.length_drop, List.length_take]; rfl)) ?_; (with_reducible refine (lunetteref01_Below.calls k1 (rdOf ByteArray.empty l0_1 x8_1) a1 true _ A7.out).mono ?_); rintro e w' ⟨rfl, ⟨nd, rfl⟩⟩; refine ⟨_, rfl, ?_⟩))
       go_roundg k1
       case measure => have := HK1.out; omega
       case rel => exact ⟨(wrap64 (x6_1 + 1)), (true), (wrap64 (x8_1 + 1)), (by first | rfl | (simp; done) | (simp [*]; done)), (by first | rfl | (simp; done) | (simp [*]; done)), (by first | rfl | (simp; done) | (simp [*]; done)), H', ⟨by have := HK1.out; omega⟩, ⟨by (with_reducible repeat (first | refine blk_drewN ?_ _ | refine blk_drew ?_ | refine blk_alloc ?_ _)); exact BK207.out⟩, ⟨by repeat (first | (with_reducible first | exact HB.out | apply below_alloc | apply pw_below_drewN | apply below_drew1 | refine below_set ?_ GE207.out) | exact HB.out)⟩⟩
      ·replace c8 := Bool.eq_false_iff.mpr c8
       subst c8
       have H1 : (if a0_0 = true then (lunetteref05_Find.l0 k1 a1 x6_1 true (wrap64 (x8_1 + 1)) a0_0 l0_1 l0_2 l0_3) else (if (rdOf ByteArray.empty l0_1 x8_1).toList = a1.toList then (lunetteref05_Find.l0 k1 a1 (wrap64 (x6_1 + 1)) true (wrap64 (x8_1 + 1)) a0_0 l0_1 l0_2 l0_3) else (lunetteref05_Find.l0 k1 a1 x6_1 true (wrap64 (x8_1 + 1)) a0_0 l0_1 l0_2 l0_3))) = some (r1, r2) := by rw [if_neg (show ¬ (false = true) by decide)] at H; exact H
       clear H
       have H := H1
       clear H1
       by_cases c10 : a0_0 = true
       ·subst c10
        have H1 : (lunetteref05_Find.l0 k1 a1 x6_1 true (wrap64 (x8_1 + 1)) true l0_1 l0_2 l0_3) = some (r1, r2) := by rw [if_pos rfl] at H; exact H
        clear H
        have H := H1
        clear H1
        have H' := Aside0.mk H
        clear H
        have hcz11_0 : wr.cell? ⟨gb207, 0, none⟩ = some (.bool true) := (blk_cell BK207.out 0).trans rfl
        have hcz11_1 : wr.cell? ⟨gb207, 1, none⟩ = some (.slice A0_1 l0_1.length c0_1) := (blk_cell BK207.out 1).trans rfl
        have hcz11_2 : wr.cell? ⟨gb207, 2, none⟩ = some (.slice A0_2 l0_2.length c0_2) := (blk_cell BK207.out 2).trans rfl
        have hcz11_3 : wr.cell? ⟨gb207, 3, none⟩ = some (.slice A0_3 l0_3.length c0_3) := (blk_cell BK207.out 3).trans rfl
        have hfz11_0 := blk_frozen BK207.out 0
        have hfz11_1 := blk_frozen BK207.out 1
        have hfz11_2 := blk_frozen BK207.out 2
        have hfz11_3 := blk_frozen BK207.out 3
        have p208 : 0 ≤ (x8_1 : Int) := of_decide_eq_true (by first | (with_reducible assumption) | assumption)
        have q208 : x8_1 < (l0_1.length : Int) := of_decide_eq_true (by first | (with_reducible assumption) | assumption)
        obtain ⟨ad208, e208, hx208_0⟩ := Kd.at_string HR0_1.out x8_1 p208 q208
        cases e208
        replace hx208_0 := (HB.out.cell (World.block_lt_of_cell? w _ hx208_0)).trans hx208_0
        replace p208 := eq_true p208
        replace q208 := eq_true q208
        go_wp2_with (first | ((with_reducible refine gate_callee (f := 25) rfl ?_); refine goesL_ (some 32) rfl rfl Try.func25 (by kernel_rfl) rfl #[.string (rdOf ByteArray.empty l0_1 x8_1), .string a1] rfl (by (try simp only [List.map_toArray, List.map_cons, List.map_nil]); first | done | rfl | (simp only [List.length_drop, List.length_take]; rfl)) ?_; (with_reducible refine (lunetteref01_Below.calls k1 (rdOf ByteArray.empty l0_1 x8_1) a1 false _ A7.out).mono ?_); rintro e w' ⟨rfl, ⟨nd, rfl⟩⟩; refine ⟨_, rfl, ?_⟩))
        go_roundg k1
        case measure => have := HK1.out; omega
        case rel => exact ⟨(x6_1), (true), (wrap64 (x8_1 + 1)), (by first | rfl | (simp; done) | (simp [*]; done)), (by first | rfl | (simp; done) | (simp [*]; done)), (by first | rfl | (simp; done) | (simp [*]; done)), H', ⟨by have := HK1.out; omega⟩, ⟨by (with_reducible repeat (first | refine blk_drewN ?_ _ | refine blk_drew ?_ | refine blk_alloc ?_ _)); exact BK207.out⟩, ⟨by repeat (first | (with_reducible first | exact HB.out | apply below_alloc | apply pw_below_drewN | apply below_drew1 | refine below_set ?_ GE207.out) | exact HB.out)⟩⟩
       ·replace c10 := Bool.eq_false_iff.mpr c10
        subst c10
        have H1 : (if (rdOf ByteArray.empty l0_1 x8_1).toList = a1.toList then (lunetteref05_Find.l0 k1 a1 (wrap64 (x6_1 + 1)) true (wrap64 (x8_1 + 1)) false l0_1 l0_2 l0_3) else (lunetteref05_Find.l0 k1 a1 x6_1 true (wrap64 (x8_1 + 1)) false l0_1 l0_2 l0_3)) = some (r1, r2) := by rw [if_neg (show ¬ (false = true) by decide)] at H; exact H
        clear H
        have H := H1
        clear H1
        by_cases c12 : (rdOf ByteArray.empty l0_1 x8_1).toList = a1.toList
        ·rw [if_pos c12] at H
         have c12b0 : ((rdOf ByteArray.empty l0_1 x8_1).toList == a1.toList) = true := beq_iff_eq.mpr c12
         have c12b1 : ((rdOf ByteArray.empty l0_1 x8_1).toList != a1.toList) = false := bne_eq_false_iff_eq.mpr c12
         clear c12
         have H' := Aside0.mk H
         clear H
         have hcz13_0 : wr.cell? ⟨gb207, 0, none⟩ = some (.bool false) := (blk_cell BK207.out 0).trans rfl
         have hcz13_1 : wr.cell? ⟨gb207, 1, none⟩ = some (.slice A0_1 l0_1.length c0_1) := (blk_cell BK207.out 1).trans rfl
         have hcz13_2 : wr.cell? ⟨gb207, 2, none⟩ = some (.slice A0_2 l0_2.length c0_2) := (blk_cell BK207.out 2).trans rfl
         have hcz13_3 : wr.cell? ⟨gb207, 3, none⟩ = some (.slice A0_3 l0_3.length c0_3) := (blk_cell BK207.out 3).trans rfl
         have hfz13_0 := blk_frozen BK207.out 0
         have hfz13_1 := blk_frozen BK207.out 1
         have hfz13_2 := blk_frozen BK207.out 2
         have hfz13_3 := blk_frozen BK207.out 3
         have p208 : 0 ≤ (x8_1 : Int) := of_decide_eq_true (by first | (with_reducible assumption) | assumption)
         have q208 : x8_1 < (l0_1.length : Int) := of_decide_eq_true (by first | (with_reducible assumption) | assumption)
         obtain ⟨ad208, e208, hx208_0⟩ := Kd.at_string HR0_1.out x8_1 p208 q208
         cases e208
         replace hx208_0 := (HB.out.cell (World.block_lt_of_cell? w _ hx208_0)).trans hx208_0
         replace p208 := eq_true p208
         replace q208 := eq_true q208
         go_wp2_with (first | ((with_reducible refine gate_callee (f := 25) rfl ?_); refine goesL_ (some 32) rfl rfl Try.func25 (by kernel_rfl) rfl #[.string (rdOf ByteArray.empty l0_1 x8_1), .string a1] rfl (by (try simp only [List.map_toArray, List.map_cons, List.map_nil]); first | done | rfl | (simp only [List.length_drop, List.length_take]; rfl)) ?_; (with_reducible refine (lunetteref01_Below.calls k1 (rdOf ByteArray.empty l0_1 x8_1) a1 false _ A7.out).mono ?_); rintro e w' ⟨rfl, ⟨nd, rfl⟩⟩; refine ⟨_, rfl, ?_⟩; have p210 : 0 ≤ (x8_1 : Int) := of_decide_eq_true (by first | (with_reducible assumption) | assumption); have q210 : x8_1 < (l0_1.length : Int) := of_decide_eq_true (by first | (with_reducible assumption) | assumption); obtain ⟨ad210, e210, hx210_0⟩ := Kd.at_string HR0_1.out x8_1 p210 q210; obtain rfl : ad208 = ad210 := (by injection e210); replace hx210_0 := (HB.out.cell (World.block_lt_of_cell? w _ hx210_0)).trans hx210_0; replace p210 := eq_true p210; replace q210 := eq_true q210))
         go_roundg k1
         case measure => have := HK1.out; omega
         case rel => exact ⟨(wrap64 (x6_1 + 1)), (true), (wrap64 (x8_1 + 1)), (by first | rfl | (simp; done) | (simp [*]; done)), (by first | rfl | (simp; done) | (simp [*]; done)), (by first | rfl | (simp; done) | (simp [*]; done)), H', ⟨by have := HK1.out; omega⟩, ⟨by (with_reducible repeat (first | refine blk_drewN ?_ _ | refine blk_drew ?_ | refine blk_alloc ?_ _)); exact BK207.out⟩, ⟨by repeat (first | (with_reducible first | exact HB.out | apply below_alloc | apply pw_below_drewN | apply below_drew1 | refine below_set ?_ GE207.out) | exact HB.out)⟩⟩
        ·rw [if_neg c12] at H
         have c12b0 : ((rdOf ByteArray.empty l0_1 x8_1).toList == a1.toList) = false := beq_eq_false_iff_ne.mpr c12
         have c12b1 : ((rdOf ByteArray.empty l0_1 x8_1).toList != a1.toList) = true := bne_iff_ne.mpr c12
         have H' := Aside0.mk H
         clear H
         have hcz14_0 : wr.cell? ⟨gb207, 0, none⟩ = some (.bool false) := (blk_cell BK207.out 0).trans rfl
         have hcz14_1 : wr.cell? ⟨gb207, 1, none⟩ = some (.slice A0_1 l0_1.length c0_1) := (blk_cell BK207.out 1).trans rfl
         have hcz14_2 : wr.cell? ⟨gb207, 2, none⟩ = some (.slice A0_2 l0_2.length c0_2) := (blk_cell BK207.out 2).trans rfl
         have hcz14_3 : wr.cell? ⟨gb207, 3, none⟩ = some (.slice A0_3 l0_3.length c0_3) := (blk_cell BK207.out 3).trans rfl
         have hfz14_0 := blk_frozen BK207.out 0
         have hfz14_1 := blk_frozen BK207.out 1
         have hfz14_2 := blk_frozen BK207.out 2
         have hfz14_3 := blk_frozen BK207.out 3
         have p208 : 0 ≤ (x8_1 : Int) := of_decide_eq_true (by first | (with_reducible assumption) | assumption)
         have q208 : x8_1 < (l0_1.length : Int) := of_decide_eq_true (by first | (with_reducible assumption) | assumption)
         obtain ⟨ad208, e208, hx208_0⟩ := Kd.at_string HR0_1.out x8_1 p208 q208
         cases e208
         replace hx208_0 := (HB.out.cell (World.block_lt_of_cell? w _ hx208_0)).trans hx208_0
         replace p208 := eq_true p208
         replace q208 := eq_true q208
         go_wp2_with (first | ((with_reducible refine gate_callee (f := 25) rfl ?_); refine goesL_ (some 32) rfl rfl Try.func25 (by kernel_rfl) rfl #[.string (rdOf ByteArray.empty l0_1 x8_1), .string a1] rfl (by (try simp only [List.map_toArray, List.map_cons, List.map_nil]); first | done | rfl | (simp only [List.length_drop, List.length_take]; rfl)) ?_; (with_reducible refine (lunetteref01_Below.calls k1 (rdOf ByteArray.empty l0_1 x8_1) a1 false _ A7.out).mono ?_); rintro e w' ⟨rfl, ⟨nd, rfl⟩⟩; refine ⟨_, rfl, ?_⟩; have p210 : 0 ≤ (x8_1 : Int) := of_decide_eq_true (by first | (with_reducible assumption) | assumption); have q210 : x8_1 < (l0_1.length : Int) := of_decide_eq_true (by first | (with_reducible assumption) | assumption); obtain ⟨ad210, e210, hx210_0⟩ := Kd.at_string HR0_1.out x8_1 p210 q210; obtain rfl : ad208 = ad210 := (by injection e210); replace hx210_0 := (HB.out.cell (World.block_lt_of_cell? w _ hx210_0)).trans hx210_0; replace p210 := eq_true p210; replace q210 := eq_true q210))
         go_roundg k1
         case measure => have := HK1.out; omega
         case rel => exact ⟨(x6_1), (true), (wrap64 (x8_1 + 1)), (by first | rfl | (simp; done) | (simp [*]; done)), (by first | rfl | (simp; done) | (simp [*]; done)), (by first | rfl | (simp; done) | (simp [*]; done)), H', ⟨by have := HK1.out; omega⟩, ⟨by (with_reducible repeat (first | refine blk_drewN ?_ _ | refine blk_drew ?_ | refine blk_alloc ?_ _)); exact BK207.out⟩, ⟨by repeat (first | (with_reducible first | exact HB.out | apply below_alloc | apply pw_below_drewN | apply below_drew1 | refine below_set ?_ GE207.out) | exact HB.out)⟩⟩
     ·rw [if_neg c6] at H
      exact absurd H (by simp)
    ·replace c5 := Bool.eq_false_iff.mpr c5
     subst c5
     have H1 : (if 0 ≤ x8_1 then ((lunetteref01_Below.f k1 (rdOf ByteArray.empty l0_1 x8_1) a1).bind fun t213 => (if t213 = true then (lunetteref05_Find.l0 k1 a1 (wrap64 (x6_1 + 1)) ((rdOf ByteArray.empty l0_1 x8_1).toList == a1.toList) (wrap64 (x8_1 + 1)) a0_0 l0_1 l0_2 l0_3) else (if a0_0 = true then (lunetteref05_Find.l0 k1 a1 x6_1 ((rdOf ByteArray.empty l0_1 x8_1).toList == a1.toList) (wrap64 (x8_1 + 1)) a0_0 l0_1 l0_2 l0_3) else (if (rdOf ByteArray.empty l0_1 x8_1).toList = a1.toList then (lunetteref05_Find.l0 k1 a1 (wrap64 (x6_1 + 1)) ((rdOf ByteArray.empty l0_1 x8_1).toList == a1.toList) (wrap64 (x8_1 + 1)) a0_0 l0_1 l0_2 l0_3) else (lunetteref05_Find.l0 k1 a1 x6_1 ((rdOf ByteArray.empty l0_1 x8_1).toList == a1.toList) (wrap64 (x8_1 + 1)) a0_0 l0_1 l0_2 l0_3))))) else (none)) = some (r1, r2) := by rw [if_neg (show ¬ (false = true) by decide)] at H; exact H
     clear H
     have H := H1
     clear H1
     by_cases c15 : 0 ≤ x8_1
     ·rw [if_pos c15] at H
      have c15b0 : decide (0 ≤ x8_1) = true := decide_eq_true c15
      clear c15
      replace H := Option.bind_eq_some_iff.mp H
      obtain ⟨t213, A160, H⟩ := H
      replace H : (if t213 = true then (lunetteref05_Find.l0 k1 a1 (wrap64 (x6_1 + 1)) ((rdOf ByteArray.empty l0_1 x8_1).toList == a1.toList) (wrap64 (x8_1 + 1)) a0_0 l0_1 l0_2 l0_3) else (if a0_0 = true then (lunetteref05_Find.l0 k1 a1 x6_1 ((rdOf ByteArray.empty l0_1 x8_1).toList == a1.toList) (wrap64 (x8_1 + 1)) a0_0 l0_1 l0_2 l0_3) else (if (rdOf ByteArray.empty l0_1 x8_1).toList = a1.toList then (lunetteref05_Find.l0 k1 a1 (wrap64 (x6_1 + 1)) ((rdOf ByteArray.empty l0_1 x8_1).toList == a1.toList) (wrap64 (x8_1 + 1)) a0_0 l0_1 l0_2 l0_3) else (lunetteref05_Find.l0 k1 a1 x6_1 ((rdOf ByteArray.empty l0_1 x8_1).toList == a1.toList) (wrap64 (x8_1 + 1)) a0_0 l0_1 l0_2 l0_3)))) = some (r1, r2) := H
      have A16 := Aside0.mk A160
      clear A160
      by_cases c17 : t213 = true
      ·subst c17
       have H1 : (lunetteref05_Find.l0 k1 a1 (wrap64 (x6_1 + 1)) ((rdOf ByteArray.empty l0_1 x8_1).toList == a1.toList) (wrap64 (x8_1 + 1)) a0_0 l0_1 l0_2 l0_3) = some (r1, r2) := by rw [if_pos rfl] at H; exact H
       clear H
       have H := H1
       clear H1
       have H' := Aside0.mk H
       clear H
       have hcz18_0 : wr.cell? ⟨gb207, 0, none⟩ = some (.bool a0_0) := (blk_cell BK207.out 0).trans rfl
       have hcz18_1 : wr.cell? ⟨gb207, 1, none⟩ = some (.slice A0_1 l0_1.length c0_1) := (blk_cell BK207.out 1).trans rfl
       have hcz18_2 : wr.cell? ⟨gb207, 2, none⟩ = some (.slice A0_2 l0_2.length c0_2) := (blk_cell BK207.out 2).trans rfl
       have hcz18_3 : wr.cell? ⟨gb207, 3, none⟩ = some (.slice A0_3 l0_3.length c0_3) := (blk_cell BK207.out 3).trans rfl
       have hfz18_0 := blk_frozen BK207.out 0
       have hfz18_1 := blk_frozen BK207.out 1
       have hfz18_2 := blk_frozen BK207.out 2
       have hfz18_3 := blk_frozen BK207.out 3
       have p211 : 0 ≤ (x8_1 : Int) := of_decide_eq_true (by first | (with_reducible assumption) | assumption)
       have q211 : x8_1 < (l0_1.length : Int) := of_decide_eq_true (by first | (with_reducible assumption) | assumption)
       obtain ⟨ad211, e211, hx211_0⟩ := Kd.at_string HR0_1.out x8_1 p211 q211
       cases e211
       replace hx211_0 := (HB.out.cell (World.block_lt_of_cell? w _ hx211_0)).trans hx211_0
       replace p211 := eq_true p211
       replace q211 := eq_true q211
       have p212 : 0 ≤ (x8_1 : Int) := of_decide_eq_true (by first | (with_reducible assumption) | assumption)
       have q212 : x8_1 < (l0_1.length : Int) := of_decide_eq_true (by first | (with_reducible assumption) | assumption)
       obtain ⟨ad212, e212, hx212_0⟩ := Kd.at_string HR0_1.out x8_1 p212 q212
       obtain rfl : ad211 = ad212 := (by injection e212)
       replace hx212_0 := (HB.out.cell (World.block_lt_of_cell? w _ hx212_0)).trans hx212_0
       replace p212 := eq_true p212
       replace q212 := eq_true q212
       go_wp2_with (first | ((with_reducible refine gate_callee (f := 25) rfl ?_); refine goesL_ (some 32) rfl rfl Try.func25 (by kernel_rfl) rfl #[.string (rdOf ByteArray.empty l0_1 x8_1), .string a1] rfl (by (try simp only [List.map_toArray, List.map_cons, List.map_nil]); first | done | rfl | (simp only [List.length_drop, List.length_take]; rfl)) ?_; (with_reducible refine (lunetteref01_Below.calls k1 (rdOf ByteArray.empty l0_1 x8_1) a1 true _ A16.out).mono ?_); rintro e w' ⟨rfl, ⟨nd, rfl⟩⟩; refine ⟨_, rfl, ?_⟩))
       go_roundg k1
       case measure => have := HK1.out; omega
       case rel => exact ⟨(wrap64 (x6_1 + 1)), (((rdOf ByteArray.empty l0_1 x8_1).toList == a1.toList)), (wrap64 (x8_1 + 1)), (by first | rfl | (simp; done) | (simp [*]; done)), (by first | rfl | (simp; done) | (simp [*]; done)), (by first | rfl | (simp; done) | (simp [*]; done)), H', ⟨by have := HK1.out; omega⟩, ⟨by (with_reducible repeat (first | refine blk_drewN ?_ _ | refine blk_drew ?_ | refine blk_alloc ?_ _)); exact BK207.out⟩, ⟨by repeat (first | (with_reducible first | exact HB.out | apply below_alloc | apply pw_below_drewN | apply below_drew1 | refine below_set ?_ GE207.out) | exact HB.out)⟩⟩
      ·replace c17 := Bool.eq_false_iff.mpr c17
       subst c17
       have H1 : (if a0_0 = true then (lunetteref05_Find.l0 k1 a1 x6_1 ((rdOf ByteArray.empty l0_1 x8_1).toList == a1.toList) (wrap64 (x8_1 + 1)) a0_0 l0_1 l0_2 l0_3) else (if (rdOf ByteArray.empty l0_1 x8_1).toList = a1.toList then (lunetteref05_Find.l0 k1 a1 (wrap64 (x6_1 + 1)) ((rdOf ByteArray.empty l0_1 x8_1).toList == a1.toList) (wrap64 (x8_1 + 1)) a0_0 l0_1 l0_2 l0_3) else (lunetteref05_Find.l0 k1 a1 x6_1 ((rdOf ByteArray.empty l0_1 x8_1).toList == a1.toList) (wrap64 (x8_1 + 1)) a0_0 l0_1 l0_2 l0_3))) = some (r1, r2) := by rw [if_neg (show ¬ (false = true) by decide)] at H; exact H
       clear H
       have H := H1
       clear H1
       by_cases c19 : a0_0 = true
       ·subst c19
        have H1 : (lunetteref05_Find.l0 k1 a1 x6_1 ((rdOf ByteArray.empty l0_1 x8_1).toList == a1.toList) (wrap64 (x8_1 + 1)) true l0_1 l0_2 l0_3) = some (r1, r2) := by rw [if_pos rfl] at H; exact H
        clear H
        have H := H1
        clear H1
        have H' := Aside0.mk H
        clear H
        have hcz20_0 : wr.cell? ⟨gb207, 0, none⟩ = some (.bool true) := (blk_cell BK207.out 0).trans rfl
        have hcz20_1 : wr.cell? ⟨gb207, 1, none⟩ = some (.slice A0_1 l0_1.length c0_1) := (blk_cell BK207.out 1).trans rfl
        have hcz20_2 : wr.cell? ⟨gb207, 2, none⟩ = some (.slice A0_2 l0_2.length c0_2) := (blk_cell BK207.out 2).trans rfl
        have hcz20_3 : wr.cell? ⟨gb207, 3, none⟩ = some (.slice A0_3 l0_3.length c0_3) := (blk_cell BK207.out 3).trans rfl
        have hfz20_0 := blk_frozen BK207.out 0
        have hfz20_1 := blk_frozen BK207.out 1
        have hfz20_2 := blk_frozen BK207.out 2
        have hfz20_3 := blk_frozen BK207.out 3
        have p211 : 0 ≤ (x8_1 : Int) := of_decide_eq_true (by first | (with_reducible assumption) | assumption)
        have q211 : x8_1 < (l0_1.length : Int) := of_decide_eq_true (by first | (with_reducible assumption) | assumption)
        obtain ⟨ad211, e211, hx211_0⟩ := Kd.at_string HR0_1.out x8_1 p211 q211
        cases e211
        replace hx211_0 := (HB.out.cell (World.block_lt_of_cell? w _ hx211_0)).trans hx211_0
        replace p211 := eq_true p211
        replace q211 := eq_true q211
        have p212 : 0 ≤ (x8_1 : Int) := of_decide_eq_true (by first | (with_reducible assumption) | assumption)
        have q212 : x8_1 < (l0_1.length : Int) := of_decide_eq_true (by first | (with_reducible assumption) | assumption)
        obtain ⟨ad212, e212, hx212_0⟩ := Kd.at_string HR0_1.out x8_1 p212 q212
        obtain rfl : ad211 = ad212 := (by injection e212)
        replace hx212_0 := (HB.out.cell (World.block_lt_of_cell? w _ hx212_0)).trans hx212_0
        replace p212 := eq_true p212
        replace q212 := eq_true q212
        go_wp2_with (first | ((with_reducible refine gate_callee (f := 25) rfl ?_); refine goesL_ (some 32) rfl rfl Try.func25 (by kernel_rfl) rfl #[.string (rdOf ByteArray.empty l0_1 x8_1), .string a1] rfl (by (try simp only [List.map_toArray, List.map_cons, List.map_nil]); first | done | rfl | (simp only [List.length_drop, List.length_take]; rfl)) ?_; (with_reducible refine (lunetteref01_Below.calls k1 (rdOf ByteArray.empty l0_1 x8_1) a1 false _ A16.out).mono ?_); rintro e w' ⟨rfl, ⟨nd, rfl⟩⟩; refine ⟨_, rfl, ?_⟩))
        go_roundg k1
        case measure => have := HK1.out; omega
        case rel => exact ⟨(x6_1), (((rdOf ByteArray.empty l0_1 x8_1).toList == a1.toList)), (wrap64 (x8_1 + 1)), (by first | rfl | (simp; done) | (simp [*]; done)), (by first | rfl | (simp; done) | (simp [*]; done)), (by first | rfl | (simp; done) | (simp [*]; done)), H', ⟨by have := HK1.out; omega⟩, ⟨by (with_reducible repeat (first | refine blk_drewN ?_ _ | refine blk_drew ?_ | refine blk_alloc ?_ _)); exact BK207.out⟩, ⟨by repeat (first | (with_reducible first | exact HB.out | apply below_alloc | apply pw_below_drewN | apply below_drew1 | refine below_set ?_ GE207.out) | exact HB.out)⟩⟩
       ·replace c19 := Bool.eq_false_iff.mpr c19
        subst c19
        have H1 : (if (rdOf ByteArray.empty l0_1 x8_1).toList = a1.toList then (lunetteref05_Find.l0 k1 a1 (wrap64 (x6_1 + 1)) ((rdOf ByteArray.empty l0_1 x8_1).toList == a1.toList) (wrap64 (x8_1 + 1)) false l0_1 l0_2 l0_3) else (lunetteref05_Find.l0 k1 a1 x6_1 ((rdOf ByteArray.empty l0_1 x8_1).toList == a1.toList) (wrap64 (x8_1 + 1)) false l0_1 l0_2 l0_3)) = some (r1, r2) := by rw [if_neg (show ¬ (false = true) by decide)] at H; exact H
        clear H
        have H := H1
        clear H1
        by_cases c21 : (rdOf ByteArray.empty l0_1 x8_1).toList = a1.toList
        ·rw [if_pos c21] at H
         have c21b0 : ((rdOf ByteArray.empty l0_1 x8_1).toList == a1.toList) = true := beq_iff_eq.mpr c21
         have c21b1 : ((rdOf ByteArray.empty l0_1 x8_1).toList != a1.toList) = false := bne_eq_false_iff_eq.mpr c21
         clear c21
         have H' := Aside0.mk H
         clear H
         have hcz22_0 : wr.cell? ⟨gb207, 0, none⟩ = some (.bool false) := (blk_cell BK207.out 0).trans rfl
         have hcz22_1 : wr.cell? ⟨gb207, 1, none⟩ = some (.slice A0_1 l0_1.length c0_1) := (blk_cell BK207.out 1).trans rfl
         have hcz22_2 : wr.cell? ⟨gb207, 2, none⟩ = some (.slice A0_2 l0_2.length c0_2) := (blk_cell BK207.out 2).trans rfl
         have hcz22_3 : wr.cell? ⟨gb207, 3, none⟩ = some (.slice A0_3 l0_3.length c0_3) := (blk_cell BK207.out 3).trans rfl
         have hfz22_0 := blk_frozen BK207.out 0
         have hfz22_1 := blk_frozen BK207.out 1
         have hfz22_2 := blk_frozen BK207.out 2
         have hfz22_3 := blk_frozen BK207.out 3
         have p211 : 0 ≤ (x8_1 : Int) := of_decide_eq_true (by first | (with_reducible assumption) | assumption)
         have q211 : x8_1 < (l0_1.length : Int) := of_decide_eq_true (by first | (with_reducible assumption) | assumption)
         obtain ⟨ad211, e211, hx211_0⟩ := Kd.at_string HR0_1.out x8_1 p211 q211
         cases e211
         replace hx211_0 := (HB.out.cell (World.block_lt_of_cell? w _ hx211_0)).trans hx211_0
         replace p211 := eq_true p211
         replace q211 := eq_true q211
         have p212 : 0 ≤ (x8_1 : Int) := of_decide_eq_true (by first | (with_reducible assumption) | assumption)
         have q212 : x8_1 < (l0_1.length : Int) := of_decide_eq_true (by first | (with_reducible assumption) | assumption)
         obtain ⟨ad212, e212, hx212_0⟩ := Kd.at_string HR0_1.out x8_1 p212 q212
         obtain rfl : ad211 = ad212 := (by injection e212)
         replace hx212_0 := (HB.out.cell (World.block_lt_of_cell? w _ hx212_0)).trans hx212_0
         replace p212 := eq_true p212
         replace q212 := eq_true q212
         go_wp2_with (first | ((with_reducible refine gate_callee (f := 25) rfl ?_); refine goesL_ (some 32) rfl rfl Try.func25 (by kernel_rfl) rfl #[.string (rdOf ByteArray.empty l0_1 x8_1), .string a1] rfl (by (try simp only [List.map_toArray, List.map_cons, List.map_nil]); first | done | rfl | (simp only [List.length_drop, List.length_take]; rfl)) ?_; (with_reducible refine (lunetteref01_Below.calls k1 (rdOf ByteArray.empty l0_1 x8_1) a1 false _ A16.out).mono ?_); rintro e w' ⟨rfl, ⟨nd, rfl⟩⟩; refine ⟨_, rfl, ?_⟩; have p214 : 0 ≤ (x8_1 : Int) := of_decide_eq_true (by first | (with_reducible assumption) | assumption); have q214 : x8_1 < (l0_1.length : Int) := of_decide_eq_true (by first | (with_reducible assumption) | assumption); obtain ⟨ad214, e214, hx214_0⟩ := Kd.at_string HR0_1.out x8_1 p214 q214; obtain rfl : ad211 = ad214 := (by injection e214); replace hx214_0 := (HB.out.cell (World.block_lt_of_cell? w _ hx214_0)).trans hx214_0; replace p214 := eq_true p214; replace q214 := eq_true q214))
         go_roundg k1
         case measure => have := HK1.out; omega
         case rel => exact ⟨(wrap64 (x6_1 + 1)), (((rdOf ByteArray.empty l0_1 x8_1).toList == a1.toList)), (wrap64 (x8_1 + 1)), (by first | rfl | (simp; done) | (simp [*]; done)), (by first | rfl | (simp; done) | (simp [*]; done)), (by first | rfl | (simp; done) | (simp [*]; done)), H', ⟨by have := HK1.out; omega⟩, ⟨by (with_reducible repeat (first | refine blk_drewN ?_ _ | refine blk_drew ?_ | refine blk_alloc ?_ _)); exact BK207.out⟩, ⟨by repeat (first | (with_reducible first | exact HB.out | apply below_alloc | apply pw_below_drewN | apply below_drew1 | refine below_set ?_ GE207.out) | exact HB.out)⟩⟩
        ·rw [if_neg c21] at H
         have c21b0 : ((rdOf ByteArray.empty l0_1 x8_1).toList == a1.toList) = false := beq_eq_false_iff_ne.mpr c21
         have c21b1 : ((rdOf ByteArray.empty l0_1 x8_1).toList != a1.toList) = true := bne_iff_ne.mpr c21
         have H' := Aside0.mk H
         clear H
         have hcz23_0 : wr.cell? ⟨gb207, 0, none⟩ = some (.bool false) := (blk_cell BK207.out 0).trans rfl
         have hcz23_1 : wr.cell? ⟨gb207, 1, none⟩ = some (.slice A0_1 l0_1.length c0_1) := (blk_cell BK207.out 1).trans rfl
         have hcz23_2 : wr.cell? ⟨gb207, 2, none⟩ = some (.slice A0_2 l0_2.length c0_2) := (blk_cell BK207.out 2).trans rfl
         have hcz23_3 : wr.cell? ⟨gb207, 3, none⟩ = some (.slice A0_3 l0_3.length c0_3) := (blk_cell BK207.out 3).trans rfl
         have hfz23_0 := blk_frozen BK207.out 0
         have hfz23_1 := blk_frozen BK207.out 1
         have hfz23_2 := blk_frozen BK207.out 2
         have hfz23_3 := blk_frozen BK207.out 3
         have p211 : 0 ≤ (x8_1 : Int) := of_decide_eq_true (by first | (with_reducible assumption) | assumption)
         have q211 : x8_1 < (l0_1.length : Int) := of_decide_eq_true (by first | (with_reducible assumption) | assumption)
         obtain ⟨ad211, e211, hx211_0⟩ := Kd.at_string HR0_1.out x8_1 p211 q211
         cases e211
         replace hx211_0 := (HB.out.cell (World.block_lt_of_cell? w _ hx211_0)).trans hx211_0
         replace p211 := eq_true p211
         replace q211 := eq_true q211
         have p212 : 0 ≤ (x8_1 : Int) := of_decide_eq_true (by first | (with_reducible assumption) | assumption)
         have q212 : x8_1 < (l0_1.length : Int) := of_decide_eq_true (by first | (with_reducible assumption) | assumption)
         obtain ⟨ad212, e212, hx212_0⟩ := Kd.at_string HR0_1.out x8_1 p212 q212
         obtain rfl : ad211 = ad212 := (by injection e212)
         replace hx212_0 := (HB.out.cell (World.block_lt_of_cell? w _ hx212_0)).trans hx212_0
         replace p212 := eq_true p212
         replace q212 := eq_true q212
         go_wp2_with (first | ((with_reducible refine gate_callee (f := 25) rfl ?_); refine goesL_ (some 32) rfl rfl Try.func25 (by kernel_rfl) rfl #[.string (rdOf ByteArray.empty l0_1 x8_1), .string a1] rfl (by (try simp only [List.map_toArray, List.map_cons, List.map_nil]); first | done | rfl | (simp only [List.length_drop, List.length_take]; rfl)) ?_; (with_reducible refine (lunetteref01_Below.calls k1 (rdOf ByteArray.empty l0_1 x8_1) a1 false _ A16.out).mono ?_); rintro e w' ⟨rfl, ⟨nd, rfl⟩⟩; refine ⟨_, rfl, ?_⟩; have p214 : 0 ≤ (x8_1 : Int) := of_decide_eq_true (by first | (with_reducible assumption) | assumption); have q214 : x8_1 < (l0_1.length : Int) := of_decide_eq_true (by first | (with_reducible assumption) | assumption); obtain ⟨ad214, e214, hx214_0⟩ := Kd.at_string HR0_1.out x8_1 p214 q214; obtain rfl : ad211 = ad214 := (by injection e214); replace hx214_0 := (HB.out.cell (World.block_lt_of_cell? w _ hx214_0)).trans hx214_0; replace p214 := eq_true p214; replace q214 := eq_true q214))
         go_roundg k1
         case measure => have := HK1.out; omega
         case rel => exact ⟨(x6_1), (((rdOf ByteArray.empty l0_1 x8_1).toList == a1.toList)), (wrap64 (x8_1 + 1)), (by first | rfl | (simp; done) | (simp [*]; done)), (by first | rfl | (simp; done) | (simp [*]; done)), (by first | rfl | (simp; done) | (simp [*]; done)), H', ⟨by have := HK1.out; omega⟩, ⟨by (with_reducible repeat (first | refine blk_drewN ?_ _ | refine blk_drew ?_ | refine blk_alloc ?_ _)); exact BK207.out⟩, ⟨by repeat (first | (with_reducible first | exact HB.out | apply below_alloc | apply pw_below_drewN | apply below_drew1 | refine below_set ?_ GE207.out) | exact HB.out)⟩⟩
     ·rw [if_neg c15] at H
      exact absurd H (by simp)
   ·rw [if_neg c4] at H
    have c4b0 : decide (x8_1 < (l0_1.length : Int)) = false := decide_eq_false c4
    clear c4
    simp only [Option.some.injEq, Prod.mk.injEq] at H
    obtain ⟨rfl, rfl⟩ := H
    have hcz24_0 : wr.cell? ⟨gb207, 0, none⟩ = some (.bool a0_0) := (blk_cell BK207.out 0).trans rfl
    have hcz24_1 : wr.cell? ⟨gb207, 1, none⟩ = some (.slice A0_1 l0_1.length c0_1) := (blk_cell BK207.out 1).trans rfl
    have hcz24_2 : wr.cell? ⟨gb207, 2, none⟩ = some (.slice A0_2 l0_2.length c0_2) := (blk_cell BK207.out 2).trans rfl
    have hcz24_3 : wr.cell? ⟨gb207, 3, none⟩ = some (.slice A0_3 l0_3.length c0_3) := (blk_cell BK207.out 3).trans rfl
    have hfz24_0 := blk_frozen BK207.out 0
    have hfz24_1 := blk_frozen BK207.out 1
    have hfz24_2 := blk_frozen BK207.out 2
    have hfz24_3 := blk_frozen BK207.out 3
    go_wp2
    go_ret2
    exact ⟨by first | rfl | (simp [errW_none, errW_some] <;> rfl) | (simp [*, errW_none, errW_some] <;> rfl), by repeat (first | (with_reducible first | exact HB.out | apply below_alloc | apply pw_below_drewN | apply below_drew1 | refine below_set ?_ GE207.out) | exact HB.out)⟩

end Go.Proofs.Ytpdlbebiapimoaa.PN
