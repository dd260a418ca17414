-- Written for this claim by hprint.py, a program of this session over the kit's printer; Lean checks it.
import Derived.Test.YtpdlbebiapimoaaPN0
import Derived.Test.YtpdlbebiapimoaaHCheck
namespace Go.Proofs.Ytpdlbebiapimoaa.PN
open Go.RowKit Go.Proofs.YtpdlbebiapimoaaW.PrintWords Go.Proofs.YtpdlbebiapimoaaW.PrintLast Go.Proofs.YtpdlbebiapimoaaW.PrintMore
attribute [local go_sem] max2_int min2_int max_two min_two max_three min_three max_four min_four   -- for this text's walks alone
set_option linter.unusedVariables false
set_option linter.unusedSimpArgs false

/-! ### node_Of: function 20 -/
mutual
def node_Of.j0 : Nat → Bool → List ByteArray → Bool → List Int → Option (Bool × List ByteArray × List ByteArray × List Int × Int)
 | 0, _, _, _, _ => none
 | k + 1, x0, x1, x129000, x129003 => node_Of.l0 k x0 x1 (x1.length : Int) 0 x129000 ([] : List ByteArray) ([] : List ByteArray) x129003
def node_Of.l0 : Nat → Bool → List ByteArray → Int → Int → Bool → List ByteArray → List ByteArray → List Int → Option (Bool × List ByteArray × List ByteArray × List Int × Int)
 | 0, _, _, _, _, _, _, _, _ => none
 | k + 1, x0, x37, x38, x39, x129000, x129001, x129002, x129003 => if x39 < x38 then (if 0 ≤ x39 then (if x39 < (x37.length : Int) then (if (rdOf ByteArray.empty x37 x39).toList = ([] : List UInt8) then (node_Of.j2 k x0 (rdOf ByteArray.empty x37 x39) x37 x38 x39 true x129000 x129001 x129002 x129003) else (if 0 < ((rdOf ByteArray.empty x37 x39).size : Int) then (if (wrap64 (bt (rdOf ByteArray.empty x37 x39) 0)) ≥ ((rdOf ByteArray.empty x37 x39).size : Int) then (node_Of.j2 k x0 (rdOf ByteArray.empty x37 x39) x37 x38 x39 ((bt (rdOf ByteArray.empty x37 x39) 0) != 0) x129000 x129001 x129002 x129003) else (node_Of.j2 k x0 (rdOf ByteArray.empty x37 x39) x37 x38 x39 false x129000 x129001 x129002 x129003)) else (none))) else (none)) else (none)) else ((node_Check.f x129000 x129001 x129002 x129003).bind fun t140 => (if t140 = 0 then (some (x129000, x129001, x129002, x129003, 0)) else (none)))
def node_Of.j2 : Nat → Bool → ByteArray → List ByteArray → Int → Int → Bool → Bool → List ByteArray → List ByteArray → List Int → Option (Bool × List ByteArray × List ByteArray × List Int × Int)
 | 0, _, _, _, _, _, _, _, _, _, _ => none
 | k + 1, x0, x8, x37, x38, x39, x57, x129000, x129001, x129002, x129003 => if x57 = true then (none) else (if 0 < (x8.size : Int) then (if 1 ≤ (wrap64 (1 + (wrap64 (bt x8 0)))) then (if (wrap64 (1 + (wrap64 (bt x8 0)))) ≤ (x8.size : Int) then (if 0 ≤ (wrap64 (1 + (wrap64 (bt x8 0)))) then (if x129001.length < 8796093022208 then (if x0 = true then (if x129002.length < 8796093022208 then (node_Of.l0 k x0 x37 x38 (wrap64 (x39 + 1)) x129000 (x129001 ++ [x8.extract 1 ((wrap64 (1 + (wrap64 (bt x8 0)))) : Int).toNat]) (x129002 ++ [x8.extract ((wrap64 (1 + (wrap64 (bt x8 0)))) : Int).toNat x8.size]) x129003) else (none)) else (none)) else (none)) else (none)) else (none)) else (none)) else (none))
end
def node_Of.f (k : Nat) (a0 : Bool) (l1 : List ByteArray) : Option (Bool × List ByteArray × List ByteArray × List Int × Int) := if a0 = true then (node_Of.j0 k a0 l1 a0 ([] : List Int)) else (none)
theorem node_Of.mono_l : ∀ k, (∀ y0 y1 y2 y3, LeO (node_Of.j0 k y0 y1 y2 y3) (node_Of.j0 (k + 1) y0 y1 y2 y3)) ∧ (∀ y0 y1 y2 y3 y4 y5 y6 y7, LeO (node_Of.l0 k y0 y1 y2 y3 y4 y5 y6 y7) (node_Of.l0 (k + 1) y0 y1 y2 y3 y4 y5 y6 y7)) ∧ (∀ y0 y1 y2 y3 y4 y5 y6 y7 y8 y9, LeO (node_Of.j2 k y0 y1 y2 y3 y4 y5 y6 y7 y8 y9) (node_Of.j2 (k + 1) y0 y1 y2 y3 y4 y5 y6 y7 y8 y9))
 | 0 => ⟨fun _ _ _ _ r h => by simp [node_Of.j0] at h, fun _ _ _ _ _ _ _ _ r h => by simp [node_Of.l0] at h, fun _ _ _ _ _ _ _ _ _ _ r h => by simp [node_Of.j2] at h⟩
 | k + 1 => by
  obtain ⟨ih0, ih1, ih2⟩ := node_Of.mono_l k
  refine ⟨?_, ?_, ?_⟩
  ·intro y0 y1 y2 y3
   unfold node_Of.j0
   repeat' first
   | (with_reducible exact ih0 _ _ _ _)
   | (with_reducible exact ih1 _ _ _ _ _ _ _ _)
   | (with_reducible exact ih2 _ _ _ _ _ _ _ _ _ _)
   | (with_reducible exact LeO.refl _)
   | (with_reducible exact LeO.none _)
   | (with_reducible refine LeO.ite ?_ ?_)
   | (with_reducible refine LeO.bind ?_ (fun _ => ?_))
   | exact ih0 _ _ _ _
   | exact ih1 _ _ _ _ _ _ _ _
   | exact ih2 _ _ _ _ _ _ _ _ _ _
   | exact LeO.none _
   | refine LeO.ite ?_ ?_
   | refine LeO.bind ?_ (fun _ => ?_)
  ·intro y0 y1 y2 y3 y4 y5 y6 y7
   unfold node_Of.l0
   repeat' first
   | (with_reducible exact ih0 _ _ _ _)
   | (with_reducible exact ih1 _ _ _ _ _ _ _ _)
   | (with_reducible exact ih2 _ _ _ _ _ _ _ _ _ _)
   | (with_reducible exact LeO.refl _)
   | (with_reducible exact LeO.none _)
   | (with_reducible refine LeO.ite ?_ ?_)
   | (with_reducible refine LeO.bind ?_ (fun _ => ?_))
   | exact ih0 _ _ _ _
   | exact ih1 _ _ _ _ _ _ _ _
   | exact ih2 _ _ _ _ _ _ _ _ _ _
   | exact LeO.none _
   | refine LeO.ite ?_ ?_
   | refine LeO.bind ?_ (fun _ => ?_)
  ·intro y0 y1 y2 y3 y4 y5 y6 y7 y8 y9
   unfold node_Of.j2
   repeat' first
   | (with_reducible exact ih0 _ _ _ _)
   | (with_reducible exact ih1 _ _ _ _ _ _ _ _)
   | (with_reducible exact ih2 _ _ _ _ _ _ _ _ _ _)
   | (with_reducible exact LeO.refl _)
   | (with_reducible exact LeO.none _)
   | (with_reducible refine LeO.ite ?_ ?_)
   | (with_reducible refine LeO.bind ?_ (fun _ => ?_))
   | exact ih0 _ _ _ _
   | exact ih1 _ _ _ _ _ _ _ _
   | exact ih2 _ _ _ _ _ _ _ _ _ _
   | exact LeO.none _
   | refine LeO.ite ?_ ?_
   | refine LeO.bind ?_ (fun _ => ?_)
theorem node_Of.mono : ∀ a0 a1 k, LeO (node_Of.f k a0 a1) (node_Of.f (k + 1) a0 a1) := by
 intro a0 a1 k
 obtain ⟨ih0, ih1, ih2⟩ := node_Of.mono_l k
 unfold node_Of.f
 repeat' first
   | (with_reducible exact ih0 _ _ _ _)
   | (with_reducible exact ih1 _ _ _ _ _ _ _ _)
   | (with_reducible exact ih2 _ _ _ _ _ _ _ _ _ _)
   | (with_reducible exact LeO.refl _)
   | (with_reducible exact LeO.none _)
   | (with_reducible refine LeO.ite ?_ ?_)
   | (with_reducible refine LeO.bind ?_ (fun _ => ?_))
   | exact ih0 _ _ _ _
   | exact ih1 _ _ _ _ _ _ _ _
   | exact ih2 _ _ _ _ _ _ _ _ _ _
   | exact LeO.none _
   | refine LeO.ite ?_ ?_
   | refine LeO.bind ?_ (fun _ => ?_)
def node_Of.T12 : Bool × List (List Nat × List Nat) := (true, [([], []), ([], []), ([1], [1]), ([2], [2]), ([3], [3]), ([0, 4], [0, 4]), ([], []), ([], []), ([7], [7]), ([8], [8]), ([9], [9]), ([6, 10], [6, 10]), ([5, 0, 1, 2, 3, 4, 5], [5]), ([11, 12, 0, 1, 2, 3, 4, 5, 6, 7, 8, 9, 10, 11, 12], [11])])
def node_Of.B12 : List Nat := [0, 0, 2, 6, 14, 31, 0, 0, 128, 384, 896, 1984, 63, 8191]
theorem node_Of.tab12 : rtab .any (opsOf Try.f20 12) = node_Of.T12 := by kernel_rfl
theorem node_Of.bits12 : waitsOk node_Of.T12.2 node_Of.B12 = true := by kernel_rfl
set_option maxHeartbeats 8000000 in
set_option maxRecDepth 100000 in
theorem node_Of.calls (k : Nat) (a0 : Bool) (P1_ : Nat → Prop) (A1 : Option Addr) (c1 : Nat) (l1 : List ByteArray) (r1 : Bool) (r2 : List ByteArray) (r3 : List ByteArray) (r4 : List Int) (r5 : Int) (w : World) (hs1 : Kd.V Kd.string 9 w w.heap.size (fun k_ => P1_ k_) (.slice A1 l1.length c1) l1) (h : node_Of.f k a0 l1 = some (r1, r2, r3, r4, r5)) :
  Calls Try.prog 20 #[.bool a0, .slice A1 l1.length c1] w fun e w' => ∃ v1_ v2_ v3_ : Value, e = .returned (.tuple #[.agg #[.bool r1, v1_, v2_, v3_], .int .i64 r5]) ∧ Kd.R Kd.string 9 w' w.heap.size (fun k_ => (w.heap.size ≤ k_) ∧ some k_ ≠ (v2_ : Value).ownBlock) v1_ r2 ∧ Kd.R Kd.string 9 w' w.heap.size (fun k_ => (w.heap.size ≤ k_) ∧ some k_ ≠ (v1_ : Value).ownBlock) v2_ r3 ∧ Kd.R (Kd.int .i64) 3 w' w.heap.size (fun k_ => (w.heap.size ≤ k_)) v3_ r4 ∧ Below w.heap.size w w' := by
 have hu25 := Try.underlying25
 have HO1 := Aside0.mk (show Kd.V Kd.string 9 w w.heap.size (fun k_ => (P1_ k_ ∨ w.heap.size ≤ k_)) (.slice A1 l1.length c1) l1 from Kd.V_mono hs1 (fun k_ hk => .inl hk))
 have HB := Aside0.mk (Below.refl w.heap.size w)
 have H : (if a0 = true then (node_Of.j0 k a0 l1 a0 ([] : List Int)) else (none)) = some (r1, r2, r3, r4, r5) := h
 clear h
 have HC3 := Aside0.mk H
 clear H
 go_enter Try.func20, Try.ntmps20
 go_upto_if 14 with (first | ((with_reducible refine gate_dst (N := 4) rfl ?_); (try (refine gate_guard (by rfl) ?_; dsimp only)); refine box_event ?hg (N := 4) ?hd (cs := #[.bool false, .slice none 0 0, .slice none 0 0, .slice none 0 0]) (t := 25) ?hr ?_; (case hd => rfl); (case hg => rfl); (case hr => first | (go_simp; done) | (go_simp; rfl)); intro gb127 hg w4 hbox hb; have n0_ := Aside0.mk (Kd.V_below (Kd.V_elderB (by (with_reducible repeat (first | apply Kd.V_alloc | apply Kd.V_drewN | apply Kd.V_drew)); exact HO1.out) gb127 (Nat.le_of_eq hg.symm)) hb); have n1_ := Aside0.mk (below_step (by repeat (first | (with_reducible first | exact HB.out | apply below_alloc | apply pw_below_drewN | apply below_drew1) | exact HB.out)) hb); have n2_ := Aside0.mk (hbox); have n3_ := Aside0.mk ((by rw [hg]; exact (below_size (by repeat (first | (with_reducible first | exact HB.out | apply below_alloc | apply pw_below_drewN | apply below_drew1) | exact HB.out))) : w.heap.size ≤ gb127)); have n4_ := Aside0.mk ((by rw [hg]; exact (below_size (by repeat (first | (with_reducible first | exact HB.out | apply below_alloc | apply pw_below_drewN | apply below_drew1) | exact HB.out))) : w.heap.size ≤ gb127)); clear HO1; clear HB; have HO1 := n0_; have HB := n1_; have BK127 := n2_; have GW127 := n3_; have GE127 := n4_; clear n0_ n1_ n2_ n3_ n4_; clear hb hbox hg) | ((with_reducible refine gate_dst (N := 6) rfl ?_); (try (refine gate_guard (by rfl) ?_; dsimp only)); refine box_event ?hg (N := 6) ?hd (cs := #[.bool false, .slice none 0 0, .slice none 0 0, .slice none 0 0]) (t := 25) ?hr ?_; (case hd => rfl); (case hg => rfl); (case hr => first | (go_simp; done) | (go_simp; rfl)); intro gb128 hg w5 hbox hb; have n0_ := Aside0.mk (Kd.V_below (Kd.V_elderB (by (with_reducible repeat (first | apply Kd.V_alloc | apply Kd.V_drewN | apply Kd.V_drew)); exact HO1.out) gb128 (Nat.le_of_eq hg.symm)) hb); have n1_ := Aside0.mk (blk_below (g := gb127) (o := .cells #[.bool false, .slice none 0 0, .slice none 0 0, .slice none 0 0] 25 (0, 0)) (by (with_reducible repeat (first | refine blk_drewN ?_ _ | refine blk_drew ?_ | refine blk_alloc ?_ _)); exact BK127.out) hb); have n2_ := Aside0.mk (below_step (by repeat (first | (with_reducible first | exact HB.out | apply below_alloc | apply pw_below_drewN | apply below_drew1 | refine below_set ?_ GE127.out) | exact HB.out)) hb); have n3_ := Aside0.mk (hbox); have n4_ := Aside0.mk ((by rw [hg]; exact (below_size (by repeat (first | (with_reducible first | exact HB.out | apply below_alloc | apply pw_below_drewN | apply below_drew1 | refine below_set ?_ GE127.out) | exact HB.out))) : w.heap.size ≤ gb128)); have n5_ := Aside0.mk ((by rw [hg]; exact (below_size (by repeat (first | (with_reducible first | exact HB.out | apply below_alloc | apply pw_below_drewN | apply below_drew1 | refine below_set ?_ GE127.out) | exact HB.out))) : w.heap.size ≤ gb128)); have n6_ := Aside0.mk ((by rw [hg]; exact Nat.ne_of_lt (blk_lt (g := gb127) (o := .cells #[.bool false, .slice none 0 0, .slice none 0 0, .slice none 0 0] 25 (0, 0)) (by (with_reducible repeat (first | refine blk_drewN ?_ _ | refine blk_drew ?_ | refine blk_alloc ?_ _)); exact BK127.out)) : gb127 ≠ gb128)); have n7_ := Aside0.mk ((by rw [hg]; exact Nat.ne_of_gt (blk_lt (g := gb127) (o := .cells #[.bool false, .slice none 0 0, .slice none 0 0, .slice none 0 0] 25 (0, 0)) (by (with_reducible repeat (first | refine blk_drewN ?_ _ | refine blk_drew ?_ | refine blk_alloc ?_ _)); exact BK127.out)) : gb128 ≠ gb127)); clear HO1; clear BK127; clear HB; have HO1 := n0_; have BK127 := n1_; have HB := n2_; have BK128 := n3_; have GW128 := n4_; have GE128 := n5_; have NB127_128 := n6_; have NB128_127 := n7_; clear n0_ n1_ n2_ n3_ n4_ n5_ n6_ n7_; clear hb hbox hg; have hnb6 := NB128_127.out; have hnc6 := NB127_128.out; have hcz7_0 : w5.cell? ⟨gb128, 0, none⟩ = some (.bool false) := (blk_cell BK128.out 0).trans rfl; have hcz7_1 : w5.cell? ⟨gb128, 1, none⟩ = some (.slice none 0 0) := (blk_cell BK128.out 1).trans rfl; have hcz7_2 : w5.cell? ⟨gb128, 2, none⟩ = some (.slice none 0 0) := (blk_cell BK128.out 2).trans rfl; have hcz7_3 : w5.cell? ⟨gb128, 3, none⟩ = some (.slice none 0 0) := (blk_cell BK128.out 3).trans rfl; have hfz7_0 := blk_frozen BK128.out 0; have hfz7_1 := blk_frozen BK128.out 1; have hfz7_2 := blk_frozen BK128.out 2; have hfz7_3 := blk_frozen BK128.out 3))
 (try simp only [Act.put, List.setIfInBounds_toArray, List.set_cons_zero, List.set_cons_succ])
 go_cut [1] (fun v1 wc => ∃ (kq : Nat) (x1_2 : List ByteArray) (x128000_2 : Bool) (x129003_2 : List Int) (u129003 : Value), Aside0 (node_Of.j0 kq a0 x1_2 a0 x129003_2 = some (r1, r2, r3, r4, r5)) ∧ Aside0 (kq ≤ k) ∧ Aside0 (Kd.V Kd.string 9 wc w.heap.size (fun k_ => (P1_ k_ ∨ w.heap.size ≤ k_) ∧ some k_ ≠ (u129003 : Value).ownBlock ∧ k_ ≠ gb127 ∧ k_ ≠ gb128) v1 x1_2) ∧ Aside0 (Kd.R (Kd.int .i64) 3 wc w.heap.size (fun k_ => (w.heap.size ≤ k_)) u129003 x129003_2) ∧ Aside0 (wc.heap[gb127]? = some (.cells #[.bool x128000_2, (.slice none 0 0), (.slice none 0 0), (.slice none 0 0)] 25 (0, 0))) ∧ Aside0 (wc.heap[gb128]? = some (.cells #[.bool a0, (.slice none 0 0), (.slice none 0 0), u129003] 25 (0, 0))) ∧ Aside0 (Below w.heap.size w wc))
 case first =>
  have H := HC3.out
  clear HC3
  by_cases c8 : a0 = true
  ·subst c8
   have H1 : (node_Of.j0 k true l1 true ([] : List Int)) = some (r1, r2, r3, r4, r5) := by rw [if_pos rfl] at H; exact H
   clear H
   have H := H1
   clear H1
   have H' := Aside0.mk H
   clear H
   go_wp2
   go_meet
   case rel => exact ⟨_, (l1), (false), (([] : List Int)), (.slice none 0 0), H', ⟨by first | omega | exact Nat.le_refl _⟩, ⟨by (with_reducible repeat (first | apply Kd.V_alloc | apply Kd.V_drewN | apply Kd.V_drew)); exact Kd.V_mono (Kd.V_far (p := ⟨gb128, 3, none⟩) (Kd.V_far (p := ⟨gb128, 2, none⟩) (Kd.V_far (p := ⟨gb128, 1, none⟩) (Kd.V_far (p := ⟨gb128, 0, none⟩) (Kd.V_mono HO1.out (fun k_ hk => (⟨hk, hk.2⟩ : _ ∧ k_ ≠ gb128))) (fun _ hk => hk.2) (.bool true)) (fun _ hk => hk.2) (.slice none 0 0)) (fun _ hk => hk.2) (.slice none 0 0)) (fun _ hk => hk.2) (.slice none 0 0)) (fun _ hk => ⟨hk.1.1.1, ⟨(by simp [Value.ownBlock]), ⟨hk.1.1.2, hk.1.2⟩⟩⟩)⟩, ⟨by first | exact Kd.R_nil _ _ _ _ _ | exact Kd.N_nil _ _ _ _ _ | exact Kd.V_nil _ _ _ _ _ | exact Kd.Q_nil _ _ _ _ _ | exact Kd.S_nil _ _ _ _ _⟩, ⟨by (with_reducible repeat (first | refine blk_drewN ?_ _ | refine blk_drew ?_ | refine blk_alloc ?_ _)); refine blk_far ?_ NB127_128.out _; (with_reducible repeat (first | refine blk_drewN ?_ _ | refine blk_drew ?_ | refine blk_alloc ?_ _)); refine blk_far ?_ NB127_128.out _; (with_reducible repeat (first | refine blk_drewN ?_ _ | refine blk_drew ?_ | refine blk_alloc ?_ _)); refine blk_far ?_ NB127_128.out _; (with_reducible repeat (first | refine blk_drewN ?_ _ | refine blk_drew ?_ | refine blk_alloc ?_ _)); refine blk_far ?_ NB127_128.out _; (with_reducible repeat (first | refine blk_drewN ?_ _ | refine blk_drew ?_ | refine blk_alloc ?_ _)); exact BK127.out⟩, ⟨by (with_reducible repeat (first | refine blk_drewN ?_ _ | refine blk_drew ?_ | refine blk_alloc ?_ _)); refine blk_put (cs := #[.bool true, .slice none 0 0, .slice none 0 0, .slice none 0 0]) ?_ 3 _ rfl; (with_reducible repeat (first | refine blk_drewN ?_ _ | refine blk_drew ?_ | refine blk_alloc ?_ _)); refine blk_put (cs := #[.bool true, .slice none 0 0, .slice none 0 0, .slice none 0 0]) ?_ 2 _ rfl; (with_reducible repeat (first | refine blk_drewN ?_ _ | refine blk_drew ?_ | refine blk_alloc ?_ _)); refine blk_put (cs := #[.bool true, .slice none 0 0, .slice none 0 0, .slice none 0 0]) ?_ 1 _ rfl; (with_reducible repeat (first | refine blk_drewN ?_ _ | refine blk_drew ?_ | refine blk_alloc ?_ _)); refine blk_put (cs := #[.bool false, .slice none 0 0, .slice none 0 0, .slice none 0 0]) ?_ 0 _ rfl; (with_reducible repeat (first | refine blk_drewN ?_ _ | refine blk_drew ?_ | refine blk_alloc ?_ _)); exact BK128.out⟩, ⟨by repeat (first | (with_reducible first | exact HB.out | apply below_alloc | apply pw_below_drewN | apply below_drew1 | refine below_set ?_ GE127.out | refine below_set ?_ GE128.out) | exact HB.out)⟩⟩
  ·replace c8 := Bool.eq_false_iff.mpr c8
   subst c8
   have H1 : (none) = some (r1, r2, r3, r4, r5) := by rw [if_neg (show ¬ (false = true) by decide)] at H; exact H
   clear H
   have H := H1
   clear H1
   exact absurd H (by simp)
 case rest =>
  clear HC3
  (try clear c1); (try clear c2); (try clear p2); (try clear c6); (try clear c8); (try clear hcz7_0); (try clear hcz7_1); (try clear hcz7_2); (try clear hcz7_3); (try clear hfz7_0); (try clear hfz7_1); (try clear hfz7_2); (try clear hfz7_3)
  obtain ⟨kq, x1_2, x128000_2, x129003_2, u129003, HA, HJ2, HO_1, HO_129003, BK127, BK128, HB⟩ := hcut
  cases kq with
  | zero => exact absurd HA.out (by simp [node_Of.j0])
  | succ kj2 =>
   have H := HA.out
   clear HA
   simp only [node_Of.j0] at H
   have H' := Aside0.mk H
   clear H
   obtain ⟨Ao9, co9, eo9⟩ := Kd.V_slice HO_1.out
   subst eo9
   go_wp2
   go_loopg [39] kj2 (fun kq v39 w' => ∃ (x39_2 : Int) (x128000_2 : Bool) (x129001_2 : List ByteArray) (x129002_2 : List ByteArray) (x129003_2 : List Int) (u129001 : Value) (u129002 : Value) (u129003 : Value), v39 = .int .i64 x39_2 ∧ Aside0 (node_Of.l0 kq a0 x1_2 (x1_2.length : Int) x39_2 a0 x129001_2 x129002_2 x129003_2 = some (r1, r2, r3, r4, r5)) ∧ Aside0 (kq ≤ kj2) ∧ Aside0 (Kd.V Kd.string 9 w' w.heap.size (fun k_ => (P1_ k_ ∨ w.heap.size ≤ k_) ∧ some k_ ≠ (u129001 : Value).ownBlock ∧ some k_ ≠ (u129002 : Value).ownBlock ∧ some k_ ≠ (u129003 : Value).ownBlock ∧ k_ ≠ gb127 ∧ k_ ≠ gb128) (.slice Ao9 x1_2.length co9) x1_2) ∧ Aside0 (Kd.R Kd.string 9 w' w.heap.size (fun k_ => (w.heap.size ≤ k_) ∧ some k_ ≠ (u129002 : Value).ownBlock) u129001 x129001_2) ∧ Aside0 (Kd.R Kd.string 9 w' w.heap.size (fun k_ => (w.heap.size ≤ k_) ∧ some k_ ≠ (u129001 : Value).ownBlock) u129002 x129002_2) ∧ Aside0 (Kd.R (Kd.int .i64) 3 w' w.heap.size (fun k_ => (w.heap.size ≤ k_)) u129003 x129003_2) ∧ Aside0 (w'.heap[gb127]? = some (.cells #[.bool x128000_2, (.slice none 0 0), (.slice none 0 0), (.slice none 0 0)] 25 (0, 0))) ∧ Aside0 (w'.heap[gb128]? = some (.cells #[.bool a0, u129001, u129002, u129003] 25 (0, 0))) ∧ Aside0 (Below w.heap.size w w'))
   case atStart => exact ⟨(0), (x128000_2), (([] : List ByteArray)), (([] : List ByteArray)), (x129003_2), (.slice none 0 0), (.slice none 0 0), (u129003), (by first | rfl | (simp; done) | (simp [*]; done)), H', ⟨Nat.le_refl _⟩, ⟨by (with_reducible repeat (first | apply Kd.V_alloc | apply Kd.V_drewN | apply Kd.V_drew)); exact Kd.V_mono HO_1.out (fun _ hk => ⟨hk.1, ⟨(by simp [Value.ownBlock]), ⟨(by simp [Value.ownBlock]), ⟨hk.2.1, ⟨hk.2.2.1, hk.2.2.2⟩⟩⟩⟩⟩)⟩, ⟨by first | exact Kd.R_nil _ _ _ _ _ | exact Kd.N_nil _ _ _ _ _ | exact Kd.V_nil _ _ _ _ _ | exact Kd.Q_nil _ _ _ _ _ | exact Kd.S_nil _ _ _ _ _⟩, ⟨by first | exact Kd.R_nil _ _ _ _ _ | exact Kd.N_nil _ _ _ _ _ | exact Kd.V_nil _ _ _ _ _ | exact Kd.Q_nil _ _ _ _ _ | exact Kd.S_nil _ _ _ _ _⟩, ⟨by (with_reducible repeat (first | apply Kd.R_alloc | apply Kd.R_drewN | apply Kd.R_drew)); exact HO_129003.out⟩, ⟨by (with_reducible repeat (first | refine blk_drewN ?_ _ | refine blk_drew ?_ | refine blk_alloc ?_ _)); exact BK127.out⟩, ⟨by (with_reducible repeat (first | refine blk_drewN ?_ _ | refine blk_drew ?_ | refine blk_alloc ?_ _)); exact BK128.out⟩, ⟨by repeat (first | (with_reducible first | exact HB.out | apply below_alloc | apply pw_below_drewN | apply below_drew1 | refine below_set ?_ GE127.out | refine below_set ?_ GE128.out) | exact HB.out)⟩⟩
   case round =>
    clear H'
    (try clear c1); (try clear c2); (try clear p2); (try clear c6); (try clear c8); (try clear hcz7_0); (try clear hcz7_1); (try clear hcz7_2); (try clear hcz7_3); (try clear hfz7_0); (try clear hfz7_1); (try clear hfz7_2); (try clear hfz7_3); (try clear p2)
    obtain ⟨x39_2, x128000_2, x129001_2, x129002_2, x129003_2, u129001, u129002, u129003, rfl, HA, HK2, HO_37, HO_129001, HO_129002, HO_129003, BK127, BK128, HB⟩ := hrel
    cases gk with
    | zero => exact absurd HA.out (by simp [node_Of.l0])
    | succ k2 =>
     have H := HA.out
     clear HA
     simp only [node_Of.l0] at H
     by_cases c10 : x39_2 < (x1_2.length : Int)
     ·rw [if_pos c10] at H
      have c10b0 : decide (x39_2 < (x1_2.length : Int)) = true := decide_eq_true c10
      clear c10
      by_cases c11 : 0 ≤ x39_2
      ·rw [if_pos c11] at H
       have c11b0 : decide (0 ≤ x39_2) = true := decide_eq_true c11
       clear c11
       by_cases c12 : x39_2 < (x1_2.length : Int)
       ·rw [if_pos c12] at H
        have c12b0 : decide (x39_2 < (x1_2.length : Int)) = true := decide_eq_true c12
        clear c12
        have HC13 := Aside0.mk H
        clear H
        have p141 : 0 ≤ (x39_2 : Int) := of_decide_eq_true (by first | (with_reducible assumption) | assumption)
        have q141 : x39_2 < (x1_2.length : Int) := of_decide_eq_true (by first | (with_reducible assumption) | assumption)
        obtain ⟨ad141, e141, hx141_0⟩ := Kd.at_string (Kd.V_reads' HO_37.out).2.2 x39_2 p141 q141
        cases e141
        replace p141 := eq_true p141
        replace q141 := eq_true q141
        go_upto_region 10 with (fail)
        go_cut [57] (fun v57 wc => ∃ (kq : Nat) (x57_12 : Bool), v57 = .bool x57_12 ∧ Aside0 (node_Of.j2 kq a0 (rdOf ByteArray.empty x1_2 x39_2) x1_2 (x1_2.length : Int) x39_2 x57_12 a0 x129001_2 x129002_2 x129003_2 = some (r1, r2, r3, r4, r5)) ∧ Aside0 (kq ≤ k2) ∧ Aside0 (Kd.V Kd.string 9 wc w.heap.size (fun k_ => (P1_ k_ ∨ w.heap.size ≤ k_) ∧ some k_ ≠ (u129001 : Value).ownBlock ∧ some k_ ≠ (u129002 : Value).ownBlock ∧ some k_ ≠ (u129003 : Value).ownBlock ∧ k_ ≠ gb127 ∧ k_ ≠ gb128) (.slice (some ad141) x1_2.length co9) x1_2) ∧ Aside0 (Kd.R Kd.string 9 wc w.heap.size (fun k_ => (w.heap.size ≤ k_) ∧ some k_ ≠ (u129002 : Value).ownBlock) u129001 x129001_2) ∧ Aside0 (Kd.R Kd.string 9 wc w.heap.size (fun k_ => (w.heap.size ≤ k_) ∧ some k_ ≠ (u129001 : Value).ownBlock) u129002 x129002_2) ∧ Aside0 (Kd.R (Kd.int .i64) 3 wc w.heap.size (fun k_ => (w.heap.size ≤ k_)) u129003 x129003_2) ∧ Aside0 (wc.heap[gb127]? = some (.cells #[.bool x128000_2, (.slice none 0 0), (.slice none 0 0), (.slice none 0 0)] 25 (0, 0))) ∧ Aside0 (wc.heap[gb128]? = some (.cells #[.bool a0, u129001, u129002, u129003] 25 (0, 0))) ∧ Aside0 (Below w.heap.size w wc))
        case first =>
         have H := HC13.out
         clear HC13
         by_cases c14 : (rdOf ByteArray.empty x1_2 x39_2).toList = ([] : List UInt8)
         ·rw [if_pos c14] at H
          have c14b0 : ((rdOf ByteArray.empty x1_2 x39_2).toList == ([] : List UInt8)) = true := beq_iff_eq.mpr c14
          have c14b1 : ((rdOf ByteArray.empty x1_2 x39_2).toList != ([] : List UInt8)) = false := bne_eq_false_iff_eq.mpr c14
          clear c14
          (first | rw [c14b0] | (simp only [i64_w, i32_w]; rw [c14b0]) | skip)
          have H' := Aside0.mk H
          clear H
          go_wp2
          go_meet
          case rel => exact ⟨_, (true), (by first | rfl | (simp; done) | (simp [*]; done)), H', ⟨by have := HJ2.out; have := HK2.out; first | omega | exact Nat.le_refl _⟩, ⟨by (with_reducible repeat (first | apply Kd.V_alloc | apply Kd.V_drewN | apply Kd.V_drew)); exact HO_37.out⟩, ⟨by (with_reducible repeat (first | apply Kd.R_alloc | apply Kd.R_drewN | apply Kd.R_drew)); exact HO_129001.out⟩, ⟨by (with_reducible repeat (first | apply Kd.R_alloc | apply Kd.R_drewN | apply Kd.R_drew)); exact HO_129002.out⟩, ⟨by (with_reducible repeat (first | apply Kd.R_alloc | apply Kd.R_drewN | apply Kd.R_drew)); exact HO_129003.out⟩, ⟨by (with_reducible repeat (first | refine blk_drewN ?_ _ | refine blk_drew ?_ | refine blk_alloc ?_ _)); exact BK127.out⟩, ⟨by (with_reducible repeat (first | refine blk_drewN ?_ _ | refine blk_drew ?_ | refine blk_alloc ?_ _)); exact BK128.out⟩, ⟨by repeat (first | (with_reducible first | exact HB.out | apply below_alloc | apply pw_below_drewN | apply below_drew1 | refine below_set ?_ GE127.out | refine below_set ?_ GE128.out) | exact HB.out)⟩⟩
         ·rw [if_neg c14] at H
          have c14b0 : ((rdOf ByteArray.empty x1_2 x39_2).toList == ([] : List UInt8)) = false := beq_eq_false_iff_ne.mpr c14
          have c14b1 : ((rdOf ByteArray.empty x1_2 x39_2).toList != ([] : List UInt8)) = true := bne_iff_ne.mpr c14
          (first | rw [c14b0] | (simp only [i64_w, i32_w]; rw [c14b0]) | skip)
          by_cases c15 : 0 < ((rdOf ByteArray.empty x1_2 x39_2).size : Int)
          ·rw [if_pos c15] at H
           have c15b0 : decide (0 < ((rdOf ByteArray.empty x1_2 x39_2).size : Int)) = true := decide_eq_true c15
           have c15b1 : decide (0 < (rdOf ByteArray.empty x1_2 x39_2).size) = true := decide_eq_true (by omega)
           clear c15
           by_cases c17 : (wrap64 (bt (rdOf ByteArray.empty x1_2 x39_2) 0)) ≥ ((rdOf ByteArray.empty x1_2 x39_2).size : Int)
           ·rw [if_pos c17] at H
            have c17b0 : decide (((rdOf ByteArray.empty x1_2 x39_2).size : Int) ≤ (wrap64 (bt (rdOf ByteArray.empty x1_2 x39_2) 0))) = true := decide_eq_true c17
            clear c17
            have H' := Aside0.mk H
            clear H
            have p16 : 0 ≤ (0 : Int) := (by omega)
            have q16 : 0 < (rdOf ByteArray.empty x1_2 x39_2).size := (by have : (0 : Int) < ((rdOf ByteArray.empty x1_2 x39_2).size : Int) := of_decide_eq_true (by first | (with_reducible assumption) | assumption); omega)
            have hx16 : ∀ h : 0 < (rdOf ByteArray.empty x1_2 x39_2).size, (((rdOf ByteArray.empty x1_2 x39_2)[0]'h).toNat : Int) = bt (rdOf ByteArray.empty x1_2 x39_2) 0 := bt_at (rdOf ByteArray.empty x1_2 x39_2) 0
            clear p16
            have qi16 : (0 < ((rdOf ByteArray.empty x1_2 x39_2).size : Int)) = True := eq_true (of_decide_eq_true (by first | (with_reducible assumption) | assumption))
            replace q16 := eq_true q16
            have p18 : 0 ≤ (0 : Int) := (by omega)
            have q18 : 0 < (rdOf ByteArray.empty x1_2 x39_2).size := (by have : (0 : Int) < ((rdOf ByteArray.empty x1_2 x39_2).size : Int) := of_decide_eq_true (by first | (with_reducible assumption) | assumption); omega)
            have hx18 : ∀ h : 0 < (rdOf ByteArray.empty x1_2 x39_2).size, (((rdOf ByteArray.empty x1_2 x39_2)[0]'h).toNat : Int) = bt (rdOf ByteArray.empty x1_2 x39_2) 0 := bt_at (rdOf ByteArray.empty x1_2 x39_2) 0
            clear p18
            have qi18 : (0 < ((rdOf ByteArray.empty x1_2 x39_2).size : Int)) = True := eq_true (of_decide_eq_true (by first | (with_reducible assumption) | assumption))
            replace q18 := eq_true q18
            go_wp2
            go_meet
            case rel => exact ⟨_, (((bt (rdOf ByteArray.empty x1_2 x39_2) 0) != 0)), (by first | rfl | (simp; done) | (simp [*]; done)), H', ⟨by have := HJ2.out; have := HK2.out; first | omega | exact Nat.le_refl _⟩, ⟨by (with_reducible repeat (first | apply Kd.V_alloc | apply Kd.V_drewN | apply Kd.V_drew)); exact HO_37.out⟩, ⟨by (with_reducible repeat (first | apply Kd.R_alloc | apply Kd.R_drewN | apply Kd.R_drew)); exact HO_129001.out⟩, ⟨by (with_reducible repeat (first | apply Kd.R_alloc | apply Kd.R_drewN | apply Kd.R_drew)); exact HO_129002.out⟩, ⟨by (with_reducible repeat (first | apply Kd.R_alloc | apply Kd.R_drewN | apply Kd.R_drew)); exact HO_129003.out⟩, ⟨by (with_reducible repeat (first | refine blk_drewN ?_ _ | refine blk_drew ?_ | refine blk_alloc ?_ _)); exact BK127.out⟩, ⟨by (with_reducible repeat (first | refine blk_drewN ?_ _ | refine blk_drew ?_ | refine blk_alloc ?_ _)); exact BK128.out⟩, ⟨by repeat (first | (with_reducible first | exact HB.out | apply below_alloc | apply pw_below_drewN | apply below_drew1 | refine below_set ?_ GE127.out | refine below_set ?_ GE128.out) | exact HB.out)⟩⟩
           ·rw [if_neg c17] at H
            have c17b0 : decide (((rdOf ByteArray.empty x1_2 x39_2).size : Int) ≤ (wrap64 (bt (rdOf ByteArray.empty x1_2 x39_2) 0))) = false := decide_eq_false c17
            clear c17
            have H' := Aside0.mk H
            clear H
            have p16 : 0 ≤ (0 : Int) := (by omega)
            have q16 : 0 < (rdOf ByteArray.empty x1_2 x39_2).size := (by have : (0 : Int) < ((rdOf ByteArray.empty x1_2 x39_2).size : Int) := of_decide_eq_true (by first | (with_reducible assumption) | assumption); omega)
            have hx16 : ∀ h : 0 < (rdOf ByteArray.empty x1_2 x39_2).size, (((rdOf ByteArray.empty x1_2 x39_2)[0]'h).toNat : Int) = bt (rdOf ByteArray.empty x1_2 x39_2) 0 := bt_at (rdOf ByteArray.empty x1_2 x39_2) 0
            clear p16
            have qi16 : (0 < ((rdOf ByteArray.empty x1_2 x39_2).size : Int)) = True := eq_true (of_decide_eq_true (by first | (with_reducible assumption) | assumption))
            replace q16 := eq_true q16
            go_wp2
            go_meet
            case rel => exact ⟨_, (false), (by first | rfl | (simp; done) | (simp [*]; done)), H', ⟨by have := HJ2.out; have := HK2.out; first | omega | exact Nat.le_refl _⟩, ⟨by (with_reducible repeat (first | apply Kd.V_alloc | apply Kd.V_drewN | apply Kd.V_drew)); exact HO_37.out⟩, ⟨by (with_reducible repeat (first | apply Kd.R_alloc | apply Kd.R_drewN | apply Kd.R_drew)); exact HO_129001.out⟩, ⟨by (with_reducible repeat (first | apply Kd.R_alloc | apply Kd.R_drewN | apply Kd.R_drew)); exact HO_129002.out⟩, ⟨by (with_reducible repeat (first | apply Kd.R_alloc | apply Kd.R_drewN | apply Kd.R_drew)); exact HO_129003.out⟩, ⟨by (with_reducible repeat (first | refine blk_drewN ?_ _ | refine blk_drew ?_ | refine blk_alloc ?_ _)); exact BK127.out⟩, ⟨by (with_reducible repeat (first | refine blk_drewN ?_ _ | refine blk_drew ?_ | refine blk_alloc ?_ _)); exact BK128.out⟩, ⟨by repeat (first | (with_reducible first | exact HB.out | apply below_alloc | apply pw_below_drewN | apply below_drew1 | refine below_set ?_ GE127.out | refine below_set ?_ GE128.out) | exact HB.out)⟩⟩
          ·rw [if_neg c15] at H
           exact absurd H (by simp)
        case rest =>
         clear HC13
         (try clear c1); (try clear p1); (try clear q1); (try clear hx1); (try clear qi1); (try clear c2); (try clear p2); (try clear c6); (try clear p6); (try clear c8); (try clear c10); (try clear c10b0); (try clear c11); (try clear c11b0); (try clear c12); (try clear c12b0); (try clear c14); (try clear c14b0); (try clear c14b1); (try clear p14); (try clear q14); (try clear hx14); (try clear c15); (try clear c15b0); (try clear c15b1); (try clear p16); (try clear q16); (try clear hx16); (try clear qi16); (try clear c17); (try clear c17b0); (try clear p18); (try clear q18); (try clear hx18); (try clear qi18); (try clear hcz7_0); (try clear hcz7_1); (try clear hcz7_2); (try clear hcz7_3); (try clear hfz7_0); (try clear hfz7_1); (try clear hfz7_2); (try clear hfz7_3); (try clear hx141_0); (try clear p141); (try clear p16); (try clear p18); (try clear p2); (try clear q141); (try clear q16); (try clear q18)
         obtain ⟨kq, x57_12, rfl, HA, HJ12, HO_37, HO_129001, HO_129002, HO_129003, BK127, BK128, HB⟩ := hcut
         cases kq with
         | zero => exact absurd HA.out (by simp [node_Of.j2])
         | succ kj12 =>
          have H := HA.out
          clear HA
          simp only [node_Of.j2] at H
          by_cases c19 : x57_12 = true
          ·subst c19
           have H1 : (none) = some (r1, r2, r3, r4, r5) := by rw [if_pos rfl] at H; exact H
           clear H
           have H := H1
           clear H1
           exact absurd H (by simp)
          ·replace c19 := Bool.eq_false_iff.mpr c19
           subst c19
           have H1 : (if 0 < ((rdOf ByteArray.empty x1_2 x39_2).size : Int) then (if 1 ≤ (wrap64 (1 + (wrap64 (bt (rdOf ByteArray.empty x1_2 x39_2) 0)))) then (if (wrap64 (1 + (wrap64 (bt (rdOf ByteArray.empty x1_2 x39_2) 0)))) ≤ ((rdOf ByteArray.empty x1_2 x39_2).size : Int) then (if 0 ≤ (wrap64 (1 + (wrap64 (bt (rdOf ByteArray.empty x1_2 x39_2) 0)))) then (if x129001_2.length < 8796093022208 then (if a0 = true then (if x129002_2.length < 8796093022208 then (node_Of.l0 kj12 a0 x1_2 (x1_2.length : Int) (wrap64 (x39_2 + 1)) a0 (x129001_2 ++ [(rdOf ByteArray.empty x1_2 x39_2).extract 1 ((wrap64 (1 + (wrap64 (bt (rdOf ByteArray.empty x1_2 x39_2) 0)))) : Int).toNat]) (x129002_2 ++ [(rdOf ByteArray.empty x1_2 x39_2).extract ((wrap64 (1 + (wrap64 (bt (rdOf ByteArray.empty x1_2 x39_2) 0)))) : Int).toNat (rdOf ByteArray.empty x1_2 x39_2).size]) x129003_2) else (none)) else (none)) else (none)) else (none)) else (none)) else (none)) else (none)) = some (r1, r2, r3, r4, r5) := by rw [if_neg (show ¬ (false = true) by decide)] at H; exact H
           clear H
           have H := H1
           clear H1
           by_cases c20 : 0 < ((rdOf ByteArray.empty x1_2 x39_2).size : Int)
           ·rw [if_pos c20] at H
            have c20b0 : decide (0 < ((rdOf ByteArray.empty x1_2 x39_2).size : Int)) = true := decide_eq_true c20
            have c20b1 : decide (0 < (rdOf ByteArray.empty x1_2 x39_2).size) = true := decide_eq_true (by omega)
            clear c20
            by_cases c22 : 1 ≤ (wrap64 (1 + (wrap64 (bt (rdOf ByteArray.empty x1_2 x39_2) 0))))
            ·rw [if_pos c22] at H
             have c22b0 := eq_true c22
             have c22b1 : decide (1 ≤ (wrap64 (1 + (wrap64 (bt (rdOf ByteArray.empty x1_2 x39_2) 0))))) = true := decide_eq_true c22
             by_cases c23 : (wrap64 (1 + (wrap64 (bt (rdOf ByteArray.empty x1_2 x39_2) 0)))) ≤ ((rdOf ByteArray.empty x1_2 x39_2).size : Int)
             ·rw [if_pos c23] at H
              have c23b0 := eq_true c23
              have c23b1 : decide ((wrap64 (1 + (wrap64 (bt (rdOf ByteArray.empty x1_2 x39_2) 0)))) ≤ ((rdOf ByteArray.empty x1_2 x39_2).size : Int)) = true := decide_eq_true c23
              obtain ⟨ji25, hji25⟩ : ∃ j_ : Int, (wrap64 (1 + (wrap64 (bt (rdOf ByteArray.empty x1_2 x39_2) 0)))) = j_ := ⟨_, rfl⟩
              replace H : (if 0 ≤ (ji25) then (if x129001_2.length < 8796093022208 then (if a0 = true then (if x129002_2.length < 8796093022208 then (node_Of.l0 kj12 a0 x1_2 (x1_2.length : Int) (wrap64 (x39_2 + 1)) a0 (x129001_2 ++ [(rdOf ByteArray.empty x1_2 x39_2).extract 1 ((ji25) : Int).toNat]) (x129002_2 ++ [(rdOf ByteArray.empty x1_2 x39_2).extract ((ji25) : Int).toNat (rdOf ByteArray.empty x1_2 x39_2).size]) x129003_2) else (none)) else (none)) else (none)) else (none)) = some (r1, r2, r3, r4, r5) := by first | (rw [hji25] at H; exact H) | (simp only [hji25] at H ⊢; exact H)
              (try rw [hji25] at c22b0)
              (try rw [hji25] at c22b1)
              (try rw [hji25] at c22)
              (try rw [hji25] at c23b0)
              (try rw [hji25] at c23b1)
              (try rw [hji25] at c23)
              have hji25w : (IntKind.i64.wrap (1 + (wrap64 (bt (rdOf ByteArray.empty x1_2 x39_2) 0)))) = ji25 := (i64_w _).trans hji25
              by_cases c26 : 0 ≤ (ji25)
              ·rw [if_pos c26] at H
               have c26b0 := eq_true c26
               have c26b1 : decide (0 ≤ (ji25)) = true := decide_eq_true c26
               clear c26
               have c27b0 := eq_true (of_decide_eq_true (by first | (with_reducible assumption) | assumption) : (ji25) ≤ ((rdOf ByteArray.empty x1_2 x39_2).size : Int))
               by_cases c28 : x129001_2.length < 8796093022208
               ·rw [if_pos c28] at H
                have LMc28 := Aside0.mk c28
                clear c28
                obtain ⟨y142, hy142⟩ : ∃ y_ : List ByteArray, y_ = (x129001_2 ++ [(rdOf ByteArray.empty x1_2 x39_2).extract 1 ((ji25) : Int).toNat]) := ⟨_, rfl⟩
                replace H : (if a0 = true then (if x129002_2.length < 8796093022208 then (node_Of.l0 kj12 a0 x1_2 (x1_2.length : Int) (wrap64 (x39_2 + 1)) a0 y142 (x129002_2 ++ [(rdOf ByteArray.empty x1_2 x39_2).extract ((ji25) : Int).toNat (rdOf ByteArray.empty x1_2 x39_2).size]) x129003_2) else (none)) else (none)) = some (r1, r2, r3, r4, r5) := by first | (rw [hy142]; with_reducible exact H) | (have H2_ := (Option.bind_some _ _).symm.trans H; rw [hy142]; with_reducible exact H2_) | (have H2_ := (Option.bind_some _ _).symm.trans H; with_reducible exact H2_) | with_reducible exact H | (rw [hy142]; exact H) | exact H
                have Ny142 := Aside0.mk hy142
                clear hy142
                by_cases c29 : a0 = true
                ·subst c29
                 have H1 : (if x129002_2.length < 8796093022208 then (node_Of.l0 kj12 true x1_2 (x1_2.length : Int) (wrap64 (x39_2 + 1)) true y142 (x129002_2 ++ [(rdOf ByteArray.empty x1_2 x39_2).extract ((ji25) : Int).toNat (rdOf ByteArray.empty x1_2 x39_2).size]) x129003_2) else (none)) = some (r1, r2, r3, r4, r5) := by rw [if_pos rfl] at H; exact H
                 clear H
                 have H := H1
                 clear H1
                 by_cases c30 : x129002_2.length < 8796093022208
                 ·rw [if_pos c30] at H
                  have LMc30 := Aside0.mk c30
                  clear c30
                  obtain ⟨y145, hy145⟩ : ∃ y_ : List ByteArray, y_ = (x129002_2 ++ [(rdOf ByteArray.empty x1_2 x39_2).extract ((ji25) : Int).toNat (rdOf ByteArray.empty x1_2 x39_2).size]) := ⟨_, rfl⟩
                  replace H : (node_Of.l0 kj12 true x1_2 (x1_2.length : Int) (wrap64 (x39_2 + 1)) true y142 y145 x129003_2) = some (r1, r2, r3, r4, r5) := by first | (rw [hy145]; with_reducible exact H) | (have H2_ := (Option.bind_some _ _).symm.trans H; rw [hy145]; with_reducible exact H2_) | (have H2_ := (Option.bind_some _ _).symm.trans H; with_reducible exact H2_) | with_reducible exact H | (rw [hy145]; exact H) | exact H
                  have Ny145 := Aside0.mk hy145
                  clear hy145
                  have H' := Aside0.mk H
                  clear H
                  try go_wp2
                  have n0_ := Aside0.mk (Kd.V_drew HO_37.out)
                  have n1_ := Aside0.mk (Kd.R_drew HO_129001.out)
                  have n2_ := Aside0.mk (Kd.R_drew HO_129002.out)
                  have n3_ := Aside0.mk (Kd.R_drew HO_129003.out)
                  have n4_ := Aside0.mk (blk_drew BK127.out)
                  have n5_ := Aside0.mk (blk_drew BK128.out)
                  have n6_ := Aside0.mk (below_drew1 HB.out)
                  clear HO_37
                  clear HO_129001
                  clear HO_129002
                  clear HO_129003
                  clear BK127
                  clear BK128
                  clear HB
                  have HO_37 := n0_
                  have HO_129001 := n1_
                  have HO_129002 := n2_
                  have HO_129003 := n3_
                  have BK127 := n4_
                  have BK128 := n5_
                  have HB := n6_
                  clear n0_ n1_ n2_ n3_ n4_ n5_ n6_
                  have p21 : 0 ≤ (0 : Int) := (by omega)
                  have q21 : 0 < (rdOf ByteArray.empty x1_2 x39_2).size := (by have : (0 : Int) < ((rdOf ByteArray.empty x1_2 x39_2).size : Int) := of_decide_eq_true (by first | (with_reducible assumption) | assumption); omega)
                  have hx21 : ∀ h : 0 < (rdOf ByteArray.empty x1_2 x39_2).size, (((rdOf ByteArray.empty x1_2 x39_2)[0]'h).toNat : Int) = bt (rdOf ByteArray.empty x1_2 x39_2) 0 := bt_at (rdOf ByteArray.empty x1_2 x39_2) 0
                  clear p21
                  have qi21 : (0 < ((rdOf ByteArray.empty x1_2 x39_2).size : Int)) = True := eq_true (of_decide_eq_true (by first | (with_reducible assumption) | assumption))
                  replace q21 := eq_true q21
                  have p24 : 0 ≤ (0 : Int) := (by omega)
                  have q24 : 0 < (rdOf ByteArray.empty x1_2 x39_2).size := (by have : (0 : Int) < ((rdOf ByteArray.empty x1_2 x39_2).size : Int) := of_decide_eq_true (by first | (with_reducible assumption) | assumption); omega)
                  have hx24 : ∀ h : 0 < (rdOf ByteArray.empty x1_2 x39_2).size, (((rdOf ByteArray.empty x1_2 x39_2)[0]'h).toNat : Int) = bt (rdOf ByteArray.empty x1_2 x39_2) 0 := bt_at (rdOf ByteArray.empty x1_2 x39_2) 0
                  clear p24
                  have qi24 : (0 < ((rdOf ByteArray.empty x1_2 x39_2).size : Int)) = True := eq_true (of_decide_eq_true (by first | (with_reducible assumption) | assumption))
                  replace q24 := eq_true q24
                  refine start_ (n := 14) (S := fun w' => True) (ds := []) #[false, false, false, false, false, false, false, false, false, false, false, false, false, false] (by kernel_rfl) rfl rfl trivial (fun hHeld => ?_); refine with_tabW node_Of.tab12 node_Of.bits12 (fun HT_ HW_ => ?_)
                  generalize wc.drew = w31 at HO_37 HO_129001 HO_129002 HO_129003 BK127 BK128 HB hHeld ⊢
                  refine pure_ (i := 0) (N := some 59) (v := ?_) (a' := ?_) #[true, false, false, false, false, false, false, false, false, false, false, false, false, false] rfl rfl (any_of HT_.out (by kernel_rfl)) (fun _ _ _ h => h) (Or.inl ⟨by rfl, ?_⟩) ?_ ?_
                  rotate_left
                  ·intro w'
                   go_simp
                   with_reducible rfl
                  rotate_left
                  ·simp only [Act.put, List.setIfInBounds_toArray, List.set_cons_zero, List.set_cons_succ, i64_w, i32_w]
                   rfl
                  refine pure_ (i := 1) (N := some 60) (v := ?_) (a' := ?_) #[true, true, false, false, false, false, false, false, false, false, false, false, false, false] rfl rfl (any_of HT_.out (by kernel_rfl)) (fun _ _ _ h => h) (Or.inl ⟨by rfl, ?_⟩) ?_ ?_
                  rotate_left
                  ·intro w'
                   go_simp
                   with_reducible rfl
                  rotate_left
                  ·simp only [Act.put, List.setIfInBounds_toArray, List.set_cons_zero, List.set_cons_succ, i64_w, i32_w]
                   rfl
                  refine pure_ (i := 6) (N := some 65) (v := ?_) (a' := ?_) #[true, true, false, false, false, false, true, false, false, false, false, false, false, false] rfl rfl (any_of HT_.out (by kernel_rfl)) (fun _ _ _ h => h) (Or.inl ⟨by rfl, ?_⟩) ?_ ?_
                  rotate_left
                  ·intro w'
                   go_simp
                   with_reducible rfl
                  rotate_left
                  ·simp only [Act.put, List.setIfInBounds_toArray, List.set_cons_zero, List.set_cons_succ, i64_w, i32_w]
                   rfl
                  refine pure_ (i := 7) (N := some 66) (v := ?_) (a' := ?_) #[true, true, false, false, false, false, true, true, false, false, false, false, false, false] rfl rfl (any_of HT_.out (by kernel_rfl)) (fun _ _ _ h => h) (Or.inl ⟨by rfl, ?_⟩) ?_ ?_
                  rotate_left
                  ·intro w'
                   go_simp
                   with_reducible rfl
                  rotate_left
                  ·simp only [Act.put, List.setIfInBounds_toArray, List.set_cons_zero, List.set_cons_succ, i64_w, i32_w]
                   rfl
                  refine take_ (i := 2) (N := some 61) (v := ?_) (a' := ?_) #[true, true, true, false, false, false, true, true, false, false, false, false, false, false] rfl rfl (take_ofW HT_.out HW_.out (by kernel_rfl)) (fun _ _ _ h => h) (Or.inl ⟨by rfl, ?_⟩) hHeld ?_ ?_
                  rotate_left
                  ·intro w' _
                   go_simp
                   with_reducible rfl
                  rotate_left
                  ·simp only [Act.put, List.setIfInBounds_toArray, List.set_cons_zero, List.set_cons_succ, i64_w, i32_w]
                   rfl
                  refine pure_ (i := 3) (N := some 62) (v := ?_) (a' := ?_) #[true, true, true, true, false, false, true, true, false, false, false, false, false, false] rfl rfl (any_of HT_.out (by kernel_rfl)) (fun _ _ _ h => h) (Or.inl ⟨by rfl, ?_⟩) ?_ ?_
                  rotate_left
                  ·intro w'
                   go_simp
                   with_reducible rfl
                  rotate_left
                  ·simp only [Act.put, List.setIfInBounds_toArray, List.set_cons_zero, List.set_cons_succ, i64_w, i32_w]
                   rfl
                  refine pure_ (i := 4) (N := some 63) (v := ?_) (a' := ?_) #[true, true, true, true, true, false, true, true, false, false, false, false, false, false] rfl rfl (any_of HT_.out (by kernel_rfl)) (fun _ _ _ h => h) (Or.inl ⟨by rfl, ?_⟩) ?_ ?_
                  rotate_left
                  ·intro w'
                   go_simp
                   with_reducible rfl
                  rotate_left
                  ·simp only [Act.put, List.setIfInBounds_toArray, List.set_cons_zero, List.set_cons_succ, i64_w, i32_w]
                   rfl
                  refine pure_ (i := 5) (N := some 64) (v := ?_) (a' := ?_) #[true, true, true, true, true, true, true, true, false, false, false, false, false, false] rfl rfl (any_of HT_.out (by kernel_rfl)) (fun _ _ _ h => h) (Or.inl ⟨by rfl, ?_⟩) ?_ ?_
                  rotate_left
                  ·intro w'
                   go_simp
                   with_reducible rfl
                  rotate_left
                  ·simp only [Act.put, List.setIfInBounds_toArray, List.set_cons_zero, List.set_cons_succ, i64_w, i32_w]
                   rfl
                  refine pure_ (i := 12) (N := some 9) (v := ?_) (a' := ?_) #[true, true, true, true, true, true, true, true, false, false, false, false, true, false] rfl rfl (any_of HT_.out (by kernel_rfl)) (fun _ _ _ h => h) (Or.inl ⟨by rfl, ?_⟩) ?_ ?_
                  rotate_left
                  ·intro w'
                   go_simp
                   with_reducible rfl
                  rotate_left
                  ·simp only [Act.put, List.setIfInBounds_toArray, List.set_cons_zero, List.set_cons_succ, i64_w, i32_w]
                   rfl
                  refine take_ (i := 8) (N := some 67) (v := ?_) (a' := ?_) #[true, true, true, true, true, true, true, true, true, false, false, false, true, false] rfl rfl (take_ofW HT_.out HW_.out (by kernel_rfl)) (fun _ _ _ h => h) (Or.inl ⟨by rfl, ?_⟩) hHeld ?_ ?_
                  rotate_left
                  ·intro w' _
                   go_simp
                   with_reducible rfl
                  rotate_left
                  ·simp only [Act.put, List.setIfInBounds_toArray, List.set_cons_zero, List.set_cons_succ, i64_w, i32_w]
                   rfl
                  refine pure_ (i := 9) (N := some 68) (v := ?_) (a' := ?_) #[true, true, true, true, true, true, true, true, true, true, false, false, true, false] rfl rfl (any_of HT_.out (by kernel_rfl)) (fun _ _ _ h => h) (Or.inl ⟨by rfl, ?_⟩) ?_ ?_
                  rotate_left
                  ·intro w'
                   go_simp
                   with_reducible rfl
                  rotate_left
                  ·simp only [Act.put, List.setIfInBounds_toArray, List.set_cons_zero, List.set_cons_succ, i64_w, i32_w]
                   rfl
                  refine pure_ (i := 10) (N := some 69) (v := ?_) (a' := ?_) #[true, true, true, true, true, true, true, true, true, true, true, false, true, false] rfl rfl (any_of HT_.out (by kernel_rfl)) (fun _ _ _ h => h) (Or.inl ⟨by rfl, ?_⟩) ?_ ?_
                  rotate_left
                  ·intro w'
                   go_simp
                   with_reducible rfl
                  rotate_left
                  ·simp only [Act.put, List.setIfInBounds_toArray, List.set_cons_zero, List.set_cons_succ, i64_w, i32_w]
                   rfl
                  refine pure_ (i := 11) (N := some 70) (v := ?_) (a' := ?_) #[true, true, true, true, true, true, true, true, true, true, true, true, true, false] rfl rfl (any_of HT_.out (by kernel_rfl)) (fun _ _ _ h => h) (Or.inl ⟨by rfl, ?_⟩) ?_ ?_
                  rotate_left
                  ·intro w'
                   go_simp
                   with_reducible rfl
                  rotate_left
                  ·simp only [Act.put, List.setIfInBounds_toArray, List.set_cons_zero, List.set_cons_succ, i64_w, i32_w]
                   rfl
                  refine pure_ (i := 13) (N := some 10) (v := ?_) (a' := ?_) #[true, true, true, true, true, true, true, true, true, true, true, true, true, true] rfl rfl (any_of HT_.out (by kernel_rfl)) (fun _ _ _ h => h) (Or.inl ⟨by rfl, ?_⟩) ?_ ?_
                  rotate_left
                  ·intro w'
                   go_simp
                   with_reducible rfl
                  rotate_left
                  ·simp only [Act.put, List.setIfInBounds_toArray, List.set_cons_zero, List.set_cons_succ, i64_w, i32_w]
                   rfl
                  refine done_ (done_of HT_.out (by kernel_rfl)) ?_
                  have hnb32 := NB128_127.out
                  have hnc32 := NB127_128.out
                  have hcz33_0 : w31.cell? ⟨gb128, 0, none⟩ = some (.bool true) := (blk_cell BK128.out 0).trans rfl
                  have hcz33_1 : w31.cell? ⟨gb128, 1, none⟩ = some (u129001) := (blk_cell BK128.out 1).trans rfl
                  have hcz33_2 : w31.cell? ⟨gb128, 2, none⟩ = some (u129002) := (blk_cell BK128.out 2).trans rfl
                  have hcz33_3 : w31.cell? ⟨gb128, 3, none⟩ = some (u129003) := (blk_cell BK128.out 3).trans rfl
                  have hfz33_0 := blk_frozen BK128.out 0
                  have hfz33_1 := blk_frozen BK128.out 1
                  have hfz33_2 := blk_frozen BK128.out 2
                  have hfz33_3 := blk_frozen BK128.out 3
                  try go_wp2_with (first | ((with_reducible refine gate_builtin (b := .append) (xs := #[.tmp 72, .tmp 74]) rfl ?_); (try (refine gate_guard (by rfl) ?_; dsimp only)); at_builtin; refine Kd.R_append Kd.string (w0 := w) w.heap.size rfl (.tmp 72) (.tmp 74) 22 9 (.string ⟨#[]⟩) 16 rfl Try.underlying22 info9 rfl (by decide) (by omega) u129001 x129001_2 ((rdOf ByteArray.empty x1_2 x39_2).extract 1 ((ji25) : Int).toNat) [.string ((rdOf ByteArray.empty x1_2 x39_2).extract 1 ((ji25) : Int).toNat)] (fun k_ => (w.heap.size ≤ k_) ∧ some k_ ≠ (u129002 : Value).ownBlock) (fun _ => False) rfl rfl ?aP (fun _ hk => hk.elim) ?aF ?aO ?aB ?aS ?aL ?_; (case aP => exact rfl); (case aB => exact (by repeat (first | (with_reducible first | exact HB.out | apply below_alloc | apply pw_below_drewN | apply below_drew1 | refine below_set ?_ GE127.out | refine below_set ?_ GE128.out) | exact HB.out))); (case aF => exact (fun k_ hk => ⟨(Nat.le_trans (below_size (by repeat (first | (with_reducible first | exact HB.out | apply below_alloc | apply pw_below_drewN | apply below_drew1 | refine below_set ?_ GE127.out | refine below_set ?_ GE128.out) | exact HB.out))) hk), Kd.fresh' (Kd.R_lt (by (with_reducible repeat (first | apply Kd.R_alloc | apply Kd.R_drewN | apply Kd.R_drew)); exact HO_129002.out)) k_ hk⟩)); (case aO => exact (by (with_reducible repeat (first | apply Kd.R_alloc | apply Kd.R_drewN | apply Kd.R_drew)); exact HO_129001.out)); (case aS => exact (below_size (by repeat (first | (with_reducible first | exact HB.out | apply below_alloc | apply pw_below_drewN | apply below_drew1 | refine below_set ?_ GE127.out | refine below_set ?_ GE128.out) | exact HB.out)))); (case aL => have := LMc28.out; omega); intro v143 w34 ho hb hg hat; rw [← Ny142.out] at ho; have n0_ := Aside0.mk (Kd.V_afterv (ok := (fun k_ => (P1_ k_ ∨ w.heap.size ≤ k_) ∧ some k_ ≠ (u129002 : Value).ownBlock ∧ some k_ ≠ (u129003 : Value).ownBlock ∧ k_ ≠ gb127 ∧ k_ ≠ gb128)) (by (with_reducible repeat (first | apply Kd.V_alloc | apply Kd.V_drewN | apply Kd.V_drew)); exact Kd.V_mono HO_37.out (fun _ hk => ⟨⟨hk.1, ⟨hk.2.2.1, ⟨hk.2.2.2.1, ⟨hk.2.2.2.2.1, hk.2.2.2.2.2⟩⟩⟩⟩, hk.2.1⟩)) hg hat); have n1_ := Aside0.mk (Kd.R_after (ok := (fun k_ => (w.heap.size ≤ k_))) (by (with_reducible repeat (first | apply Kd.R_alloc | apply Kd.R_drewN | apply Kd.R_drew)); exact HO_129002.out) hg hat); have n2_ := Aside0.mk (Kd.R_over' (by (with_reducible repeat (first | apply Kd.R_alloc | apply Kd.R_drewN | apply Kd.R_drew)); exact HO_129003.out) (Kd.R_typed (by (with_reducible repeat (first | apply Kd.R_alloc | apply Kd.R_drewN | apply Kd.R_drew)); exact HO_129001.out)) (by decide) hg); have n3_ := Aside0.mk (blk_grown (g := gb127) (o := .cells #[.bool x128000_2, .slice none 0 0, .slice none 0 0, .slice none 0 0] 25 (0, 0)) (by (with_reducible repeat (first | refine blk_drewN ?_ _ | refine blk_drew ?_ | refine blk_alloc ?_ _)); exact BK127.out) hg (Kd.R_ne HO_129001.out BK127.out (by decide))); have n4_ := Aside0.mk (blk_grown (g := gb128) (o := .cells #[.bool true, u129001, u129002, u129003] 25 (0, 0)) (by (with_reducible repeat (first | refine blk_drewN ?_ _ | refine blk_drew ?_ | refine blk_alloc ?_ _)); exact BK128.out) hg (Kd.R_ne HO_129001.out BK128.out (by decide))); have n5_ := Aside0.mk (hb); have n6_ := Aside0.mk (ho); clear HO_37; clear HO_129002; clear HO_129003; clear BK127; clear BK128; clear HB; clear HO_129001; have HO_37 := n0_; have HO_129002 := n1_; have HO_129003 := n2_; have BK127 := n3_; have BK128 := n4_; have HB := n5_; have HO144 := n6_; clear n0_ n1_ n2_ n3_ n4_ n5_ n6_; clear ho hb hg hat; obtain ⟨Ao35, co35, eo35⟩ := Kd.R_slice HO144.out; subst eo35; have hcz36_0 : w34.cell? ⟨gb128, 0, none⟩ = some (.bool true) := (blk_cell BK128.out 0).trans rfl; have hcz36_1 : w34.cell? ⟨gb128, 1, none⟩ = some (u129001) := (blk_cell BK128.out 1).trans rfl; have hcz36_2 : w34.cell? ⟨gb128, 2, none⟩ = some (u129002) := (blk_cell BK128.out 2).trans rfl; have hcz36_3 : w34.cell? ⟨gb128, 3, none⟩ = some (u129003) := (blk_cell BK128.out 3).trans rfl; have hfz36_0 := blk_frozen BK128.out 0; have hfz36_1 := blk_frozen BK128.out 1; have hfz36_2 := blk_frozen BK128.out 2; have hfz36_3 := blk_frozen BK128.out 3) | ((with_reducible refine gate_builtin (b := .append) (xs := #[.tmp 87, .tmp 89]) rfl ?_); (try (refine gate_guard (by rfl) ?_; dsimp only)); at_builtin; refine Kd.R_append Kd.string (w0 := w) w.heap.size rfl (.tmp 87) (.tmp 89) 22 9 (.string ⟨#[]⟩) 16 rfl Try.underlying22 info9 rfl (by decide) (by omega) u129002 x129002_2 ((rdOf ByteArray.empty x1_2 x39_2).extract ((ji25) : Int).toNat (rdOf ByteArray.empty x1_2 x39_2).size) [.string ((rdOf ByteArray.empty x1_2 x39_2).extract ((ji25) : Int).toNat (rdOf ByteArray.empty x1_2 x39_2).size)] (fun k_ => (w.heap.size ≤ k_) ∧ some k_ ≠ (.slice Ao35 y142.length co35 : Value).ownBlock) (fun _ => False) rfl (by first | (go_simp; done) | (go_simp; rfl)) ?aP (fun _ hk => hk.elim) ?aF ?aO ?aB ?aS ?aL ?_; (case aP => exact rfl); (case aB => exact (by repeat (first | (with_reducible first | exact HB.out | apply below_alloc | apply pw_below_drewN | apply below_drew1 | refine below_set ?_ GE127.out | refine below_set ?_ GE128.out) | exact HB.out))); (case aF => exact (fun k_ hk => ⟨(Nat.le_trans (below_size (by repeat (first | (with_reducible first | exact HB.out | apply below_alloc | apply pw_below_drewN | apply below_drew1 | refine below_set ?_ GE127.out | refine below_set ?_ GE128.out) | exact HB.out))) hk), Kd.fresh' (Kd.R_lt (by (with_reducible repeat (first | apply Kd.R_alloc | apply Kd.R_drewN | apply Kd.R_drew)); exact (Kd.R_mono (Kd.R_far (p := ⟨gb128, 1, none⟩) (Kd.R_types HO144.out BK128.out (by decide)) (fun _ hk => hk.2) (.slice Ao35 y142.length co35)) (fun _ h_ => h_.1)))) k_ hk⟩)); (case aO => exact (by (with_reducible repeat (first | apply Kd.R_alloc | apply Kd.R_drewN | apply Kd.R_drew)); exact Kd.R_mono (Kd.R_far (p := ⟨gb128, 1, none⟩) (Kd.R_types HO_129002.out BK128.out (by decide)) (fun _ hk => hk.2) (.slice Ao35 y142.length co35)) (fun _ hk => ⟨hk.1.1, hk.1.2⟩))); (case aS => exact (below_size (by repeat (first | (with_reducible first | exact HB.out | apply below_alloc | apply pw_below_drewN | apply below_drew1 | refine below_set ?_ GE127.out | refine below_set ?_ GE128.out) | exact HB.out)))); (case aL => have := LMc30.out; omega); intro v146 w37 ho hb hg hat; rw [← Ny145.out] at ho; have n0_ := Aside0.mk (Kd.V_afterv (ok := (fun k_ => (P1_ k_ ∨ w.heap.size ≤ k_) ∧ some k_ ≠ (u129003 : Value).ownBlock ∧ some k_ ≠ (.slice Ao35 y142.length co35 : Value).ownBlock ∧ k_ ≠ gb127 ∧ k_ ≠ gb128)) (by (with_reducible repeat (first | apply Kd.V_alloc | apply Kd.V_drewN | apply Kd.V_drew)); exact Kd.V_mono (Kd.V_far (p := ⟨gb128, 1, none⟩) (Kd.V_mono HO_37.out (fun k_ hk => (⟨hk, hk.1.2.2.2.2⟩ : _ ∧ k_ ≠ gb128))) (fun _ hk => hk.2) (.slice Ao35 y142.length co35)) (fun _ hk => ⟨⟨hk.1.1.1, ⟨hk.1.1.2.2.1, ⟨hk.1.2, ⟨hk.1.1.2.2.2.1, hk.1.1.2.2.2.2⟩⟩⟩⟩, hk.1.1.2.1⟩)) hg hat); have n1_ := Aside0.mk (Kd.R_over' (by (with_reducible repeat (first | apply Kd.R_alloc | apply Kd.R_drewN | apply Kd.R_drew)); exact (Kd.R_mono (Kd.R_far (p := ⟨gb128, 1, none⟩) (Kd.R_types HO_129003.out BK128.out (by decide)) (fun _ hk => hk.2) (.slice Ao35 y142.length co35)) (fun _ h_ => h_.1))) (Kd.R_typed (by (with_reducible repeat (first | apply Kd.R_alloc | apply Kd.R_drewN | apply Kd.R_drew)); exact (Kd.R_mono (Kd.R_far (p := ⟨gb128, 1, none⟩) (Kd.R_types HO_129002.out BK128.out (by decide)) (fun _ hk => hk.2) (.slice Ao35 y142.length co35)) (fun _ h_ => h_.1)))) (by decide) hg); have n2_ := Aside0.mk (blk_grown (g := gb127) (o := .cells #[.bool x128000_2, .slice none 0 0, .slice none 0 0, .slice none 0 0] 25 (0, 0)) (by (with_reducible repeat (first | refine blk_drewN ?_ _ | refine blk_drew ?_ | refine blk_alloc ?_ _)); refine blk_far ?_ NB127_128.out _; (with_reducible repeat (first | refine blk_drewN ?_ _ | refine blk_drew ?_ | refine blk_alloc ?_ _)); exact BK127.out) hg (Kd.R_ne HO_129002.out BK127.out (by decide))); have n3_ := Aside0.mk (blk_grown (g := gb128) (o := .cells #[.bool true, .slice Ao35 y142.length co35, u129002, u129003] 25 (0, 0)) (by (with_reducible repeat (first | refine blk_drewN ?_ _ | refine blk_drew ?_ | refine blk_alloc ?_ _)); refine blk_put (cs := #[.bool true, u129001, u129002, u129003]) ?_ 1 _ rfl; (with_reducible repeat (first | refine blk_drewN ?_ _ | refine blk_drew ?_ | refine blk_alloc ?_ _)); exact BK128.out) hg (Kd.R_ne HO_129002.out BK128.out (by decide))); have n4_ := Aside0.mk (Kd.R_after (ok := (fun k_ => (w.heap.size ≤ k_))) (by (with_reducible repeat (first | apply Kd.R_alloc | apply Kd.R_drewN | apply Kd.R_drew)); exact Kd.R_mono (Kd.R_far (p := ⟨gb128, 1, none⟩) (Kd.R_types HO144.out BK128.out (by decide)) (fun _ hk => hk.2) (.slice Ao35 y142.length co35)) (fun _ hk => ⟨hk.1.1, hk.1.2⟩)) hg hat); have n5_ := Aside0.mk (hb); have n6_ := Aside0.mk (ho); clear HO_37; clear HO_129003; clear BK127; clear BK128; clear HO144; clear HB; clear HO_129002; have HO_37 := n0_; have HO_129003 := n1_; have BK127 := n2_; have BK128 := n3_; have HO144 := n4_; have HB := n5_; have HO147 := n6_; clear n0_ n1_ n2_ n3_ n4_ n5_ n6_; clear ho hb hg hat; obtain ⟨Ao38, co38, eo38⟩ := Kd.R_slice HO147.out; subst eo38; have hcz39_0 : w37.cell? ⟨gb128, 0, none⟩ = some (.bool true) := (blk_cell BK128.out 0).trans rfl; have hcz39_1 : w37.cell? ⟨gb128, 1, none⟩ = some (.slice Ao35 y142.length co35) := (blk_cell BK128.out 1).trans rfl; have hcz39_2 : w37.cell? ⟨gb128, 2, none⟩ = some (u129002) := (blk_cell BK128.out 2).trans rfl; have hcz39_3 : w37.cell? ⟨gb128, 3, none⟩ = some (u129003) := (blk_cell BK128.out 3).trans rfl; have hfz39_0 := blk_frozen BK128.out 0; have hfz39_1 := blk_frozen BK128.out 1; have hfz39_2 := blk_frozen BK128.out 2; have hfz39_3 := blk_frozen BK128.out 3))
                  go_roundg kj12
                  case measure => have := HJ2.out; have := HK2.out; have := HJ12.out; omega
                  case rel => exact ⟨(wrap64 (x39_2 + 1)), (x128000_2), (y142), (y145), (x129003_2), (.slice Ao35 y142.length co35), (.slice Ao38 y145.length co38), (u129003), (by first | rfl | (simp; done) | (simp [*]; done)), H', ⟨by have := HJ2.out; have := HK2.out; have := HJ12.out; omega⟩, ⟨by (with_reducible repeat (first | apply Kd.V_alloc | apply Kd.V_drewN | apply Kd.V_drew)); exact Kd.V_mono (Kd.V_far (p := ⟨gb128, 2, none⟩) (Kd.V_mono HO_37.out (fun k_ hk => (⟨hk, hk.1.2.2.2.2⟩ : _ ∧ k_ ≠ gb128))) (fun _ hk => hk.2) (.slice Ao38 y145.length co38)) (fun _ hk => ⟨hk.1.1.1, ⟨hk.1.1.2.2.1, ⟨hk.1.2, ⟨hk.1.1.2.1, ⟨hk.1.1.2.2.2.1, hk.1.1.2.2.2.2⟩⟩⟩⟩⟩)⟩, ⟨by (with_reducible repeat (first | apply Kd.R_alloc | apply Kd.R_drewN | apply Kd.R_drew)); exact Kd.R_mono (Kd.R_far (p := ⟨gb128, 2, none⟩) (Kd.R_types HO144.out BK128.out (by decide)) (fun _ hk => hk.2) (.slice Ao38 y145.length co38)) (fun _ hk => ⟨hk.1.1, hk.1.2⟩)⟩, ⟨by (with_reducible repeat (first | apply Kd.R_alloc | apply Kd.R_drewN | apply Kd.R_drew)); exact Kd.R_mono (Kd.R_far (p := ⟨gb128, 2, none⟩) (Kd.R_types HO147.out BK128.out (by decide)) (fun _ hk => hk.2) (.slice Ao38 y145.length co38)) (fun _ hk => ⟨hk.1.1, hk.1.2⟩)⟩, ⟨by (with_reducible repeat (first | apply Kd.R_alloc | apply Kd.R_drewN | apply Kd.R_drew)); exact Kd.R_mono (Kd.R_far (p := ⟨gb128, 2, none⟩) (Kd.R_types HO_129003.out BK128.out (by decide)) (fun _ hk => hk.2) (.slice Ao38 y145.length co38)) (fun _ hk => hk.1)⟩, ⟨by (with_reducible repeat (first | refine blk_drewN ?_ _ | refine blk_drew ?_ | refine blk_alloc ?_ _)); refine blk_far ?_ NB127_128.out _; (with_reducible repeat (first | refine blk_drewN ?_ _ | refine blk_drew ?_ | refine blk_alloc ?_ _)); exact BK127.out⟩, ⟨by (with_reducible repeat (first | refine blk_drewN ?_ _ | refine blk_drew ?_ | refine blk_alloc ?_ _)); refine blk_put (cs := #[.bool true, .slice Ao35 y142.length co35, u129002, u129003]) ?_ 2 _ rfl; (with_reducible repeat (first | refine blk_drewN ?_ _ | refine blk_drew ?_ | refine blk_alloc ?_ _)); exact BK128.out⟩, ⟨by repeat (first | (with_reducible first | exact HB.out | apply below_alloc | apply pw_below_drewN | apply below_drew1 | refine below_set ?_ GE127.out | refine below_set ?_ GE128.out) | exact HB.out)⟩⟩
                 ·rw [if_neg c30] at H
                  exact absurd H (by simp)
                ·replace c29 := Bool.eq_false_iff.mpr c29
                 subst c29
                 have H1 : (none) = some (r1, r2, r3, r4, r5) := by rw [if_neg (show ¬ (false = true) by decide)] at H; exact H
                 clear H
                 have H := H1
                 clear H1
                 exact absurd H (by simp)
               ·rw [if_neg c28] at H
                exact absurd H (by simp)
              ·rw [if_neg c26] at H
               exact absurd H (by simp)
             ·rw [if_neg c23] at H
              exact absurd H (by simp)
            ·rw [if_neg c22] at H
             exact absurd H (by simp)
           ·rw [if_neg c20] at H
            exact absurd H (by simp)
       ·rw [if_neg c12] at H
        exact absurd H (by simp)
      ·rw [if_neg c11] at H
       exact absurd H (by simp)
     ·rw [if_neg c10] at H
      have c10b0 : decide (x39_2 < (x1_2.length : Int)) = false := decide_eq_false c10
      clear c10
      replace H := Option.bind_eq_some_iff.mp H
      obtain ⟨t140, A400, H⟩ := H
      replace H : (if t140 = 0 then (some (a0, x129001_2, x129002_2, x129003_2, 0)) else (none)) = some (r1, r2, r3, r4, r5) := H
      have A40 := Aside0.mk A400
      clear A400
      by_cases c41 : t140 = 0
      ·rw [if_pos c41] at H
       have c41b0 : (t140 == 0) = true := beq_iff_eq.mpr c41
       have c41b1 : (t140 != 0) = false := bne_eq_false_iff_eq.mpr c41
       clear c41
       simp only [Option.some.injEq, Prod.mk.injEq] at H
       obtain ⟨rfl, rfl, rfl, rfl, rfl⟩ := H
       have hnb42 := NB128_127.out
       have hnc42 := NB127_128.out
       have hcz43_0 : wr.cell? ⟨gb128, 0, none⟩ = some (.bool a0) := (blk_cell BK128.out 0).trans rfl
       have hcz43_1 : wr.cell? ⟨gb128, 1, none⟩ = some (u129001) := (blk_cell BK128.out 1).trans rfl
       have hcz43_2 : wr.cell? ⟨gb128, 2, none⟩ = some (u129002) := (blk_cell BK128.out 2).trans rfl
       have hcz43_3 : wr.cell? ⟨gb128, 3, none⟩ = some (u129003) := (blk_cell BK128.out 3).trans rfl
       have hfz43_0 := blk_frozen BK128.out 0
       have hfz43_1 := blk_frozen BK128.out 1
       have hfz43_2 := blk_frozen BK128.out 2
       have hfz43_3 := blk_frozen BK128.out 3
       obtain ⟨Ao44, co44, eo44⟩ := Kd.R_slice HO_129001.out
       subst eo44
       obtain ⟨Ao45, co45, eo45⟩ := Kd.R_slice HO_129002.out
       subst eo45
       obtain ⟨Ao46, co46, eo46⟩ := Kd.R_slice HO_129003.out
       subst eo46
       go_wp2_with (first | ((with_reducible refine gate_callee (f := 17) rfl ?_); refine goesL_ (some 99) rfl rfl Try.func17 (by kernel_rfl) rfl #[.agg #[.bool a0, .slice Ao44 x129001_2.length co44, .slice Ao45 x129002_2.length co45, .slice Ao46 x129003_2.length co46]] rfl (by (try simp only [List.map_toArray, List.map_cons, List.map_nil]); first | done | rfl | (simp only [List.length_drop, List.length_take]; rfl)) ?_; (with_reducible refine (node_Check.calls a0 _ _ x129001_2 _ _ x129002_2 _ _ x129003_2 t140 _ ?side1 ?side2 ?side3 ?side4 ?side5 ?side6 A40.out).mono ?_); (case side1 => repeat (first | exact (Kd.R_reads' HO_129001.out).2.2 | (with_reducible refine Kd.C_alloc ?_ _) | (with_reducible refine Kd.C_drewN ?_ _) | (with_reducible refine Kd.C_drew ?_))); (case side2 => exact (Kd.R_reads' HO_129001.out).2.1); (case side3 => repeat (first | exact (Kd.R_reads' HO_129002.out).2.2 | (with_reducible refine Kd.C_alloc ?_ _) | (with_reducible refine Kd.C_drewN ?_ _) | (with_reducible refine Kd.C_drew ?_))); (case side4 => exact (Kd.R_reads' HO_129002.out).2.1); (case side5 => repeat (first | exact (Kd.R_reads' HO_129003.out).2.2 | (with_reducible refine Kd.C_alloc ?_ _) | (with_reducible refine Kd.C_drewN ?_ _) | (with_reducible refine Kd.C_drew ?_))); (case side6 => exact (Kd.R_reads' HO_129003.out).2.1); rintro e w47 ⟨rfl, hb⟩; refine ⟨_, rfl, ?_⟩; have n0_ := Aside0.mk (Kd.V_below (by (with_reducible repeat (first | apply Kd.V_alloc | apply Kd.V_drewN | apply Kd.V_drew)); exact HO_37.out) hb); have n1_ := Aside0.mk (Kd.R_below (by (with_reducible repeat (first | apply Kd.R_alloc | apply Kd.R_drewN | apply Kd.R_drew)); exact HO_129001.out) hb); have n2_ := Aside0.mk (Kd.R_below (by (with_reducible repeat (first | apply Kd.R_alloc | apply Kd.R_drewN | apply Kd.R_drew)); exact HO_129002.out) hb); have n3_ := Aside0.mk (Kd.R_below (by (with_reducible repeat (first | apply Kd.R_alloc | apply Kd.R_drewN | apply Kd.R_drew)); exact HO_129003.out) hb); have n4_ := Aside0.mk (blk_below (g := gb127) (o := .cells #[.bool x128000_2, .slice none 0 0, .slice none 0 0, .slice none 0 0] 25 (0, 0)) (by (with_reducible repeat (first | refine blk_drewN ?_ _ | refine blk_drew ?_ | refine blk_alloc ?_ _)); exact BK127.out) hb); have n5_ := Aside0.mk (blk_below (g := gb128) (o := .cells #[.bool a0, .slice Ao44 x129001_2.length co44, .slice Ao45 x129002_2.length co45, .slice Ao46 x129003_2.length co46] 25 (0, 0)) (by (with_reducible repeat (first | refine blk_drewN ?_ _ | refine blk_drew ?_ | refine blk_alloc ?_ _)); exact BK128.out) hb); have n6_ := Aside0.mk (below_step (by repeat (first | (with_reducible first | exact HB.out | apply below_alloc | apply pw_below_drewN | apply below_drew1 | refine below_set ?_ GE127.out | refine below_set ?_ GE128.out) | exact HB.out)) hb); clear HO_37; clear HO_129001; clear HO_129002; clear HO_129003; clear BK127; clear BK128; clear HB; have HO_37 := n0_; have HO_129001 := n1_; have HO_129002 := n2_; have HO_129003 := n3_; have BK127 := n4_; have BK128 := n5_; have HB := n6_; clear n0_ n1_ n2_ n3_ n4_ n5_ n6_; (try clear hb); (try clear hb2); (try clear hk); (try clear hi); have hcz48_0 : w47.cell? ⟨gb128, 0, none⟩ = some (.bool a0) := (blk_cell BK128.out 0).trans rfl; have hcz48_1 : w47.cell? ⟨gb128, 1, none⟩ = some (.slice Ao44 x129001_2.length co44) := (blk_cell BK128.out 1).trans rfl; have hcz48_2 : w47.cell? ⟨gb128, 2, none⟩ = some (.slice Ao45 x129002_2.length co45) := (blk_cell BK128.out 2).trans rfl; have hcz48_3 : w47.cell? ⟨gb128, 3, none⟩ = some (.slice Ao46 x129003_2.length co46) := (blk_cell BK128.out 3).trans rfl; have hfz48_0 := blk_frozen BK128.out 0; have hfz48_1 := blk_frozen BK128.out 1; have hfz48_2 := blk_frozen BK128.out 2; have hfz48_3 := blk_frozen BK128.out 3; have hcz49_0 : w47.cell? ⟨gb127, 0, none⟩ = some (.bool x128000_2) := (blk_cell BK127.out 0).trans rfl; have hcz49_1 : w47.cell? ⟨gb127, 1, none⟩ = some (.slice none 0 0) := (blk_cell BK127.out 1).trans rfl; have hcz49_2 : w47.cell? ⟨gb127, 2, none⟩ = some (.slice none 0 0) := (blk_cell BK127.out 2).trans rfl; have hcz49_3 : w47.cell? ⟨gb127, 3, none⟩ = some (.slice none 0 0) := (blk_cell BK127.out 3).trans rfl; have hfz49_0 := blk_frozen BK127.out 0; have hfz49_1 := blk_frozen BK127.out 1; have hfz49_2 := blk_frozen BK127.out 2; have hfz49_3 := blk_frozen BK127.out 3))
       refine bodyPost_ret (results_ct rfl _ _ gb127 25 #[.bool a0, .slice Ao44 x129001_2.length co44, .slice Ao45 x129002_2.length co45, .slice Ao46 x129003_2.length co46] (0, 0) _ rfl (by (with_reducible repeat (first | refine blk_drewN ?_ _ | refine blk_drew ?_ | refine blk_alloc ?_ _)); refine blk_put (cs := #[.bool a0, .slice Ao44 x129001_2.length co44, .slice Ao45 x129002_2.length co45, .slice none 0 0]) ?_ 3 _ rfl; (with_reducible repeat (first | refine blk_drewN ?_ _ | refine blk_drew ?_ | refine blk_alloc ?_ _)); refine blk_put (cs := #[.bool a0, .slice Ao44 x129001_2.length co44, .slice none 0 0, .slice none 0 0]) ?_ 2 _ rfl; (with_reducible repeat (first | refine blk_drewN ?_ _ | refine blk_drew ?_ | refine blk_alloc ?_ _)); refine blk_put (cs := #[.bool a0, .slice none 0 0, .slice none 0 0, .slice none 0 0]) ?_ 1 _ rfl; (with_reducible repeat (first | refine blk_drewN ?_ _ | refine blk_drew ?_ | refine blk_alloc ?_ _)); refine blk_put (cs := #[.bool x128000_2, .slice none 0 0, .slice none 0 0, .slice none 0 0]) ?_ 0 _ rfl; (with_reducible repeat (first | refine blk_drewN ?_ _ | refine blk_drew ?_ | refine blk_alloc ?_ _)); exact BK127.out) Try.underlying25 rfl (by kernel_rfl)) rfl ?_
       exact ⟨_, _, _, by first | rfl | (simp [errW_none, errW_some] <;> rfl) | (simp [*, errW_none, errW_some] <;> rfl), by (with_reducible repeat (first | apply Kd.R_alloc | apply Kd.R_drewN | apply Kd.R_drew)); exact Kd.R_mono (Kd.R_far (p := ⟨gb127, 3, none⟩) (Kd.R_far (p := ⟨gb127, 2, none⟩) (Kd.R_far (p := ⟨gb127, 1, none⟩) (Kd.R_far (p := ⟨gb127, 0, none⟩) (Kd.R_types HO_129001.out BK127.out (by decide)) (fun _ hk => hk.2) (.bool a0)) (fun _ hk => hk.2) (.slice Ao44 x129001_2.length co44)) (fun _ hk => hk.2) (.slice Ao45 x129002_2.length co45)) (fun _ hk => hk.2) (.slice Ao46 x129003_2.length co46)) (fun _ hk => ⟨hk.1.1, hk.1.2⟩), by (with_reducible repeat (first | apply Kd.R_alloc | apply Kd.R_drewN | apply Kd.R_drew)); exact Kd.R_mono (Kd.R_far (p := ⟨gb127, 3, none⟩) (Kd.R_far (p := ⟨gb127, 2, none⟩) (Kd.R_far (p := ⟨gb127, 1, none⟩) (Kd.R_far (p := ⟨gb127, 0, none⟩) (Kd.R_types HO_129002.out BK127.out (by decide)) (fun _ hk => hk.2) (.bool a0)) (fun _ hk => hk.2) (.slice Ao44 x129001_2.length co44)) (fun _ hk => hk.2) (.slice Ao45 x129002_2.length co45)) (fun _ hk => hk.2) (.slice Ao46 x129003_2.length co46)) (fun _ hk => ⟨hk.1.1, hk.1.2⟩), by (with_reducible repeat (first | apply Kd.R_alloc | apply Kd.R_drewN | apply Kd.R_drew)); exact Kd.R_mono (Kd.R_far (p := ⟨gb127, 3, none⟩) (Kd.R_far (p := ⟨gb127, 2, none⟩) (Kd.R_far (p := ⟨gb127, 1, none⟩) (Kd.R_far (p := ⟨gb127, 0, none⟩) (Kd.R_types HO_129003.out BK127.out (by decide)) (fun _ hk => hk.2) (.bool a0)) (fun _ hk => hk.2) (.slice Ao44 x129001_2.length co44)) (fun _ hk => hk.2) (.slice Ao45 x129002_2.length co45)) (fun _ hk => hk.2) (.slice Ao46 x129003_2.length co46)) (fun _ hk => hk.1), by repeat (first | (with_reducible first | exact HB.out | apply below_alloc | apply pw_below_drewN | apply below_drew1 | refine below_set ?_ GE127.out | refine below_set ?_ GE128.out) | exact HB.out)⟩
      ·rw [if_neg c41] at H
       exact absurd H (by simp)

end Go.Proofs.Ytpdlbebiapimoaa.PN
