-- Written for this claim by hprint.py, a program of this session over the kit's printer; Lean checks it.
import Derived.Test.YtpdlbebiapimoaaPN0
import Derived.Test.YtpdlbebiapimoaaPN6
import Derived.Test.YtpdlbebiapimoaaHCheck
namespace Go.Proofs.Ytpdlbebiapimoaa.PN
open Go.RowKit Go.Proofs.YtpdlbebiapimoaaW.PrintWords Go.Proofs.YtpdlbebiapimoaaW.PrintLast Go.Proofs.YtpdlbebiapimoaaW.PrintMore
attribute [local go_sem] max2_int min2_int max_two min_two max_three min_three max_four min_four   -- for this text's walks alone
set_option linter.unusedVariables false
set_option linter.unusedSimpArgs false

/-! ### node_Of: function 20 -/
mutual
def node_Of.j0 : Nat → Bool → List ByteArray → Bool → List Int → Option (Bool × List ByteArray × List ByteArray × List Int × Int)
 | 0, _, _, _, _ => none
 | k + 1, x0, x1, x129000, x129003 => node_Of.l0 k x0 x1 (x1.length : Int) 0 x129000 ([] : List ByteArray) ([] : List ByteArray) x129003
def node_Of.l0 : Nat → Bool → List ByteArray → Int → Int → Bool → List ByteArray → List ByteArray → List Int → Option (Bool × List ByteArray × List ByteArray × List Int × Int)
 | 0, _, _, _, _, _, _, _, _ => none
 | k + 1, x0, x37, x38, x39, x129000, x129001, x129002, x129003 => if x39 < x38 then (if 0 ≤ x39 then (if x39 < (x37.length : Int) then (if (rdOf ByteArray.empty x37 x39).toList = ([] : List UInt8) then (node_Of.j2 k x0 (rdOf ByteArray.empty x37 x39) x37 x38 x39 true x129000 x129001 x129002 x129003) else (if 0 < ((rdOf ByteArray.empty x37 x39).size : Int) then (if (wrap64 (bt (rdOf ByteArray.empty x37 x39) 0)) ≥ ((rdOf ByteArray.empty x37 x39).size : Int) then (node_Of.j2 k x0 (rdOf ByteArray.empty x37 x39) x37 x38 x39 ((bt (rdOf ByteArray.empty x37 x39) 0) != 0) x129000 x129001 x129002 x129003) else (node_Of.j2 k x0 (rdOf ByteArray.empty x37 x39) x37 x38 x39 false x129000 x129001 x129002 x129003)) else (none))) else (none)) else (none)) else ((node_Check.f x129000 x129001 x129002 x129003).bind fun t140 => (if t140 = 0 then (some (x129000, x129001, x129002, x129003, 0)) else (some (false, ([] : List ByteArray), ([] : List ByteArray), ([] : List Int), 50))))
def node_Of.j2 : Nat → Bool → ByteArray → List ByteArray → Int → Int → Bool → Bool → List ByteArray → List ByteArray → List Int → Option (Bool × List ByteArray × List ByteArray × List Int × Int)
 | 0, _, _, _, _, _, _, _, _, _, _ => none
 | k + 1, x0, x8, x37, x38, x39, x57, x129000, x129001, x129002, x129003 => if x57 = true then (some (false, ([] : List ByteArray), ([] : List ByteArray), ([] : List Int), 50)) else (if 0 < (x8.size : Int) then (if 1 ≤ (wrap64 (1 + (wrap64 (bt x8 0)))) then (if (wrap64 (1 + (wrap64 (bt x8 0)))) ≤ (x8.size : Int) then (if 0 ≤ (wrap64 (1 + (wrap64 (bt x8 0)))) then (if x129001.length < 8796093022208 then ((some (x129001 ++ [x8.extract 1 ((wrap64 (1 + (wrap64 (bt x8 0)))) : Int).toNat] : List ByteArray)).bind fun y142 => (if x0 = true then (if x129002.length < 8796093022208 then (node_Of.l0 k x0 x37 x38 (wrap64 (x39 + 1)) x129000 y142 (x129002 ++ [x8.extract ((wrap64 (1 + (wrap64 (bt x8 0)))) : Int).toNat x8.size]) x129003) else (none)) else (if ((x8.extract ((wrap64 (1 + (wrap64 (bt x8 0)))) : Int).toNat x8.size).size : Int) = 4 then ((node_number.f (x8.extract ((wrap64 (1 + (wrap64 (bt x8 0)))) : Int).toNat x8.size)).bind fun t148 => (if x129003.length < 17592186044416 then (node_Of.l0 k x0 x37 x38 (wrap64 (x39 + 1)) x129000 y142 x129002 (x129003 ++ [t148])) else (none))) else (some (false, ([] : List ByteArray), ([] : List ByteArray), ([] : List Int), 50))))) else (none)) else (none)) else (none)) else (none)) else (none))
end
def node_Of.f (k : Nat) (a0 : Bool) (l1 : List ByteArray) : Option (Bool × List ByteArray × List ByteArray × List Int × Int) := if a0 = true then (node_Of.j0 k a0 l1 a0 ([] : List Int)) else (if (l1.length : Int) = 0 then (some (false, ([] : List ByteArray), ([] : List ByteArray), ([] : List Int), 50)) else (if 0 < (l1.length : Int) then (if ((rdOf ByteArray.empty l1 0).size : Int) = 4 then ((node_number.f (rdOf ByteArray.empty l1 0)).bind fun t131 => (if ([] : List Int).length < 17592186044416 then (if 1 ≤ (l1.length : Int) then (node_Of.j0 k a0 (l1.drop 1) a0 (([] : List Int) ++ [t131])) else (none)) else (none))) else (some (false, ([] : List ByteArray), ([] : List ByteArray), ([] : List Int), 50))) else (none)))
theorem node_Of.mono_l : ∀ k, (∀ y0 y1 y2 y3, LeO (node_Of.j0 k y0 y1 y2 y3) (node_Of.j0 (k + 1) y0 y1 y2 y3)) ∧ (∀ y0 y1 y2 y3 y4 y5 y6 y7, LeO (node_Of.l0 k y0 y1 y2 y3 y4 y5 y6 y7) (node_Of.l0 (k + 1) y0 y1 y2 y3 y4 y5 y6 y7)) ∧ (∀ y0 y1 y2 y3 y4 y5 y6 y7 y8 y9, LeO (node_Of.j2 k y0 y1 y2 y3 y4 y5 y6 y7 y8 y9) (node_Of.j2 (k + 1) y0 y1 y2 y3 y4 y5 y6 y7 y8 y9))
 | 0 => ⟨fun _ _ _ _ r h => by simp [node_Of.j0] at h, fun _ _ _ _ _ _ _ _ r h => by simp [node_Of.l0] at h, fun _ _ _ _ _ _ _ _ _ _ r h => by simp [node_Of.j2] at h⟩
 | k + 1 => by
  obtain ⟨ih0, ih1, ih2⟩ := node_Of.mono_l k
  refine ⟨?_, ?_, ?_⟩
  ·intro y0 y1 y2 y3
   unfold node_Of.j0
   repeat' first
   | (with_reducible exact ih0 _ _ _ _)
   | (with_reducible exact ih1 _ _ _ _ _ _ _ _)
   | (with_reducible exact ih2 _ _ _ _ _ _ _ _ _ _)
   | (with_reducible exact LeO.refl _)
   | (with_reducible exact LeO.none _)
   | (with_reducible refine LeO.ite ?_ ?_)
   | (with_reducible refine LeO.bind ?_ (fun _ => ?_))
   | exact ih0 _ _ _ _
   | exact ih1 _ _ _ _ _ _ _ _
   | exact ih2 _ _ _ _ _ _ _ _ _ _
   | exact LeO.none _
   | refine LeO.ite ?_ ?_
   | refine LeO.bind ?_ (fun _ => ?_)
  ·intro y0 y1 y2 y3 y4 y5 y6 y7
   unfold node_Of.l0
   repeat' first
   | (with_reducible exact ih0 _ _ _ _)
   | (with_reducible exact ih1 _ _ _ _ _ _ _ _)
   | (with_reducible exact ih2 _ _ _ _ _ _ _ _ _ _)
   | (with_reducible exact LeO.refl _)
   | (with_reducible exact LeO.none _)
   | (with_reducible refine LeO.ite ?_ ?_)
   | (with_reducible refine LeO.bind ?_ (fun _ => ?_))
   | exact ih0 _ _ _ _
   | exact ih1 _ _ _ _ _ _ _ _
   | exact ih2 _ _ _ _ _ _ _ _ _ _
   | exact LeO.none _
   | refine LeO.ite ?_ ?_
   | refine LeO.bind ?_ (fun _ => ?_)
  ·intro y0 y1 y2 y3 y4 y5 y6 y7 y8 y9
   unfold node_Of.j2
   repeat' first
   | (with_reducible exact ih0 _ _ _ _)
   | (with_reducible exact ih1 _ _ _ _ _ _ _ _)
   | (with_reducible exact ih2 _ _ _ _ _ _ _ _ _ _)
   | (with_reducible exact LeO.refl _)
   | (with_reducible exact LeO.none _)
   | (with_reducible refine LeO.ite ?_ ?_)
   | (with_reducible refine LeO.bind ?_ (fun _ => ?_))
   | exact ih0 _ _ _ _
   | exact ih1 _ _ _ _ _ _ _ _
   | exact ih2 _ _ _ _ _ _ _ _ _ _
   | exact LeO.none _
   | refine LeO.ite ?_ ?_
   | refine LeO.bind ?_ (fun _ => ?_)
theorem node_Of.mono : ∀ a0 a1 k, LeO (node_Of.f k a0 a1) (node_Of.f (k + 1) a0 a1) := by
 intro a0 a1 k
 obtain ⟨ih0, ih1, ih2⟩ := node_Of.mono_l k
 unfold node_Of.f
 repeat' first
   | (with_reducible exact ih0 _ _ _ _)
   | (with_reducible exact ih1 _ _ _ _ _ _ _ _)
   | (with_reducible exact ih2 _ _ _ _ _ _ _ _ _ _)
   | (with_reducible exact LeO.refl _)
   | (with_reducible exact LeO.none _)
   | (with_reducible refine LeO.ite ?_ ?_)
   | (with_reducible refine LeO.bind ?_ (fun _ => ?_))
   | exact ih0 _ _ _ _
   | exact ih1 _ _ _ _ _ _ _ _
   | exact ih2 _ _ _ _ _ _ _ _ _ _
   | exact LeO.none _
   | refine LeO.ite ?_ ?_
   | refine LeO.bind ?_ (fun _ => ?_)
def node_Of.T5 : Bool × List (List Nat × List Nat) := (true, [([], []), ([0], [0]), ([], []), ([2], [2]), ([3], [3]), ([4], [4]), ([5], [5]), ([1, 6, 5], [1, 6]), ([0, 1, 2, 3, 4, 5, 6, 7], []), ([8, 7, 7, 0, 1, 2, 3, 4, 5, 6, 7], [7, 8])])
def node_Of.B5 : List Nat := [0, 1, 0, 4, 12, 28, 60, 127, 255, 511]
theorem node_Of.tab5 : rtab .any (opsOf Try.f20 5) = node_Of.T5 := by kernel_rfl
theorem node_Of.bits5 : waitsOk node_Of.T5.2 node_Of.B5 = true := by kernel_rfl
def node_Of.T12 : Bool × List (List Nat × List Nat) := (true, [([], []), ([], []), ([1], [1]), ([2], [2]), ([3], [3]), ([0, 4], [0, 4]), ([], []), ([], []), ([7], [7]), ([8], [8]), ([9], [9]), ([6, 10], [6, 10]), ([5, 0, 1, 2, 3, 4, 5], [5]), ([11, 12, 0, 1, 2, 3, 4, 5, 6, 7, 8, 9, 10, 11, 12], [11])])
def node_Of.B12 : List Nat := [0, 0, 2, 6, 14, 31, 0, 0, 128, 384, 896, 1984, 63, 8191]
theorem node_Of.tab12 : rtab .any (opsOf Try.f20 12) = node_Of.T12 := by kernel_rfl
theorem node_Of.bits12 : waitsOk node_Of.T12.2 node_Of.B12 = true := by kernel_rfl
def node_Of.T14 : Bool × List (List Nat × List Nat) := (true, [([], []), ([0], [0]), ([], []), ([2], [2]), ([3], [3]), ([1, 4, 3], [1, 4]), ([0, 1, 2, 3, 4, 5], []), ([6, 5, 5, 0, 1, 2, 3, 4, 5], [5, 6])])
def node_Of.B14 : List Nat := [0, 1, 0, 4, 12, 31, 63, 127]
theorem node_Of.tab14 : rtab .any (opsOf Try.f20 14) = node_Of.T14 := by kernel_rfl
theorem node_Of.bits14 : waitsOk node_Of.T14.2 node_Of.B14 = true := by kernel_rfl
set_option maxHeartbeats 8000000 in
set_option maxRecDepth 100000 in
theorem node_Of.calls (k : Nat) (a0 : Bool) (P1_ : Nat → Prop) (A1 : Option Addr) (c1 : Nat) (l1 : List ByteArray) (r1 : Bool) (r2 : List ByteArray) (r3 : List ByteArray) (r4 : List Int) (r5 : Int) (w : World) (hs1 : Kd.V Kd.string 9 w w.heap.size (fun k_ => P1_ k_) (.slice A1 l1.length c1) l1) (h : node_Of.f k a0 l1 = some (r1, r2, r3, r4, r5)) :
  Calls Try.prog 20 #[.bool a0, .slice A1 l1.length c1] w fun e w' => ∃ v1_ v2_ v3_ : Value, e = .returned (.tuple #[.agg #[.bool r1, v1_, v2_, v3_], .int .i64 r5]) ∧ Kd.R Kd.string 9 w' w.heap.size (fun k_ => (w.heap.size ≤ k_) ∧ some k_ ≠ (v2_ : Value).ownBlock) v1_ r2 ∧ Kd.R Kd.string 9 w' w.heap.size (fun k_ => (w.heap.size ≤ k_) ∧ some k_ ≠ (v1_ : Value).ownBlock) v2_ r3 ∧ Kd.R (Kd.int .i64) 3 w' w.heap.size (fun k_ => (w.heap.size ≤ k_)) v3_ r4 ∧ Below w.heap.size w w' := by
 have hu25 := Try.underlying25
 have HO1 := Aside0.mk (show Kd.V Kd.string 9 w w.heap.size (fun k_ => (P1_ k_ ∨ w.heap.size ≤ k_)) (.slice A1 l1.length c1) l1 from Kd.V_mono hs1 (fun k_ hk => .inl hk))
 have HB := Aside0.mk (Below.refl w.heap.size w)
 have H : (if a0 = true then (node_Of.j0 k a0 l1 a0 ([] : List Int)) else (if (l1.length : Int) = 0 then (some (false, ([] : List ByteArray), ([] : List ByteArray), ([] : List Int), 50)) else (if 0 < (l1.length : Int) then (if ((rdOf ByteArray.empty l1 0).size : Int) = 4 then ((node_number.f (rdOf ByteArray.empty l1 0)).bind fun t131 => (if ([] : List Int).length < 17592186044416 then (if 1 ≤ (l1.length : Int) then (node_Of.j0 k a0 (l1.drop 1) a0 (([] : List Int) ++ [t131])) else (none)) else (none))) else (some (false, ([] : List ByteArray), ([] : List ByteArray), ([] : List Int), 50))) else (none)))) = some (r1, r2, r3, r4, r5) := h
 clear h
 have HC3 := Aside0.mk H
 clear H
 go_enter Try.func20, Try.ntmps20
 go_upto_if 14 with (first | ((with_reducible refine gate_dst (N := 4) rfl ?_); (try (refine gate_guard (by rfl) ?_; dsimp only)); refine box_event ?hg (N := 4) ?hd (cs := #[.bool false, .slice none 0 0, .slice none 0 0, .slice none 0 0]) (t := 25) ?hr ?_; (case hd => rfl); (case hg => rfl); (case hr => first | (go_simp; done) | (go_simp; rfl)); intro gb127 hg w4 hbox hb; have n0_ := Aside0.mk (Kd.V_below (Kd.V_elderB (by (with_reducible repeat (first | apply Kd.V_alloc | apply Kd.V_drewN | apply Kd.V_drew)); exact HO1.out) gb127 (Nat.le_of_eq hg.symm)) hb); have n1_ := Aside0.mk (below_step (by repeat (first | (with_reducible first | exact HB.out | apply below_alloc | apply pw_below_drewN | apply below_drew1) | exact HB.out)) hb); have n2_ := Aside0.mk (hbox); have n3_ := Aside0.mk ((by rw [hg]; exact (below_size (by repeat (first | (with_reducible first | exact HB.out | apply below_alloc | apply pw_below_drewN | apply below_drew1) | exact HB.out))) : w.heap.size ≤ gb127)); have n4_ := Aside0.mk ((by rw [hg]; exact (below_size (by repeat (first | (with_reducible first | exact HB.out | apply below_alloc | apply pw_below_drewN | apply below_drew1) | exact HB.out))) : w.heap.size ≤ gb127)); clear HO1; clear HB; have HO1 := n0_; have HB := n1_; have BK127 := n2_; have GW127 := n3_; have GE127 := n4_; clear n0_ n1_ n2_ n3_ n4_; clear hb hbox hg) | ((with_reducible refine gate_dst (N := 6) rfl ?_); (try (refine gate_guard (by rfl) ?_; dsimp only)); refine box_event ?hg (N := 6) ?hd (cs := #[.bool false, .slice none 0 0, .slice none 0 0, .slice none 0 0]) (t := 25) ?hr ?_; (case hd => rfl); (case hg => rfl); (case hr => first | (go_simp; done) | (go_simp; rfl)); intro gb128 hg w5 hbox hb; have n0_ := Aside0.mk (Kd.V_below (Kd.V_elderB (by (with_reducible repeat (first | apply Kd.V_alloc | apply Kd.V_drewN | apply Kd.V_drew)); exact HO1.out) gb128 (Nat.le_of_eq hg.symm)) hb); have n1_ := Aside0.mk (blk_below (g := gb127) (o := .cells #[.bool false, .slice none 0 0, .slice none 0 0, .slice none 0 0] 25 (0, 0)) (by (with_reducible repeat (first | refine blk_drewN ?_ _ | refine blk_drew ?_ | refine blk_alloc ?_ _)); exact BK127.out) hb); have n2_ := Aside0.mk (below_step (by repeat (first | (with_reducible first | exact HB.out | apply below_alloc | apply pw_below_drewN | apply below_drew1 | refine below_set ?_ GE127.out) | exact HB.out)) hb); have n3_ := Aside0.mk (hbox); have n4_ := Aside0.mk ((by rw [hg]; exact (below_size (by repeat (first | (with_reducible first | exact HB.out | apply below_alloc | apply pw_below_drewN | apply below_drew1 | refine below_set ?_ GE127.out) | exact HB.out))) : w.heap.size ≤ gb128)); have n5_ := Aside0.mk ((by rw [hg]; exact (below_size (by repeat (first | (with_reducible first | exact HB.out | apply below_alloc | apply pw_below_drewN | apply below_drew1 | refine below_set ?_ GE127.out) | exact HB.out))) : w.heap.size ≤ gb128)); have n6_ := Aside0.mk ((by rw [hg]; exact Nat.ne_of_lt (blk_lt (g := gb127) (o := .cells #[.bool false, .slice none 0 0, .slice none 0 0, .slice none 0 0] 25 (0, 0)) (by (with_reducible repeat (first | refine blk_drewN ?_ _ | refine blk_drew ?_ | refine blk_alloc ?_ _)); exact BK127.out)) : gb127 ≠ gb128)); have n7_ := Aside0.mk ((by rw [hg]; exact Nat.ne_of_gt (blk_lt (g := gb127) (o := .cells #[.bool false, .slice none 0 0, .slice none 0 0, .slice none 0 0] 25 (0, 0)) (by (with_reducible repeat (first | refine blk_drewN ?_ _ | refine blk_drew ?_ | refine blk_alloc ?_ _)); exact BK127.out)) : gb128 ≠ gb127)); clear HO1; clear BK127; clear HB; have HO1 := n0_; have BK127 := n1_; have HB := n2_; have BK128 := n3_; have GW128 := n4_; have GE128 := n5_; have NB127_128 := n6_; have NB128_127 := n7_; clear n0_ n1_ n2_ n3_ n4_ n5_ n6_ n7_; clear hb hbox hg; have hnb6 := NB128_127.out; have hnc6 := NB127_128.out; have hcz7_0 : w5.cell? ⟨gb128, 0, none⟩ = some (.bool false) := (blk_cell BK128.out 0).trans rfl; have hcz7_1 : w5.cell? ⟨gb128, 1, none⟩ = some (.slice none 0 0) := (blk_cell BK128.out 1).trans rfl; have hcz7_2 : w5.cell? ⟨gb128, 2, none⟩ = some (.slice none 0 0) := (blk_cell BK128.out 2).trans rfl; have hcz7_3 : w5.cell? ⟨gb128, 3, none⟩ = some (.slice none 0 0) := (blk_cell BK128.out 3).trans rfl; have hfz7_0 := blk_frozen BK128.out 0; have hfz7_1 := blk_frozen BK128.out 1; have hfz7_2 := blk_frozen BK128.out 2; have hfz7_3 := blk_frozen BK128.out 3))
 (try simp only [Act.put, List.setIfInBounds_toArray, List.set_cons_zero, List.set_cons_succ])
 go_cut [1] (fun v1 wc => ∃ (kq : Nat) (x1_2 : List ByteArray) (x128000_2 : Bool) (x129003_2 : List Int) (u129003 : Value), Aside0 (node_Of.j0 kq a0 x1_2 a0 x129003_2 = some (r1, r2, r3, r4, r5)) ∧ Aside0 (kq ≤ k) ∧ Aside0 (Kd.V Kd.string 9 wc w.heap.size (fun k_ => (P1_ k_ ∨ w.heap.size ≤ k_) ∧ some k_ ≠ (u129003 : Value).ownBlock ∧ k_ ≠ gb127 ∧ k_ ≠ gb128) v1 x1_2) ∧ Aside0 (Kd.R (Kd.int .i64) 3 wc w.heap.size (fun k_ => (w.heap.size ≤ k_)) u129003 x129003_2) ∧ Aside0 (wc.heap[gb127]? = some (.cells #[.bool x128000_2, (.slice none 0 0), (.slice none 0 0), (.slice none 0 0)] 25 (0, 0))) ∧ Aside0 (wc.heap[gb128]? = some (.cells #[.bool a0, (.slice none 0 0), (.slice none 0 0), u129003] 25 (0, 0))) ∧ Aside0 (Below w.heap.size w wc))
 case first =>
  have H := HC3.out
  clear HC3
  by_cases c8 : a0 = true
  ·subst c8
   have H1 : (node_Of.j0 k true l1 true ([] : List Int)) = some (r1, r2, r3, r4, r5) := by rw [if_pos rfl] at H; exact H
   clear H
   have H := H1
   clear H1
   have H' := Aside0.mk H
   clear H
   go_wp2
   go_meet
   case rel => exact ⟨_, (l1), (false), (([] : List Int)), (.slice none 0 0), H', ⟨by first | omega | exact Nat.le_refl _⟩, ⟨by (with_reducible repeat (first | apply Kd.V_alloc | apply Kd.V_drewN | apply Kd.V_drew)); exact Kd.V_mono (Kd.V_far (p := ⟨gb128, 3, none⟩) (Kd.V_far (p := ⟨gb128, 2, none⟩) (Kd.V_far (p := ⟨gb128, 1, none⟩) (Kd.V_far (p := ⟨gb128, 0, none⟩) (Kd.V_mono HO1.out (fun k_ hk => (⟨hk, hk.2⟩ : _ ∧ k_ ≠ gb128))) (fun _ hk => hk.2) (.bool true)) (fun _ hk => hk.2) (.slice none 0 0)) (fun _ hk => hk.2) (.slice none 0 0)) (fun _ hk => hk.2) (.slice none 0 0)) (fun _ hk => ⟨hk.1.1.1, ⟨(by simp [Value.ownBlock]), ⟨hk.1.1.2, hk.1.2⟩⟩⟩)⟩, ⟨by first | exact Kd.R_nil _ _ _ _ _ | exact Kd.N_nil _ _ _ _ _ | exact Kd.V_nil _ _ _ _ _ | exact Kd.Q_nil _ _ _ _ _ | exact Kd.S_nil _ _ _ _ _⟩, ⟨by (with_reducible repeat (first | refine blk_drewN ?_ _ | refine blk_drew ?_ | refine blk_alloc ?_ _)); refine blk_far ?_ NB127_128.out _; (with_reducible repeat (first | refine blk_drewN ?_ _ | refine blk_drew ?_ | refine blk_alloc ?_ _)); refine blk_far ?_ NB127_128.out _; (with_reducible repeat (first | refine blk_drewN ?_ _ | refine blk_drew ?_ | refine blk_alloc ?_ _)); refine blk_far ?_ NB127_128.out _; (with_reducible repeat (first | refine blk_drewN ?_ _ | refine blk_drew ?_ | refine blk_alloc ?_ _)); refine blk_far ?_ NB127_128.out _; (with_reducible repeat (first | refine blk_drewN ?_ _ | refine blk_drew ?_ | refine blk_alloc ?_ _)); exact BK127.out⟩, ⟨by (with_reducible repeat (first | refine blk_drewN ?_ _ | refine blk_drew ?_ | refine blk_alloc ?_ _)); refine blk_put (cs := #[.bool true, .slice none 0 0, .slice none 0 0, .slice none 0 0]) ?_ 3 _ rfl; (with_reducible repeat (first | refine blk_drewN ?_ _ | refine blk_drew ?_ | refine blk_alloc ?_ _)); refine blk_put (cs := #[.bool true, .slice none 0 0, .slice none 0 0, .slice none 0 0]) ?_ 2 _ rfl; (with_reducible repeat (first | refine blk_drewN ?_ _ | refine blk_drew ?_ | refine blk_alloc ?_ _)); refine blk_put (cs := #[.bool true, .slice none 0 0, .slice none 0 0, .slice none 0 0]) ?_ 1 _ rfl; (with_reducible repeat (first | refine blk_drewN ?_ _ | refine blk_drew ?_ | refine blk_alloc ?_ _)); refine blk_put (cs := #[.bool false, .slice none 0 0, .slice none 0 0, .slice none 0 0]) ?_ 0 _ rfl; (with_reducible repeat (first | refine blk_drewN ?_ _ | refine blk_drew ?_ | refine blk_alloc ?_ _)); exact BK128.out⟩, ⟨by repeat (first | (with_reducible first | exact HB.out | apply below_alloc | apply pw_below_drewN | apply below_drew1 | refine below_set ?_ GE127.out | refine below_set ?_ GE128.out) | exact HB.out)⟩⟩
  ·replace c8 := Bool.eq_false_iff.mpr c8
   subst c8
   have H1 : (if (l1.length : Int) = 0 then (some (false, ([] : List ByteArray), ([] : List ByteArray), ([] : List Int), 50)) else (if 0 < (l1.length : Int) then (if ((rdOf ByteArray.empty l1 0).size : Int) = 4 then ((node_number.f (rdOf ByteArray.empty l1 0)).bind fun t131 => (if ([] : List Int).length < 17592186044416 then (if 1 ≤ (l1.length : Int) then (node_Of.j0 k false (l1.drop 1) false (([] : List Int) ++ [t131])) else (none)) else (none))) else (some (false, ([] : List ByteArray), ([] : List ByteArray), ([] : List Int), 50))) else (none))) = some (r1, r2, r3, r4, r5) := by rw [if_neg (show ¬ (false = true) by decide)] at H; exact H
   clear H
   have H := H1
   clear H1
   by_cases c9 : (l1.length : Int) = 0
   ·rw [if_pos c9] at H
    have c9b0 : ((l1.length : Int) == 0) = true := beq_iff_eq.mpr c9
    have c9b1 : ((l1.length : Int) != 0) = false := bne_eq_false_iff_eq.mpr c9
    clear c9
    (first | rw [c9b0] | (simp only [i64_w, i32_w]; rw [c9b0]) | skip)
    simp only [Option.some.injEq, Prod.mk.injEq] at H
    obtain ⟨rfl, rfl, rfl, rfl, rfl⟩ := H
    have hnb10 := NB127_128.out
    have hnc10 := NB128_127.out
    have hcz11_0 : w5.cell? ⟨gb127, 0, none⟩ = some (.bool false) := (blk_cell BK127.out 0).trans rfl
    have hcz11_1 : w5.cell? ⟨gb127, 1, none⟩ = some (.slice none 0 0) := (blk_cell BK127.out 1).trans rfl
    have hcz11_2 : w5.cell? ⟨gb127, 2, none⟩ = some (.slice none 0 0) := (blk_cell BK127.out 2).trans rfl
    have hcz11_3 : w5.cell? ⟨gb127, 3, none⟩ = some (.slice none 0 0) := (blk_cell BK127.out 3).trans rfl
    have hfz11_0 := blk_frozen BK127.out 0
    have hfz11_1 := blk_frozen BK127.out 1
    have hfz11_2 := blk_frozen BK127.out 2
    have hfz11_3 := blk_frozen BK127.out 3
    go_wp2
    refine bodyPost_ret (results_ct rfl _ _ gb127 25 #[.bool false, .slice none 0 0, .slice none 0 0, .slice none 0 0] (0, 0) _ rfl (by (with_reducible repeat (first | refine blk_drewN ?_ _ | refine blk_drew ?_ | refine blk_alloc ?_ _)); refine blk_put (cs := #[.bool false, .slice none 0 0, .slice none 0 0, .slice none 0 0]) ?_ 3 _ rfl; (with_reducible repeat (first | refine blk_drewN ?_ _ | refine blk_drew ?_ | refine blk_alloc ?_ _)); refine blk_put (cs := #[.bool false, .slice none 0 0, .slice none 0 0, .slice none 0 0]) ?_ 2 _ rfl; (with_reducible repeat (first | refine blk_drewN ?_ _ | refine blk_drew ?_ | refine blk_alloc ?_ _)); refine blk_put (cs := #[.bool false, .slice none 0 0, .slice none 0 0, .slice none 0 0]) ?_ 1 _ rfl; (with_reducible repeat (first | refine blk_drewN ?_ _ | refine blk_drew ?_ | refine blk_alloc ?_ _)); refine blk_put (cs := #[.bool false, .slice none 0 0, .slice none 0 0, .slice none 0 0]) ?_ 0 _ rfl; (with_reducible repeat (first | refine blk_drewN ?_ _ | refine blk_drew ?_ | refine blk_alloc ?_ _)); refine blk_far ?_ NB127_128.out _; (with_reducible repeat (first | refine blk_drewN ?_ _ | refine blk_drew ?_ | refine blk_alloc ?_ _)); refine blk_far ?_ NB127_128.out _; (with_reducible repeat (first | refine blk_drewN ?_ _ | refine blk_drew ?_ | refine blk_alloc ?_ _)); refine blk_far ?_ NB127_128.out _; (with_reducible repeat (first | refine blk_drewN ?_ _ | refine blk_drew ?_ | refine blk_alloc ?_ _)); refine blk_far ?_ NB127_128.out _; (with_reducible repeat (first | refine blk_drewN ?_ _ | refine blk_drew ?_ | refine blk_alloc ?_ _)); exact BK127.out) Try.underlying25 rfl (by kernel_rfl)) rfl ?_
    exact ⟨_, _, _, by first | rfl | (simp [errW_none, errW_some] <;> rfl) | (simp [*, errW_none, errW_some] <;> rfl), by first | exact Kd.R_nil _ _ _ _ _ | exact Kd.N_nil _ _ _ _ _ | exact Kd.V_nil _ _ _ _ _ | exact Kd.Q_nil _ _ _ _ _ | exact Kd.S_nil _ _ _ _ _, by first | exact Kd.R_nil _ _ _ _ _ | exact Kd.N_nil _ _ _ _ _ | exact Kd.V_nil _ _ _ _ _ | exact Kd.Q_nil _ _ _ _ _ | exact Kd.S_nil _ _ _ _ _, by first | exact Kd.R_nil _ _ _ _ _ | exact Kd.N_nil _ _ _ _ _ | exact Kd.V_nil _ _ _ _ _ | exact Kd.Q_nil _ _ _ _ _ | exact Kd.S_nil _ _ _ _ _, by repeat (first | (with_reducible first | exact HB.out | apply below_alloc | apply pw_below_drewN | apply below_drew1 | refine below_set ?_ GE127.out | refine below_set ?_ GE128.out) | exact HB.out)⟩
   ·rw [if_neg c9] at H
    have c9b0 : ((l1.length : Int) == 0) = false := beq_eq_false_iff_ne.mpr c9
    have c9b1 : ((l1.length : Int) != 0) = true := bne_iff_ne.mpr c9
    have c9b2 : ¬ (l1 = []) := fun h_ => c9 (by rw [h_]; rfl)
    (first | rw [c9b0] | (simp only [i64_w, i32_w]; rw [c9b0]) | skip)
    by_cases c12 : 0 < (l1.length : Int)
    ·rw [if_pos c12] at H
     have c12b0 : decide (0 < (l1.length : Int)) = true := decide_eq_true c12
     have c12b1 : decide (0 < l1.length) = true := decide_eq_true (by omega)
     clear c12
     by_cases c13 : ((rdOf ByteArray.empty l1 0).size : Int) = 4
     ·rw [if_pos c13] at H
      have c13b0 : (((rdOf ByteArray.empty l1 0).size : Int) == 4) = true := beq_iff_eq.mpr c13
      have c13b1 : (((rdOf ByteArray.empty l1 0).size : Int) != 4) = false := bne_eq_false_iff_eq.mpr c13
      clear c13
      replace H := Option.bind_eq_some_iff.mp H
      obtain ⟨t131, A140, H⟩ := H
      replace H : (if ([] : List Int).length < 17592186044416 then (if 1 ≤ (l1.length : Int) then (node_Of.j0 k false (l1.drop 1) false (([] : List Int) ++ [t131])) else (none)) else (none)) = some (r1, r2, r3, r4, r5) := H
      have A14 := Aside0.mk A140
      clear A140
      by_cases c15 : ([] : List Int).length < 17592186044416
      ·rw [if_pos c15] at H
       have LMc15 := Aside0.mk c15
       clear c15
       obtain ⟨y132, hy132⟩ : ∃ y_ : List Int, y_ = (([] : List Int) ++ [t131]) := ⟨_, rfl⟩
       replace H : (if 1 ≤ (l1.length : Int) then (node_Of.j0 k false (l1.drop 1) false y132) else (none)) = some (r1, r2, r3, r4, r5) := by first | (rw [hy132]; with_reducible exact H) | (have H2_ := (Option.bind_some _ _).symm.trans H; rw [hy132]; with_reducible exact H2_) | (have H2_ := (Option.bind_some _ _).symm.trans H; with_reducible exact H2_) | with_reducible exact H | (rw [hy132]; exact H) | exact H
       have Ny132 := Aside0.mk hy132
       clear hy132
       by_cases c16 : 1 ≤ (l1.length : Int)
       ·rw [if_pos c16] at H
        have c16b0 := eq_true c16
        have c16b1 : decide (1 ≤ (l1.length : Int)) = true := decide_eq_true c16
        clear c16
        obtain ⟨y135, hy135⟩ : ∃ y_ : List ByteArray, y_ = (l1.drop 1) := ⟨_, rfl⟩
        replace H : (node_Of.j0 k false y135 false y132) = some (r1, r2, r3, r4, r5) := by first | (rw [hy135]; with_reducible exact H) | (have H2_ := (Option.bind_some _ _).symm.trans H; rw [hy135]; with_reducible exact H2_) | (have H2_ := (Option.bind_some _ _).symm.trans H; with_reducible exact H2_) | with_reducible exact H | (rw [hy135]; exact H) | exact H
        have Ny135 := Aside0.mk hy135
        clear hy135
        have H' := Aside0.mk H
        clear H
        have p129 : 0 ≤ (0 : Int) := (by omega)
        have q129 : 0 < (l1.length : Int) := of_decide_eq_true (by first | (with_reducible assumption) | assumption)
        obtain ⟨ad129, e129, hx129_0⟩ := Kd.at_string (Kd.V_reads' HO1.out).2.2 0 p129 q129
        cases e129
        have qi129 : (0 < l1.length) = True := eq_true (by omega)
        (try rw [show ((0 : Int)).toNat = 0 from rfl] at hx129_0)
        (try rw [Addr.add_zero'] at hx129_0)
        have hn129_0 : ad129.block ≠ gb128 := (Kd.F_in (Kd.V_F HO1.out) rfl (by omega) (by decide)).2
        have hn129_1 : ad129.block ≠ gb128 := (Kd.F_in (Kd.V_F HO1.out) rfl (by omega) (by decide)).2
        have hn129_2 : ad129.block ≠ gb128 := (Kd.F_in (Kd.V_F HO1.out) rfl (by omega) (by decide)).2
        have hn129_3 : ad129.block ≠ gb128 := (Kd.F_in (Kd.V_F HO1.out) rfl (by omega) (by decide)).2
        replace hx129_0 := (cell_far (p := ⟨gb128, 0, none⟩) (by first | (rw [add_block]; exact hn129_0) | (show (Addr.add _ _).block ≠ _; rw [add_block]; exact hn129_0) | exact hn129_0) (.bool false)).trans hx129_0
        replace hx129_0 := (cell_far (p := ⟨gb128, 1, none⟩) (by first | (rw [add_block]; exact hn129_1) | (show (Addr.add _ _).block ≠ _; rw [add_block]; exact hn129_1) | exact hn129_1) (.slice none 0 0)).trans hx129_0
        replace hx129_0 := (cell_far (p := ⟨gb128, 2, none⟩) (by first | (rw [add_block]; exact hn129_2) | (show (Addr.add _ _).block ≠ _; rw [add_block]; exact hn129_2) | exact hn129_2) (.slice none 0 0)).trans hx129_0
        replace hx129_0 := (cell_far (p := ⟨gb128, 3, none⟩) (by first | (rw [add_block]; exact hn129_3) | (show (Addr.add _ _).block ≠ _; rw [add_block]; exact hn129_3) | exact hn129_3) (.slice none 0 0)).trans hx129_0
        clear hn129_0
        clear hn129_1
        clear hn129_2
        clear hn129_3
        replace p129 := eq_true p129
        replace q129 := eq_true q129
        try go_wp2
        have n0_ : Aside0 (Kd.V Kd.string 9 ((((w5.setCell ⟨gb128, 0, none⟩ (.bool false)).setCell ⟨gb128, 1, none⟩ (.slice none 0 0)).setCell ⟨gb128, 2, none⟩ (.slice none 0 0)).setCell ⟨gb128, 3, none⟩ (.slice none 0 0)) w.heap.size (fun k_ => (P1_ k_ ∨ w.heap.size ≤ k_) ∧ k_ ≠ gb127 ∧ k_ ≠ gb128) (.slice (some ad129) l1.length c1) l1) := ⟨by (with_reducible repeat (first | apply Kd.V_alloc | apply Kd.V_drewN | apply Kd.V_drew)); exact Kd.V_mono (Kd.V_far (p := ⟨gb128, 3, none⟩) (Kd.V_far (p := ⟨gb128, 2, none⟩) (Kd.V_far (p := ⟨gb128, 1, none⟩) (Kd.V_far (p := ⟨gb128, 0, none⟩) (Kd.V_mono HO1.out (fun k_ hk => (⟨hk, hk.2⟩ : _ ∧ k_ ≠ gb128))) (fun _ hk => hk.2) (.bool false)) (fun _ hk => hk.2) (.slice none 0 0)) (fun _ hk => hk.2) (.slice none 0 0)) (fun _ hk => hk.2) (.slice none 0 0)) (fun _ hk => ⟨hk.1.1.1, ⟨hk.1.1.2, hk.1.2⟩⟩)⟩
        have n1_ : Aside0 (((((w5.setCell ⟨gb128, 0, none⟩ (.bool false)).setCell ⟨gb128, 1, none⟩ (.slice none 0 0)).setCell ⟨gb128, 2, none⟩ (.slice none 0 0)).setCell ⟨gb128, 3, none⟩ (.slice none 0 0)).heap[gb127]? = some (.cells #[.bool false, .slice none 0 0, .slice none 0 0, .slice none 0 0] 25 (0, 0))) := ⟨by (with_reducible repeat (first | refine blk_drewN ?_ _ | refine blk_drew ?_ | refine blk_alloc ?_ _)); refine blk_far ?_ NB127_128.out _; (with_reducible repeat (first | refine blk_drewN ?_ _ | refine blk_drew ?_ | refine blk_alloc ?_ _)); refine blk_far ?_ NB127_128.out _; (with_reducible repeat (first | refine blk_drewN ?_ _ | refine blk_drew ?_ | refine blk_alloc ?_ _)); refine blk_far ?_ NB127_128.out _; (with_reducible repeat (first | refine blk_drewN ?_ _ | refine blk_drew ?_ | refine blk_alloc ?_ _)); refine blk_far ?_ NB127_128.out _; (with_reducible repeat (first | refine blk_drewN ?_ _ | refine blk_drew ?_ | refine blk_alloc ?_ _)); exact BK127.out⟩
        have n2_ : Aside0 (((((w5.setCell ⟨gb128, 0, none⟩ (.bool false)).setCell ⟨gb128, 1, none⟩ (.slice none 0 0)).setCell ⟨gb128, 2, none⟩ (.slice none 0 0)).setCell ⟨gb128, 3, none⟩ (.slice none 0 0)).heap[gb128]? = some (.cells #[.bool false, .slice none 0 0, .slice none 0 0, .slice none 0 0] 25 (0, 0))) := ⟨by (with_reducible repeat (first | refine blk_drewN ?_ _ | refine blk_drew ?_ | refine blk_alloc ?_ _)); refine blk_put (cs := #[.bool false, .slice none 0 0, .slice none 0 0, .slice none 0 0]) ?_ 3 _ rfl; (with_reducible repeat (first | refine blk_drewN ?_ _ | refine blk_drew ?_ | refine blk_alloc ?_ _)); refine blk_put (cs := #[.bool false, .slice none 0 0, .slice none 0 0, .slice none 0 0]) ?_ 2 _ rfl; (with_reducible repeat (first | refine blk_drewN ?_ _ | refine blk_drew ?_ | refine blk_alloc ?_ _)); refine blk_put (cs := #[.bool false, .slice none 0 0, .slice none 0 0, .slice none 0 0]) ?_ 1 _ rfl; (with_reducible repeat (first | refine blk_drewN ?_ _ | refine blk_drew ?_ | refine blk_alloc ?_ _)); refine blk_put (cs := #[.bool false, .slice none 0 0, .slice none 0 0, .slice none 0 0]) ?_ 0 _ rfl; (with_reducible repeat (first | refine blk_drewN ?_ _ | refine blk_drew ?_ | refine blk_alloc ?_ _)); exact BK128.out⟩
        have n3_ : Aside0 (Below w.heap.size w ((((w5.setCell ⟨gb128, 0, none⟩ (.bool false)).setCell ⟨gb128, 1, none⟩ (.slice none 0 0)).setCell ⟨gb128, 2, none⟩ (.slice none 0 0)).setCell ⟨gb128, 3, none⟩ (.slice none 0 0))) := ⟨by repeat (first | (with_reducible first | exact HB.out | apply below_alloc | apply pw_below_drewN | apply below_drew1 | refine below_set ?_ GE127.out | refine below_set ?_ GE128.out) | exact HB.out)⟩
        (try clear HO1)
        (try clear BK127)
        (try clear BK128)
        (try clear HB)
        generalize ((((w5.setCell ⟨gb128, 0, none⟩ (.bool false)).setCell ⟨gb128, 1, none⟩ (.slice none 0 0)).setCell ⟨gb128, 2, none⟩ (.slice none 0 0)).setCell ⟨gb128, 3, none⟩ (.slice none 0 0)) = w17 at n0_ n1_ n2_ n3_ ⊢
        have HO1 := n0_
        have BK127 := n1_
        have BK128 := n2_
        have HB := n3_
        clear n0_ n1_ n2_ n3_
        have n0_ := Aside0.mk (Kd.V_drew HO1.out)
        have n1_ := Aside0.mk (blk_drew BK127.out)
        have n2_ := Aside0.mk (blk_drew BK128.out)
        have n3_ := Aside0.mk (below_drew1 HB.out)
        clear HO1
        clear BK127
        clear BK128
        clear HB
        have HO1 := n0_
        have BK127 := n1_
        have BK128 := n2_
        have HB := n3_
        clear n0_ n1_ n2_ n3_
        have p130 : 0 ≤ (0 : Int) := (by omega)
        have q130 : 0 < (l1.length : Int) := of_decide_eq_true (by first | (with_reducible assumption) | assumption)
        obtain ⟨ad130, e130, hx130_0⟩ := Kd.at_string (Kd.V_reads' HO1.out).2.2 0 p130 q130
        obtain rfl : ad129 = ad130 := (by injection e130)
        have qi130 : (0 < l1.length) = True := eq_true (by omega)
        (try rw [show ((0 : Int)).toNat = 0 from rfl] at hx130_0)
        (try rw [Addr.add_zero'] at hx130_0)
        replace p130 := eq_true p130
        replace q130 := eq_true q130
        refine start_ (n := 10) (S := fun w' => w'.cell? ⟨gb128, 0, none⟩ = some (.bool false) ∧ w'.cell? ⟨gb128, 1, none⟩ = some (.slice none 0 0) ∧ w'.cell? ⟨gb128, 2, none⟩ = some (.slice none 0 0) ∧ w'.cell? ⟨gb128, 3, none⟩ = some (.slice none 0 0) ∧ w'.cell? ad129 = some (.string (rdOf ByteArray.empty l1 0))) (ds := [7, 9]) #[false, false, false, false, false, false, false, false, false, false] (by kernel_rfl) rfl rfl ⟨(blk_cell BK128.out 0).trans rfl, (blk_cell BK128.out 1).trans rfl, (blk_cell BK128.out 2).trans rfl, (blk_cell BK128.out 3).trans rfl, hx130_0⟩ (fun hHeld => ?_); refine with_tabW node_Of.tab5 node_Of.bits5 (fun HT_ HW_ => ?_)
        generalize w17.drew = w18 at HO1 BK127 BK128 HB hx130_0 hHeld ⊢
        refine pure_ (i := 0) (N := some 26) (v := ?_) (a' := ?_) #[true, false, false, false, false, false, false, false, false, false] rfl rfl (any_of HT_.out (by kernel_rfl)) (fun _ _ _ h => h) (Or.inl ⟨by rfl, ?_⟩) ?_ ?_
        rotate_left
        ·intro w'
         go_simp
         with_reducible rfl
        rotate_left
        ·simp only [Act.put, List.setIfInBounds_toArray, List.set_cons_zero, List.set_cons_succ, i64_w, i32_w]
         rfl
        refine pure_ (i := 2) (N := some 28) (v := ?_) (a' := ?_) #[true, false, true, false, false, false, false, false, false, false] rfl rfl (any_of HT_.out (by kernel_rfl)) (fun _ _ _ h => h) (Or.inl ⟨by rfl, ?_⟩) ?_ ?_
        rotate_left
        ·intro w'
         go_simp
         with_reducible rfl
        rotate_left
        ·simp only [Act.put, List.setIfInBounds_toArray, List.set_cons_zero, List.set_cons_succ, i64_w, i32_w]
         rfl
        refine pure_ (i := 3) (N := some 29) (v := ?_) (a' := ?_) #[true, false, true, true, false, false, false, false, false, false] rfl rfl (any_of HT_.out (by kernel_rfl)) (fun _ _ _ h => h) (Or.inl ⟨by rfl, ?_⟩) ?_ ?_
        rotate_left
        ·intro w'
         go_simp
         with_reducible rfl
        rotate_left
        ·simp only [Act.put, List.setIfInBounds_toArray, List.set_cons_zero, List.set_cons_succ, i64_w, i32_w]
         rfl
        refine take_ (i := 1) (N := some 27) (v := ?_) (a' := ?_) #[true, true, true, true, false, false, false, false, false, false] rfl rfl (take_ofW HT_.out HW_.out (by kernel_rfl)) (fun _ _ _ h => h) (Or.inl ⟨by rfl, ?_⟩) hHeld ?_ ?_
        rotate_left
        ·rintro w' ⟨s0, s1, s2, s3, s4⟩
         go_simp
         with_reducible rfl
        rotate_left
        ·simp only [Act.put, List.setIfInBounds_toArray, List.set_cons_zero, List.set_cons_succ, i64_w, i32_w]
         rfl
        refine take_ (i := 4) (N := some 30) (v := ?_) (a' := ?_) #[true, true, true, true, true, false, false, false, false, false] rfl rfl (take_ofW HT_.out HW_.out (by kernel_rfl)) (fun _ _ _ h => h) (Or.inl ⟨by rfl, ?_⟩) hHeld ?_ ?_
        rotate_left
        ·rintro w' ⟨s0, s1, s2, s3, s4⟩
         go_simp
         with_reducible rfl
        rotate_left
        ·simp only [Act.put, List.setIfInBounds_toArray, List.set_cons_zero, List.set_cons_succ, i64_w, i32_w]
         rfl
        refine one_ (i := 5) (N := some 31) #[true, true, true, true, true, true, false, false, false, false] rfl rfl (one_of HT_.out (by kernel_rfl)) (by decide) (fun K hK => ?_)
        refine goes_ Try.func40 (by kernel_rfl) rfl #[.string (rdOf ByteArray.empty l1 0)] (by rfl) rfl rfl (by (try simp only [List.map_toArray, List.map_cons, List.map_nil]); first | done | rfl | (simp only [List.length_drop, List.length_take]; rfl)) ?_
        with_reducible refine (node_number.calls (rdOf ByteArray.empty l1 0) t131 _ A14.out).mono ?_
        rintro e w' ⟨rfl, ⟨nd, rfl⟩⟩
        refine ⟨_, rfl, ?_⟩
        refine hK.out _ _ ⟨(blk_cell BK128.out 0).trans rfl, (blk_cell BK128.out 1).trans rfl, (blk_cell BK128.out 2).trans rfl, (blk_cell BK128.out 3).trans rfl, hHeld.2.2.2.2⟩ (fun hHeld => ?_)
        clear hK K
        refine norm_ (a' := ?_) ?_ ?_
        rotate_left
        ·show Act.put _ (some 31) _ = _
         simp only [Act.put, List.setIfInBounds_toArray, List.set_cons_zero, List.set_cons_succ, i64_w, i32_w]
         rfl
        refine one_ (i := 6) (N := some 32) #[true, true, true, true, true, true, true, false, false, false] rfl rfl (one_of HT_.out (by kernel_rfl)) (by decide) (fun K hK => ?_)
        refine value_ (w1 := ?_) (v := ?_) (by rfl) rfl ?_ ?_
        rotate_left 2
        ·go_simp
         constructor
         ·rfl
         ·rfl
        refine hK.out _ _ ⟨(blk_cell (blk_alloc BK128.out _) 0).trans rfl, (blk_cell (blk_alloc BK128.out _) 1).trans rfl, (blk_cell (blk_alloc BK128.out _) 2).trans rfl, (blk_cell (blk_alloc BK128.out _) 3).trans rfl, (World.cell?_alloc_lt _ _ _ (World.block_lt_of_cell? _ _ (hHeld.2.2.2.2))).trans (hHeld.2.2.2.2)⟩ (fun hHeld => ?_)
        clear hK K
        refine norm_ (a' := ?_) ?_ ?_
        rotate_left
        ·show Act.put _ (some 32) _ = _
         simp only [Act.put, List.setIfInBounds_toArray, List.set_cons_zero, List.set_cons_succ, i64_w, i32_w]
         rfl
        refine last_ (i := 7) (N := some 33) #[true, true, true, true, true, true, true, true, false, false] rfl rfl (one_of HT_.out (by kernel_rfl)) (by decide) (fun K hK => ?_)
        refine Kd.R_append_step (Kd.int .i64) (w0 := w) w.heap.size (by rfl) (.tmp 27) (.tmp 32) 23 3 (.int .i64 0) 8 rfl Try.underlying23 info3 rfl (by decide) (by omega) (.slice none 0 0) ([] : List Int) t131 [.int .i64 t131] (fun k_ => (w.heap.size ≤ k_)) (fun _ => False) rfl rfl ?aP (fun _ hk => hk.elim) ?aF ?aO ?aB ?aS ?aL ?_
        (case aP => exact rfl)
        (case aB => exact (by repeat (first | (with_reducible first | exact HB.out | apply below_alloc | apply pw_below_drewN | apply below_drew1 | refine below_set ?_ GE127.out | refine below_set ?_ GE128.out) | exact HB.out)))
        (case aF => exact (fun k_ hk => (Nat.le_trans (below_size (by repeat (first | (with_reducible first | exact HB.out | apply below_alloc | apply pw_below_drewN | apply below_drew1 | refine below_set ?_ GE127.out | refine below_set ?_ GE128.out) | exact HB.out))) hk)))
        (case aO => exact ((Kd.R_nil _ _ _ _ (fun k_ => (w.heap.size ≤ k_)))))
        (case aS => exact (below_size (by repeat (first | (with_reducible first | exact HB.out | apply below_alloc | apply pw_below_drewN | apply below_drew1 | refine below_set ?_ GE127.out | refine below_set ?_ GE128.out) | exact HB.out))))
        (case aL => have := LMc15.out; omega)
        intro v133 w19 ho hb hg hat
        rw [← Ny132.out] at ho
        have n0_ := Aside0.mk (Kd.V_afterv (Kd.V_apart_nil (by (with_reducible repeat (first | apply Kd.V_alloc | apply Kd.V_drewN | apply Kd.V_drew)); exact HO1.out)) hg hat)
        have n1_ := Aside0.mk (blk_grown (g := gb127) (o := .cells #[.bool false, .slice none 0 0, .slice none 0 0, .slice none 0 0] 25 (0, 0)) (by (with_reducible repeat (first | refine blk_drewN ?_ _ | refine blk_drew ?_ | refine blk_alloc ?_ _)); exact BK127.out) hg (by simp [Value.ownBlock]))
        have n2_ := Aside0.mk (blk_grown (g := gb128) (o := .cells #[.bool false, .slice none 0 0, .slice none 0 0, .slice none 0 0] 25 (0, 0)) (by (with_reducible repeat (first | refine blk_drewN ?_ _ | refine blk_drew ?_ | refine blk_alloc ?_ _)); exact BK128.out) hg (by simp [Value.ownBlock]))
        have n3_ := Aside0.mk (hb)
        have n4_ := Aside0.mk (ho)
        clear HO1
        clear BK127
        clear BK128
        clear HB
        have HO1 := n0_
        have BK127 := n1_
        have BK128 := n2_
        have HB := n3_
        have HO134 := n4_
        clear n0_ n1_ n2_ n3_ n4_
        clear ho hb hg hat
        obtain ⟨Ao20, co20, eo20⟩ := Kd.R_slice HO134.out
        (first | subst eo20 | (injection eo20 with f1_ f2_ f3_; have f4_ := f1_.symm; have f5_ := f3_.symm; clear f1_ f2_ f3_; subst f4_; subst f5_))
        refine hK.out _ _ ?_
        clear hK K
        refine norm_ (a' := ?_) ?_ ?_
        rotate_left
        ·show Act.put _ (some 33) _ = _
         simp only [Act.put, List.setIfInBounds_toArray, List.set_cons_zero, List.set_cons_succ, i64_w, i32_w]
         rfl
        refine pure_ (i := 8) (N := some 34) (v := ?_) (a' := ?_) #[true, true, true, true, true, true, true, true, true, false] rfl rfl (any_of HT_.out (by kernel_rfl)) (fun _ _ _ h => h) (Or.inl ⟨by rfl, ?_⟩) ?_ ?_
        rotate_left
        ·intro w'
         go_simp
         with_reducible rfl
        rotate_left
        ·simp only [Act.put, List.setIfInBounds_toArray, List.set_cons_zero, List.set_cons_succ, i64_w, i32_w]
         rfl
        refine last_ (i := 9) (N := none) #[true, true, true, true, true, true, true, true, true, true] rfl rfl (one_of HT_.out (by kernel_rfl)) (by decide) (fun K hK => ?_)
        have hs21 : w19.cell? ⟨gb128, 3, none⟩ = some (.slice none 0 0) := (blk_cell BK128.out 3).trans rfl
        have hfs21 := blk_frozen BK128.out 3
        have hns21_0 := NB127_128.out
        have hms21_0 := NB128_127.out
        refine skip_ (w1 := ?_) (by rfl) rfl ?_ ?_
        rotate_left
        ·go_simp
         rfl
        refine hK.out _ _ ?_
        clear hK K
        refine done_ (done_of HT_.out (by kernel_rfl)) ?_
        have n0_ : Aside0 (Kd.V Kd.string 9 (w19.setCell ⟨gb128, 3, none⟩ (.slice Ao20 y132.length co20)) w.heap.size (fun k_ => (P1_ k_ ∨ w.heap.size ≤ k_) ∧ some k_ ≠ (.slice Ao20 y132.length co20 : Value).ownBlock ∧ k_ ≠ gb127 ∧ k_ ≠ gb128) (.slice (some ad129) l1.length c1) l1) := ⟨by (with_reducible repeat (first | apply Kd.V_alloc | apply Kd.V_drewN | apply Kd.V_drew)); exact Kd.V_mono (Kd.V_far (p := ⟨gb128, 3, none⟩) (Kd.V_mono HO1.out (fun k_ hk => (⟨hk, hk.1.2.2⟩ : _ ∧ k_ ≠ gb128))) (fun _ hk => hk.2) (.slice Ao20 y132.length co20)) (fun _ hk => ⟨hk.1.1.1, ⟨hk.1.2, ⟨hk.1.1.2.1, hk.1.1.2.2⟩⟩⟩)⟩
        have n1_ : Aside0 (Kd.R (Kd.int .i64) 3 (w19.setCell ⟨gb128, 3, none⟩ (.slice Ao20 y132.length co20)) w.heap.size (fun k_ => (w.heap.size ≤ k_)) (.slice Ao20 y132.length co20) y132) := ⟨by (with_reducible repeat (first | apply Kd.R_alloc | apply Kd.R_drewN | apply Kd.R_drew)); exact Kd.R_mono (Kd.R_far (p := ⟨gb128, 3, none⟩) (Kd.R_types HO134.out BK128.out (by decide)) (fun _ hk => hk.2) (.slice Ao20 y132.length co20)) (fun _ hk => hk.1)⟩
        have n2_ : Aside0 ((w19.setCell ⟨gb128, 3, none⟩ (.slice Ao20 y132.length co20)).heap[gb127]? = some (.cells #[.bool false, .slice none 0 0, .slice none 0 0, .slice none 0 0] 25 (0, 0))) := ⟨by (with_reducible repeat (first | refine blk_drewN ?_ _ | refine blk_drew ?_ | refine blk_alloc ?_ _)); refine blk_far ?_ NB127_128.out _; (with_reducible repeat (first | refine blk_drewN ?_ _ | refine blk_drew ?_ | refine blk_alloc ?_ _)); exact BK127.out⟩
        have n3_ : Aside0 ((w19.setCell ⟨gb128, 3, none⟩ (.slice Ao20 y132.length co20)).heap[gb128]? = some (.cells #[.bool false, .slice none 0 0, .slice none 0 0, .slice Ao20 y132.length co20] 25 (0, 0))) := ⟨by (with_reducible repeat (first | refine blk_drewN ?_ _ | refine blk_drew ?_ | refine blk_alloc ?_ _)); refine blk_put (cs := #[.bool false, .slice none 0 0, .slice none 0 0, .slice none 0 0]) ?_ 3 _ rfl; (with_reducible repeat (first | refine blk_drewN ?_ _ | refine blk_drew ?_ | refine blk_alloc ?_ _)); exact BK128.out⟩
        have n4_ : Aside0 (Below w.heap.size w (w19.setCell ⟨gb128, 3, none⟩ (.slice Ao20 y132.length co20))) := ⟨by repeat (first | (with_reducible first | exact HB.out | apply below_alloc | apply pw_below_drewN | apply below_drew1 | refine below_set ?_ GE127.out | refine below_set ?_ GE128.out) | exact HB.out)⟩
        (try clear HO1)
        (try clear HO134)
        (try clear BK127)
        (try clear BK128)
        (try clear HB)
        generalize (w19.setCell ⟨gb128, 3, none⟩ (.slice Ao20 y132.length co20)) = w22 at n0_ n1_ n2_ n3_ n4_ ⊢
        have HO1 := n0_
        have HO134 := n1_
        have BK127 := n2_
        have BK128 := n3_
        have HB := n4_
        clear n0_ n1_ n2_ n3_ n4_
        have q23 : (1 : Int) ≤ ((l1.length : Int) : Int) := of_decide_eq_true (by first | (with_reducible assumption) | assumption)
        obtain ⟨i023, hi023, _, hsz23, _⟩ := info_parts info9
        have hroom23 : l1.length ≤ c1 := (Kd.V_reads' HO1.out).2.1
        have hC23 : Kd.F Kd.string _ _ (some ad129) l1.length l1 := (Kd.V_at (base := w.heap.size) HO1.out).2.2
        have hcut23 := cut_from (P := Try.prog) 22 9 .i64 Try.underlying22 hi023 1 hsz23 (some ad129) l1.length c1 1 (by omega) q23
        have hr23 := Kd.F_cut (m := (1 : Int).toNat) (c := c1) hC23 (by omega) hroom23
        obtain ⟨A23, hA23⟩ : ∃ AA_, AA_ = (if c1 = (1 : Int).toNat then (some ad129) else ((some ad129) : Option Addr).map (·.add ((1 : Int).toNat * 1))) := ⟨_, rfl⟩
        obtain ⟨c23, hc23⟩ : ∃ cc_, cc_ = c1 - (1 : Int).toNat := ⟨_, rfl⟩
        have hy23 : y135.length = l1.length - (1 : Int).toNat := (by rw [Ny135.out, List.length_drop] <;> omega)
        rw [show (l1).drop (1 : Int).toNat = y135 from Ny135.out.symm] at hr23
        replace hr23 : Kd.F Kd.string _ _ A23 y135.length y135 := (by rw [hA23]; exact hr23)
        rw [← hy23, ← hA23, ← hc23] at hcut23
        have HO139 := Aside0.mk (show Kd.V Kd.string 9 _ w.heap.size _ (.slice A23 y135.length c23) y135 from Kd.V_mk (by rw [hy23, hc23]; exact Nat.sub_le_sub_right hroom23 _) hr23)
        have HC139 := Aside0.mk (show y135.length ≤ c23 from by rw [hy23, hc23]; exact Nat.sub_le_sub_right hroom23 _)
        clear hr23 hC23 hroom23 hi023 hsz23 hc23
        have KY23 := Aside0.mk hy23
        have KA23 := Aside0.mk hA23
        clear hy23 hA23
        replace q23 := eq_true q23
        try go_wp2
        go_meet
        case rel => exact ⟨_, (y135), (false), (y132), (.slice Ao20 y132.length co20), H', ⟨by first | omega | exact Nat.le_refl _⟩, ⟨by (with_reducible repeat (first | apply Kd.V_alloc | apply Kd.V_drewN | apply Kd.V_drew)); exact HO139.out⟩, ⟨by (with_reducible repeat (first | apply Kd.R_alloc | apply Kd.R_drewN | apply Kd.R_drew)); exact HO134.out⟩, ⟨by (with_reducible repeat (first | refine blk_drewN ?_ _ | refine blk_drew ?_ | refine blk_alloc ?_ _)); exact BK127.out⟩, ⟨by (with_reducible repeat (first | refine blk_drewN ?_ _ | refine blk_drew ?_ | refine blk_alloc ?_ _)); exact BK128.out⟩, ⟨by repeat (first | (with_reducible first | exact HB.out | apply below_alloc | apply pw_below_drewN | apply below_drew1 | refine below_set ?_ GE127.out | refine below_set ?_ GE128.out) | exact HB.out)⟩⟩
       ·rw [if_neg c16] at H
        exact absurd H (by simp)
      ·rw [if_neg c15] at H
       exact absurd H (by simp)
     ·rw [if_neg c13] at H
      have c13b0 : (((rdOf ByteArray.empty l1 0).size : Int) == 4) = false := beq_eq_false_iff_ne.mpr c13
      have c13b1 : (((rdOf ByteArray.empty l1 0).size : Int) != 4) = true := bne_iff_ne.mpr c13
      simp only [Option.some.injEq, Prod.mk.injEq] at H
      obtain ⟨rfl, rfl, rfl, rfl, rfl⟩ := H
      have p129 : 0 ≤ (0 : Int) := (by omega)
      have q129 : 0 < (l1.length : Int) := of_decide_eq_true (by first | (with_reducible assumption) | assumption)
      obtain ⟨ad129, e129, hx129_0⟩ := Kd.at_string (Kd.V_reads' HO1.out).2.2 0 p129 q129
      cases e129
      have qi129 : (0 < l1.length) = True := eq_true (by omega)
      (try rw [show ((0 : Int)).toNat = 0 from rfl] at hx129_0)
      (try rw [Addr.add_zero'] at hx129_0)
      have hn129_0 : ad129.block ≠ gb128 := (Kd.F_in (Kd.V_F HO1.out) rfl (by omega) (by decide)).2
      have hn129_1 : ad129.block ≠ gb128 := (Kd.F_in (Kd.V_F HO1.out) rfl (by omega) (by decide)).2
      have hn129_2 : ad129.block ≠ gb128 := (Kd.F_in (Kd.V_F HO1.out) rfl (by omega) (by decide)).2
      have hn129_3 : ad129.block ≠ gb128 := (Kd.F_in (Kd.V_F HO1.out) rfl (by omega) (by decide)).2
      replace hx129_0 := (cell_far (p := ⟨gb128, 0, none⟩) (by first | (rw [add_block]; exact hn129_0) | (show (Addr.add _ _).block ≠ _; rw [add_block]; exact hn129_0) | exact hn129_0) (.bool false)).trans hx129_0
      replace hx129_0 := (cell_far (p := ⟨gb128, 1, none⟩) (by first | (rw [add_block]; exact hn129_1) | (show (Addr.add _ _).block ≠ _; rw [add_block]; exact hn129_1) | exact hn129_1) (.slice none 0 0)).trans hx129_0
      replace hx129_0 := (cell_far (p := ⟨gb128, 2, none⟩) (by first | (rw [add_block]; exact hn129_2) | (show (Addr.add _ _).block ≠ _; rw [add_block]; exact hn129_2) | exact hn129_2) (.slice none 0 0)).trans hx129_0
      replace hx129_0 := (cell_far (p := ⟨gb128, 3, none⟩) (by first | (rw [add_block]; exact hn129_3) | (show (Addr.add _ _).block ≠ _; rw [add_block]; exact hn129_3) | exact hn129_3) (.slice none 0 0)).trans hx129_0
      clear hn129_0
      clear hn129_1
      clear hn129_2
      clear hn129_3
      replace p129 := eq_true p129
      replace q129 := eq_true q129
      have hnb24 := NB127_128.out
      have hnc24 := NB128_127.out
      have hcz25_0 : w5.cell? ⟨gb127, 0, none⟩ = some (.bool false) := (blk_cell BK127.out 0).trans rfl
      have hcz25_1 : w5.cell? ⟨gb127, 1, none⟩ = some (.slice none 0 0) := (blk_cell BK127.out 1).trans rfl
      have hcz25_2 : w5.cell? ⟨gb127, 2, none⟩ = some (.slice none 0 0) := (blk_cell BK127.out 2).trans rfl
      have hcz25_3 : w5.cell? ⟨gb127, 3, none⟩ = some (.slice none 0 0) := (blk_cell BK127.out 3).trans rfl
      have hfz25_0 := blk_frozen BK127.out 0
      have hfz25_1 := blk_frozen BK127.out 1
      have hfz25_2 := blk_frozen BK127.out 2
      have hfz25_3 := blk_frozen BK127.out 3
      go_wp2
      refine bodyPost_ret (results_ct rfl _ _ gb127 25 #[.bool false, .slice none 0 0, .slice none 0 0, .slice none 0 0] (0, 0) _ rfl (by (with_reducible repeat (first | refine blk_drewN ?_ _ | refine blk_drew ?_ | refine blk_alloc ?_ _)); refine blk_put (cs := #[.bool false, .slice none 0 0, .slice none 0 0, .slice none 0 0]) ?_ 3 _ rfl; (with_reducible repeat (first | refine blk_drewN ?_ _ | refine blk_drew ?_ | refine blk_alloc ?_ _)); refine blk_put (cs := #[.bool false, .slice none 0 0, .slice none 0 0, .slice none 0 0]) ?_ 2 _ rfl; (with_reducible repeat (first | refine blk_drewN ?_ _ | refine blk_drew ?_ | refine blk_alloc ?_ _)); refine blk_put (cs := #[.bool false, .slice none 0 0, .slice none 0 0, .slice none 0 0]) ?_ 1 _ rfl; (with_reducible repeat (first | refine blk_drewN ?_ _ | refine blk_drew ?_ | refine blk_alloc ?_ _)); refine blk_put (cs := #[.bool false, .slice none 0 0, .slice none 0 0, .slice none 0 0]) ?_ 0 _ rfl; (with_reducible repeat (first | refine blk_drewN ?_ _ | refine blk_drew ?_ | refine blk_alloc ?_ _)); refine blk_far ?_ NB127_128.out _; (with_reducible repeat (first | refine blk_drewN ?_ _ | refine blk_drew ?_ | refine blk_alloc ?_ _)); refine blk_far ?_ NB127_128.out _; (with_reducible repeat (first | refine blk_drewN ?_ _ | refine blk_drew ?_ | refine blk_alloc ?_ _)); refine blk_far ?_ NB127_128.out _; (with_reducible repeat (first | refine blk_drewN ?_ _ | refine blk_drew ?_ | refine blk_alloc ?_ _)); refine blk_far ?_ NB127_128.out _; (with_reducible repeat (first | refine blk_drewN ?_ _ | refine blk_drew ?_ | refine blk_alloc ?_ _)); exact BK127.out) Try.underlying25 rfl (by kernel_rfl)) rfl ?_
      exact ⟨_, _, _, by first | rfl | (simp [errW_none, errW_some] <;> rfl) | (simp [*, errW_none, errW_some] <;> rfl), by first | exact Kd.R_nil _ _ _ _ _ | exact Kd.N_nil _ _ _ _ _ | exact Kd.V_nil _ _ _ _ _ | exact Kd.Q_nil _ _ _ _ _ | exact Kd.S_nil _ _ _ _ _, by first | exact Kd.R_nil _ _ _ _ _ | exact Kd.N_nil _ _ _ _ _ | exact Kd.V_nil _ _ _ _ _ | exact Kd.Q_nil _ _ _ _ _ | exact Kd.S_nil _ _ _ _ _, by first | exact Kd.R_nil _ _ _ _ _ | exact Kd.N_nil _ _ _ _ _ | exact Kd.V_nil _ _ _ _ _ | exact Kd.Q_nil _ _ _ _ _ | exact Kd.S_nil _ _ _ _ _, by repeat (first | (with_reducible first | exact HB.out | apply below_alloc | apply pw_below_drewN | apply below_drew1 | refine below_set ?_ GE127.out | refine below_set ?_ GE128.out) | exact HB.out)⟩
    ·rw [if_neg c12] at H
     exact absurd H (by simp)
 case rest =>
  clear HC3
  (try clear c1); (try clear p1); (try clear q1); (try clear hx1); (try clear qi1); (try clear c2); (try clear p2); (try clear q2); (try clear c4); (try clear c6); (try clear c8); (try clear c9); (try clear c9b0); (try clear c9b1); (try clear c9b2); (try clear c10); (try clear c12); (try clear c12b0); (try clear c12b1); (try clear p12); (try clear q12); (try clear hx12); (try clear qi12); (try clear c13); (try clear c13b0); (try clear c13b1); (try clear p13); (try clear q13); (try clear hx13); (try clear qi13); (try clear c15); (try clear c16); (try clear c16b0); (try clear c16b1); (try clear c20); (try clear c23); (try clear q23); (try clear c24); (try clear hcz11_0); (try clear hcz11_1); (try clear hcz11_2); (try clear hcz11_3); (try clear hcz25_0); (try clear hcz25_1); (try clear hcz25_2); (try clear hcz25_3); (try clear hcz7_0); (try clear hcz7_1); (try clear hcz7_2); (try clear hcz7_3); (try clear hfz11_0); (try clear hfz11_1); (try clear hfz11_2); (try clear hfz11_3); (try clear hfz25_0); (try clear hfz25_1); (try clear hfz25_2); (try clear hfz25_3); (try clear hfz7_0); (try clear hfz7_1); (try clear hfz7_2); (try clear hfz7_3); (try clear hx129_0); (try clear hx130_0); (try clear p129); (try clear p130); (try clear q129); (try clear q130); (try clear q23)
  obtain ⟨kq, x1_2, x128000_2, x129003_2, u129003, HA, HJ2, HO_1, HO_129003, BK127, BK128, HB⟩ := hcut
  cases kq with
  | zero => exact absurd HA.out (by simp [node_Of.j0])
  | succ kj2 =>
   have H := HA.out
   clear HA
   simp only [node_Of.j0] at H
   have H' := Aside0.mk H
   clear H
   obtain ⟨Ao26, co26, eo26⟩ := Kd.V_slice HO_1.out
   subst eo26
   go_wp2
   go_loopg [39] kj2 (fun kq v39 w' => ∃ (x39_2 : Int) (x128000_2 : Bool) (x129001_2 : List ByteArray) (x129002_2 : List ByteArray) (x129003_2 : List Int) (u129001 : Value) (u129002 : Value) (u129003 : Value), v39 = .int .i64 x39_2 ∧ Aside0 (node_Of.l0 kq a0 x1_2 (x1_2.length : Int) x39_2 a0 x129001_2 x129002_2 x129003_2 = some (r1, r2, r3, r4, r5)) ∧ Aside0 (kq ≤ kj2) ∧ Aside0 (Kd.V Kd.string 9 w' w.heap.size (fun k_ => (P1_ k_ ∨ w.heap.size ≤ k_) ∧ some k_ ≠ (u129001 : Value).ownBlock ∧ some k_ ≠ (u129002 : Value).ownBlock ∧ some k_ ≠ (u129003 : Value).ownBlock ∧ k_ ≠ gb127 ∧ k_ ≠ gb128) (.slice Ao26 x1_2.length co26) x1_2) ∧ Aside0 (Kd.R Kd.string 9 w' w.heap.size (fun k_ => (w.heap.size ≤ k_) ∧ some k_ ≠ (u129002 : Value).ownBlock) u129001 x129001_2) ∧ Aside0 (Kd.R Kd.string 9 w' w.heap.size (fun k_ => (w.heap.size ≤ k_) ∧ some k_ ≠ (u129001 : Value).ownBlock) u129002 x129002_2) ∧ Aside0 (Kd.R (Kd.int .i64) 3 w' w.heap.size (fun k_ => (w.heap.size ≤ k_)) u129003 x129003_2) ∧ Aside0 (w'.heap[gb127]? = some (.cells #[.bool x128000_2, (.slice none 0 0), (.slice none 0 0), (.slice none 0 0)] 25 (0, 0))) ∧ Aside0 (w'.heap[gb128]? = some (.cells #[.bool a0, u129001, u129002, u129003] 25 (0, 0))) ∧ Aside0 (Below w.heap.size w w'))
   case atStart => exact ⟨(0), (x128000_2), (([] : List ByteArray)), (([] : List ByteArray)), (x129003_2), (.slice none 0 0), (.slice none 0 0), (u129003), (by first | rfl | (simp; done) | (simp [*]; done)), H', ⟨Nat.le_refl _⟩, ⟨by (with_reducible repeat (first | apply Kd.V_alloc | apply Kd.V_drewN | apply Kd.V_drew)); exact Kd.V_mono HO_1.out (fun _ hk => ⟨hk.1, ⟨(by simp [Value.ownBlock]), ⟨(by simp [Value.ownBlock]), ⟨hk.2.1, ⟨hk.2.2.1, hk.2.2.2⟩⟩⟩⟩⟩)⟩, ⟨by first | exact Kd.R_nil _ _ _ _ _ | exact Kd.N_nil _ _ _ _ _ | exact Kd.V_nil _ _ _ _ _ | exact Kd.Q_nil _ _ _ _ _ | exact Kd.S_nil _ _ _ _ _⟩, ⟨by first | exact Kd.R_nil _ _ _ _ _ | exact Kd.N_nil _ _ _ _ _ | exact Kd.V_nil _ _ _ _ _ | exact Kd.Q_nil _ _ _ _ _ | exact Kd.S_nil _ _ _ _ _⟩, ⟨by (with_reducible repeat (first | apply Kd.R_alloc | apply Kd.R_drewN | apply Kd.R_drew)); exact HO_129003.out⟩, ⟨by (with_reducible repeat (first | refine blk_drewN ?_ _ | refine blk_drew ?_ | refine blk_alloc ?_ _)); exact BK127.out⟩, ⟨by (with_reducible repeat (first | refine blk_drewN ?_ _ | refine blk_drew ?_ | refine blk_alloc ?_ _)); exact BK128.out⟩, ⟨by repeat (first | (with_reducible first | exact HB.out | apply below_alloc | apply pw_below_drewN | apply below_drew1 | refine below_set ?_ GE127.out | refine below_set ?_ GE128.out) | exact HB.out)⟩⟩
   case round =>
    clear H'
    (try clear c1); (try clear p1); (try clear q1); (try clear hx1); (try clear qi1); (try clear c2); (try clear p2); (try clear q2); (try clear c4); (try clear c6); (try clear c8); (try clear c9); (try clear c9b0); (try clear c9b1); (try clear c9b2); (try clear c10); (try clear c12); (try clear c12b0); (try clear c12b1); (try clear p12); (try clear q12); (try clear hx12); (try clear qi12); (try clear c13); (try clear c13b0); (try clear c13b1); (try clear p13); (try clear q13); (try clear hx13); (try clear qi13); (try clear c15); (try clear c16); (try clear c16b0); (try clear c16b1); (try clear c20); (try clear c23); (try clear q23); (try clear c24); (try clear hcz11_0); (try clear hcz11_1); (try clear hcz11_2); (try clear hcz11_3); (try clear hcz25_0); (try clear hcz25_1); (try clear hcz25_2); (try clear hcz25_3); (try clear hcz7_0); (try clear hcz7_1); (try clear hcz7_2); (try clear hcz7_3); (try clear hfz11_0); (try clear hfz11_1); (try clear hfz11_2); (try clear hfz11_3); (try clear hfz25_0); (try clear hfz25_1); (try clear hfz25_2); (try clear hfz25_3); (try clear hfz7_0); (try clear hfz7_1); (try clear hfz7_2); (try clear hfz7_3); (try clear hx129_0); (try clear hx130_0); (try clear p1); (try clear p12); (try clear p129); (try clear p13); (try clear p130); (try clear p2); (try clear q1); (try clear q12); (try clear q129); (try clear q13); (try clear q130); (try clear q2); (try clear q23)
    obtain ⟨x39_2, x128000_2, x129001_2, x129002_2, x129003_2, u129001, u129002, u129003, rfl, HA, HK2, HO_37, HO_129001, HO_129002, HO_129003, BK127, BK128, HB⟩ := hrel
    cases gk with
    | zero => exact absurd HA.out (by simp [node_Of.l0])
    | succ k2 =>
     have H := HA.out
     clear HA
     simp only [node_Of.l0] at H
     by_cases c27 : x39_2 < (x1_2.length : Int)
     ·rw [if_pos c27] at H
      have c27b0 : decide (x39_2 < (x1_2.length : Int)) = true := decide_eq_true c27
      clear c27
      by_cases c28 : 0 ≤ x39_2
      ·rw [if_pos c28] at H
       have c28b0 : decide (0 ≤ x39_2) = true := decide_eq_true c28
       clear c28
       by_cases c29 : x39_2 < (x1_2.length : Int)
       ·rw [if_pos c29] at H
        have c29b0 : decide (x39_2 < (x1_2.length : Int)) = true := decide_eq_true c29
        clear c29
        have HC30 := Aside0.mk H
        clear H
        have p141 : 0 ≤ (x39_2 : Int) := of_decide_eq_true (by first | (with_reducible assumption) | assumption)
        have q141 : x39_2 < (x1_2.length : Int) := of_decide_eq_true (by first | (with_reducible assumption) | assumption)
        obtain ⟨ad141, e141, hx141_0⟩ := Kd.at_string (Kd.V_reads' HO_37.out).2.2 x39_2 p141 q141
        cases e141
        replace p141 := eq_true p141
        replace q141 := eq_true q141
        go_upto_region 10 with (fail)
        go_cut [57] (fun v57 wc => ∃ (kq : Nat) (x57_29 : Bool), v57 = .bool x57_29 ∧ Aside0 (node_Of.j2 kq a0 (rdOf ByteArray.empty x1_2 x39_2) x1_2 (x1_2.length : Int) x39_2 x57_29 a0 x129001_2 x129002_2 x129003_2 = some (r1, r2, r3, r4, r5)) ∧ Aside0 (kq ≤ k2) ∧ Aside0 (Kd.V Kd.string 9 wc w.heap.size (fun k_ => (P1_ k_ ∨ w.heap.size ≤ k_) ∧ some k_ ≠ (u129001 : Value).ownBlock ∧ some k_ ≠ (u129002 : Value).ownBlock ∧ some k_ ≠ (u129003 : Value).ownBlock ∧ k_ ≠ gb127 ∧ k_ ≠ gb128) (.slice (some ad141) x1_2.length co26) x1_2) ∧ Aside0 (Kd.R Kd.string 9 wc w.heap.size (fun k_ => (w.heap.size ≤ k_) ∧ some k_ ≠ (u129002 : Value).ownBlock) u129001 x129001_2) ∧ Aside0 (Kd.R Kd.string 9 wc w.heap.size (fun k_ => (w.heap.size ≤ k_) ∧ some k_ ≠ (u129001 : Value).ownBlock) u129002 x129002_2) ∧ Aside0 (Kd.R (Kd.int .i64) 3 wc w.heap.size (fun k_ => (w.heap.size ≤ k_)) u129003 x129003_2) ∧ Aside0 (wc.heap[gb127]? = some (.cells #[.bool x128000_2, (.slice none 0 0), (.slice none 0 0), (.slice none 0 0)] 25 (0, 0))) ∧ Aside0 (wc.heap[gb128]? = some (.cells #[.bool a0, u129001, u129002, u129003] 25 (0, 0))) ∧ Aside0 (Below w.heap.size w wc))
        case first =>
         have H := HC30.out
         clear HC30
         by_cases c31 : (rdOf ByteArray.empty x1_2 x39_2).toList = ([] : List UInt8)
         ·rw [if_pos c31] at H
          have c31b0 : ((rdOf ByteArray.empty x1_2 x39_2).toList == ([] : List UInt8)) = true := beq_iff_eq.mpr c31
          have c31b1 : ((rdOf ByteArray.empty x1_2 x39_2).toList != ([] : List UInt8)) = false := bne_eq_false_iff_eq.mpr c31
          clear c31
          (first | rw [c31b0] | (simp only [i64_w, i32_w]; rw [c31b0]) | skip)
          have H' := Aside0.mk H
          clear H
          go_wp2
          go_meet
          case rel => exact ⟨_, (true), (by first | rfl | (simp; done) | (simp [*]; done)), H', ⟨by have := HJ2.out; have := HK2.out; first | omega | exact Nat.le_refl _⟩, ⟨by (with_reducible repeat (first | apply Kd.V_alloc | apply Kd.V_drewN | apply Kd.V_drew)); exact HO_37.out⟩, ⟨by (with_reducible repeat (first | apply Kd.R_alloc | apply Kd.R_drewN | apply Kd.R_drew)); exact HO_129001.out⟩, ⟨by (with_reducible repeat (first | apply Kd.R_alloc | apply Kd.R_drewN | apply Kd.R_drew)); exact HO_129002.out⟩, ⟨by (with_reducible repeat (first | apply Kd.R_alloc | apply Kd.R_drewN | apply Kd.R_drew)); exact HO_129003.out⟩, ⟨by (with_reducible repeat (first | refine blk_drewN ?_ _ | refine blk_drew ?_ | refine blk_alloc ?_ _)); exact BK127.out⟩, ⟨by (with_reducible repeat (first | refine blk_drewN ?_ _ | refine blk_drew ?_ | refine blk_alloc ?_ _)); exact BK128.out⟩, ⟨by repeat (first | (with_reducible first | exact HB.out | apply below_alloc | apply pw_below_drewN | apply below_drew1 | refine below_set ?_ GE127.out | refine below_set ?_ GE128.out) | exact HB.out)⟩⟩
         ·rw [if_neg c31] at H
          have c31b0 : ((rdOf ByteArray.empty x1_2 x39_2).toList == ([] : List UInt8)) = false := beq_eq_false_iff_ne.mpr c31
          have c31b1 : ((rdOf ByteArray.empty x1_2 x39_2).toList != ([] : List UInt8)) = true := bne_iff_ne.mpr c31
          (first | rw [c31b0] | (simp only [i64_w, i32_w]; rw [c31b0]) | skip)
          by_cases c32 : 0 < ((rdOf ByteArray.empty x1_2 x39_2).size : Int)
          ·rw [if_pos c32] at H
           have c32b0 : decide (0 < ((rdOf ByteArray.empty x1_2 x39_2).size : Int)) = true := decide_eq_true c32
           have c32b1 : decide (0 < (rdOf ByteArray.empty x1_2 x39_2).size) = true := decide_eq_true (by omega)
           clear c32
           by_cases c34 : (wrap64 (bt (rdOf ByteArray.empty x1_2 x39_2) 0)) ≥ ((rdOf ByteArray.empty x1_2 x39_2).size : Int)
           ·rw [if_pos c34] at H
            have c34b0 : decide (((rdOf ByteArray.empty x1_2 x39_2).size : Int) ≤ (wrap64 (bt (rdOf ByteArray.empty x1_2 x39_2) 0))) = true := decide_eq_true c34
            clear c34
            have H' := Aside0.mk H
            clear H
            have p33 : 0 ≤ (0 : Int) := (by omega)
            have q33 : 0 < (rdOf ByteArray.empty x1_2 x39_2).size := (by have : (0 : Int) < ((rdOf ByteArray.empty x1_2 x39_2).size : Int) := of_decide_eq_true (by first | (with_reducible assumption) | assumption); omega)
            have hx33 : ∀ h : 0 < (rdOf ByteArray.empty x1_2 x39_2).size, (((rdOf ByteArray.empty x1_2 x39_2)[0]'h).toNat : Int) = bt (rdOf ByteArray.empty x1_2 x39_2) 0 := bt_at (rdOf ByteArray.empty x1_2 x39_2) 0
            clear p33
            have qi33 : (0 < ((rdOf ByteArray.empty x1_2 x39_2).size : Int)) = True := eq_true (of_decide_eq_true (by first | (with_reducible assumption) | assumption))
            replace q33 := eq_true q33
            have p35 : 0 ≤ (0 : Int) := (by omega)
            have q35 : 0 < (rdOf ByteArray.empty x1_2 x39_2).size := (by have : (0 : Int) < ((rdOf ByteArray.empty x1_2 x39_2).size : Int) := of_decide_eq_true (by first | (with_reducible assumption) | assumption); omega)
            have hx35 : ∀ h : 0 < (rdOf ByteArray.empty x1_2 x39_2).size, (((rdOf ByteArray.empty x1_2 x39_2)[0]'h).toNat : Int) = bt (rdOf ByteArray.empty x1_2 x39_2) 0 := bt_at (rdOf ByteArray.empty x1_2 x39_2) 0
            clear p35
            have qi35 : (0 < ((rdOf ByteArray.empty x1_2 x39_2).size : Int)) = True := eq_true (of_decide_eq_true (by first | (with_reducible assumption) | assumption))
            replace q35 := eq_true q35
            go_wp2
            go_meet
            case rel => exact ⟨_, (((bt (rdOf ByteArray.empty x1_2 x39_2) 0) != 0)), (by first | rfl | (simp; done) | (simp [*]; done)), H', ⟨by have := HJ2.out; have := HK2.out; first | omega | exact Nat.le_refl _⟩, ⟨by (with_reducible repeat (first | apply Kd.V_alloc | apply Kd.V_drewN | apply Kd.V_drew)); exact HO_37.out⟩, ⟨by (with_reducible repeat (first | apply Kd.R_alloc | apply Kd.R_drewN | apply Kd.R_drew)); exact HO_129001.out⟩, ⟨by (with_reducible repeat (first | apply Kd.R_alloc | apply Kd.R_drewN | apply Kd.R_drew)); exact HO_129002.out⟩, ⟨by (with_reducible repeat (first | apply Kd.R_alloc | apply Kd.R_drewN | apply Kd.R_drew)); exact HO_129003.out⟩, ⟨by (with_reducible repeat (first | refine blk_drewN ?_ _ | refine blk_drew ?_ | refine blk_alloc ?_ _)); exact BK127.out⟩, ⟨by (with_reducible repeat (first | refine blk_drewN ?_ _ | refine blk_drew ?_ | refine blk_alloc ?_ _)); exact BK128.out⟩, ⟨by repeat (first | (with_reducible first | exact HB.out | apply below_alloc | apply pw_below_drewN | apply below_drew1 | refine below_set ?_ GE127.out | refine below_set ?_ GE128.out) | exact HB.out)⟩⟩
           ·rw [if_neg c34] at H
            have c34b0 : decide (((rdOf ByteArray.empty x1_2 x39_2).size : Int) ≤ (wrap64 (bt (rdOf ByteArray.empty x1_2 x39_2) 0))) = false := decide_eq_false c34
            clear c34
            have H' := Aside0.mk H
            clear H
            have p33 : 0 ≤ (0 : Int) := (by omega)
            have q33 : 0 < (rdOf ByteArray.empty x1_2 x39_2).size := (by have : (0 : Int) < ((rdOf ByteArray.empty x1_2 x39_2).size : Int) := of_decide_eq_true (by first | (with_reducible assumption) | assumption); omega)
            have hx33 : ∀ h : 0 < (rdOf ByteArray.empty x1_2 x39_2).size, (((rdOf ByteArray.empty x1_2 x39_2)[0]'h).toNat : Int) = bt (rdOf ByteArray.empty x1_2 x39_2) 0 := bt_at (rdOf ByteArray.empty x1_2 x39_2) 0
            clear p33
            have qi33 : (0 < ((rdOf ByteArray.empty x1_2 x39_2).size : Int)) = True := eq_true (of_decide_eq_true (by first | (with_reducible assumption) | assumption))
            replace q33 := eq_true q33
            go_wp2
            go_meet
            case rel => exact ⟨_, (false), (by first | rfl | (simp; done) | (simp [*]; done)), H', ⟨by have := HJ2.out; have := HK2.out; first | omega | exact Nat.le_refl _⟩, ⟨by (with_reducible repeat (first | apply Kd.V_alloc | apply Kd.V_drewN | apply Kd.V_drew)); exact HO_37.out⟩, ⟨by (with_reducible repeat (first | apply Kd.R_alloc | apply Kd.R_drewN | apply Kd.R_drew)); exact HO_129001.out⟩, ⟨by (with_reducible repeat (first | apply Kd.R_alloc | apply Kd.R_drewN | apply Kd.R_drew)); exact HO_129002.out⟩, ⟨by (with_reducible repeat (first | apply Kd.R_alloc | apply Kd.R_drewN | apply Kd.R_drew)); exact HO_129003.out⟩, ⟨by (with_reducible repeat (first | refine blk_drewN ?_ _ | refine blk_drew ?_ | refine blk_alloc ?_ _)); exact BK127.out⟩, ⟨by (with_reducible repeat (first | refine blk_drewN ?_ _ | refine blk_drew ?_ | refine blk_alloc ?_ _)); exact BK128.out⟩, ⟨by repeat (first | (with_reducible first | exact HB.out | apply below_alloc | apply pw_below_drewN | apply below_drew1 | refine below_set ?_ GE127.out | refine below_set ?_ GE128.out) | exact HB.out)⟩⟩
          ·rw [if_neg c32] at H
           exact absurd H (by simp)
        case rest =>
         clear HC30
         (try clear c1); (try clear p1); (try clear q1); (try clear hx1); (try clear qi1); (try clear c2); (try clear p2); (try clear q2); (try clear c3); (try clear p3); (try clear q3); (try clear hx3); (try clear qi3); (try clear c4); (try clear c6); (try clear p6); (try clear c8); (try clear c9); (try clear c9b0); (try clear c9b1); (try clear c9b2); (try clear c10); (try clear c12); (try clear c12b0); (try clear c12b1); (try clear p12); (try clear q12); (try clear hx12); (try clear qi12); (try clear c13); (try clear c13b0); (try clear c13b1); (try clear p13); (try clear q13); (try clear hx13); (try clear qi13); (try clear p14); (try clear q14); (try clear hx14); (try clear c15); (try clear c16); (try clear c16b0); (try clear c16b1); (try clear c20); (try clear c23); (try clear q23); (try clear c24); (try clear c27); (try clear c27b0); (try clear c28); (try clear c28b0); (try clear c29); (try clear c29b0); (try clear c31); (try clear c31b0); (try clear c31b1); (try clear c32); (try clear c32b0); (try clear c32b1); (try clear p33); (try clear q33); (try clear hx33); (try clear qi33); (try clear c34); (try clear c34b0); (try clear p35); (try clear q35); (try clear hx35); (try clear qi35); (try clear hcz11_0); (try clear hcz11_1); (try clear hcz11_2); (try clear hcz11_3); (try clear hcz25_0); (try clear hcz25_1); (try clear hcz25_2); (try clear hcz25_3); (try clear hcz7_0); (try clear hcz7_1); (try clear hcz7_2); (try clear hcz7_3); (try clear hfz11_0); (try clear hfz11_1); (try clear hfz11_2); (try clear hfz11_3); (try clear hfz25_0); (try clear hfz25_1); (try clear hfz25_2); (try clear hfz25_3); (try clear hfz7_0); (try clear hfz7_1); (try clear hfz7_2); (try clear hfz7_3); (try clear hx129_0); (try clear hx130_0); (try clear hx141_0); (try clear p1); (try clear p12); (try clear p129); (try clear p13); (try clear p130); (try clear p141); (try clear p2); (try clear p33); (try clear p35); (try clear q1); (try clear q12); (try clear q129); (try clear q13); (try clear q130); (try clear q141); (try clear q2); (try clear q23); (try clear q33); (try clear q35)
         obtain ⟨kq, x57_29, rfl, HA, HJ29, HO_37, HO_129001, HO_129002, HO_129003, BK127, BK128, HB⟩ := hcut
         cases kq with
         | zero => exact absurd HA.out (by simp [node_Of.j2])
         | succ kj29 =>
          have H := HA.out
          clear HA
          simp only [node_Of.j2] at H
          by_cases c36 : x57_29 = true
          ·subst c36
           have H1 : (some (false, ([] : List ByteArray), ([] : List ByteArray), ([] : List Int), 50)) = some (r1, r2, r3, r4, r5) := by rw [if_pos rfl] at H; exact H
           clear H
           have H := H1
           clear H1
           simp only [Option.some.injEq, Prod.mk.injEq] at H
           obtain ⟨rfl, rfl, rfl, rfl, rfl⟩ := H
           have hnb37 := NB127_128.out
           have hnc37 := NB128_127.out
           have hcz38_0 : wc.cell? ⟨gb127, 0, none⟩ = some (.bool x128000_2) := (blk_cell BK127.out 0).trans rfl
           have hcz38_1 : wc.cell? ⟨gb127, 1, none⟩ = some (.slice none 0 0) := (blk_cell BK127.out 1).trans rfl
           have hcz38_2 : wc.cell? ⟨gb127, 2, none⟩ = some (.slice none 0 0) := (blk_cell BK127.out 2).trans rfl
           have hcz38_3 : wc.cell? ⟨gb127, 3, none⟩ = some (.slice none 0 0) := (blk_cell BK127.out 3).trans rfl
           have hfz38_0 := blk_frozen BK127.out 0
           have hfz38_1 := blk_frozen BK127.out 1
           have hfz38_2 := blk_frozen BK127.out 2
           have hfz38_3 := blk_frozen BK127.out 3
           go_wp2
           refine bodyPost_ret (results_ct rfl _ _ gb127 25 #[.bool false, .slice none 0 0, .slice none 0 0, .slice none 0 0] (0, 0) _ rfl (by (with_reducible repeat (first | refine blk_drewN ?_ _ | refine blk_drew ?_ | refine blk_alloc ?_ _)); refine blk_put (cs := #[.bool false, .slice none 0 0, .slice none 0 0, .slice none 0 0]) ?_ 3 _ rfl; (with_reducible repeat (first | refine blk_drewN ?_ _ | refine blk_drew ?_ | refine blk_alloc ?_ _)); refine blk_put (cs := #[.bool false, .slice none 0 0, .slice none 0 0, .slice none 0 0]) ?_ 2 _ rfl; (with_reducible repeat (first | refine blk_drewN ?_ _ | refine blk_drew ?_ | refine blk_alloc ?_ _)); refine blk_put (cs := #[.bool false, .slice none 0 0, .slice none 0 0, .slice none 0 0]) ?_ 1 _ rfl; (with_reducible repeat (first | refine blk_drewN ?_ _ | refine blk_drew ?_ | refine blk_alloc ?_ _)); refine blk_put (cs := #[.bool x128000_2, .slice none 0 0, .slice none 0 0, .slice none 0 0]) ?_ 0 _ rfl; (with_reducible repeat (first | refine blk_drewN ?_ _ | refine blk_drew ?_ | refine blk_alloc ?_ _)); exact BK127.out) Try.underlying25 rfl (by kernel_rfl)) rfl ?_
           exact ⟨_, _, _, by first | rfl | (simp [errW_none, errW_some] <;> rfl) | (simp [*, errW_none, errW_some] <;> rfl), by first | exact Kd.R_nil _ _ _ _ _ | exact Kd.N_nil _ _ _ _ _ | exact Kd.V_nil _ _ _ _ _ | exact Kd.Q_nil _ _ _ _ _ | exact Kd.S_nil _ _ _ _ _, by first | exact Kd.R_nil _ _ _ _ _ | exact Kd.N_nil _ _ _ _ _ | exact Kd.V_nil _ _ _ _ _ | exact Kd.Q_nil _ _ _ _ _ | exact Kd.S_nil _ _ _ _ _, by first | exact Kd.R_nil _ _ _ _ _ | exact Kd.N_nil _ _ _ _ _ | exact Kd.V_nil _ _ _ _ _ | exact Kd.Q_nil _ _ _ _ _ | exact Kd.S_nil _ _ _ _ _, by repeat (first | (with_reducible first | exact HB.out | apply below_alloc | apply pw_below_drewN | apply below_drew1 | refine below_set ?_ GE127.out | refine below_set ?_ GE128.out) | exact HB.out)⟩
          ·replace c36 := Bool.eq_false_iff.mpr c36
           subst c36
           have H1 : (if 0 < ((rdOf ByteArray.empty x1_2 x39_2).size : Int) then (if 1 ≤ (wrap64 (1 + (wrap64 (bt (rdOf ByteArray.empty x1_2 x39_2) 0)))) then (if (wrap64 (1 + (wrap64 (bt (rdOf ByteArray.empty x1_2 x39_2) 0)))) ≤ ((rdOf ByteArray.empty x1_2 x39_2).size : Int) then (if 0 ≤ (wrap64 (1 + (wrap64 (bt (rdOf ByteArray.empty x1_2 x39_2) 0)))) then (if x129001_2.length < 8796093022208 then ((some (x129001_2 ++ [(rdOf ByteArray.empty x1_2 x39_2).extract 1 ((wrap64 (1 + (wrap64 (bt (rdOf ByteArray.empty x1_2 x39_2) 0)))) : Int).toNat] : List ByteArray)).bind fun y142 => (if a0 = true then (if x129002_2.length < 8796093022208 then (node_Of.l0 kj29 a0 x1_2 (x1_2.length : Int) (wrap64 (x39_2 + 1)) a0 y142 (x129002_2 ++ [(rdOf ByteArray.empty x1_2 x39_2).extract ((wrap64 (1 + (wrap64 (bt (rdOf ByteArray.empty x1_2 x39_2) 0)))) : Int).toNat (rdOf ByteArray.empty x1_2 x39_2).size]) x129003_2) else (none)) else (if (((rdOf ByteArray.empty x1_2 x39_2).extract ((wrap64 (1 + (wrap64 (bt (rdOf ByteArray.empty x1_2 x39_2) 0)))) : Int).toNat (rdOf ByteArray.empty x1_2 x39_2).size).size : Int) = 4 then ((node_number.f ((rdOf ByteArray.empty x1_2 x39_2).extract ((wrap64 (1 + (wrap64 (bt (rdOf ByteArray.empty x1_2 x39_2) 0)))) : Int).toNat (rdOf ByteArray.empty x1_2 x39_2).size)).bind fun t148 => (if x129003_2.length < 17592186044416 then (node_Of.l0 kj29 a0 x1_2 (x1_2.length : Int) (wrap64 (x39_2 + 1)) a0 y142 x129002_2 (x129003_2 ++ [t148])) else (none))) else (some (false, ([] : List ByteArray), ([] : List ByteArray), ([] : List Int), 50))))) else (none)) else (none)) else (none)) else (none)) else (none)) = some (r1, r2, r3, r4, r5) := by rw [if_neg (show ¬ (false = true) by decide)] at H; exact H
           clear H
           have H := H1
           clear H1
           by_cases c39 : 0 < ((rdOf ByteArray.empty x1_2 x39_2).size : Int)
           ·rw [if_pos c39] at H
            have c39b0 : decide (0 < ((rdOf ByteArray.empty x1_2 x39_2).size : Int)) = true := decide_eq_true c39
            have c39b1 : decide (0 < (rdOf ByteArray.empty x1_2 x39_2).size) = true := decide_eq_true (by omega)
            clear c39
            by_cases c41 : 1 ≤ (wrap64 (1 + (wrap64 (bt (rdOf ByteArray.empty x1_2 x39_2) 0))))
            ·rw [if_pos c41] at H
             have c41b0 := eq_true c41
             have c41b1 : decide (1 ≤ (wrap64 (1 + (wrap64 (bt (rdOf ByteArray.empty x1_2 x39_2) 0))))) = true := decide_eq_true c41
             by_cases c42 : (wrap64 (1 + (wrap64 (bt (rdOf ByteArray.empty x1_2 x39_2) 0)))) ≤ ((rdOf ByteArray.empty x1_2 x39_2).size : Int)
             ·rw [if_pos c42] at H
              have c42b0 := eq_true c42
              have c42b1 : decide ((wrap64 (1 + (wrap64 (bt (rdOf ByteArray.empty x1_2 x39_2) 0)))) ≤ ((rdOf ByteArray.empty x1_2 x39_2).size : Int)) = true := decide_eq_true c42
              obtain ⟨ji44, hji44⟩ : ∃ j_ : Int, (wrap64 (1 + (wrap64 (bt (rdOf ByteArray.empty x1_2 x39_2) 0)))) = j_ := ⟨_, rfl⟩
              replace H : (if 0 ≤ (ji44) then (if x129001_2.length < 8796093022208 then ((some (x129001_2 ++ [(rdOf ByteArray.empty x1_2 x39_2).extract 1 ((ji44) : Int).toNat] : List ByteArray)).bind fun y142 => (if a0 = true then (if x129002_2.length < 8796093022208 then (node_Of.l0 kj29 a0 x1_2 (x1_2.length : Int) (wrap64 (x39_2 + 1)) a0 y142 (x129002_2 ++ [(rdOf ByteArray.empty x1_2 x39_2).extract ((ji44) : Int).toNat (rdOf ByteArray.empty x1_2 x39_2).size]) x129003_2) else (none)) else (if (((rdOf ByteArray.empty x1_2 x39_2).extract ((ji44) : Int).toNat (rdOf ByteArray.empty x1_2 x39_2).size).size : Int) = 4 then ((node_number.f ((rdOf ByteArray.empty x1_2 x39_2).extract ((ji44) : Int).toNat (rdOf ByteArray.empty x1_2 x39_2).size)).bind fun t148 => (if x129003_2.length < 17592186044416 then (node_Of.l0 kj29 a0 x1_2 (x1_2.length : Int) (wrap64 (x39_2 + 1)) a0 y142 x129002_2 (x129003_2 ++ [t148])) else (none))) else (some (false, ([] : List ByteArray), ([] : List ByteArray), ([] : List Int), 50))))) else (none)) else (none)) = some (r1, r2, r3, r4, r5) := by first | (rw [hji44] at H; exact H) | (simp only [hji44] at H ⊢; exact H)
              (try rw [hji44] at c41b0)
              (try rw [hji44] at c41b1)
              (try rw [hji44] at c41)
              (try rw [hji44] at c42b0)
              (try rw [hji44] at c42b1)
              (try rw [hji44] at c42)
              have hji44w : (IntKind.i64.wrap (1 + (wrap64 (bt (rdOf ByteArray.empty x1_2 x39_2) 0)))) = ji44 := (i64_w _).trans hji44
              by_cases c45 : 0 ≤ (ji44)
              ·rw [if_pos c45] at H
               have c45b0 := eq_true c45
               have c45b1 : decide (0 ≤ (ji44)) = true := decide_eq_true c45
               clear c45
               have c46b0 := eq_true (of_decide_eq_true (by first | (with_reducible assumption) | assumption) : (ji44) ≤ ((rdOf ByteArray.empty x1_2 x39_2).size : Int))
               by_cases c47 : x129001_2.length < 8796093022208
               ·rw [if_pos c47] at H
                have LMc47 := Aside0.mk c47
                clear c47
                obtain ⟨y142, hy142⟩ : ∃ y_ : List ByteArray, y_ = (x129001_2 ++ [(rdOf ByteArray.empty x1_2 x39_2).extract 1 ((ji44) : Int).toNat]) := ⟨_, rfl⟩
                replace H : (if a0 = true then (if x129002_2.length < 8796093022208 then (node_Of.l0 kj29 a0 x1_2 (x1_2.length : Int) (wrap64 (x39_2 + 1)) a0 y142 (x129002_2 ++ [(rdOf ByteArray.empty x1_2 x39_2).extract ((ji44) : Int).toNat (rdOf ByteArray.empty x1_2 x39_2).size]) x129003_2) else (none)) else (if (((rdOf ByteArray.empty x1_2 x39_2).extract ((ji44) : Int).toNat (rdOf ByteArray.empty x1_2 x39_2).size).size : Int) = 4 then ((node_number.f ((rdOf ByteArray.empty x1_2 x39_2).extract ((ji44) : Int).toNat (rdOf ByteArray.empty x1_2 x39_2).size)).bind fun t148 => (if x129003_2.length < 17592186044416 then (node_Of.l0 kj29 a0 x1_2 (x1_2.length : Int) (wrap64 (x39_2 + 1)) a0 y142 x129002_2 (x129003_2 ++ [t148])) else (none))) else (some (false, ([] : List ByteArray), ([] : List ByteArray), ([] : List Int), 50)))) = some (r1, r2, r3, r4, r5) := by first | (rw [hy142]; with_reducible exact H) | (have H2_ := (Option.bind_some _ _).symm.trans H; rw [hy142]; with_reducible exact H2_) | (have H2_ := (Option.bind_some _ _).symm.trans H; with_reducible exact H2_) | with_reducible exact H | (rw [hy142]; exact H) | exact H
                have Ny142 := Aside0.mk hy142
                clear hy142
                by_cases c48 : a0 = true
                ·subst c48
                 have H1 : (if x129002_2.length < 8796093022208 then (node_Of.l0 kj29 true x1_2 (x1_2.length : Int) (wrap64 (x39_2 + 1)) true y142 (x129002_2 ++ [(rdOf ByteArray.empty x1_2 x39_2).extract ((ji44) : Int).toNat (rdOf ByteArray.empty x1_2 x39_2).size]) x129003_2) else (none)) = some (r1, r2, r3, r4, r5) := by rw [if_pos rfl] at H; exact H
                 clear H
                 have H := H1
                 clear H1
                 by_cases c49 : x129002_2.length < 8796093022208
                 ·rw [if_pos c49] at H
                  have LMc49 := Aside0.mk c49
                  clear c49
                  obtain ⟨y145, hy145⟩ : ∃ y_ : List ByteArray, y_ = (x129002_2 ++ [(rdOf ByteArray.empty x1_2 x39_2).extract ((ji44) : Int).toNat (rdOf ByteArray.empty x1_2 x39_2).size]) := ⟨_, rfl⟩
                  replace H : (node_Of.l0 kj29 true x1_2 (x1_2.length : Int) (wrap64 (x39_2 + 1)) true y142 y145 x129003_2) = some (r1, r2, r3, r4, r5) := by first | (rw [hy145]; with_reducible exact H) | (have H2_ := (Option.bind_some _ _).symm.trans H; rw [hy145]; with_reducible exact H2_) | (have H2_ := (Option.bind_some _ _).symm.trans H; with_reducible exact H2_) | with_reducible exact H | (rw [hy145]; exact H) | exact H
                  have Ny145 := Aside0.mk hy145
                  clear hy145
                  have H' := Aside0.mk H
                  clear H
                  try go_wp2
                  have n0_ := Aside0.mk (Kd.V_drew HO_37.out)
                  have n1_ := Aside0.mk (Kd.R_drew HO_129001.out)
                  have n2_ := Aside0.mk (Kd.R_drew HO_129002.out)
                  have n3_ := Aside0.mk (Kd.R_drew HO_129003.out)
                  have n4_ := Aside0.mk (blk_drew BK127.out)
                  have n5_ := Aside0.mk (blk_drew BK128.out)
                  have n6_ := Aside0.mk (below_drew1 HB.out)
                  clear HO_37
                  clear HO_129001
                  clear HO_129002
                  clear HO_129003
                  clear BK127
                  clear BK128
                  clear HB
                  have HO_37 := n0_
                  have HO_129001 := n1_
                  have HO_129002 := n2_
                  have HO_129003 := n3_
                  have BK127 := n4_
                  have BK128 := n5_
                  have HB := n6_
                  clear n0_ n1_ n2_ n3_ n4_ n5_ n6_
                  have p40 : 0 ≤ (0 : Int) := (by omega)
                  have q40 : 0 < (rdOf ByteArray.empty x1_2 x39_2).size := (by have : (0 : Int) < ((rdOf ByteArray.empty x1_2 x39_2).size : Int) := of_decide_eq_true (by first | (with_reducible assumption) | assumption); omega)
                  have hx40 : ∀ h : 0 < (rdOf ByteArray.empty x1_2 x39_2).size, (((rdOf ByteArray.empty x1_2 x39_2)[0]'h).toNat : Int) = bt (rdOf ByteArray.empty x1_2 x39_2) 0 := bt_at (rdOf ByteArray.empty x1_2 x39_2) 0
                  clear p40
                  have qi40 : (0 < ((rdOf ByteArray.empty x1_2 x39_2).size : Int)) = True := eq_true (of_decide_eq_true (by first | (with_reducible assumption) | assumption))
                  replace q40 := eq_true q40
                  have p43 : 0 ≤ (0 : Int) := (by omega)
                  have q43 : 0 < (rdOf ByteArray.empty x1_2 x39_2).size := (by have : (0 : Int) < ((rdOf ByteArray.empty x1_2 x39_2).size : Int) := of_decide_eq_true (by first | (with_reducible assumption) | assumption); omega)
                  have hx43 : ∀ h : 0 < (rdOf ByteArray.empty x1_2 x39_2).size, (((rdOf ByteArray.empty x1_2 x39_2)[0]'h).toNat : Int) = bt (rdOf ByteArray.empty x1_2 x39_2) 0 := bt_at (rdOf ByteArray.empty x1_2 x39_2) 0
                  clear p43
                  have qi43 : (0 < ((rdOf ByteArray.empty x1_2 x39_2).size : Int)) = True := eq_true (of_decide_eq_true (by first | (with_reducible assumption) | assumption))
                  replace q43 := eq_true q43
                  refine start_ (n := 14) (S := fun w' => True) (ds := []) #[false, false, false, false, false, false, false, false, false, false, false, false, false, false] (by kernel_rfl) rfl rfl trivial (fun hHeld => ?_); refine with_tabW node_Of.tab12 node_Of.bits12 (fun HT_ HW_ => ?_)
                  generalize wc.drew = w50 at HO_37 HO_129001 HO_129002 HO_129003 BK127 BK128 HB hHeld ⊢
                  refine pure_ (i := 0) (N := some 59) (v := ?_) (a' := ?_) #[true, false, false, false, false, false, false, false, false, false, false, false, false, false] rfl rfl (any_of HT_.out (by kernel_rfl)) (fun _ _ _ h => h) (Or.inl ⟨by rfl, ?_⟩) ?_ ?_
                  rotate_left
                  ·intro w'
                   go_simp
                   with_reducible rfl
                  rotate_left
                  ·simp only [Act.put, List.setIfInBounds_toArray, List.set_cons_zero, List.set_cons_succ, i64_w, i32_w]
                   rfl
                  refine pure_ (i := 1) (N := some 60) (v := ?_) (a' := ?_) #[true, true, false, false, false, false, false, false, false, false, false, false, false, false] rfl rfl (any_of HT_.out (by kernel_rfl)) (fun _ _ _ h => h) (Or.inl ⟨by rfl, ?_⟩) ?_ ?_
                  rotate_left
                  ·intro w'
                   go_simp
                   with_reducible rfl
                  rotate_left
                  ·simp only [Act.put, List.setIfInBounds_toArray, List.set_cons_zero, List.set_cons_succ, i64_w, i32_w]
                   rfl
                  refine pure_ (i := 6) (N := some 65) (v := ?_) (a' := ?_) #[true, true, false, false, false, false, true, false, false, false, false, false, false, false] rfl rfl (any_of HT_.out (by kernel_rfl)) (fun _ _ _ h => h) (Or.inl ⟨by rfl, ?_⟩) ?_ ?_
                  rotate_left
                  ·intro w'
                   go_simp
                   with_reducible rfl
                  rotate_left
                  ·simp only [Act.put, List.setIfInBounds_toArray, List.set_cons_zero, List.set_cons_succ, i64_w, i32_w]
                   rfl
                  refine pure_ (i := 7) (N := some 66) (v := ?_) (a' := ?_) #[true, true, false, false, false, false, true, true, false, false, false, false, false, false] rfl rfl (any_of HT_.out (by kernel_rfl)) (fun _ _ _ h => h) (Or.inl ⟨by rfl, ?_⟩) ?_ ?_
                  rotate_left
                  ·intro w'
                   go_simp
                   with_reducible rfl
                  rotate_left
                  ·simp only [Act.put, List.setIfInBounds_toArray, List.set_cons_zero, List.set_cons_succ, i64_w, i32_w]
                   rfl
                  refine take_ (i := 2) (N := some 61) (v := ?_) (a' := ?_) #[true, true, true, false, false, false, true, true, false, false, false, false, false, false] rfl rfl (take_ofW HT_.out HW_.out (by kernel_rfl)) (fun _ _ _ h => h) (Or.inl ⟨by rfl, ?_⟩) hHeld ?_ ?_
                  rotate_left
                  ·intro w' _
                   go_simp
                   with_reducible rfl
                  rotate_left
                  ·simp only [Act.put, List.setIfInBounds_toArray, List.set_cons_zero, List.set_cons_succ, i64_w, i32_w]
                   rfl
                  refine pure_ (i := 3) (N := some 62) (v := ?_) (a' := ?_) #[true, true, true, true, false, false, true, true, false, false, false, false, false, false] rfl rfl (any_of HT_.out (by kernel_rfl)) (fun _ _ _ h => h) (Or.inl ⟨by rfl, ?_⟩) ?_ ?_
                  rotate_left
                  ·intro w'
                   go_simp
                   with_reducible rfl
                  rotate_left
                  ·simp only [Act.put, List.setIfInBounds_toArray, List.set_cons_zero, List.set_cons_succ, i64_w, i32_w]
                   rfl
                  refine pure_ (i := 4) (N := some 63) (v := ?_) (a' := ?_) #[true, true, true, true, true, false, true, true, false, false, false, false, false, false] rfl rfl (any_of HT_.out (by kernel_rfl)) (fun _ _ _ h => h) (Or.inl ⟨by rfl, ?_⟩) ?_ ?_
                  rotate_left
                  ·intro w'
                   go_simp
                   with_reducible rfl
                  rotate_left
                  ·simp only [Act.put, List.setIfInBounds_toArray, List.set_cons_zero, List.set_cons_succ, i64_w, i32_w]
                   rfl
                  refine pure_ (i := 5) (N := some 64) (v := ?_) (a' := ?_) #[true, true, true, true, true, true, true, true, false, false, false, false, false, false] rfl rfl (any_of HT_.out (by kernel_rfl)) (fun _ _ _ h => h) (Or.inl ⟨by rfl, ?_⟩) ?_ ?_
                  rotate_left
                  ·intro w'
                   go_simp
                   with_reducible rfl
                  rotate_left
                  ·simp only [Act.put, List.setIfInBounds_toArray, List.set_cons_zero, List.set_cons_succ, i64_w, i32_w]
                   rfl
                  refine pure_ (i := 12) (N := some 9) (v := ?_) (a' := ?_) #[true, true, true, true, true, true, true, true, false, false, false, false, true, false] rfl rfl (any_of HT_.out (by kernel_rfl)) (fun _ _ _ h => h) (Or.inl ⟨by rfl, ?_⟩) ?_ ?_
                  rotate_left
                  ·intro w'
                   go_simp
                   with_reducible rfl
                  rotate_left
                  ·simp only [Act.put, List.setIfInBounds_toArray, List.set_cons_zero, List.set_cons_succ, i64_w, i32_w]
                   rfl
                  refine take_ (i := 8) (N := some 67) (v := ?_) (a' := ?_) #[true, true, true, true, true, true, true, true, true, false, false, false, true, false] rfl rfl (take_ofW HT_.out HW_.out (by kernel_rfl)) (fun _ _ _ h => h) (Or.inl ⟨by rfl, ?_⟩) hHeld ?_ ?_
                  rotate_left
                  ·intro w' _
                   go_simp
                   with_reducible rfl
                  rotate_left
                  ·simp only [Act.put, List.setIfInBounds_toArray, List.set_cons_zero, List.set_cons_succ, i64_w, i32_w]
                   rfl
                  refine pure_ (i := 9) (N := some 68) (v := ?_) (a' := ?_) #[true, true, true, true, true, true, true, true, true, true, false, false, true, false] rfl rfl (any_of HT_.out (by kernel_rfl)) (fun _ _ _ h => h) (Or.inl ⟨by rfl, ?_⟩) ?_ ?_
                  rotate_left
                  ·intro w'
                   go_simp
                   with_reducible rfl
                  rotate_left
                  ·simp only [Act.put, List.setIfInBounds_toArray, List.set_cons_zero, List.set_cons_succ, i64_w, i32_w]
                   rfl
                  refine pure_ (i := 10) (N := some 69) (v := ?_) (a' := ?_) #[true, true, true, true, true, true, true, true, true, true, true, false, true, false] rfl rfl (any_of HT_.out (by kernel_rfl)) (fun _ _ _ h => h) (Or.inl ⟨by rfl, ?_⟩) ?_ ?_
                  rotate_left
                  ·intro w'
                   go_simp
                   with_reducible rfl
                  rotate_left
                  ·simp only [Act.put, List.setIfInBounds_toArray, List.set_cons_zero, List.set_cons_succ, i64_w, i32_w]
                   rfl
                  refine pure_ (i := 11) (N := some 70) (v := ?_) (a' := ?_) #[true, true, true, true, true, true, true, true, true, true, true, true, true, false] rfl rfl (any_of HT_.out (by kernel_rfl)) (fun _ _ _ h => h) (Or.inl ⟨by rfl, ?_⟩) ?_ ?_
                  rotate_left
                  ·intro w'
                   go_simp
                   with_reducible rfl
                  rotate_left
                  ·simp only [Act.put, List.setIfInBounds_toArray, List.set_cons_zero, List.set_cons_succ, i64_w, i32_w]
                   rfl
                  refine pure_ (i := 13) (N := some 10) (v := ?_) (a' := ?_) #[true, true, true, true, true, true, true, true, true, true, true, true, true, true] rfl rfl (any_of HT_.out (by kernel_rfl)) (fun _ _ _ h => h) (Or.inl ⟨by rfl, ?_⟩) ?_ ?_
                  rotate_left
                  ·intro w'
                   go_simp
                   with_reducible rfl
                  rotate_left
                  ·simp only [Act.put, List.setIfInBounds_toArray, List.set_cons_zero, List.set_cons_succ, i64_w, i32_w]
                   rfl
                  refine done_ (done_of HT_.out (by kernel_rfl)) ?_
                  have hnb51 := NB128_127.out
                  have hnc51 := NB127_128.out
                  have hcz52_0 : w50.cell? ⟨gb128, 0, none⟩ = some (.bool true) := (blk_cell BK128.out 0).trans rfl
                  have hcz52_1 : w50.cell? ⟨gb128, 1, none⟩ = some (u129001) := (blk_cell BK128.out 1).trans rfl
                  have hcz52_2 : w50.cell? ⟨gb128, 2, none⟩ = some (u129002) := (blk_cell BK128.out 2).trans rfl
                  have hcz52_3 : w50.cell? ⟨gb128, 3, none⟩ = some (u129003) := (blk_cell BK128.out 3).trans rfl
                  have hfz52_0 := blk_frozen BK128.out 0
                  have hfz52_1 := blk_frozen BK128.out 1
                  have hfz52_2 := blk_frozen BK128.out 2
                  have hfz52_3 := blk_frozen BK128.out 3
                  try go_wp2_with (first | ((with_reducible refine gate_builtin (b := .append) (xs := #[.tmp 72, .tmp 74]) rfl ?_); (try (refine gate_guard (by rfl) ?_; dsimp only)); at_builtin; refine Kd.R_append Kd.string (w0 := w) w.heap.size rfl (.tmp 72) (.tmp 74) 22 9 (.string ⟨#[]⟩) 16 rfl Try.underlying22 info9 rfl (by decide) (by omega) u129001 x129001_2 ((rdOf ByteArray.empty x1_2 x39_2).extract 1 ((ji44) : Int).toNat) [.string ((rdOf ByteArray.empty x1_2 x39_2).extract 1 ((ji44) : Int).toNat)] (fun k_ => (w.heap.size ≤ k_) ∧ some k_ ≠ (u129002 : Value).ownBlock) (fun _ => False) rfl rfl ?aP (fun _ hk => hk.elim) ?aF ?aO ?aB ?aS ?aL ?_; (case aP => exact rfl); (case aB => exact (by repeat (first | (with_reducible first | exact HB.out | apply below_alloc | apply pw_below_drewN | apply below_drew1 | refine below_set ?_ GE127.out | refine below_set ?_ GE128.out) | exact HB.out))); (case aF => exact (fun k_ hk => ⟨(Nat.le_trans (below_size (by repeat (first | (with_reducible first | exact HB.out | apply below_alloc | apply pw_below_drewN | apply below_drew1 | refine below_set ?_ GE127.out | refine below_set ?_ GE128.out) | exact HB.out))) hk), Kd.fresh' (Kd.R_lt (by (with_reducible repeat (first | apply Kd.R_alloc | apply Kd.R_drewN | apply Kd.R_drew)); exact HO_129002.out)) k_ hk⟩)); (case aO => exact (by (with_reducible repeat (first | apply Kd.R_alloc | apply Kd.R_drewN | apply Kd.R_drew)); exact HO_129001.out)); (case aS => exact (below_size (by repeat (first | (with_reducible first | exact HB.out | apply below_alloc | apply pw_below_drewN | apply below_drew1 | refine below_set ?_ GE127.out | refine below_set ?_ GE128.out) | exact HB.out)))); (case aL => have := LMc47.out; omega); intro v143 w53 ho hb hg hat; rw [← Ny142.out] at ho; have n0_ := Aside0.mk (Kd.V_afterv (ok := (fun k_ => (P1_ k_ ∨ w.heap.size ≤ k_) ∧ some k_ ≠ (u129002 : Value).ownBlock ∧ some k_ ≠ (u129003 : Value).ownBlock ∧ k_ ≠ gb127 ∧ k_ ≠ gb128)) (by (with_reducible repeat (first | apply Kd.V_alloc | apply Kd.V_drewN | apply Kd.V_drew)); exact Kd.V_mono HO_37.out (fun _ hk => ⟨⟨hk.1, ⟨hk.2.2.1, ⟨hk.2.2.2.1, ⟨hk.2.2.2.2.1, hk.2.2.2.2.2⟩⟩⟩⟩, hk.2.1⟩)) hg hat); have n1_ := Aside0.mk (Kd.R_after (ok := (fun k_ => (w.heap.size ≤ k_))) (by (with_reducible repeat (first | apply Kd.R_alloc | apply Kd.R_drewN | apply Kd.R_drew)); exact HO_129002.out) hg hat); have n2_ := Aside0.mk (Kd.R_over' (by (with_reducible repeat (first | apply Kd.R_alloc | apply Kd.R_drewN | apply Kd.R_drew)); exact HO_129003.out) (Kd.R_typed (by (with_reducible repeat (first | apply Kd.R_alloc | apply Kd.R_drewN | apply Kd.R_drew)); exact HO_129001.out)) (by decide) hg); have n3_ := Aside0.mk (blk_grown (g := gb127) (o := .cells #[.bool x128000_2, .slice none 0 0, .slice none 0 0, .slice none 0 0] 25 (0, 0)) (by (with_reducible repeat (first | refine blk_drewN ?_ _ | refine blk_drew ?_ | refine blk_alloc ?_ _)); exact BK127.out) hg (Kd.R_ne HO_129001.out BK127.out (by decide))); have n4_ := Aside0.mk (blk_grown (g := gb128) (o := .cells #[.bool true, u129001, u129002, u129003] 25 (0, 0)) (by (with_reducible repeat (first | refine blk_drewN ?_ _ | refine blk_drew ?_ | refine blk_alloc ?_ _)); exact BK128.out) hg (Kd.R_ne HO_129001.out BK128.out (by decide))); have n5_ := Aside0.mk (hb); have n6_ := Aside0.mk (ho); clear HO_37; clear HO_129002; clear HO_129003; clear BK127; clear BK128; clear HB; clear HO_129001; have HO_37 := n0_; have HO_129002 := n1_; have HO_129003 := n2_; have BK127 := n3_; have BK128 := n4_; have HB := n5_; have HO144 := n6_; clear n0_ n1_ n2_ n3_ n4_ n5_ n6_; clear ho hb hg hat; obtain ⟨Ao54, co54, eo54⟩ := Kd.R_slice HO144.out; subst eo54; have hcz55_0 : w53.cell? ⟨gb128, 0, none⟩ = some (.bool true) := (blk_cell BK128.out 0).trans rfl; have hcz55_1 : w53.cell? ⟨gb128, 1, none⟩ = some (u129001) := (blk_cell BK128.out 1).trans rfl; have hcz55_2 : w53.cell? ⟨gb128, 2, none⟩ = some (u129002) := (blk_cell BK128.out 2).trans rfl; have hcz55_3 : w53.cell? ⟨gb128, 3, none⟩ = some (u129003) := (blk_cell BK128.out 3).trans rfl; have hfz55_0 := blk_frozen BK128.out 0; have hfz55_1 := blk_frozen BK128.out 1; have hfz55_2 := blk_frozen BK128.out 2; have hfz55_3 := blk_frozen BK128.out 3) | ((with_reducible refine gate_builtin (b := .append) (xs := #[.tmp 87, .tmp 89]) rfl ?_); (try (refine gate_guard (by rfl) ?_; dsimp only)); at_builtin; refine Kd.R_append Kd.string (w0 := w) w.heap.size rfl (.tmp 87) (.tmp 89) 22 9 (.string ⟨#[]⟩) 16 rfl Try.underlying22 info9 rfl (by decide) (by omega) u129002 x129002_2 ((rdOf ByteArray.empty x1_2 x39_2).extract ((ji44) : Int).toNat (rdOf ByteArray.empty x1_2 x39_2).size) [.string ((rdOf ByteArray.empty x1_2 x39_2).extract ((ji44) : Int).toNat (rdOf ByteArray.empty x1_2 x39_2).size)] (fun k_ => (w.heap.size ≤ k_) ∧ some k_ ≠ (.slice Ao54 y142.length co54 : Value).ownBlock) (fun _ => False) rfl (by first | (go_simp; done) | (go_simp; rfl)) ?aP (fun _ hk => hk.elim) ?aF ?aO ?aB ?aS ?aL ?_; (case aP => exact rfl); (case aB => exact (by repeat (first | (with_reducible first | exact HB.out | apply below_alloc | apply pw_below_drewN | apply below_drew1 | refine below_set ?_ GE127.out | refine below_set ?_ GE128.out) | exact HB.out))); (case aF => exact (fun k_ hk => ⟨(Nat.le_trans (below_size (by repeat (first | (with_reducible first | exact HB.out | apply below_alloc | apply pw_below_drewN | apply below_drew1 | refine below_set ?_ GE127.out | refine below_set ?_ GE128.out) | exact HB.out))) hk), Kd.fresh' (Kd.R_lt (by (with_reducible repeat (first | apply Kd.R_alloc | apply Kd.R_drewN | apply Kd.R_drew)); exact (Kd.R_mono (Kd.R_far (p := ⟨gb128, 1, none⟩) (Kd.R_types HO144.out BK128.out (by decide)) (fun _ hk => hk.2) (.slice Ao54 y142.length co54)) (fun _ h_ => h_.1)))) k_ hk⟩)); (case aO => exact (by (with_reducible repeat (first | apply Kd.R_alloc | apply Kd.R_drewN | apply Kd.R_drew)); exact Kd.R_mono (Kd.R_far (p := ⟨gb128, 1, none⟩) (Kd.R_types HO_129002.out BK128.out (by decide)) (fun _ hk => hk.2) (.slice Ao54 y142.length co54)) (fun _ hk => ⟨hk.1.1, hk.1.2⟩))); (case aS => exact (below_size (by repeat (first | (with_reducible first | exact HB.out | apply below_alloc | apply pw_below_drewN | apply below_drew1 | refine below_set ?_ GE127.out | refine below_set ?_ GE128.out) | exact HB.out)))); (case aL => have := LMc49.out; omega); intro v146 w56 ho hb hg hat; rw [← Ny145.out] at ho; have n0_ := Aside0.mk (Kd.V_afterv (ok := (fun k_ => (P1_ k_ ∨ w.heap.size ≤ k_) ∧ some k_ ≠ (u129003 : Value).ownBlock ∧ some k_ ≠ (.slice Ao54 y142.length co54 : Value).ownBlock ∧ k_ ≠ gb127 ∧ k_ ≠ gb128)) (by (with_reducible repeat (first | apply Kd.V_alloc | apply Kd.V_drewN | apply Kd.V_drew)); exact Kd.V_mono (Kd.V_far (p := ⟨gb128, 1, none⟩) (Kd.V_mono HO_37.out (fun k_ hk => (⟨hk, hk.1.2.2.2.2⟩ : _ ∧ k_ ≠ gb128))) (fun _ hk => hk.2) (.slice Ao54 y142.length co54)) (fun _ hk => ⟨⟨hk.1.1.1, ⟨hk.1.1.2.2.1, ⟨hk.1.2, ⟨hk.1.1.2.2.2.1, hk.1.1.2.2.2.2⟩⟩⟩⟩, hk.1.1.2.1⟩)) hg hat); have n1_ := Aside0.mk (Kd.R_over' (by (with_reducible repeat (first | apply Kd.R_alloc | apply Kd.R_drewN | apply Kd.R_drew)); exact (Kd.R_mono (Kd.R_far (p := ⟨gb128, 1, none⟩) (Kd.R_types HO_129003.out BK128.out (by decide)) (fun _ hk => hk.2) (.slice Ao54 y142.length co54)) (fun _ h_ => h_.1))) (Kd.R_typed (by (with_reducible repeat (first | apply Kd.R_alloc | apply Kd.R_drewN | apply Kd.R_drew)); exact (Kd.R_mono (Kd.R_far (p := ⟨gb128, 1, none⟩) (Kd.R_types HO_129002.out BK128.out (by decide)) (fun _ hk => hk.2) (.slice Ao54 y142.length co54)) (fun _ h_ => h_.1)))) (by decide) hg); have n2_ := Aside0.mk (blk_grown (g := gb127) (o := .cells #[.bool x128000_2, .slice none 0 0, .slice none 0 0, .slice none 0 0] 25 (0, 0)) (by (with_reducible repeat (first | refine blk_drewN ?_ _ | refine blk_drew ?_ | refine blk_alloc ?_ _)); refine blk_far ?_ NB127_128.out _; (with_reducible repeat (first | refine blk_drewN ?_ _ | refine blk_drew ?_ | refine blk_alloc ?_ _)); exact BK127.out) hg (Kd.R_ne HO_129002.out BK127.out (by decide))); have n3_ := Aside0.mk (blk_grown (g := gb128) (o := .cells #[.bool true, .slice Ao54 y142.length co54, u129002, u129003] 25 (0, 0)) (by (with_reducible repeat (first | refine blk_drewN ?_ _ | refine blk_drew ?_ | refine blk_alloc ?_ _)); refine blk_put (cs := #[.bool true, u129001, u129002, u129003]) ?_ 1 _ rfl; (with_reducible repeat (first | refine blk_drewN ?_ _ | refine blk_drew ?_ | refine blk_alloc ?_ _)); exact BK128.out) hg (Kd.R_ne HO_129002.out BK128.out (by decide))); have n4_ := Aside0.mk (Kd.R_after (ok := (fun k_ => (w.heap.size ≤ k_))) (by (with_reducible repeat (first | apply Kd.R_alloc | apply Kd.R_drewN | apply Kd.R_drew)); exact Kd.R_mono (Kd.R_far (p := ⟨gb128, 1, none⟩) (Kd.R_types HO144.out BK128.out (by decide)) (fun _ hk => hk.2) (.slice Ao54 y142.length co54)) (fun _ hk => ⟨hk.1.1, hk.1.2⟩)) hg hat); have n5_ := Aside0.mk (hb); have n6_ := Aside0.mk (ho); clear HO_37; clear HO_129003; clear BK127; clear BK128; clear HO144; clear HB; clear HO_129002; have HO_37 := n0_; have HO_129003 := n1_; have BK127 := n2_; have BK128 := n3_; have HO144 := n4_; have HB := n5_; have HO147 := n6_; clear n0_ n1_ n2_ n3_ n4_ n5_ n6_; clear ho hb hg hat; obtain ⟨Ao57, co57, eo57⟩ := Kd.R_slice HO147.out; subst eo57; have hcz58_0 : w56.cell? ⟨gb128, 0, none⟩ = some (.bool true) := (blk_cell BK128.out 0).trans rfl; have hcz58_1 : w56.cell? ⟨gb128, 1, none⟩ = some (.slice Ao54 y142.length co54) := (blk_cell BK128.out 1).trans rfl; have hcz58_2 : w56.cell? ⟨gb128, 2, none⟩ = some (u129002) := (blk_cell BK128.out 2).trans rfl; have hcz58_3 : w56.cell? ⟨gb128, 3, none⟩ = some (u129003) := (blk_cell BK128.out 3).trans rfl; have hfz58_0 := blk_frozen BK128.out 0; have hfz58_1 := blk_frozen BK128.out 1; have hfz58_2 := blk_frozen BK128.out 2; have hfz58_3 := blk_frozen BK128.out 3))
                  go_roundg kj29
                  case measure => have := HJ2.out; have := HK2.out; have := HJ29.out; omega
                  case rel => exact ⟨(wrap64 (x39_2 + 1)), (x128000_2), (y142), (y145), (x129003_2), (.slice Ao54 y142.length co54), (.slice Ao57 y145.length co57), (u129003), (by first | rfl | (simp; done) | (simp [*]; done)), H', ⟨by have := HJ2.out; have := HK2.out; have := HJ29.out; omega⟩, ⟨by (with_reducible repeat (first | apply Kd.V_alloc | apply Kd.V_drewN | apply Kd.V_drew)); exact Kd.V_mono (Kd.V_far (p := ⟨gb128, 2, none⟩) (Kd.V_mono HO_37.out (fun k_ hk => (⟨hk, hk.1.2.2.2.2⟩ : _ ∧ k_ ≠ gb128))) (fun _ hk => hk.2) (.slice Ao57 y145.length co57)) (fun _ hk => ⟨hk.1.1.1, ⟨hk.1.1.2.2.1, ⟨hk.1.2, ⟨hk.1.1.2.1, ⟨hk.1.1.2.2.2.1, hk.1.1.2.2.2.2⟩⟩⟩⟩⟩)⟩, ⟨by (with_reducible repeat (first | apply Kd.R_alloc | apply Kd.R_drewN | apply Kd.R_drew)); exact Kd.R_mono (Kd.R_far (p := ⟨gb128, 2, none⟩) (Kd.R_types HO144.out BK128.out (by decide)) (fun _ hk => hk.2) (.slice Ao57 y145.length co57)) (fun _ hk => ⟨hk.1.1, hk.1.2⟩)⟩, ⟨by (with_reducible repeat (first | apply Kd.R_alloc | apply Kd.R_drewN | apply Kd.R_drew)); exact Kd.R_mono (Kd.R_far (p := ⟨gb128, 2, none⟩) (Kd.R_types HO147.out BK128.out (by decide)) (fun _ hk => hk.2) (.slice Ao57 y145.length co57)) (fun _ hk => ⟨hk.1.1, hk.1.2⟩)⟩, ⟨by (with_reducible repeat (first | apply Kd.R_alloc | apply Kd.R_drewN | apply Kd.R_drew)); exact Kd.R_mono (Kd.R_far (p := ⟨gb128, 2, none⟩) (Kd.R_types HO_129003.out BK128.out (by decide)) (fun _ hk => hk.2) (.slice Ao57 y145.length co57)) (fun _ hk => hk.1)⟩, ⟨by (with_reducible repeat (first | refine blk_drewN ?_ _ | refine blk_drew ?_ | refine blk_alloc ?_ _)); refine blk_far ?_ NB127_128.out _; (with_reducible repeat (first | refine blk_drewN ?_ _ | refine blk_drew ?_ | refine blk_alloc ?_ _)); exact BK127.out⟩, ⟨by (with_reducible repeat (first | refine blk_drewN ?_ _ | refine blk_drew ?_ | refine blk_alloc ?_ _)); refine blk_put (cs := #[.bool true, .slice Ao54 y142.length co54, u129002, u129003]) ?_ 2 _ rfl; (with_reducible repeat (first | refine blk_drewN ?_ _ | refine blk_drew ?_ | refine blk_alloc ?_ _)); exact BK128.out⟩, ⟨by repeat (first | (with_reducible first | exact HB.out | apply below_alloc | apply pw_below_drewN | apply below_drew1 | refine below_set ?_ GE127.out | refine below_set ?_ GE128.out) | exact HB.out)⟩⟩
                 ·rw [if_neg c49] at H
                  exact absurd H (by simp)
                ·replace c48 := Bool.eq_false_iff.mpr c48
                 subst c48
                 have H1 : (if (((rdOf ByteArray.empty x1_2 x39_2).extract ((ji44) : Int).toNat (rdOf ByteArray.empty x1_2 x39_2).size).size : Int) = 4 then ((node_number.f ((rdOf ByteArray.empty x1_2 x39_2).extract ((ji44) : Int).toNat (rdOf ByteArray.empty x1_2 x39_2).size)).bind fun t148 => (if x129003_2.length < 17592186044416 then (node_Of.l0 kj29 false x1_2 (x1_2.length : Int) (wrap64 (x39_2 + 1)) false y142 x129002_2 (x129003_2 ++ [t148])) else (none))) else (some (false, ([] : List ByteArray), ([] : List ByteArray), ([] : List Int), 50))) = some (r1, r2, r3, r4, r5) := by rw [if_neg (show ¬ (false = true) by decide)] at H; exact H
                 clear H
                 have H := H1
                 clear H1
                 by_cases c59 : (((rdOf ByteArray.empty x1_2 x39_2).extract ((ji44) : Int).toNat (rdOf ByteArray.empty x1_2 x39_2).size).size : Int) = 4
                 ·rw [if_pos c59] at H
                  have c59b0 : ((((rdOf ByteArray.empty x1_2 x39_2).extract ((ji44) : Int).toNat (rdOf ByteArray.empty x1_2 x39_2).size).size : Int) == 4) = true := beq_iff_eq.mpr c59
                  try (have c59x0 := c59b0; simp only [ByteArray.size_extract, Nat.min_self] at c59x0)
                  have c59b1 : ((((rdOf ByteArray.empty x1_2 x39_2).extract ((ji44) : Int).toNat (rdOf ByteArray.empty x1_2 x39_2).size).size : Int) != 4) = false := bne_eq_false_iff_eq.mpr c59
                  try (have c59x1 := c59b1; simp only [ByteArray.size_extract, Nat.min_self] at c59x1)
                  clear c59
                  replace H := Option.bind_eq_some_iff.mp H
                  obtain ⟨t148, A600, H⟩ := H
                  replace H : (if x129003_2.length < 17592186044416 then (node_Of.l0 kj29 false x1_2 (x1_2.length : Int) (wrap64 (x39_2 + 1)) false y142 x129002_2 (x129003_2 ++ [t148])) else (none)) = some (r1, r2, r3, r4, r5) := H
                  have A60 := Aside0.mk A600
                  clear A600
                  by_cases c61 : x129003_2.length < 17592186044416
                  ·rw [if_pos c61] at H
                   have LMc61 := Aside0.mk c61
                   clear c61
                   obtain ⟨y149, hy149⟩ : ∃ y_ : List Int, y_ = (x129003_2 ++ [t148]) := ⟨_, rfl⟩
                   replace H : (node_Of.l0 kj29 false x1_2 (x1_2.length : Int) (wrap64 (x39_2 + 1)) false y142 x129002_2 y149) = some (r1, r2, r3, r4, r5) := by first | (rw [hy149]; with_reducible exact H) | (have H2_ := (Option.bind_some _ _).symm.trans H; rw [hy149]; with_reducible exact H2_) | (have H2_ := (Option.bind_some _ _).symm.trans H; with_reducible exact H2_) | with_reducible exact H | (rw [hy149]; exact H) | exact H
                   have Ny149 := Aside0.mk hy149
                   clear hy149
                   have H' := Aside0.mk H
                   clear H
                   try go_wp2
                   have n0_ := Aside0.mk (Kd.V_drew HO_37.out)
                   have n1_ := Aside0.mk (Kd.R_drew HO_129001.out)
                   have n2_ := Aside0.mk (Kd.R_drew HO_129002.out)
                   have n3_ := Aside0.mk (Kd.R_drew HO_129003.out)
                   have n4_ := Aside0.mk (blk_drew BK127.out)
                   have n5_ := Aside0.mk (blk_drew BK128.out)
                   have n6_ := Aside0.mk (below_drew1 HB.out)
                   clear HO_37
                   clear HO_129001
                   clear HO_129002
                   clear HO_129003
                   clear BK127
                   clear BK128
                   clear HB
                   have HO_37 := n0_
                   have HO_129001 := n1_
                   have HO_129002 := n2_
                   have HO_129003 := n3_
                   have BK127 := n4_
                   have BK128 := n5_
                   have HB := n6_
                   clear n0_ n1_ n2_ n3_ n4_ n5_ n6_
                   have p40 : 0 ≤ (0 : Int) := (by omega)
                   have q40 : 0 < (rdOf ByteArray.empty x1_2 x39_2).size := (by have : (0 : Int) < ((rdOf ByteArray.empty x1_2 x39_2).size : Int) := of_decide_eq_true (by first | (with_reducible assumption) | assumption); omega)
                   have hx40 : ∀ h : 0 < (rdOf ByteArray.empty x1_2 x39_2).size, (((rdOf ByteArray.empty x1_2 x39_2)[0]'h).toNat : Int) = bt (rdOf ByteArray.empty x1_2 x39_2) 0 := bt_at (rdOf ByteArray.empty x1_2 x39_2) 0
                   clear p40
                   have qi40 : (0 < ((rdOf ByteArray.empty x1_2 x39_2).size : Int)) = True := eq_true (of_decide_eq_true (by first | (with_reducible assumption) | assumption))
                   replace q40 := eq_true q40
                   have p43 : 0 ≤ (0 : Int) := (by omega)
                   have q43 : 0 < (rdOf ByteArray.empty x1_2 x39_2).size := (by have : (0 : Int) < ((rdOf ByteArray.empty x1_2 x39_2).size : Int) := of_decide_eq_true (by first | (with_reducible assumption) | assumption); omega)
                   have hx43 : ∀ h : 0 < (rdOf ByteArray.empty x1_2 x39_2).size, (((rdOf ByteArray.empty x1_2 x39_2)[0]'h).toNat : Int) = bt (rdOf ByteArray.empty x1_2 x39_2) 0 := bt_at (rdOf ByteArray.empty x1_2 x39_2) 0
                   clear p43
                   have qi43 : (0 < ((rdOf ByteArray.empty x1_2 x39_2).size : Int)) = True := eq_true (of_decide_eq_true (by first | (with_reducible assumption) | assumption))
                   replace q43 := eq_true q43
                   refine start_ (n := 14) (S := fun w' => True) (ds := []) #[false, false, false, false, false, false, false, false, false, false, false, false, false, false] (by kernel_rfl) rfl rfl trivial (fun hHeld => ?_); refine with_tabW node_Of.tab12 node_Of.bits12 (fun HT_ HW_ => ?_)
                   generalize wc.drew = w62 at HO_37 HO_129001 HO_129002 HO_129003 BK127 BK128 HB hHeld ⊢
                   refine pure_ (i := 0) (N := some 59) (v := ?_) (a' := ?_) #[true, false, false, false, false, false, false, false, false, false, false, false, false, false] rfl rfl (any_of HT_.out (by kernel_rfl)) (fun _ _ _ h => h) (Or.inl ⟨by rfl, ?_⟩) ?_ ?_
                   rotate_left
                   ·intro w'
                    go_simp
                    with_reducible rfl
                   rotate_left
                   ·simp only [Act.put, List.setIfInBounds_toArray, List.set_cons_zero, List.set_cons_succ, i64_w, i32_w]
                    rfl
                   refine pure_ (i := 1) (N := some 60) (v := ?_) (a' := ?_) #[true, true, false, false, false, false, false, false, false, false, false, false, false, false] rfl rfl (any_of HT_.out (by kernel_rfl)) (fun _ _ _ h => h) (Or.inl ⟨by rfl, ?_⟩) ?_ ?_
                   rotate_left
                   ·intro w'
                    go_simp
                    with_reducible rfl
                   rotate_left
                   ·simp only [Act.put, List.setIfInBounds_toArray, List.set_cons_zero, List.set_cons_succ, i64_w, i32_w]
                    rfl
                   refine pure_ (i := 6) (N := some 65) (v := ?_) (a' := ?_) #[true, true, false, false, false, false, true, false, false, false, false, false, false, false] rfl rfl (any_of HT_.out (by kernel_rfl)) (fun _ _ _ h => h) (Or.inl ⟨by rfl, ?_⟩) ?_ ?_
                   rotate_left
                   ·intro w'
                    go_simp
                    with_reducible rfl
                   rotate_left
                   ·simp only [Act.put, List.setIfInBounds_toArray, List.set_cons_zero, List.set_cons_succ, i64_w, i32_w]
                    rfl
                   refine pure_ (i := 7) (N := some 66) (v := ?_) (a' := ?_) #[true, true, false, false, false, false, true, true, false, false, false, false, false, false] rfl rfl (any_of HT_.out (by kernel_rfl)) (fun _ _ _ h => h) (Or.inl ⟨by rfl, ?_⟩) ?_ ?_
                   rotate_left
                   ·intro w'
                    go_simp
                    with_reducible rfl
                   rotate_left
                   ·simp only [Act.put, List.setIfInBounds_toArray, List.set_cons_zero, List.set_cons_succ, i64_w, i32_w]
                    rfl
                   refine take_ (i := 2) (N := some 61) (v := ?_) (a' := ?_) #[true, true, true, false, false, false, true, true, false, false, false, false, false, false] rfl rfl (take_ofW HT_.out HW_.out (by kernel_rfl)) (fun _ _ _ h => h) (Or.inl ⟨by rfl, ?_⟩) hHeld ?_ ?_
                   rotate_left
                   ·intro w' _
                    go_simp
                    with_reducible rfl
                   rotate_left
                   ·simp only [Act.put, List.setIfInBounds_toArray, List.set_cons_zero, List.set_cons_succ, i64_w, i32_w]
                    rfl
                   refine pure_ (i := 3) (N := some 62) (v := ?_) (a' := ?_) #[true, true, true, true, false, false, true, true, false, false, false, false, false, false] rfl rfl (any_of HT_.out (by kernel_rfl)) (fun _ _ _ h => h) (Or.inl ⟨by rfl, ?_⟩) ?_ ?_
                   rotate_left
                   ·intro w'
                    go_simp
                    with_reducible rfl
                   rotate_left
                   ·simp only [Act.put, List.setIfInBounds_toArray, List.set_cons_zero, List.set_cons_succ, i64_w, i32_w]
                    rfl
                   refine pure_ (i := 4) (N := some 63) (v := ?_) (a' := ?_) #[true, true, true, true, true, false, true, true, false, false, false, false, false, false] rfl rfl (any_of HT_.out (by kernel_rfl)) (fun _ _ _ h => h) (Or.inl ⟨by rfl, ?_⟩) ?_ ?_
                   rotate_left
                   ·intro w'
                    go_simp
                    with_reducible rfl
                   rotate_left
                   ·simp only [Act.put, List.setIfInBounds_toArray, List.set_cons_zero, List.set_cons_succ, i64_w, i32_w]
                    rfl
                   refine pure_ (i := 5) (N := some 64) (v := ?_) (a' := ?_) #[true, true, true, true, true, true, true, true, false, false, false, false, false, false] rfl rfl (any_of HT_.out (by kernel_rfl)) (fun _ _ _ h => h) (Or.inl ⟨by rfl, ?_⟩) ?_ ?_
                   rotate_left
                   ·intro w'
                    go_simp
                    with_reducible rfl
                   rotate_left
                   ·simp only [Act.put, List.setIfInBounds_toArray, List.set_cons_zero, List.set_cons_succ, i64_w, i32_w]
                    rfl
                   refine pure_ (i := 12) (N := some 9) (v := ?_) (a' := ?_) #[true, true, true, true, true, true, true, true, false, false, false, false, true, false] rfl rfl (any_of HT_.out (by kernel_rfl)) (fun _ _ _ h => h) (Or.inl ⟨by rfl, ?_⟩) ?_ ?_
                   rotate_left
                   ·intro w'
                    go_simp
                    with_reducible rfl
                   rotate_left
                   ·simp only [Act.put, List.setIfInBounds_toArray, List.set_cons_zero, List.set_cons_succ, i64_w, i32_w]
                    rfl
                   refine take_ (i := 8) (N := some 67) (v := ?_) (a' := ?_) #[true, true, true, true, true, true, true, true, true, false, false, false, true, false] rfl rfl (take_ofW HT_.out HW_.out (by kernel_rfl)) (fun _ _ _ h => h) (Or.inl ⟨by rfl, ?_⟩) hHeld ?_ ?_
                   rotate_left
                   ·intro w' _
                    go_simp
                    with_reducible rfl
                   rotate_left
                   ·simp only [Act.put, List.setIfInBounds_toArray, List.set_cons_zero, List.set_cons_succ, i64_w, i32_w]
                    rfl
                   refine pure_ (i := 9) (N := some 68) (v := ?_) (a' := ?_) #[true, true, true, true, true, true, true, true, true, true, false, false, true, false] rfl rfl (any_of HT_.out (by kernel_rfl)) (fun _ _ _ h => h) (Or.inl ⟨by rfl, ?_⟩) ?_ ?_
                   rotate_left
                   ·intro w'
                    go_simp
                    with_reducible rfl
                   rotate_left
                   ·simp only [Act.put, List.setIfInBounds_toArray, List.set_cons_zero, List.set_cons_succ, i64_w, i32_w]
                    rfl
                   refine pure_ (i := 10) (N := some 69) (v := ?_) (a' := ?_) #[true, true, true, true, true, true, true, true, true, true, true, false, true, false] rfl rfl (any_of HT_.out (by kernel_rfl)) (fun _ _ _ h => h) (Or.inl ⟨by rfl, ?_⟩) ?_ ?_
                   rotate_left
                   ·intro w'
                    go_simp
                    with_reducible rfl
                   rotate_left
                   ·simp only [Act.put, List.setIfInBounds_toArray, List.set_cons_zero, List.set_cons_succ, i64_w, i32_w]
                    rfl
                   refine pure_ (i := 11) (N := some 70) (v := ?_) (a' := ?_) #[true, true, true, true, true, true, true, true, true, true, true, true, true, false] rfl rfl (any_of HT_.out (by kernel_rfl)) (fun _ _ _ h => h) (Or.inl ⟨by rfl, ?_⟩) ?_ ?_
                   rotate_left
                   ·intro w'
                    go_simp
                    with_reducible rfl
                   rotate_left
                   ·simp only [Act.put, List.setIfInBounds_toArray, List.set_cons_zero, List.set_cons_succ, i64_w, i32_w]
                    rfl
                   refine pure_ (i := 13) (N := some 10) (v := ?_) (a' := ?_) #[true, true, true, true, true, true, true, true, true, true, true, true, true, true] rfl rfl (any_of HT_.out (by kernel_rfl)) (fun _ _ _ h => h) (Or.inl ⟨by rfl, ?_⟩) ?_ ?_
                   rotate_left
                   ·intro w'
                    go_simp
                    with_reducible rfl
                   rotate_left
                   ·simp only [Act.put, List.setIfInBounds_toArray, List.set_cons_zero, List.set_cons_succ, i64_w, i32_w]
                    rfl
                   refine done_ (done_of HT_.out (by kernel_rfl)) ?_
                   have hnb63 := NB128_127.out
                   have hnc63 := NB127_128.out
                   have hcz64_0 : w62.cell? ⟨gb128, 0, none⟩ = some (.bool false) := (blk_cell BK128.out 0).trans rfl
                   have hcz64_1 : w62.cell? ⟨gb128, 1, none⟩ = some (u129001) := (blk_cell BK128.out 1).trans rfl
                   have hcz64_2 : w62.cell? ⟨gb128, 2, none⟩ = some (u129002) := (blk_cell BK128.out 2).trans rfl
                   have hcz64_3 : w62.cell? ⟨gb128, 3, none⟩ = some (u129003) := (blk_cell BK128.out 3).trans rfl
                   have hfz64_0 := blk_frozen BK128.out 0
                   have hfz64_1 := blk_frozen BK128.out 1
                   have hfz64_2 := blk_frozen BK128.out 2
                   have hfz64_3 := blk_frozen BK128.out 3
                   try go_wp2_with (first | ((with_reducible refine gate_builtin (b := .append) (xs := #[.tmp 72, .tmp 74]) rfl ?_); (try (refine gate_guard (by rfl) ?_; dsimp only)); at_builtin; refine Kd.R_append Kd.string (w0 := w) w.heap.size rfl (.tmp 72) (.tmp 74) 22 9 (.string ⟨#[]⟩) 16 rfl Try.underlying22 info9 rfl (by decide) (by omega) u129001 x129001_2 ((rdOf ByteArray.empty x1_2 x39_2).extract 1 ((ji44) : Int).toNat) [.string ((rdOf ByteArray.empty x1_2 x39_2).extract 1 ((ji44) : Int).toNat)] (fun k_ => (w.heap.size ≤ k_) ∧ some k_ ≠ (u129002 : Value).ownBlock) (fun _ => False) rfl rfl ?aP (fun _ hk => hk.elim) ?aF ?aO ?aB ?aS ?aL ?_; (case aP => exact rfl); (case aB => exact (by repeat (first | (with_reducible first | exact HB.out | apply below_alloc | apply pw_below_drewN | apply below_drew1 | refine below_set ?_ GE127.out | refine below_set ?_ GE128.out) | exact HB.out))); (case aF => exact (fun k_ hk => ⟨(Nat.le_trans (below_size (by repeat (first | (with_reducible first | exact HB.out | apply below_alloc | apply pw_below_drewN | apply below_drew1 | refine below_set ?_ GE127.out | refine below_set ?_ GE128.out) | exact HB.out))) hk), Kd.fresh' (Kd.R_lt (by (with_reducible repeat (first | apply Kd.R_alloc | apply Kd.R_drewN | apply Kd.R_drew)); exact HO_129002.out)) k_ hk⟩)); (case aO => exact (by (with_reducible repeat (first | apply Kd.R_alloc | apply Kd.R_drewN | apply Kd.R_drew)); exact HO_129001.out)); (case aS => exact (below_size (by repeat (first | (with_reducible first | exact HB.out | apply below_alloc | apply pw_below_drewN | apply below_drew1 | refine below_set ?_ GE127.out | refine below_set ?_ GE128.out) | exact HB.out)))); (case aL => have := LMc47.out; omega); intro v143 w65 ho hb hg hat; rw [← Ny142.out] at ho; have n0_ := Aside0.mk (Kd.V_afterv (ok := (fun k_ => (P1_ k_ ∨ w.heap.size ≤ k_) ∧ some k_ ≠ (u129002 : Value).ownBlock ∧ some k_ ≠ (u129003 : Value).ownBlock ∧ k_ ≠ gb127 ∧ k_ ≠ gb128)) (by (with_reducible repeat (first | apply Kd.V_alloc | apply Kd.V_drewN | apply Kd.V_drew)); exact Kd.V_mono HO_37.out (fun _ hk => ⟨⟨hk.1, ⟨hk.2.2.1, ⟨hk.2.2.2.1, ⟨hk.2.2.2.2.1, hk.2.2.2.2.2⟩⟩⟩⟩, hk.2.1⟩)) hg hat); have n1_ := Aside0.mk (Kd.R_after (ok := (fun k_ => (w.heap.size ≤ k_))) (by (with_reducible repeat (first | apply Kd.R_alloc | apply Kd.R_drewN | apply Kd.R_drew)); exact HO_129002.out) hg hat); have n2_ := Aside0.mk (Kd.R_over' (by (with_reducible repeat (first | apply Kd.R_alloc | apply Kd.R_drewN | apply Kd.R_drew)); exact HO_129003.out) (Kd.R_typed (by (with_reducible repeat (first | apply Kd.R_alloc | apply Kd.R_drewN | apply Kd.R_drew)); exact HO_129001.out)) (by decide) hg); have n3_ := Aside0.mk (blk_grown (g := gb127) (o := .cells #[.bool x128000_2, .slice none 0 0, .slice none 0 0, .slice none 0 0] 25 (0, 0)) (by (with_reducible repeat (first | refine blk_drewN ?_ _ | refine blk_drew ?_ | refine blk_alloc ?_ _)); exact BK127.out) hg (Kd.R_ne HO_129001.out BK127.out (by decide))); have n4_ := Aside0.mk (blk_grown (g := gb128) (o := .cells #[.bool false, u129001, u129002, u129003] 25 (0, 0)) (by (with_reducible repeat (first | refine blk_drewN ?_ _ | refine blk_drew ?_ | refine blk_alloc ?_ _)); exact BK128.out) hg (Kd.R_ne HO_129001.out BK128.out (by decide))); have n5_ := Aside0.mk (hb); have n6_ := Aside0.mk (ho); clear HO_37; clear HO_129002; clear HO_129003; clear BK127; clear BK128; clear HB; clear HO_129001; have HO_37 := n0_; have HO_129002 := n1_; have HO_129003 := n2_; have BK127 := n3_; have BK128 := n4_; have HB := n5_; have HO144 := n6_; clear n0_ n1_ n2_ n3_ n4_ n5_ n6_; clear ho hb hg hat; obtain ⟨Ao66, co66, eo66⟩ := Kd.R_slice HO144.out; subst eo66; have hcz67_0 : w65.cell? ⟨gb128, 0, none⟩ = some (.bool false) := (blk_cell BK128.out 0).trans rfl; have hcz67_1 : w65.cell? ⟨gb128, 1, none⟩ = some (u129001) := (blk_cell BK128.out 1).trans rfl; have hcz67_2 : w65.cell? ⟨gb128, 2, none⟩ = some (u129002) := (blk_cell BK128.out 2).trans rfl; have hcz67_3 : w65.cell? ⟨gb128, 3, none⟩ = some (u129003) := (blk_cell BK128.out 3).trans rfl; have hfz67_0 := blk_frozen BK128.out 0; have hfz67_1 := blk_frozen BK128.out 1; have hfz67_2 := blk_frozen BK128.out 2; have hfz67_3 := blk_frozen BK128.out 3))
                   have n0_ : Aside0 (Kd.V Kd.string 9 (w65.setCell ⟨gb128, 1, none⟩ (.slice Ao66 y142.length co66)) w.heap.size (fun k_ => (P1_ k_ ∨ w.heap.size ≤ k_) ∧ some k_ ≠ (u129002 : Value).ownBlock ∧ some k_ ≠ (u129003 : Value).ownBlock ∧ some k_ ≠ (.slice Ao66 y142.length co66 : Value).ownBlock ∧ k_ ≠ gb127 ∧ k_ ≠ gb128) (.slice (some ad141) x1_2.length co26) x1_2) := ⟨by (with_reducible repeat (first | apply Kd.V_alloc | apply Kd.V_drewN | apply Kd.V_drew)); exact Kd.V_mono (Kd.V_far (p := ⟨gb128, 1, none⟩) (Kd.V_mono HO_37.out (fun k_ hk => (⟨hk, hk.1.2.2.2.2⟩ : _ ∧ k_ ≠ gb128))) (fun _ hk => hk.2) (.slice Ao66 y142.length co66)) (fun _ hk => ⟨hk.1.1.1, ⟨hk.1.1.2.1, ⟨hk.1.1.2.2.1, ⟨hk.1.2, ⟨hk.1.1.2.2.2.1, hk.1.1.2.2.2.2⟩⟩⟩⟩⟩)⟩
                   have n1_ : Aside0 (Kd.R Kd.string 9 (w65.setCell ⟨gb128, 1, none⟩ (.slice Ao66 y142.length co66)) w.heap.size (fun k_ => (w.heap.size ≤ k_) ∧ some k_ ≠ (.slice Ao66 y142.length co66 : Value).ownBlock) u129002 x129002_2) := ⟨by (with_reducible repeat (first | apply Kd.R_alloc | apply Kd.R_drewN | apply Kd.R_drew)); exact Kd.R_mono (Kd.R_far (p := ⟨gb128, 1, none⟩) (Kd.R_types HO_129002.out BK128.out (by decide)) (fun _ hk => hk.2) (.slice Ao66 y142.length co66)) (fun _ hk => ⟨hk.1.1, hk.1.2⟩)⟩
                   have n2_ : Aside0 (Kd.R (Kd.int .i64) 3 (w65.setCell ⟨gb128, 1, none⟩ (.slice Ao66 y142.length co66)) w.heap.size (fun k_ => (w.heap.size ≤ k_)) u129003 x129003_2) := ⟨by (with_reducible repeat (first | apply Kd.R_alloc | apply Kd.R_drewN | apply Kd.R_drew)); exact Kd.R_mono (Kd.R_far (p := ⟨gb128, 1, none⟩) (Kd.R_types HO_129003.out BK128.out (by decide)) (fun _ hk => hk.2) (.slice Ao66 y142.length co66)) (fun _ hk => hk.1)⟩
                   have n3_ : Aside0 (Kd.R Kd.string 9 (w65.setCell ⟨gb128, 1, none⟩ (.slice Ao66 y142.length co66)) w.heap.size (fun k_ => (w.heap.size ≤ k_) ∧ some k_ ≠ (u129002 : Value).ownBlock) (.slice Ao66 y142.length co66) y142) := ⟨by (with_reducible repeat (first | apply Kd.R_alloc | apply Kd.R_drewN | apply Kd.R_drew)); exact Kd.R_mono (Kd.R_far (p := ⟨gb128, 1, none⟩) (Kd.R_types HO144.out BK128.out (by decide)) (fun _ hk => hk.2) (.slice Ao66 y142.length co66)) (fun _ hk => ⟨hk.1.1, hk.1.2⟩)⟩
                   have n4_ : Aside0 ((w65.setCell ⟨gb128, 1, none⟩ (.slice Ao66 y142.length co66)).heap[gb127]? = some (.cells #[.bool x128000_2, .slice none 0 0, .slice none 0 0, .slice none 0 0] 25 (0, 0))) := ⟨by (with_reducible repeat (first | refine blk_drewN ?_ _ | refine blk_drew ?_ | refine blk_alloc ?_ _)); refine blk_far ?_ NB127_128.out _; (with_reducible repeat (first | refine blk_drewN ?_ _ | refine blk_drew ?_ | refine blk_alloc ?_ _)); exact BK127.out⟩
                   have n5_ : Aside0 ((w65.setCell ⟨gb128, 1, none⟩ (.slice Ao66 y142.length co66)).heap[gb128]? = some (.cells #[.bool false, .slice Ao66 y142.length co66, u129002, u129003] 25 (0, 0))) := ⟨by (with_reducible repeat (first | refine blk_drewN ?_ _ | refine blk_drew ?_ | refine blk_alloc ?_ _)); refine blk_put (cs := #[.bool false, u129001, u129002, u129003]) ?_ 1 _ rfl; (with_reducible repeat (first | refine blk_drewN ?_ _ | refine blk_drew ?_ | refine blk_alloc ?_ _)); exact BK128.out⟩
                   have n6_ : Aside0 (Below w.heap.size w (w65.setCell ⟨gb128, 1, none⟩ (.slice Ao66 y142.length co66))) := ⟨by repeat (first | (with_reducible first | exact HB.out | apply below_alloc | apply pw_below_drewN | apply below_drew1 | refine below_set ?_ GE127.out | refine below_set ?_ GE128.out) | exact HB.out)⟩
                   (try clear HO_37)
                   (try clear HO_129002)
                   (try clear HO_129003)
                   (try clear HO144)
                   (try clear BK127)
                   (try clear BK128)
                   (try clear HB)
                   generalize (w65.setCell ⟨gb128, 1, none⟩ (.slice Ao66 y142.length co66)) = w68 at n0_ n1_ n2_ n3_ n4_ n5_ n6_ ⊢
                   have HO_37 := n0_
                   have HO_129002 := n1_
                   have HO_129003 := n2_
                   have HO144 := n3_
                   have BK127 := n4_
                   have BK128 := n5_
                   have HB := n6_
                   clear n0_ n1_ n2_ n3_ n4_ n5_ n6_
                   have n0_ := Aside0.mk (Kd.V_drew HO_37.out)
                   have n1_ := Aside0.mk (Kd.R_drew HO_129002.out)
                   have n2_ := Aside0.mk (Kd.R_drew HO_129003.out)
                   have n3_ := Aside0.mk (Kd.R_drew HO144.out)
                   have n4_ := Aside0.mk (blk_drew BK127.out)
                   have n5_ := Aside0.mk (blk_drew BK128.out)
                   have n6_ := Aside0.mk (below_drew1 HB.out)
                   clear HO_37
                   clear HO_129002
                   clear HO_129003
                   clear HO144
                   clear BK127
                   clear BK128
                   clear HB
                   have HO_37 := n0_
                   have HO_129002 := n1_
                   have HO_129003 := n2_
                   have HO144 := n3_
                   have BK127 := n4_
                   have BK128 := n5_
                   have HB := n6_
                   clear n0_ n1_ n2_ n3_ n4_ n5_ n6_
                   refine start_ (n := 8) (S := fun w' => w'.cell? ⟨gb128, 0, none⟩ = some (.bool false) ∧ w'.cell? ⟨gb128, 1, none⟩ = some (.slice Ao66 y142.length co66) ∧ w'.cell? ⟨gb128, 2, none⟩ = some (u129002) ∧ w'.cell? ⟨gb128, 3, none⟩ = some (u129003)) (ds := [7]) #[false, false, false, false, false, false, false, false] (by kernel_rfl) rfl rfl ⟨(blk_cell BK128.out 0).trans rfl, (blk_cell BK128.out 1).trans rfl, (blk_cell BK128.out 2).trans rfl, (blk_cell BK128.out 3).trans rfl⟩ (fun hHeld => ?_); refine with_tabW node_Of.tab14 node_Of.bits14 (fun HT_ HW_ => ?_)
                   generalize w68.drew = w69 at HO_37 HO_129002 HO_129003 HO144 BK127 BK128 HB hHeld ⊢
                   refine pure_ (i := 0) (N := some 77) (v := ?_) (a' := ?_) #[true, false, false, false, false, false, false, false] rfl rfl (any_of HT_.out (by kernel_rfl)) (fun _ _ _ h => h) (Or.inl ⟨by rfl, ?_⟩) ?_ ?_
                   rotate_left
                   ·intro w'
                    go_simp
                    with_reducible rfl
                   rotate_left
                   ·simp only [Act.put, List.setIfInBounds_toArray, List.set_cons_zero, List.set_cons_succ, i64_w, i32_w]
                    rfl
                   refine pure_ (i := 2) (N := some 79) (v := ?_) (a' := ?_) #[true, false, true, false, false, false, false, false] rfl rfl (any_of HT_.out (by kernel_rfl)) (fun _ _ _ h => h) (Or.inl ⟨by rfl, ?_⟩) ?_ ?_
                   rotate_left
                   ·intro w'
                    go_simp
                    with_reducible rfl
                   rotate_left
                   ·simp only [Act.put, List.setIfInBounds_toArray, List.set_cons_zero, List.set_cons_succ, i64_w, i32_w]
                    rfl
                   refine take_ (i := 1) (N := some 78) (v := ?_) (a' := ?_) #[true, true, true, false, false, false, false, false] rfl rfl (take_ofW HT_.out HW_.out (by kernel_rfl)) (fun _ _ _ h => h) (Or.inl ⟨by rfl, ?_⟩) hHeld ?_ ?_
                   rotate_left
                   ·rintro w' ⟨s0, s1, s2, s3⟩
                    go_simp
                    with_reducible rfl
                   rotate_left
                   ·simp only [Act.put, List.setIfInBounds_toArray, List.set_cons_zero, List.set_cons_succ, i64_w, i32_w]
                    rfl
                   refine one_ (i := 3) (N := some 80) #[true, true, true, true, false, false, false, false] rfl rfl (one_of HT_.out (by kernel_rfl)) (by decide) (fun K hK => ?_)
                   refine goes_ Try.func40 (by kernel_rfl) rfl #[.string ((rdOf ByteArray.empty x1_2 x39_2).extract ((ji44) : Int).toNat (rdOf ByteArray.empty x1_2 x39_2).size)] (by rfl) rfl rfl (by (try simp only [List.map_toArray, List.map_cons, List.map_nil]); first | done | (simp only [hji44]; rfl) | rfl | (simp only [List.length_drop, List.length_take]; rfl)) ?_
                   with_reducible refine (node_number.calls ((rdOf ByteArray.empty x1_2 x39_2).extract ((ji44) : Int).toNat (rdOf ByteArray.empty x1_2 x39_2).size) t148 _ A60.out).mono ?_
                   rintro e w' ⟨rfl, ⟨nd, rfl⟩⟩
                   refine ⟨_, rfl, ?_⟩
                   refine hK.out _ _ ⟨(blk_cell BK128.out 0).trans rfl, (blk_cell BK128.out 1).trans rfl, (blk_cell BK128.out 2).trans rfl, (blk_cell BK128.out 3).trans rfl⟩ (fun hHeld => ?_)
                   clear hK K
                   refine norm_ (a' := ?_) ?_ ?_
                   rotate_left
                   ·show Act.put _ (some 80) _ = _
                    simp only [Act.put, List.setIfInBounds_toArray, List.set_cons_zero, List.set_cons_succ, i64_w, i32_w]
                    rfl
                   refine one_ (i := 4) (N := some 81) #[true, true, true, true, true, false, false, false] rfl rfl (one_of HT_.out (by kernel_rfl)) (by decide) (fun K hK => ?_)
                   refine value_ (w1 := ?_) (v := ?_) (by rfl) rfl ?_ ?_
                   rotate_left 2
                   ·go_simp
                    constructor
                    ·rfl
                    ·rfl
                   refine hK.out _ _ ⟨(blk_cell (blk_alloc BK128.out _) 0).trans rfl, (blk_cell (blk_alloc BK128.out _) 1).trans rfl, (blk_cell (blk_alloc BK128.out _) 2).trans rfl, (blk_cell (blk_alloc BK128.out _) 3).trans rfl⟩ (fun hHeld => ?_)
                   clear hK K
                   refine norm_ (a' := ?_) ?_ ?_
                   rotate_left
                   ·show Act.put _ (some 81) _ = _
                    simp only [Act.put, List.setIfInBounds_toArray, List.set_cons_zero, List.set_cons_succ, i64_w, i32_w]
                    rfl
                   refine one_ (i := 5) (N := some 82) #[true, true, true, true, true, true, false, false] rfl rfl (one_of HT_.out (by kernel_rfl)) (by decide) (fun K hK => ?_)
                   refine Kd.R_append_step (Kd.int .i64) (w0 := w) w.heap.size (by rfl) (.tmp 78) (.tmp 81) 23 3 (.int .i64 0) 8 rfl Try.underlying23 info3 rfl (by decide) (by omega) u129003 x129003_2 t148 [.int .i64 t148] (fun k_ => (w.heap.size ≤ k_)) (fun _ => False) rfl rfl ?aP (fun _ hk => hk.elim) ?aF ?aO ?aB ?aS ?aL ?_
                   (case aP => exact rfl)
                   (case aB => exact (by repeat (first | (with_reducible first | exact HB.out | apply below_alloc | apply pw_below_drewN | apply below_drew1 | refine below_set ?_ GE127.out | refine below_set ?_ GE128.out) | exact HB.out)))
                   (case aF => exact (fun k_ hk => (Nat.le_trans (below_size (by repeat (first | (with_reducible first | exact HB.out | apply below_alloc | apply pw_below_drewN | apply below_drew1 | refine below_set ?_ GE127.out | refine below_set ?_ GE128.out) | exact HB.out))) hk)))
                   (case aO => exact (by (with_reducible repeat (first | apply Kd.R_alloc | apply Kd.R_drewN | apply Kd.R_drew)); exact HO_129003.out))
                   (case aS => exact (below_size (by repeat (first | (with_reducible first | exact HB.out | apply below_alloc | apply pw_below_drewN | apply below_drew1 | refine below_set ?_ GE127.out | refine below_set ?_ GE128.out) | exact HB.out))))
                   (case aL => have := LMc61.out; omega)
                   intro v150 w70 ho hb hg hat
                   rw [← Ny149.out] at ho
                   have n0_ := Aside0.mk (Kd.V_afterv (ok := (fun k_ => (P1_ k_ ∨ w.heap.size ≤ k_) ∧ some k_ ≠ (u129002 : Value).ownBlock ∧ some k_ ≠ (.slice Ao66 y142.length co66 : Value).ownBlock ∧ k_ ≠ gb127 ∧ k_ ≠ gb128)) (by (with_reducible repeat (first | apply Kd.V_alloc | apply Kd.V_drewN | apply Kd.V_drew)); exact Kd.V_mono HO_37.out (fun _ hk => ⟨⟨hk.1, ⟨hk.2.1, ⟨hk.2.2.2.1, ⟨hk.2.2.2.2.1, hk.2.2.2.2.2⟩⟩⟩⟩, hk.2.2.1⟩)) hg hat)
                   have n1_ := Aside0.mk (Kd.R_over' (by (with_reducible repeat (first | apply Kd.R_alloc | apply Kd.R_drewN | apply Kd.R_drew)); exact HO_129002.out) (Kd.R_typed (by (with_reducible repeat (first | apply Kd.R_alloc | apply Kd.R_drewN | apply Kd.R_drew)); exact HO_129003.out)) (by decide) hg)
                   have n2_ := Aside0.mk (blk_grown (g := gb127) (o := .cells #[.bool x128000_2, .slice none 0 0, .slice none 0 0, .slice none 0 0] 25 (0, 0)) (by (with_reducible repeat (first | refine blk_drewN ?_ _ | refine blk_drew ?_ | refine blk_alloc ?_ _)); exact BK127.out) hg (Kd.R_ne HO_129003.out BK127.out (by decide)))
                   have n3_ := Aside0.mk (blk_grown (g := gb128) (o := .cells #[.bool false, .slice Ao66 y142.length co66, u129002, u129003] 25 (0, 0)) (by (with_reducible repeat (first | refine blk_drewN ?_ _ | refine blk_drew ?_ | refine blk_alloc ?_ _)); exact BK128.out) hg (Kd.R_ne HO_129003.out BK128.out (by decide)))
                   have n4_ := Aside0.mk (Kd.R_over' (by (with_reducible repeat (first | apply Kd.R_alloc | apply Kd.R_drewN | apply Kd.R_drew)); exact HO144.out) (Kd.R_typed (by (with_reducible repeat (first | apply Kd.R_alloc | apply Kd.R_drewN | apply Kd.R_drew)); exact HO_129003.out)) (by decide) hg)
                   have n5_ := Aside0.mk (hb)
                   have n6_ := Aside0.mk (ho)
                   clear HO_37
                   clear HO_129002
                   clear BK127
                   clear BK128
                   clear HO144
                   clear HB
                   clear HO_129003
                   have HO_37 := n0_
                   have HO_129002 := n1_
                   have BK127 := n2_
                   have BK128 := n3_
                   have HO144 := n4_
                   have HB := n5_
                   have HO151 := n6_
                   clear n0_ n1_ n2_ n3_ n4_ n5_ n6_
                   clear ho hb hg hat
                   obtain ⟨Ao71, co71, eo71⟩ := Kd.R_slice HO151.out
                   (first | subst eo71 | (injection eo71 with f1_ f2_ f3_; have f4_ := f1_.symm; have f5_ := f3_.symm; clear f1_ f2_ f3_; subst f4_; subst f5_))
                   refine hK.out _ _ ⟨(blk_cell BK128.out 0).trans rfl, (blk_cell BK128.out 1).trans rfl, (blk_cell BK128.out 2).trans rfl, (blk_cell BK128.out 3).trans rfl⟩ (fun hHeld => ?_)
                   clear hK K
                   refine norm_ (a' := ?_) ?_ ?_
                   rotate_left
                   ·show Act.put _ (some 82) _ = _
                    simp only [Act.put, List.setIfInBounds_toArray, List.set_cons_zero, List.set_cons_succ, i64_w, i32_w]
                    rfl
                   refine pure_ (i := 6) (N := some 83) (v := ?_) (a' := ?_) #[true, true, true, true, true, true, true, false] rfl rfl (any_of HT_.out (by kernel_rfl)) (fun _ _ _ h => h) (Or.inl ⟨by rfl, ?_⟩) ?_ ?_
                   rotate_left
                   ·intro w'
                    go_simp
                    with_reducible rfl
                   rotate_left
                   ·simp only [Act.put, List.setIfInBounds_toArray, List.set_cons_zero, List.set_cons_succ, i64_w, i32_w]
                    rfl
                   refine last_ (i := 7) (N := none) #[true, true, true, true, true, true, true, true] rfl rfl (one_of HT_.out (by kernel_rfl)) (by decide) (fun K hK => ?_)
                   have hs72 : w70.cell? ⟨gb128, 3, none⟩ = some (u129003) := (blk_cell BK128.out 3).trans rfl
                   have hfs72 := blk_frozen BK128.out 3
                   have hns72_0 := NB127_128.out
                   have hms72_0 := NB128_127.out
                   refine skip_ (w1 := ?_) (by rfl) rfl ?_ ?_
                   rotate_left
                   ·go_simp
                    rfl
                   refine hK.out _ _ ?_
                   clear hK K
                   refine done_ (done_of HT_.out (by kernel_rfl)) ?_
                   try go_wp2
                   go_roundg kj29
                   case measure => have := HJ2.out; have := HK2.out; have := HJ29.out; omega
                   case rel => exact ⟨(wrap64 (x39_2 + 1)), (x128000_2), (y142), (x129002_2), (y149), (.slice Ao66 y142.length co66), (u129002), (.slice Ao71 y149.length co71), (by first | rfl | (simp; done) | (simp [*]; done)), H', ⟨by have := HJ2.out; have := HK2.out; have := HJ29.out; omega⟩, ⟨by (with_reducible repeat (first | apply Kd.V_alloc | apply Kd.V_drewN | apply Kd.V_drew)); exact Kd.V_mono (Kd.V_far (p := ⟨gb128, 3, none⟩) (Kd.V_mono HO_37.out (fun k_ hk => (⟨hk, hk.1.2.2.2.2⟩ : _ ∧ k_ ≠ gb128))) (fun _ hk => hk.2) (.slice Ao71 y149.length co71)) (fun _ hk => ⟨hk.1.1.1, ⟨hk.1.1.2.2.1, ⟨hk.1.1.2.1, ⟨hk.1.2, ⟨hk.1.1.2.2.2.1, hk.1.1.2.2.2.2⟩⟩⟩⟩⟩)⟩, ⟨by (with_reducible repeat (first | apply Kd.R_alloc | apply Kd.R_drewN | apply Kd.R_drew)); exact Kd.R_mono (Kd.R_far (p := ⟨gb128, 3, none⟩) (Kd.R_types HO144.out BK128.out (by decide)) (fun _ hk => hk.2) (.slice Ao71 y149.length co71)) (fun _ hk => ⟨hk.1.1, hk.1.2⟩)⟩, ⟨by (with_reducible repeat (first | apply Kd.R_alloc | apply Kd.R_drewN | apply Kd.R_drew)); exact Kd.R_mono (Kd.R_far (p := ⟨gb128, 3, none⟩) (Kd.R_types HO_129002.out BK128.out (by decide)) (fun _ hk => hk.2) (.slice Ao71 y149.length co71)) (fun _ hk => ⟨hk.1.1, hk.1.2⟩)⟩, ⟨by (with_reducible repeat (first | apply Kd.R_alloc | apply Kd.R_drewN | apply Kd.R_drew)); exact Kd.R_mono (Kd.R_far (p := ⟨gb128, 3, none⟩) (Kd.R_types HO151.out BK128.out (by decide)) (fun _ hk => hk.2) (.slice Ao71 y149.length co71)) (fun _ hk => hk.1)⟩, ⟨by (with_reducible repeat (first | refine blk_drewN ?_ _ | refine blk_drew ?_ | refine blk_alloc ?_ _)); refine blk_far ?_ NB127_128.out _; (with_reducible repeat (first | refine blk_drewN ?_ _ | refine blk_drew ?_ | refine blk_alloc ?_ _)); exact BK127.out⟩, ⟨by (with_reducible repeat (first | refine blk_drewN ?_ _ | refine blk_drew ?_ | refine blk_alloc ?_ _)); refine blk_put (cs := #[.bool false, .slice Ao66 y142.length co66, u129002, u129003]) ?_ 3 _ rfl; (with_reducible repeat (first | refine blk_drewN ?_ _ | refine blk_drew ?_ | refine blk_alloc ?_ _)); exact BK128.out⟩, ⟨by repeat (first | (with_reducible first | exact HB.out | apply below_alloc | apply pw_below_drewN | apply below_drew1 | refine below_set ?_ GE127.out | refine below_set ?_ GE128.out) | exact HB.out)⟩⟩
                  ·rw [if_neg c61] at H
                   exact absurd H (by simp)
                 ·rw [if_neg c59] at H
                  have c59b0 : ((((rdOf ByteArray.empty x1_2 x39_2).extract ((ji44) : Int).toNat (rdOf ByteArray.empty x1_2 x39_2).size).size : Int) == 4) = false := beq_eq_false_iff_ne.mpr c59
                  try (have c59x0 := c59b0; simp only [ByteArray.size_extract, Nat.min_self] at c59x0)
                  have c59b1 : ((((rdOf ByteArray.empty x1_2 x39_2).extract ((ji44) : Int).toNat (rdOf ByteArray.empty x1_2 x39_2).size).size : Int) != 4) = true := bne_iff_ne.mpr c59
                  try (have c59x1 := c59b1; simp only [ByteArray.size_extract, Nat.min_self] at c59x1)
                  simp only [Option.some.injEq, Prod.mk.injEq] at H
                  obtain ⟨rfl, rfl, rfl, rfl, rfl⟩ := H
                  try go_wp2
                  have n0_ := Aside0.mk (Kd.V_drew HO_37.out)
                  have n1_ := Aside0.mk (Kd.R_drew HO_129001.out)
                  have n2_ := Aside0.mk (Kd.R_drew HO_129002.out)
                  have n3_ := Aside0.mk (Kd.R_drew HO_129003.out)
                  have n4_ := Aside0.mk (blk_drew BK127.out)
                  have n5_ := Aside0.mk (blk_drew BK128.out)
                  have n6_ := Aside0.mk (below_drew1 HB.out)
                  clear HO_37
                  clear HO_129001
                  clear HO_129002
                  clear HO_129003
                  clear BK127
                  clear BK128
                  clear HB
                  have HO_37 := n0_
                  have HO_129001 := n1_
                  have HO_129002 := n2_
                  have HO_129003 := n3_
                  have BK127 := n4_
                  have BK128 := n5_
                  have HB := n6_
                  clear n0_ n1_ n2_ n3_ n4_ n5_ n6_
                  have p40 : 0 ≤ (0 : Int) := (by omega)
                  have q40 : 0 < (rdOf ByteArray.empty x1_2 x39_2).size := (by have : (0 : Int) < ((rdOf ByteArray.empty x1_2 x39_2).size : Int) := of_decide_eq_true (by first | (with_reducible assumption) | assumption); omega)
                  have hx40 : ∀ h : 0 < (rdOf ByteArray.empty x1_2 x39_2).size, (((rdOf ByteArray.empty x1_2 x39_2)[0]'h).toNat : Int) = bt (rdOf ByteArray.empty x1_2 x39_2) 0 := bt_at (rdOf ByteArray.empty x1_2 x39_2) 0
                  clear p40
                  have qi40 : (0 < ((rdOf ByteArray.empty x1_2 x39_2).size : Int)) = True := eq_true (of_decide_eq_true (by first | (with_reducible assumption) | assumption))
                  replace q40 := eq_true q40
                  have p43 : 0 ≤ (0 : Int) := (by omega)
                  have q43 : 0 < (rdOf ByteArray.empty x1_2 x39_2).size := (by have : (0 : Int) < ((rdOf ByteArray.empty x1_2 x39_2).size : Int) := of_decide_eq_true (by first | (with_reducible assumption) | assumption); omega)
                  have hx43 : ∀ h : 0 < (rdOf ByteArray.empty x1_2 x39_2).size, (((rdOf ByteArray.empty x1_2 x39_2)[0]'h).toNat : Int) = bt (rdOf ByteArray.empty x1_2 x39_2) 0 := bt_at (rdOf ByteArray.empty x1_2 x39_2) 0
                  clear p43
                  have qi43 : (0 < ((rdOf ByteArray.empty x1_2 x39_2).size : Int)) = True := eq_true (of_decide_eq_true (by first | (with_reducible assumption) | assumption))
                  replace q43 := eq_true q43
                  refine start_ (n := 14) (S := fun w' => True) (ds := []) #[false, false, false, false, false, false, false, false, false, false, false, false, false, false] (by kernel_rfl) rfl rfl trivial (fun hHeld => ?_); refine with_tabW node_Of.tab12 node_Of.bits12 (fun HT_ HW_ => ?_)
                  generalize wc.drew = w73 at HO_37 HO_129001 HO_129002 HO_129003 BK127 BK128 HB hHeld ⊢
                  refine pure_ (i := 0) (N := some 59) (v := ?_) (a' := ?_) #[true, false, false, false, false, false, false, false, false, false, false, false, false, false] rfl rfl (any_of HT_.out (by kernel_rfl)) (fun _ _ _ h => h) (Or.inl ⟨by rfl, ?_⟩) ?_ ?_
                  rotate_left
                  ·intro w'
                   go_simp
                   with_reducible rfl
                  rotate_left
                  ·simp only [Act.put, List.setIfInBounds_toArray, List.set_cons_zero, List.set_cons_succ, i64_w, i32_w]
                   rfl
                  refine pure_ (i := 1) (N := some 60) (v := ?_) (a' := ?_) #[true, true, false, false, false, false, false, false, false, false, false, false, false, false] rfl rfl (any_of HT_.out (by kernel_rfl)) (fun _ _ _ h => h) (Or.inl ⟨by rfl, ?_⟩) ?_ ?_
                  rotate_left
                  ·intro w'
                   go_simp
                   with_reducible rfl
                  rotate_left
                  ·simp only [Act.put, List.setIfInBounds_toArray, List.set_cons_zero, List.set_cons_succ, i64_w, i32_w]
                   rfl
                  refine pure_ (i := 6) (N := some 65) (v := ?_) (a' := ?_) #[true, true, false, false, false, false, true, false, false, false, false, false, false, false] rfl rfl (any_of HT_.out (by kernel_rfl)) (fun _ _ _ h => h) (Or.inl ⟨by rfl, ?_⟩) ?_ ?_
                  rotate_left
                  ·intro w'
                   go_simp
                   with_reducible rfl
                  rotate_left
                  ·simp only [Act.put, List.setIfInBounds_toArray, List.set_cons_zero, List.set_cons_succ, i64_w, i32_w]
                   rfl
                  refine pure_ (i := 7) (N := some 66) (v := ?_) (a' := ?_) #[true, true, false, false, false, false, true, true, false, false, false, false, false, false] rfl rfl (any_of HT_.out (by kernel_rfl)) (fun _ _ _ h => h) (Or.inl ⟨by rfl, ?_⟩) ?_ ?_
                  rotate_left
                  ·intro w'
                   go_simp
                   with_reducible rfl
                  rotate_left
                  ·simp only [Act.put, List.setIfInBounds_toArray, List.set_cons_zero, List.set_cons_succ, i64_w, i32_w]
                   rfl
                  refine take_ (i := 2) (N := some 61) (v := ?_) (a' := ?_) #[true, true, true, false, false, false, true, true, false, false, false, false, false, false] rfl rfl (take_ofW HT_.out HW_.out (by kernel_rfl)) (fun _ _ _ h => h) (Or.inl ⟨by rfl, ?_⟩) hHeld ?_ ?_
                  rotate_left
                  ·intro w' _
                   go_simp
                   with_reducible rfl
                  rotate_left
                  ·simp only [Act.put, List.setIfInBounds_toArray, List.set_cons_zero, List.set_cons_succ, i64_w, i32_w]
                   rfl
                  refine pure_ (i := 3) (N := some 62) (v := ?_) (a' := ?_) #[true, true, true, true, false, false, true, true, false, false, false, false, false, false] rfl rfl (any_of HT_.out (by kernel_rfl)) (fun _ _ _ h => h) (Or.inl ⟨by rfl, ?_⟩) ?_ ?_
                  rotate_left
                  ·intro w'
                   go_simp
                   with_reducible rfl
                  rotate_left
                  ·simp only [Act.put, List.setIfInBounds_toArray, List.set_cons_zero, List.set_cons_succ, i64_w, i32_w]
                   rfl
                  refine pure_ (i := 4) (N := some 63) (v := ?_) (a' := ?_) #[true, true, true, true, true, false, true, true, false, false, false, false, false, false] rfl rfl (any_of HT_.out (by kernel_rfl)) (fun _ _ _ h => h) (Or.inl ⟨by rfl, ?_⟩) ?_ ?_
                  rotate_left
                  ·intro w'
                   go_simp
                   with_reducible rfl
                  rotate_left
                  ·simp only [Act.put, List.setIfInBounds_toArray, List.set_cons_zero, List.set_cons_succ, i64_w, i32_w]
                   rfl
                  refine pure_ (i := 5) (N := some 64) (v := ?_) (a' := ?_) #[true, true, true, true, true, true, true, true, false, false, false, false, false, false] rfl rfl (any_of HT_.out (by kernel_rfl)) (fun _ _ _ h => h) (Or.inl ⟨by rfl, ?_⟩) ?_ ?_
                  rotate_left
                  ·intro w'
                   go_simp
                   with_reducible rfl
                  rotate_left
                  ·simp only [Act.put, List.setIfInBounds_toArray, List.set_cons_zero, List.set_cons_succ, i64_w, i32_w]
                   rfl
                  refine pure_ (i := 12) (N := some 9) (v := ?_) (a' := ?_) #[true, true, true, true, true, true, true, true, false, false, false, false, true, false] rfl rfl (any_of HT_.out (by kernel_rfl)) (fun _ _ _ h => h) (Or.inl ⟨by rfl, ?_⟩) ?_ ?_
                  rotate_left
                  ·intro w'
                   go_simp
                   with_reducible rfl
                  rotate_left
                  ·simp only [Act.put, List.setIfInBounds_toArray, List.set_cons_zero, List.set_cons_succ, i64_w, i32_w]
                   rfl
                  refine take_ (i := 8) (N := some 67) (v := ?_) (a' := ?_) #[true, true, true, true, true, true, true, true, true, false, false, false, true, false] rfl rfl (take_ofW HT_.out HW_.out (by kernel_rfl)) (fun _ _ _ h => h) (Or.inl ⟨by rfl, ?_⟩) hHeld ?_ ?_
                  rotate_left
                  ·intro w' _
                   go_simp
                   with_reducible rfl
                  rotate_left
                  ·simp only [Act.put, List.setIfInBounds_toArray, List.set_cons_zero, List.set_cons_succ, i64_w, i32_w]
                   rfl
                  refine pure_ (i := 9) (N := some 68) (v := ?_) (a' := ?_) #[true, true, true, true, true, true, true, true, true, true, false, false, true, false] rfl rfl (any_of HT_.out (by kernel_rfl)) (fun _ _ _ h => h) (Or.inl ⟨by rfl, ?_⟩) ?_ ?_
                  rotate_left
                  ·intro w'
                   go_simp
                   with_reducible rfl
                  rotate_left
                  ·simp only [Act.put, List.setIfInBounds_toArray, List.set_cons_zero, List.set_cons_succ, i64_w, i32_w]
                   rfl
                  refine pure_ (i := 10) (N := some 69) (v := ?_) (a' := ?_) #[true, true, true, true, true, true, true, true, true, true, true, false, true, false] rfl rfl (any_of HT_.out (by kernel_rfl)) (fun _ _ _ h => h) (Or.inl ⟨by rfl, ?_⟩) ?_ ?_
                  rotate_left
                  ·intro w'
                   go_simp
                   with_reducible rfl
                  rotate_left
                  ·simp only [Act.put, List.setIfInBounds_toArray, List.set_cons_zero, List.set_cons_succ, i64_w, i32_w]
                   rfl
                  refine pure_ (i := 11) (N := some 70) (v := ?_) (a' := ?_) #[true, true, true, true, true, true, true, true, true, true, true, true, true, false] rfl rfl (any_of HT_.out (by kernel_rfl)) (fun _ _ _ h => h) (Or.inl ⟨by rfl, ?_⟩) ?_ ?_
                  rotate_left
                  ·intro w'
                   go_simp
                   with_reducible rfl
                  rotate_left
                  ·simp only [Act.put, List.setIfInBounds_toArray, List.set_cons_zero, List.set_cons_succ, i64_w, i32_w]
                   rfl
                  refine pure_ (i := 13) (N := some 10) (v := ?_) (a' := ?_) #[true, true, true, true, true, true, true, true, true, true, true, true, true, true] rfl rfl (any_of HT_.out (by kernel_rfl)) (fun _ _ _ h => h) (Or.inl ⟨by rfl, ?_⟩) ?_ ?_
                  rotate_left
                  ·intro w'
                   go_simp
                   with_reducible rfl
                  rotate_left
                  ·simp only [Act.put, List.setIfInBounds_toArray, List.set_cons_zero, List.set_cons_succ, i64_w, i32_w]
                   rfl
                  refine done_ (done_of HT_.out (by kernel_rfl)) ?_
                  have hnb74 := NB128_127.out
                  have hnc74 := NB127_128.out
                  have hcz75_0 : w73.cell? ⟨gb128, 0, none⟩ = some (.bool false) := (blk_cell BK128.out 0).trans rfl
                  have hcz75_1 : w73.cell? ⟨gb128, 1, none⟩ = some (u129001) := (blk_cell BK128.out 1).trans rfl
                  have hcz75_2 : w73.cell? ⟨gb128, 2, none⟩ = some (u129002) := (blk_cell BK128.out 2).trans rfl
                  have hcz75_3 : w73.cell? ⟨gb128, 3, none⟩ = some (u129003) := (blk_cell BK128.out 3).trans rfl
                  have hfz75_0 := blk_frozen BK128.out 0
                  have hfz75_1 := blk_frozen BK128.out 1
                  have hfz75_2 := blk_frozen BK128.out 2
                  have hfz75_3 := blk_frozen BK128.out 3
                  try go_wp2_with (first | ((with_reducible refine gate_builtin (b := .append) (xs := #[.tmp 72, .tmp 74]) rfl ?_); (try (refine gate_guard (by rfl) ?_; dsimp only)); at_builtin; refine Kd.R_append Kd.string (w0 := w) w.heap.size rfl (.tmp 72) (.tmp 74) 22 9 (.string ⟨#[]⟩) 16 rfl Try.underlying22 info9 rfl (by decide) (by omega) u129001 x129001_2 ((rdOf ByteArray.empty x1_2 x39_2).extract 1 ((ji44) : Int).toNat) [.string ((rdOf ByteArray.empty x1_2 x39_2).extract 1 ((ji44) : Int).toNat)] (fun k_ => (w.heap.size ≤ k_) ∧ some k_ ≠ (u129002 : Value).ownBlock) (fun _ => False) rfl rfl ?aP (fun _ hk => hk.elim) ?aF ?aO ?aB ?aS ?aL ?_; (case aP => exact rfl); (case aB => exact (by repeat (first | (with_reducible first | exact HB.out | apply below_alloc | apply pw_below_drewN | apply below_drew1 | refine below_set ?_ GE127.out | refine below_set ?_ GE128.out) | exact HB.out))); (case aF => exact (fun k_ hk => ⟨(Nat.le_trans (below_size (by repeat (first | (with_reducible first | exact HB.out | apply below_alloc | apply pw_below_drewN | apply below_drew1 | refine below_set ?_ GE127.out | refine below_set ?_ GE128.out) | exact HB.out))) hk), Kd.fresh' (Kd.R_lt (by (with_reducible repeat (first | apply Kd.R_alloc | apply Kd.R_drewN | apply Kd.R_drew)); exact HO_129002.out)) k_ hk⟩)); (case aO => exact (by (with_reducible repeat (first | apply Kd.R_alloc | apply Kd.R_drewN | apply Kd.R_drew)); exact HO_129001.out)); (case aS => exact (below_size (by repeat (first | (with_reducible first | exact HB.out | apply below_alloc | apply pw_below_drewN | apply below_drew1 | refine below_set ?_ GE127.out | refine below_set ?_ GE128.out) | exact HB.out)))); (case aL => have := LMc47.out; omega); intro v143 w76 ho hb hg hat; rw [← Ny142.out] at ho; have n0_ := Aside0.mk (Kd.V_afterv (ok := (fun k_ => (P1_ k_ ∨ w.heap.size ≤ k_) ∧ some k_ ≠ (u129002 : Value).ownBlock ∧ some k_ ≠ (u129003 : Value).ownBlock ∧ k_ ≠ gb127 ∧ k_ ≠ gb128)) (by (with_reducible repeat (first | apply Kd.V_alloc | apply Kd.V_drewN | apply Kd.V_drew)); exact Kd.V_mono HO_37.out (fun _ hk => ⟨⟨hk.1, ⟨hk.2.2.1, ⟨hk.2.2.2.1, ⟨hk.2.2.2.2.1, hk.2.2.2.2.2⟩⟩⟩⟩, hk.2.1⟩)) hg hat); have n1_ := Aside0.mk (Kd.R_after (ok := (fun k_ => (w.heap.size ≤ k_))) (by (with_reducible repeat (first | apply Kd.R_alloc | apply Kd.R_drewN | apply Kd.R_drew)); exact HO_129002.out) hg hat); have n2_ := Aside0.mk (Kd.R_over' (by (with_reducible repeat (first | apply Kd.R_alloc | apply Kd.R_drewN | apply Kd.R_drew)); exact HO_129003.out) (Kd.R_typed (by (with_reducible repeat (first | apply Kd.R_alloc | apply Kd.R_drewN | apply Kd.R_drew)); exact HO_129001.out)) (by decide) hg); have n3_ := Aside0.mk (blk_grown (g := gb127) (o := .cells #[.bool x128000_2, .slice none 0 0, .slice none 0 0, .slice none 0 0] 25 (0, 0)) (by (with_reducible repeat (first | refine blk_drewN ?_ _ | refine blk_drew ?_ | refine blk_alloc ?_ _)); exact BK127.out) hg (Kd.R_ne HO_129001.out BK127.out (by decide))); have n4_ := Aside0.mk (blk_grown (g := gb128) (o := .cells #[.bool false, u129001, u129002, u129003] 25 (0, 0)) (by (with_reducible repeat (first | refine blk_drewN ?_ _ | refine blk_drew ?_ | refine blk_alloc ?_ _)); exact BK128.out) hg (Kd.R_ne HO_129001.out BK128.out (by decide))); have n5_ := Aside0.mk (hb); have n6_ := Aside0.mk (ho); clear HO_37; clear HO_129002; clear HO_129003; clear BK127; clear BK128; clear HB; clear HO_129001; have HO_37 := n0_; have HO_129002 := n1_; have HO_129003 := n2_; have BK127 := n3_; have BK128 := n4_; have HB := n5_; have HO144 := n6_; clear n0_ n1_ n2_ n3_ n4_ n5_ n6_; clear ho hb hg hat; obtain ⟨Ao77, co77, eo77⟩ := Kd.R_slice HO144.out; subst eo77; have hcz78_0 : w76.cell? ⟨gb128, 0, none⟩ = some (.bool false) := (blk_cell BK128.out 0).trans rfl; have hcz78_1 : w76.cell? ⟨gb128, 1, none⟩ = some (u129001) := (blk_cell BK128.out 1).trans rfl; have hcz78_2 : w76.cell? ⟨gb128, 2, none⟩ = some (u129002) := (blk_cell BK128.out 2).trans rfl; have hcz78_3 : w76.cell? ⟨gb128, 3, none⟩ = some (u129003) := (blk_cell BK128.out 3).trans rfl; have hfz78_0 := blk_frozen BK128.out 0; have hfz78_1 := blk_frozen BK128.out 1; have hfz78_2 := blk_frozen BK128.out 2; have hfz78_3 := blk_frozen BK128.out 3; have hcz79_0 : w76.cell? ⟨gb127, 0, none⟩ = some (.bool x128000_2) := (blk_cell BK127.out 0).trans rfl; have hcz79_1 : w76.cell? ⟨gb127, 1, none⟩ = some (.slice none 0 0) := (blk_cell BK127.out 1).trans rfl; have hcz79_2 : w76.cell? ⟨gb127, 2, none⟩ = some (.slice none 0 0) := (blk_cell BK127.out 2).trans rfl; have hcz79_3 : w76.cell? ⟨gb127, 3, none⟩ = some (.slice none 0 0) := (blk_cell BK127.out 3).trans rfl; have hfz79_0 := blk_frozen BK127.out 0; have hfz79_1 := blk_frozen BK127.out 1; have hfz79_2 := blk_frozen BK127.out 2; have hfz79_3 := blk_frozen BK127.out 3))
                  refine bodyPost_ret (results_ct rfl _ _ gb127 25 #[.bool false, .slice none 0 0, .slice none 0 0, .slice none 0 0] (0, 0) _ rfl (by (with_reducible repeat (first | refine blk_drewN ?_ _ | refine blk_drew ?_ | refine blk_alloc ?_ _)); refine blk_put (cs := #[.bool false, .slice none 0 0, .slice none 0 0, .slice none 0 0]) ?_ 3 _ rfl; (with_reducible repeat (first | refine blk_drewN ?_ _ | refine blk_drew ?_ | refine blk_alloc ?_ _)); refine blk_put (cs := #[.bool false, .slice none 0 0, .slice none 0 0, .slice none 0 0]) ?_ 2 _ rfl; (with_reducible repeat (first | refine blk_drewN ?_ _ | refine blk_drew ?_ | refine blk_alloc ?_ _)); refine blk_put (cs := #[.bool false, .slice none 0 0, .slice none 0 0, .slice none 0 0]) ?_ 1 _ rfl; (with_reducible repeat (first | refine blk_drewN ?_ _ | refine blk_drew ?_ | refine blk_alloc ?_ _)); refine blk_put (cs := #[.bool x128000_2, .slice none 0 0, .slice none 0 0, .slice none 0 0]) ?_ 0 _ rfl; (with_reducible repeat (first | refine blk_drewN ?_ _ | refine blk_drew ?_ | refine blk_alloc ?_ _)); refine blk_far ?_ NB127_128.out _; (with_reducible repeat (first | refine blk_drewN ?_ _ | refine blk_drew ?_ | refine blk_alloc ?_ _)); exact BK127.out) Try.underlying25 rfl (by kernel_rfl)) rfl ?_
                  exact ⟨_, _, _, by first | rfl | (simp [errW_none, errW_some] <;> rfl) | (simp only [← hji44]; first | rfl | (simp [errW_none, errW_some] <;> rfl)) | (simp [*, errW_none, errW_some] <;> rfl), by first | exact Kd.R_nil _ _ _ _ _ | exact Kd.N_nil _ _ _ _ _ | exact Kd.V_nil _ _ _ _ _ | exact Kd.Q_nil _ _ _ _ _ | exact Kd.S_nil _ _ _ _ _, by first | exact Kd.R_nil _ _ _ _ _ | exact Kd.N_nil _ _ _ _ _ | exact Kd.V_nil _ _ _ _ _ | exact Kd.Q_nil _ _ _ _ _ | exact Kd.S_nil _ _ _ _ _, by first | exact Kd.R_nil _ _ _ _ _ | exact Kd.N_nil _ _ _ _ _ | exact Kd.V_nil _ _ _ _ _ | exact Kd.Q_nil _ _ _ _ _ | exact Kd.S_nil _ _ _ _ _, by repeat (first | (with_reducible first | exact HB.out | apply below_alloc | apply pw_below_drewN | apply below_drew1 | refine below_set ?_ GE127.out | refine below_set ?_ GE128.out) | exact HB.out)⟩
               ·rw [if_neg c47] at H
                exact absurd H (by simp)
              ·rw [if_neg c45] at H
               exact absurd H (by simp)
             ·rw [if_neg c42] at H
              exact absurd H (by simp)
            ·rw [if_neg c41] at H
             exact absurd H (by simp)
           ·rw [if_neg c39] at H
            exact absurd H (by simp)
       ·rw [if_neg c29] at H
        exact absurd H (by simp)
      ·rw [if_neg c28] at H
       exact absurd H (by simp)
     ·rw [if_neg c27] at H
      have c27b0 : decide (x39_2 < (x1_2.length : Int)) = false := decide_eq_false c27
      clear c27
      replace H := Option.bind_eq_some_iff.mp H
      obtain ⟨t140, A800, H⟩ := H
      replace H : (if t140 = 0 then (some (a0, x129001_2, x129002_2, x129003_2, 0)) else (some (false, ([] : List ByteArray), ([] : List ByteArray), ([] : List Int), 50))) = some (r1, r2, r3, r4, r5) := H
      have A80 := Aside0.mk A800
      clear A800
      by_cases c81 : t140 = 0
      ·rw [if_pos c81] at H
       have c81b0 : (t140 == 0) = true := beq_iff_eq.mpr c81
       have c81b1 : (t140 != 0) = false := bne_eq_false_iff_eq.mpr c81
       clear c81
       simp only [Option.some.injEq, Prod.mk.injEq] at H
       obtain ⟨rfl, rfl, rfl, rfl, rfl⟩ := H
       have hnb82 := NB128_127.out
       have hnc82 := NB127_128.out
       have hcz83_0 : wr.cell? ⟨gb128, 0, none⟩ = some (.bool a0) := (blk_cell BK128.out 0).trans rfl
       have hcz83_1 : wr.cell? ⟨gb128, 1, none⟩ = some (u129001) := (blk_cell BK128.out 1).trans rfl
       have hcz83_2 : wr.cell? ⟨gb128, 2, none⟩ = some (u129002) := (blk_cell BK128.out 2).trans rfl
       have hcz83_3 : wr.cell? ⟨gb128, 3, none⟩ = some (u129003) := (blk_cell BK128.out 3).trans rfl
       have hfz83_0 := blk_frozen BK128.out 0
       have hfz83_1 := blk_frozen BK128.out 1
       have hfz83_2 := blk_frozen BK128.out 2
       have hfz83_3 := blk_frozen BK128.out 3
       obtain ⟨Ao84, co84, eo84⟩ := Kd.R_slice HO_129001.out
       subst eo84
       obtain ⟨Ao85, co85, eo85⟩ := Kd.R_slice HO_129002.out
       subst eo85
       obtain ⟨Ao86, co86, eo86⟩ := Kd.R_slice HO_129003.out
       subst eo86
       go_wp2_with (first | ((with_reducible refine gate_callee (f := 17) rfl ?_); refine goesL_ (some 99) rfl rfl Try.func17 (by kernel_rfl) rfl #[.agg #[.bool a0, .slice Ao84 x129001_2.length co84, .slice Ao85 x129002_2.length co85, .slice Ao86 x129003_2.length co86]] rfl (by (try simp only [List.map_toArray, List.map_cons, List.map_nil]); first | done | rfl | (simp only [List.length_drop, List.length_take]; rfl)) ?_; (with_reducible refine (node_Check.calls a0 _ _ x129001_2 _ _ x129002_2 _ _ x129003_2 t140 _ ?side1 ?side2 ?side3 ?side4 ?side5 ?side6 A80.out).mono ?_); (case side1 => repeat (first | exact (Kd.R_reads' HO_129001.out).2.2 | (with_reducible refine Kd.C_alloc ?_ _) | (with_reducible refine Kd.C_drewN ?_ _) | (with_reducible refine Kd.C_drew ?_))); (case side2 => exact (Kd.R_reads' HO_129001.out).2.1); (case side3 => repeat (first | exact (Kd.R_reads' HO_129002.out).2.2 | (with_reducible refine Kd.C_alloc ?_ _) | (with_reducible refine Kd.C_drewN ?_ _) | (with_reducible refine Kd.C_drew ?_))); (case side4 => exact (Kd.R_reads' HO_129002.out).2.1); (case side5 => repeat (first | exact (Kd.R_reads' HO_129003.out).2.2 | (with_reducible refine Kd.C_alloc ?_ _) | (with_reducible refine Kd.C_drewN ?_ _) | (with_reducible refine Kd.C_drew ?_))); (case side6 => exact (Kd.R_reads' HO_129003.out).2.1); rintro e w87 ⟨rfl, hb⟩; refine ⟨_, rfl, ?_⟩; have n0_ := Aside0.mk (Kd.V_below (by (with_reducible repeat (first | apply Kd.V_alloc | apply Kd.V_drewN | apply Kd.V_drew)); exact HO_37.out) hb); have n1_ := Aside0.mk (Kd.R_below (by (with_reducible repeat (first | apply Kd.R_alloc | apply Kd.R_drewN | apply Kd.R_drew)); exact HO_129001.out) hb); have n2_ := Aside0.mk (Kd.R_below (by (with_reducible repeat (first | apply Kd.R_alloc | apply Kd.R_drewN | apply Kd.R_drew)); exact HO_129002.out) hb); have n3_ := Aside0.mk (Kd.R_below (by (with_reducible repeat (first | apply Kd.R_alloc | apply Kd.R_drewN | apply Kd.R_drew)); exact HO_129003.out) hb); have n4_ := Aside0.mk (blk_below (g := gb127) (o := .cells #[.bool x128000_2, .slice none 0 0, .slice none 0 0, .slice none 0 0] 25 (0, 0)) (by (with_reducible repeat (first | refine blk_drewN ?_ _ | refine blk_drew ?_ | refine blk_alloc ?_ _)); exact BK127.out) hb); have n5_ := Aside0.mk (blk_below (g := gb128) (o := .cells #[.bool a0, .slice Ao84 x129001_2.length co84, .slice Ao85 x129002_2.length co85, .slice Ao86 x129003_2.length co86] 25 (0, 0)) (by (with_reducible repeat (first | refine blk_drewN ?_ _ | refine blk_drew ?_ | refine blk_alloc ?_ _)); exact BK128.out) hb); have n6_ := Aside0.mk (below_step (by repeat (first | (with_reducible first | exact HB.out | apply below_alloc | apply pw_below_drewN | apply below_drew1 | refine below_set ?_ GE127.out | refine below_set ?_ GE128.out) | exact HB.out)) hb); clear HO_37; clear HO_129001; clear HO_129002; clear HO_129003; clear BK127; clear BK128; clear HB; have HO_37 := n0_; have HO_129001 := n1_; have HO_129002 := n2_; have HO_129003 := n3_; have BK127 := n4_; have BK128 := n5_; have HB := n6_; clear n0_ n1_ n2_ n3_ n4_ n5_ n6_; (try clear hb); (try clear hb2); (try clear hk); (try clear hi); have hcz88_0 : w87.cell? ⟨gb128, 0, none⟩ = some (.bool a0) := (blk_cell BK128.out 0).trans rfl; have hcz88_1 : w87.cell? ⟨gb128, 1, none⟩ = some (.slice Ao84 x129001_2.length co84) := (blk_cell BK128.out 1).trans rfl; have hcz88_2 : w87.cell? ⟨gb128, 2, none⟩ = some (.slice Ao85 x129002_2.length co85) := (blk_cell BK128.out 2).trans rfl; have hcz88_3 : w87.cell? ⟨gb128, 3, none⟩ = some (.slice Ao86 x129003_2.length co86) := (blk_cell BK128.out 3).trans rfl; have hfz88_0 := blk_frozen BK128.out 0; have hfz88_1 := blk_frozen BK128.out 1; have hfz88_2 := blk_frozen BK128.out 2; have hfz88_3 := blk_frozen BK128.out 3; have hcz89_0 : w87.cell? ⟨gb127, 0, none⟩ = some (.bool x128000_2) := (blk_cell BK127.out 0).trans rfl; have hcz89_1 : w87.cell? ⟨gb127, 1, none⟩ = some (.slice none 0 0) := (blk_cell BK127.out 1).trans rfl; have hcz89_2 : w87.cell? ⟨gb127, 2, none⟩ = some (.slice none 0 0) := (blk_cell BK127.out 2).trans rfl; have hcz89_3 : w87.cell? ⟨gb127, 3, none⟩ = some (.slice none 0 0) := (blk_cell BK127.out 3).trans rfl; have hfz89_0 := blk_frozen BK127.out 0; have hfz89_1 := blk_frozen BK127.out 1; have hfz89_2 := blk_frozen BK127.out 2; have hfz89_3 := blk_frozen BK127.out 3))
       refine bodyPost_ret (results_ct rfl _ _ gb127 25 #[.bool a0, .slice Ao84 x129001_2.length co84, .slice Ao85 x129002_2.length co85, .slice Ao86 x129003_2.length co86] (0, 0) _ rfl (by (with_reducible repeat (first | refine blk_drewN ?_ _ | refine blk_drew ?_ | refine blk_alloc ?_ _)); refine blk_put (cs := #[.bool a0, .slice Ao84 x129001_2.length co84, .slice Ao85 x129002_2.length co85, .slice none 0 0]) ?_ 3 _ rfl; (with_reducible repeat (first | refine blk_drewN ?_ _ | refine blk_drew ?_ | refine blk_alloc ?_ _)); refine blk_put (cs := #[.bool a0, .slice Ao84 x129001_2.length co84, .slice none 0 0, .slice none 0 0]) ?_ 2 _ rfl; (with_reducible repeat (first | refine blk_drewN ?_ _ | refine blk_drew ?_ | refine blk_alloc ?_ _)); refine blk_put (cs := #[.bool a0, .slice none 0 0, .slice none 0 0, .slice none 0 0]) ?_ 1 _ rfl; (with_reducible repeat (first | refine blk_drewN ?_ _ | refine blk_drew ?_ | refine blk_alloc ?_ _)); refine blk_put (cs := #[.bool x128000_2, .slice none 0 0, .slice none 0 0, .slice none 0 0]) ?_ 0 _ rfl; (with_reducible repeat (first | refine blk_drewN ?_ _ | refine blk_drew ?_ | refine blk_alloc ?_ _)); exact BK127.out) Try.underlying25 rfl (by kernel_rfl)) rfl ?_
       exact ⟨_, _, _, by first | rfl | (simp [errW_none, errW_some] <;> rfl) | (simp [*, errW_none, errW_some] <;> rfl), by (with_reducible repeat (first | apply Kd.R_alloc | apply Kd.R_drewN | apply Kd.R_drew)); exact Kd.R_mono (Kd.R_far (p := ⟨gb127, 3, none⟩) (Kd.R_far (p := ⟨gb127, 2, none⟩) (Kd.R_far (p := ⟨gb127, 1, none⟩) (Kd.R_far (p := ⟨gb127, 0, none⟩) (Kd.R_types HO_129001.out BK127.out (by decide)) (fun _ hk => hk.2) (.bool a0)) (fun _ hk => hk.2) (.slice Ao84 x129001_2.length co84)) (fun _ hk => hk.2) (.slice Ao85 x129002_2.length co85)) (fun _ hk => hk.2) (.slice Ao86 x129003_2.length co86)) (fun _ hk => ⟨hk.1.1, hk.1.2⟩), by (with_reducible repeat (first | apply Kd.R_alloc | apply Kd.R_drewN | apply Kd.R_drew)); exact Kd.R_mono (Kd.R_far (p := ⟨gb127, 3, none⟩) (Kd.R_far (p := ⟨gb127, 2, none⟩) (Kd.R_far (p := ⟨gb127, 1, none⟩) (Kd.R_far (p := ⟨gb127, 0, none⟩) (Kd.R_types HO_129002.out BK127.out (by decide)) (fun _ hk => hk.2) (.bool a0)) (fun _ hk => hk.2) (.slice Ao84 x129001_2.length co84)) (fun _ hk => hk.2) (.slice Ao85 x129002_2.length co85)) (fun _ hk => hk.2) (.slice Ao86 x129003_2.length co86)) (fun _ hk => ⟨hk.1.1, hk.1.2⟩), by (with_reducible repeat (first | apply Kd.R_alloc | apply Kd.R_drewN | apply Kd.R_drew)); exact Kd.R_mono (Kd.R_far (p := ⟨gb127, 3, none⟩) (Kd.R_far (p := ⟨gb127, 2, none⟩) (Kd.R_far (p := ⟨gb127, 1, none⟩) (Kd.R_far (p := ⟨gb127, 0, none⟩) (Kd.R_types HO_129003.out BK127.out (by decide)) (fun _ hk => hk.2) (.bool a0)) (fun _ hk => hk.2) (.slice Ao84 x129001_2.length co84)) (fun _ hk => hk.2) (.slice Ao85 x129002_2.length co85)) (fun _ hk => hk.2) (.slice Ao86 x129003_2.length co86)) (fun _ hk => hk.1), by repeat (first | (with_reducible first | exact HB.out | apply below_alloc | apply pw_below_drewN | apply below_drew1 | refine below_set ?_ GE127.out | refine below_set ?_ GE128.out) | exact HB.out)⟩
      ·rw [if_neg c81] at H
       have c81b0 : (t140 == 0) = false := beq_eq_false_iff_ne.mpr c81
       have c81b1 : (t140 != 0) = true := bne_iff_ne.mpr c81
       simp only [Option.some.injEq, Prod.mk.injEq] at H
       obtain ⟨rfl, rfl, rfl, rfl, rfl⟩ := H
       have hnb90 := NB128_127.out
       have hnc90 := NB127_128.out
       have hcz91_0 : wr.cell? ⟨gb128, 0, none⟩ = some (.bool a0) := (blk_cell BK128.out 0).trans rfl
       have hcz91_1 : wr.cell? ⟨gb128, 1, none⟩ = some (u129001) := (blk_cell BK128.out 1).trans rfl
       have hcz91_2 : wr.cell? ⟨gb128, 2, none⟩ = some (u129002) := (blk_cell BK128.out 2).trans rfl
       have hcz91_3 : wr.cell? ⟨gb128, 3, none⟩ = some (u129003) := (blk_cell BK128.out 3).trans rfl
       have hfz91_0 := blk_frozen BK128.out 0
       have hfz91_1 := blk_frozen BK128.out 1
       have hfz91_2 := blk_frozen BK128.out 2
       have hfz91_3 := blk_frozen BK128.out 3
       obtain ⟨Ao92, co92, eo92⟩ := Kd.R_slice HO_129001.out
       subst eo92
       obtain ⟨Ao93, co93, eo93⟩ := Kd.R_slice HO_129002.out
       subst eo93
       obtain ⟨Ao94, co94, eo94⟩ := Kd.R_slice HO_129003.out
       subst eo94
       go_wp2_with (first | ((with_reducible refine gate_callee (f := 17) rfl ?_); refine goesL_ (some 99) rfl rfl Try.func17 (by kernel_rfl) rfl #[.agg #[.bool a0, .slice Ao92 x129001_2.length co92, .slice Ao93 x129002_2.length co93, .slice Ao94 x129003_2.length co94]] rfl (by (try simp only [List.map_toArray, List.map_cons, List.map_nil]); first | done | rfl | (simp only [List.length_drop, List.length_take]; rfl)) ?_; (with_reducible refine (node_Check.calls a0 _ _ x129001_2 _ _ x129002_2 _ _ x129003_2 t140 _ ?side1 ?side2 ?side3 ?side4 ?side5 ?side6 A80.out).mono ?_); (case side1 => repeat (first | exact (Kd.R_reads' HO_129001.out).2.2 | (with_reducible refine Kd.C_alloc ?_ _) | (with_reducible refine Kd.C_drewN ?_ _) | (with_reducible refine Kd.C_drew ?_))); (case side2 => exact (Kd.R_reads' HO_129001.out).2.1); (case side3 => repeat (first | exact (Kd.R_reads' HO_129002.out).2.2 | (with_reducible refine Kd.C_alloc ?_ _) | (with_reducible refine Kd.C_drewN ?_ _) | (with_reducible refine Kd.C_drew ?_))); (case side4 => exact (Kd.R_reads' HO_129002.out).2.1); (case side5 => repeat (first | exact (Kd.R_reads' HO_129003.out).2.2 | (with_reducible refine Kd.C_alloc ?_ _) | (with_reducible refine Kd.C_drewN ?_ _) | (with_reducible refine Kd.C_drew ?_))); (case side6 => exact (Kd.R_reads' HO_129003.out).2.1); rintro e w95 ⟨rfl, hb⟩; refine ⟨_, rfl, ?_⟩; have n0_ := Aside0.mk (Kd.V_below (by (with_reducible repeat (first | apply Kd.V_alloc | apply Kd.V_drewN | apply Kd.V_drew)); exact HO_37.out) hb); have n1_ := Aside0.mk (Kd.R_below (by (with_reducible repeat (first | apply Kd.R_alloc | apply Kd.R_drewN | apply Kd.R_drew)); exact HO_129001.out) hb); have n2_ := Aside0.mk (Kd.R_below (by (with_reducible repeat (first | apply Kd.R_alloc | apply Kd.R_drewN | apply Kd.R_drew)); exact HO_129002.out) hb); have n3_ := Aside0.mk (Kd.R_below (by (with_reducible repeat (first | apply Kd.R_alloc | apply Kd.R_drewN | apply Kd.R_drew)); exact HO_129003.out) hb); have n4_ := Aside0.mk (blk_below (g := gb127) (o := .cells #[.bool x128000_2, .slice none 0 0, .slice none 0 0, .slice none 0 0] 25 (0, 0)) (by (with_reducible repeat (first | refine blk_drewN ?_ _ | refine blk_drew ?_ | refine blk_alloc ?_ _)); exact BK127.out) hb); have n5_ := Aside0.mk (blk_below (g := gb128) (o := .cells #[.bool a0, .slice Ao92 x129001_2.length co92, .slice Ao93 x129002_2.length co93, .slice Ao94 x129003_2.length co94] 25 (0, 0)) (by (with_reducible repeat (first | refine blk_drewN ?_ _ | refine blk_drew ?_ | refine blk_alloc ?_ _)); exact BK128.out) hb); have n6_ := Aside0.mk (below_step (by repeat (first | (with_reducible first | exact HB.out | apply below_alloc | apply pw_below_drewN | apply below_drew1 | refine below_set ?_ GE127.out | refine below_set ?_ GE128.out) | exact HB.out)) hb); clear HO_37; clear HO_129001; clear HO_129002; clear HO_129003; clear BK127; clear BK128; clear HB; have HO_37 := n0_; have HO_129001 := n1_; have HO_129002 := n2_; have HO_129003 := n3_; have BK127 := n4_; have BK128 := n5_; have HB := n6_; clear n0_ n1_ n2_ n3_ n4_ n5_ n6_; (try clear hb); (try clear hb2); (try clear hk); (try clear hi); have hcz96_0 : w95.cell? ⟨gb127, 0, none⟩ = some (.bool x128000_2) := (blk_cell BK127.out 0).trans rfl; have hcz96_1 : w95.cell? ⟨gb127, 1, none⟩ = some (.slice none 0 0) := (blk_cell BK127.out 1).trans rfl; have hcz96_2 : w95.cell? ⟨gb127, 2, none⟩ = some (.slice none 0 0) := (blk_cell BK127.out 2).trans rfl; have hcz96_3 : w95.cell? ⟨gb127, 3, none⟩ = some (.slice none 0 0) := (blk_cell BK127.out 3).trans rfl; have hfz96_0 := blk_frozen BK127.out 0; have hfz96_1 := blk_frozen BK127.out 1; have hfz96_2 := blk_frozen BK127.out 2; have hfz96_3 := blk_frozen BK127.out 3))
       refine bodyPost_ret (results_ct rfl _ _ gb127 25 #[.bool false, .slice none 0 0, .slice none 0 0, .slice none 0 0] (0, 0) _ rfl (by (with_reducible repeat (first | refine blk_drewN ?_ _ | refine blk_drew ?_ | refine blk_alloc ?_ _)); refine blk_put (cs := #[.bool false, .slice none 0 0, .slice none 0 0, .slice none 0 0]) ?_ 3 _ rfl; (with_reducible repeat (first | refine blk_drewN ?_ _ | refine blk_drew ?_ | refine blk_alloc ?_ _)); refine blk_put (cs := #[.bool false, .slice none 0 0, .slice none 0 0, .slice none 0 0]) ?_ 2 _ rfl; (with_reducible repeat (first | refine blk_drewN ?_ _ | refine blk_drew ?_ | refine blk_alloc ?_ _)); refine blk_put (cs := #[.bool false, .slice none 0 0, .slice none 0 0, .slice none 0 0]) ?_ 1 _ rfl; (with_reducible repeat (first | refine blk_drewN ?_ _ | refine blk_drew ?_ | refine blk_alloc ?_ _)); refine blk_put (cs := #[.bool x128000_2, .slice none 0 0, .slice none 0 0, .slice none 0 0]) ?_ 0 _ rfl; (with_reducible repeat (first | refine blk_drewN ?_ _ | refine blk_drew ?_ | refine blk_alloc ?_ _)); exact BK127.out) Try.underlying25 rfl (by kernel_rfl)) rfl ?_
       exact ⟨_, _, _, by first | rfl | (simp [errW_none, errW_some] <;> rfl) | (simp [*, errW_none, errW_some] <;> rfl), by first | exact Kd.R_nil _ _ _ _ _ | exact Kd.N_nil _ _ _ _ _ | exact Kd.V_nil _ _ _ _ _ | exact Kd.Q_nil _ _ _ _ _ | exact Kd.S_nil _ _ _ _ _, by first | exact Kd.R_nil _ _ _ _ _ | exact Kd.N_nil _ _ _ _ _ | exact Kd.V_nil _ _ _ _ _ | exact Kd.Q_nil _ _ _ _ _ | exact Kd.S_nil _ _ _ _ _, by first | exact Kd.R_nil _ _ _ _ _ | exact Kd.N_nil _ _ _ _ _ | exact Kd.V_nil _ _ _ _ _ | exact Kd.Q_nil _ _ _ _ _ | exact Kd.S_nil _ _ _ _ _, by repeat (first | (with_reducible first | exact HB.out | apply below_alloc | apply pw_below_drewN | apply below_drew1 | refine below_set ?_ GE127.out | refine below_set ?_ GE128.out) | exact HB.out)⟩

end Go.Proofs.Ytpdlbebiapimoaa.PN
