/- node.cloned copies a node -/
import Derived.Test.YtpdlbebiapimoaaHRegion
namespace Go.Proofs.Ytpdlbebiapimoaa.PN
open Go.RowKit Go.Proofs.YtpdlbebiapimoaaW.PrintWords Go.Proofs.YtpdlbebiapimoaaW.PrintLast Go.Proofs.YtpdlbebiapimoaaW.PrintMore
set_option linter.unusedVariables false
set_option linter.unusedSimpArgs false
set_option maxHeartbeats 4000000 in
set_option maxRecDepth 100000 in
theorem node_cloned.calls (a0_0 : Bool) (A0_1 : Option Addr) (c0_1 : Nat) (l0_1 : List ByteArray) (A0_2 : Option Addr) (c0_2 : Nat) (l0_2 : List ByteArray) (A0_3 : Option Addr) (c0_3 : Nat) (l0_3 : List Int) (r1 : Bool) (r2 : List ByteArray) (r3 : List ByteArray) (r4 : List Int) (w : World) (hr0_1 : Kd.C Kd.string w A0_1 l0_1.length l0_1) (hc0_1 : l0_1.length ≤ c0_1) (hr0_2 : Kd.C Kd.string w A0_2 l0_2.length l0_2) (hc0_2 : l0_2.length ≤ c0_2) (hr0_3 : Kd.C (Kd.int .i64) w A0_3 l0_3.length l0_3) (hc0_3 : l0_3.length ≤ c0_3) (h : node_cloned.f a0_0 l0_1 l0_2 l0_3 = some (r1, r2, r3, r4)) :
    Calls Try.prog 45 #[.agg #[.bool a0_0, .slice A0_1 l0_1.length c0_1, .slice A0_2 l0_2.length c0_2, .slice A0_3 l0_3.length c0_3]] w fun e w' => ∃ v1_ v2_ v3_ : Value, e = .returned (.agg #[.bool r1, v1_, v2_, v3_]) ∧ Kd.V Kd.string 9 w' w.heap.size (fun k_ => (w.heap.size ≤ k_)) v1_ r2 ∧ Kd.V Kd.string 9 w' w.heap.size (fun k_ => (w.heap.size ≤ k_)) v2_ r3 ∧ Kd.V (Kd.int .i64) 3 w' w.heap.size (fun k_ => (w.heap.size ≤ k_)) v3_ r4 ∧ Below w.heap.size w w' := by
  unfold node_cloned.f at h
  split at h
  case isFalse => cases h
  rename_i hsz
  obtain ⟨hl1, hl2, hl3⟩ := hsz
  simp only [Option.some.injEq, Prod.mk.injEq] at h
  obtain ⟨rfl, rfl, rfl, rfl⟩ := h
  have H1 := Aside0.mk hr0_1
  have H2 := Aside0.mk hr0_2
  have H3 := Aside0.mk hr0_3
  clear hr0_1 hr0_2 hr0_3
  have hu25 := Try.underlying25
  go_enter Try.func45, Try.ntmps45
  go_wp2_with (first | ((with_reducible refine gate_dst (N := 1) rfl ?_); refine box_event ?hg (N := 1) ?hd (cs := #[.bool a0_0, .slice A0_1 l0_1.length c0_1, .slice A0_2 l0_2.length c0_2, .slice A0_3 l0_3.length c0_3]) (t := 25) ?hr ?_; (case hd => rfl); (case hg => rfl); (case hr => first | (go_simp; done) | (go_simp; rfl)); intro gb hg w2 hbox hb; have HB := Aside0.mk hb; have BK := NBox.mk hbox; have GE := Aside0.mk (Nat.le_of_eq hg.symm); clear hg hbox hb) | ((with_reducible refine gate_dst (N := 2) rfl ?_); refine box_event ?hg (N := 2) ?hd (cs := #[.bool false, .slice none 0 0, .slice none 0 0, .slice none 0 0]) (t := 25) ?hr ?_; (case hd => rfl); (case hg => rfl); (case hr => first | (go_simp; done) | (go_simp; rfl)); intro ga hga w3 hbox hb; have NE := Aside0.mk (show gb ≠ ga by have := blk_lt BK.out; omega); replace BK := BK.below hb; have GA := Aside0.mk (Nat.le_trans (below_size HB.out) (Nat.le_of_eq hga.symm)); replace HB := Aside0.mk (below_step HB.out hb); have BA := NBox.mk hbox; clear hga hbox hb; obtain ⟨hx0, hx1, hx2, hx3⟩ := BK.cells))
  have HS := Aside0.mk (And.intro hx1 (And.intro hx2 hx3))
  refine wp_region_P (fun w' => w'.cell? ⟨gb, 1, none⟩ = some (.slice A0_1 l0_1.length c0_1) ∧ w'.cell? ⟨gb, 2, none⟩ = some (.slice A0_2 l0_2.length c0_2) ∧ w'.cell? ⟨gb, 3, none⟩ = some (.slice A0_3 l0_3.length c0_3)) 10 (by kernel_rfl) ?_
  refine wpAnyP_take 0 (oi := _) (v := ?v0) rfl (by kernel_rfl) (fun _ _ _ h => h) (by rfl) HS.out ?hy0 ?rest0
  case hy0 => intro w_ hSw; obtain ⟨hs1, hs2, hs3⟩ := hSw; first | (go_simp; done) | (go_simp; with_reducible rfl)
  try simp only [Act.put, List.setIfInBounds_toArray, List.set_cons_zero, List.set_cons_succ]
  refine wpAnyP_take 1 (oi := _) (v := ?v1) rfl (by kernel_rfl) (fun _ _ _ h => h) (by rfl) HS.out ?hy1 ?rest1
  case hy1 => intro w_ hSw; obtain ⟨hs1, hs2, hs3⟩ := hSw; first | (go_simp; done) | (go_simp; with_reducible rfl)
  try simp only [Act.put, List.setIfInBounds_toArray, List.set_cons_zero, List.set_cons_succ]
  refine wpAnyP_take 3 (oi := _) (v := ?v3) rfl (by kernel_rfl) (fun _ _ _ h => h) (by rfl) HS.out ?hy3 ?rest3
  case hy3 => intro w_ hSw; obtain ⟨hs1, hs2, hs3⟩ := hSw; first | (go_simp; done) | (go_simp; with_reducible rfl)
  try simp only [Act.put, List.setIfInBounds_toArray, List.set_cons_zero, List.set_cons_succ]
  refine wpAnyP_take 4 (oi := _) (v := ?v4) rfl (by kernel_rfl) (fun _ _ _ h => h) (by rfl) HS.out ?hy4 ?rest4
  case hy4 => intro w_ hSw; obtain ⟨hs1, hs2, hs3⟩ := hSw; first | (go_simp; done) | (go_simp; with_reducible rfl)
  try simp only [Act.put, List.setIfInBounds_toArray, List.set_cons_zero, List.set_cons_succ]
  refine wpAnyP_take 6 (oi := _) (v := ?v6) rfl (by kernel_rfl) (fun _ _ _ h => h) (by rfl) HS.out ?hy6 ?rest6
  case hy6 => intro w_ hSw; obtain ⟨hs1, hs2, hs3⟩ := hSw; first | (go_simp; done) | (go_simp; with_reducible rfl)
  try simp only [Act.put, List.setIfInBounds_toArray, List.set_cons_zero, List.set_cons_succ]
  refine wpAnyP_take 7 (oi := _) (v := ?v7) rfl (by kernel_rfl) (fun _ _ _ h => h) (by rfl) HS.out ?hy7 ?rest7
  case hy7 => intro w_ hSw; obtain ⟨hs1, hs2, hs3⟩ := hSw; first | (go_simp; done) | (go_simp; with_reducible rfl)
  try simp only [Act.put, List.setIfInBounds_toArray, List.set_cons_zero, List.set_cons_succ]
  refine wpAnyP_one 2 rfl (by kernel_rfl) (by rfl) (fun K hK => ?_)
  have HK := Aside0.mk hK
  clear hK
  go_simp
  go_at_call 51
  refine (clone51 A0_1 c0_1 l0_1 _ (Kd.C_below H1.out (by (with_reducible repeat (first | apply pw_below_drewN | apply below_drew1)); exact HB.out)) (by omega)).mono ?_
  rintro e w1' ⟨v1, rfl, ho, hb⟩
  obtain ⟨Av1, cv1, ev1⟩ := Kd.R_slice ho
  subst ev1
  clear hx0 hx1 hx2 hx3 HS
  have BK1 := NBox.mk (blk_below (g := gb) (by (with_reducible repeat (first | refine blk_drewN ?_ _ | refine blk_drew ?_)); exact BK.out) hb)
  clear BK
  have BK := BK1
  clear BK1
  have BA1 := NBox.mk (blk_below (g := ga) (by (with_reducible repeat (first | refine blk_drewN ?_ _ | refine blk_drew ?_)); exact BA.out) hb)
  clear BA
  have BA := BA1
  clear BA1
  have HV1 := Aside0.mk (Kd.R_lower ho (below_size (by (with_reducible repeat (first | apply pw_below_drewN | apply below_drew1)); exact HB.out)))
  replace HB := Aside0.mk (below_step (by (with_reducible repeat (first | apply pw_below_drewN | apply below_drew1)); exact HB.out) hb)
  clear ho hb
  obtain ⟨hx0, hx1, hx2, hx3⟩ := BK.cells
  have HS := Aside0.mk (And.intro hx1 (And.intro hx2 hx3))
  refine HK.out _ _ (fun _ => HS.out) ?_
  clear HK K
  try simp only [Act.put, List.setIfInBounds_toArray, List.set_cons_zero, List.set_cons_succ]
  refine wpAnyP_take 9 (oi := _) (v := ?v9) rfl (by kernel_rfl) (fun _ _ _ h => h) (by rfl) HS.out ?hy9 ?rest9
  case hy9 => intro w_ hSw; obtain ⟨hs1, hs2, hs3⟩ := hSw; first | (go_simp; done) | (go_simp; with_reducible rfl)
  try simp only [Act.put, List.setIfInBounds_toArray, List.set_cons_zero, List.set_cons_succ]
  refine wpAnyP_one 5 rfl (by kernel_rfl) (by rfl) (fun K hK => ?_)
  have HK := Aside0.mk hK
  clear hK
  go_simp
  go_at_call 51
  refine (clone51 A0_2 c0_2 l0_2 _ (Kd.C_below H2.out (by (with_reducible repeat (first | apply pw_below_drewN | apply below_drew1)); exact HB.out)) (by omega)).mono ?_
  rintro e w2' ⟨v2, rfl, ho, hb⟩
  obtain ⟨Av2, cv2, ev2⟩ := Kd.R_slice ho
  subst ev2
  clear hx0 hx1 hx2 hx3 HS
  have BK1 := NBox.mk (blk_below (g := gb) (by (with_reducible repeat (first | refine blk_drewN ?_ _ | refine blk_drew ?_)); exact BK.out) hb)
  clear BK
  have BK := BK1
  clear BK1
  have BA1 := NBox.mk (blk_below (g := ga) (by (with_reducible repeat (first | refine blk_drewN ?_ _ | refine blk_drew ?_)); exact BA.out) hb)
  clear BA
  have BA := BA1
  clear BA1
  replace HV1 := Aside0.mk (Kd.R_below (by (with_reducible repeat (first | apply Kd.R_drewN | apply Kd.R_drew)); exact HV1.out) hb)
  have HV2 := Aside0.mk (Kd.R_lower ho (below_size (by (with_reducible repeat (first | apply pw_below_drewN | apply below_drew1)); exact HB.out)))
  replace HB := Aside0.mk (below_step (by (with_reducible repeat (first | apply pw_below_drewN | apply below_drew1)); exact HB.out) hb)
  clear ho hb
  obtain ⟨hx0, hx1, hx2, hx3⟩ := BK.cells
  have HS := Aside0.mk (And.intro hx1 (And.intro hx2 hx3))
  refine HK.out _ _ (fun _ => HS.out) ?_
  clear HK K
  try simp only [Act.put, List.setIfInBounds_toArray, List.set_cons_zero, List.set_cons_succ]
  refine wpAnyP_one 8 rfl (by kernel_rfl) (by rfl) (fun K hK => ?_)
  have HK := Aside0.mk hK
  clear hK
  go_simp
  go_at_call 52
  refine (clone52 A0_3 c0_3 l0_3 _ (Kd.C_below H3.out (by (with_reducible repeat (first | apply pw_below_drewN | apply below_drew1)); exact HB.out)) (by omega)).mono ?_
  rintro e w3' ⟨v3, rfl, ho, hb⟩
  obtain ⟨Av3, cv3, ev3⟩ := Kd.R_slice ho
  subst ev3
  clear hx0 hx1 hx2 hx3 HS
  have BK1 := NBox.mk (blk_below (g := gb) (by (with_reducible repeat (first | refine blk_drewN ?_ _ | refine blk_drew ?_)); exact BK.out) hb)
  clear BK
  have BK := BK1
  clear BK1
  have BA1 := NBox.mk (blk_below (g := ga) (by (with_reducible repeat (first | refine blk_drewN ?_ _ | refine blk_drew ?_)); exact BA.out) hb)
  clear BA
  have BA := BA1
  clear BA1
  replace HV1 := Aside0.mk (Kd.R_below (by (with_reducible repeat (first | apply Kd.R_drewN | apply Kd.R_drew)); exact HV1.out) hb)
  replace HV2 := Aside0.mk (Kd.R_below (by (with_reducible repeat (first | apply Kd.R_drewN | apply Kd.R_drew)); exact HV2.out) hb)
  have HV3 := Aside0.mk (Kd.R_lower ho (below_size (by (with_reducible repeat (first | apply pw_below_drewN | apply below_drew1)); exact HB.out)))
  replace HB := Aside0.mk (below_step (by (with_reducible repeat (first | apply pw_below_drewN | apply below_drew1)); exact HB.out) hb)
  clear ho hb
  obtain ⟨hx0, hx1, hx2, hx3⟩ := BK.cells
  have HS := Aside0.mk (And.intro hx1 (And.intro hx2 hx3))
  refine HK.out _ _ (fun _ => HS.out) ?_
  clear HK K
  try simp only [Act.put, List.setIfInBounds_toArray, List.set_cons_zero, List.set_cons_succ]
  have hf0 := blk_frozen BK.out 0
  have hf1 := blk_frozen BK.out 1
  have hf2 := blk_frozen BK.out 2
  have hf3 := blk_frozen BK.out 3
  refine wpAnyP_one 10 rfl (by kernel_rfl) (by rfl) (fun K hK => ?_)
  have HK := Aside0.mk hK
  clear hK
  go_simp
  refine HK.out _ _ (fun h_ => absurd h_ (by decide)) ?_
  clear HK K
  try simp only [Act.put, List.setIfInBounds_toArray, List.set_cons_zero, List.set_cons_succ]
  refine wpAnyP_one 11 rfl (by kernel_rfl) (by rfl) (fun K hK => ?_)
  have HK := Aside0.mk hK
  clear hK
  go_simp
  refine HK.out _ _ (fun h_ => absurd h_ (by decide)) ?_
  clear HK K
  try simp only [Act.put, List.setIfInBounds_toArray, List.set_cons_zero, List.set_cons_succ]
  refine wpAnyP_one 12 rfl (by kernel_rfl) (by rfl) (fun K hK => ?_)
  have HK := Aside0.mk hK
  clear hK
  go_simp
  refine HK.out _ _ (fun h_ => absurd h_ (by decide)) ?_
  clear HK K
  try simp only [Act.put, List.setIfInBounds_toArray, List.set_cons_zero, List.set_cons_succ]
  refine wpAnyP_one 13 rfl (by kernel_rfl) (by rfl) (fun K hK => ?_)
  have HK := Aside0.mk hK
  clear hK
  go_simp
  refine HK.out _ _ (fun h_ => absurd h_ (by decide)) ?_
  clear HK K
  try simp only [Act.put, List.setIfInBounds_toArray, List.set_cons_zero, List.set_cons_succ]
  refine wpAnyP_one 14 rfl (by kernel_rfl) (by rfl) (fun K hK => ?_)
  have HK := Aside0.mk hK
  clear hK
  go_simp
  refine HK.out _ _ (fun h_ => absurd h_ (by decide)) ?_
  clear HK K
  try simp only [Act.put, List.setIfInBounds_toArray, List.set_cons_zero, List.set_cons_succ]
  refine wpAnyP_done (by kernel_rfl) ?_ _
  have HW : ∃ w4 : World, w4 = (((w3'.setCell ⟨gb, 1, none⟩ (.slice Av1 l0_1.length cv1)).setCell ⟨gb, 2, none⟩ (.slice Av2 l0_2.length cv2)).setCell ⟨gb, 3, none⟩ (.slice Av3 l0_3.length cv3)) := ⟨_, rfl⟩
  obtain ⟨w4, hw4⟩ := HW
  have BK4 : NBox w4 gb a0_0 Av1 l0_1.length cv1 Av2 l0_2.length cv2 Av3 l0_3.length cv3 := ⟨by
    rw [hw4]
    exact blk_put (cs := #[.bool a0_0, .slice Av1 l0_1.length cv1, .slice Av2 l0_2.length cv2, .slice A0_3 l0_3.length c0_3]) (blk_put (cs := #[.bool a0_0, .slice Av1 l0_1.length cv1, .slice A0_2 l0_2.length c0_2, .slice A0_3 l0_3.length c0_3]) (blk_put BK.out 1 _ rfl) 2 _ rfl) 3 _ rfl⟩
  have BA4 : NBox w4 ga false none 0 0 none 0 0 none 0 0 := ⟨by
    rw [hw4]
    exact blk_far (blk_far (blk_far BA.out (Ne.symm NE.out) _) (Ne.symm NE.out) _) (Ne.symm NE.out) _⟩
  have HB4 : Aside0 (Below w.heap.size w w4) := ⟨by rw [hw4]; exact below_set (below_set (below_set HB.out GE.out) GE.out) GE.out⟩
  have HU1 : Aside0 (Kd.R Kd.string 9 w4 w.heap.size (fun k => True ∧ k ≠ gb) (.slice Av1 l0_1.length cv1) l0_1) := ⟨by
    rw [hw4]; exact Kd.R_far (Kd.R_far (Kd.R_far (Kd.R_types HV1.out BK.out (by decide)) (fun _ h => h.2) _) (fun _ h => h.2) _) (fun _ h => h.2) _⟩
  have HU2 : Aside0 (Kd.R Kd.string 9 w4 w.heap.size (fun k => True ∧ k ≠ gb) (.slice Av2 l0_2.length cv2) l0_2) := ⟨by
    rw [hw4]; exact Kd.R_far (Kd.R_far (Kd.R_far (Kd.R_types HV2.out BK.out (by decide)) (fun _ h => h.2) _) (fun _ h => h.2) _) (fun _ h => h.2) _⟩
  have HU3 : Aside0 (Kd.R (Kd.int .i64) 3 w4 w.heap.size (fun k => True ∧ k ≠ gb) (.slice Av3 l0_3.length cv3) l0_3) := ⟨by
    rw [hw4]; exact Kd.R_far (Kd.R_far (Kd.R_far (Kd.R_types HV3.out BK.out (by decide)) (fun _ h => h.2) _) (fun _ h => h.2) _) (fun _ h => h.2) _⟩
  rw [← hw4]
  clear hw4 BK BA HV1 HV2 HV3 HB HS hx0 hx1 hx2 hx3 hf0 hf1 hf2 hf3
  obtain ⟨hx0, hx1, hx2, hx3⟩ := BK4.cells
  obtain ⟨hy0, hy1, hy2, hy3⟩ := BA4.cells
  have hf0 := blk_frozen BA4.out 0
  have hf1 := blk_frozen BA4.out 1
  have hf2 := blk_frozen BA4.out 2
  have hf3 := blk_frozen BA4.out 3
  go_wp2
  refine bodyPost_ret (results_single rfl (.cell ga 25 #[.bool a0_0, .slice Av1 l0_1.length cv1, .slice Av2 l0_2.length cv2, .slice Av3 l0_3.length cv3] (0, 0) _ rfl BA4.put4.out Try.underlying25 rfl (by kernel_rfl) .nil)) rfl ?_
  exact ⟨_, _, _, rfl, R_toV (R_put4 HU1.out BA4 (by decide)), R_toV (R_put4 HU2.out BA4 (by decide)), R_toV (R_put4 HU3.out BA4 (by decide)), below_put4 HB4.out GA.out⟩

end Go.Proofs.Ytpdlbebiapimoaa.PN
