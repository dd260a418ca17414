/- node.Split: two nodes of one -/
import Derived.Test.YtpdlbebiapimoaaHClone
namespace Go.Proofs.Ytpdlbebiapimoaa.PN
open Go.RowKit Go.Proofs.YtpdlbebiapimoaaW.PrintWords Go.Proofs.YtpdlbebiapimoaaW.PrintLast Go.Proofs.YtpdlbebiapimoaaW.PrintMore
set_option linter.unusedVariables false
set_option linter.unusedSimpArgs false
open Go in
theorem cutHM (t e : TypeId) (z : Value) (by_ : Nat) (ht : Try.prog.underlying t = some (.slice e)) (hi : (Try.prog.info? e).map (fun i => (i.zero, i.size, i.bytes)) = some (some z, 1, by_)) (A : Option Addr) (n c q : Nat) (h : q ≤ c) (W : World) :
  (Instr.slice t (.slice A n c) none (some (.int .i64 q)) (some (.int .i64 q))).run Try.prog W = .ok (.slice A q q) W := by
 obtain ⟨i0, hi0, hzz⟩ := Option.map_eq_some_iff.1 hi
 simp only [Prod.mk.injEq] at hzz
 obtain ⟨hz0, hz1, hz2⟩ := hzz
 have hel : Try.prog.elem t = e := by simp [Program.elem, ht]
 rw [run_slice_hm W t A n c (by rw [hel]; exact ht) .i64 .i64 q q (by omega) (by omega) (by omega), hel]
 cases A <;> simp [sliced, Result.andThen, Addr.add, sizeOf, typeInfo, hi0, hz1]
open Go in
theorem cutL (t e : TypeId) (z : Value) (by_ : Nat) (ht : Try.prog.underlying t = some (.slice e)) (hi : (Try.prog.info? e).map (fun i => (i.zero, i.size, i.bytes)) = some (some z, 1, by_)) (A : Option Addr) (n c q : Nat) (h : q ≤ n) :
  ∃ A', A' = (if c = q then A else A.map (·.add q)) ∧ ∀ W, (Instr.slice t (.slice A n c) (some (.int .i64 q)) none none).run Try.prog W = .ok (.slice A' (n - q) (c - q)) W :=
 ⟨_, rfl, fun W => by
  obtain ⟨i0, hi0, hzz⟩ := Option.map_eq_some_iff.1 hi
  simp only [Prod.mk.injEq] at hzz
  obtain ⟨hz0, hz1, hz2⟩ := hzz
  have hel : Try.prog.elem t = e := by simp [Program.elem, ht]
  rw [run_slice_l W t A n c (by rw [hel]; exact ht) .i64 q (by omega) (by omega), hel]
  simp [sliced, Result.andThen, sizeOf, typeInfo, hi0, hz1]⟩
theorem V_take {α : Type} {d : Kd α} {e : Nat} {W : World} {base q c c' : Nat} {ok : Nat → Prop} {A : Option Addr} {xs : List α} (h : Kd.V d e W base ok (.slice A xs.length c) xs) (hq : q ≤ xs.length) (hc : q ≤ c') : Kd.V d e W base ok (.slice A q c') (xs.take q) := by
 have hl : (xs.take q).length = q := by rw [List.length_take]; omega
 have h2 := Kd.V_mk (e := e) (base := base) (c := c') (by rw [hl]; exact hc) (Kd.F_take (m := q) (Kd.V_F h) hq)
 rw [hl] at h2
 exact h2
theorem V_drop {α : Type} {d : Kd α} {e : Nat} {W : World} {base q c : Nat} {ok : Nat → Prop} {A A' : Option Addr} {xs : List α} (h : Kd.V d e W base ok (.slice A xs.length c) xs) (hs : d.sz = 1) (hq : q ≤ xs.length) (hA : A' = (if c = q then A else A.map (·.add q))) : Kd.V d e W base ok (.slice A' (xs.length - q) (c - q)) (xs.drop q) := by
 have hl : (xs.drop q).length = xs.length - q := List.length_drop
 have hc := (Kd.V_at h).2.1
 have h2 := Kd.V_mk (e := e) (base := base) (c := c - q) (by rw [hl]; omega) (Kd.F_imp (Kd.V_F h) (fun _ hC => Kd.C_drop hC hq hc))
 rw [hl, hs, Nat.mul_one] at h2
 rw [hA]
 exact h2
theorem two_new (w : World) (b : Bool) (A1 : Option Addr) (n1 c1 : Nat) (A2 : Option Addr) (n2 c2 : Nat) (A3 : Option Addr) (n3 c3 : Nat) (b' : Bool) (B1 : Option Addr) (m1 d1 : Nat) (B2 : Option Addr) (m2 d2 : Nat) (B3 : Option Addr) (m3 d3 : Nat) :
  NBox ((w.alloc (Obj.cells #[.bool b, .slice A1 n1 c1, .slice A2 n2 c2, .slice A3 n3 c3] 25)).alloc (Obj.cells #[.bool b', .slice B1 m1 d1, .slice B2 m2 d2, .slice B3 m3 d3] 25)).drew w.heap.size b A1 n1 c1 A2 n2 c2 A3 n3 c3 ∧
  NBox ((w.alloc (Obj.cells #[.bool b, .slice A1 n1 c1, .slice A2 n2 c2, .slice A3 n3 c3] 25)).alloc (Obj.cells #[.bool b', .slice B1 m1 d1, .slice B2 m2 d2, .slice B3 m3 d3] 25)).drew (w.heap.size + 1) b' B1 m1 d1 B2 m2 d2 B3 m3 d3 ∧
  Below w.heap.size w ((w.alloc (Obj.cells #[.bool b, .slice A1 n1 c1, .slice A2 n2 c2, .slice A3 n3 c3] 25)).alloc (Obj.cells #[.bool b', .slice B1 m1 d1, .slice B2 m2 d2, .slice B3 m3 d3] 25)).drew :=
 ⟨⟨blk_drew (blk_alloc (blk_new w _) _)⟩, ⟨blk_drew (by have := blk_new (w.alloc (Obj.cells #[.bool b, .slice A1 n1 c1, .slice A2 n2 c2, .slice A3 n3 c3] 25)) (Obj.cells #[.bool b', .slice B1 m1 d1, .slice B2 m2 d2, .slice B3 m3 d3] 25); simpa using this)⟩, below_drew1 (below_alloc (below_alloc (Below.refl _ _) _) _)⟩
set_option maxHeartbeats 4000000 in
set_option maxRecDepth 100000 in
theorem node_Split.calls (a0_0 : Bool) (A0_1 : Option Addr) (c0_1 : Nat) (l0_1 : List ByteArray) (A0_2 : Option Addr) (c0_2 : Nat) (l0_2 : List ByteArray) (A0_3 : Option Addr) (c0_3 : Nat) (l0_3 : List Int) (r1 : Bool) (r2 : List ByteArray) (r3 : List ByteArray) (r4 : List Int) (r5 : ByteArray) (r6 : Bool) (r7 : List ByteArray) (r8 : List ByteArray) (r9 : List Int) (w : World) (hr0_1 : Kd.C Kd.string w A0_1 l0_1.length l0_1) (hc0_1 : l0_1.length ≤ c0_1) (hr0_2 : Kd.C Kd.string w A0_2 l0_2.length l0_2) (hc0_2 : l0_2.length ≤ c0_2) (hr0_3 : Kd.C (Kd.int .i64) w A0_3 l0_3.length l0_3) (hc0_3 : l0_3.length ≤ c0_3) (h : node_Split.f a0_0 l0_1 l0_2 l0_3 = some (r1, r2, r3, r4, r5, r6, r7, r8, r9)) :
  Calls Try.prog 27 #[.agg #[.bool a0_0, .slice A0_1 l0_1.length c0_1, .slice A0_2 l0_2.length c0_2, .slice A0_3 l0_3.length c0_3]] w fun e w' => ∃ v1_ v2_ v3_ v6_ v7_ v8_ : Value, e = .returned (.tuple #[.agg #[.bool r1, v1_, v2_, v3_], .string r5, .agg #[.bool r6, v6_, v7_, v8_]]) ∧ Kd.V Kd.string 9 w' w.heap.size (fun k_ => (w.heap.size ≤ k_)) v1_ r2 ∧ Kd.V Kd.string 9 w' w.heap.size (fun k_ => (w.heap.size ≤ k_)) v2_ r3 ∧ Kd.V (Kd.int .i64) 3 w' w.heap.size (fun k_ => (w.heap.size ≤ k_)) v3_ r4 ∧ Kd.V Kd.string 9 w' w.heap.size (fun k_ => (w.heap.size ≤ k_)) v6_ r7 ∧ Kd.V Kd.string 9 w' w.heap.size (fun k_ => (w.heap.size ≤ k_)) v7_ r8 ∧ Kd.V (Kd.int .i64) 3 w' w.heap.size (fun k_ => (w.heap.size ≤ k_)) v8_ r9 ∧ Below w.heap.size w w' := by
 unfold node_Split.f at h
 split at h
 case isFalse => cases h
 rename_i hsz
 obtain ⟨hl1, hl2, hl3⟩ := hsz
 have H := Aside0.mk h
 clear h
 have H1 := Aside0.mk hr0_1
 have H2 := Aside0.mk hr0_2
 have H3 := Aside0.mk hr0_3
 clear hr0_1 hr0_2 hr0_3
 have hu25 := Try.underlying25
 go_enter Try.func27, Try.ntmps27
 go_wp2_with (first | ((with_reducible refine gate_dst (N := 1) rfl ?_); refine box_event ?hg (N := 1) ?hd (cs := #[.bool a0_0, .slice A0_1 l0_1.length c0_1, .slice A0_2 l0_2.length c0_2, .slice A0_3 l0_3.length c0_3]) (t := 25) ?hr ?_; (case hd => rfl); (case hg => rfl); (case hr => first | (go_simp; done) | (go_simp; rfl)); intro gb hg w2 hbox hb; have HB := Aside0.mk hb; have BK := NBox.mk hbox; have GE := Aside0.mk (Nat.le_of_eq hg.symm); clear hg hbox hb) | ((with_reducible refine gate_dst (N := 2) rfl ?_); refine box_event ?hg (N := 2) ?hd (cs := #[.bool false, .slice none 0 0, .slice none 0 0, .slice none 0 0]) (t := 25) ?hr ?_; (case hd => rfl); (case hg => rfl); (case hr => first | (go_simp; done) | (go_simp; rfl)); intro ga hga w3 hbox hb; have NE := Aside0.mk (show gb ≠ ga by have := blk_lt BK.out; omega); replace BK := BK.below hb; have GA := Aside0.mk (Nat.le_trans (below_size HB.out) (Nat.le_of_eq hga.symm)); replace HB := Aside0.mk (below_step HB.out hb); have BA := NBox.mk hbox; clear hga hbox hb) | ((with_reducible refine gate_dst (N := 4) rfl ?_); refine box_event ?hg (N := 4) ?hd (cs := #[.bool false, .slice none 0 0, .slice none 0 0, .slice none 0 0]) (t := 25) ?hr ?_; (case hd => rfl); (case hg => rfl); (case hr => first | (go_simp; done) | (go_simp; rfl)); intro gc hgc w4 hbox hb; have NE2 := Aside0.mk (show gb ≠ gc ∧ ga ≠ gc by have := blk_lt BK.out; have := blk_lt BA.out; omega); replace BK := BK.below hb; replace BA := BA.below hb; have GC := Aside0.mk (Nat.le_trans (below_size HB.out) (Nat.le_of_eq hgc.symm)); replace HB := Aside0.mk (below_step HB.out hb); have BC := NBox.mk hbox; clear hgc hbox hb; obtain ⟨hx0, hx1, hx2, hx3⟩ := BK.cells))
 refine (node_cloned.calls a0_0 A0_1 c0_1 l0_1 A0_2 c0_2 l0_2 A0_3 c0_3 l0_3 a0_0 l0_1 l0_2 l0_3 w4 (Kd.C_below H1.out HB.out) hc0_1 (Kd.C_below H2.out HB.out) hc0_2 (Kd.C_below H3.out HB.out) hc0_3 (by unfold node_cloned.f; rw [if_pos ⟨hl1, hl2, hl3⟩])).mono ?_
 rintro e w5 ⟨v1, v2, v3, rfl, ho1, ho2, ho3, hb⟩
 obtain ⟨B1, d1, e1⟩ := Kd.V_slice ho1
 obtain ⟨B2, d2, e2⟩ := Kd.V_slice ho2
 obtain ⟨B3, d3, e3⟩ := Kd.V_slice ho3
 subst e1 e2 e3
 have hd1 : l0_1.length ≤ d1 := (Kd.V_at ho1).2.1
 have hd2 : l0_2.length ≤ d2 := (Kd.V_at ho2).2.1
 have hd3 : l0_3.length ≤ d3 := (Kd.V_at ho3).2.1
 -- all that is new lies behind the three boxes
 have NW : Aside0 (w.heap.size ≤ w4.heap.size ∧ gb < w4.heap.size ∧ ga < w4.heap.size ∧ gc < w4.heap.size) := ⟨below_size HB.out, blk_lt BK.out, blk_lt BA.out, blk_lt BC.out⟩
 have HV1 := Aside0.mk (Kd.V_bound ho1)
 have HV2 := Aside0.mk (Kd.V_bound ho2)
 have HV3 := Aside0.mk (Kd.V_bound ho3)
 replace BK := BK.below hb
 replace BA := BA.below hb
 replace BC := BC.below hb
 replace HB := Aside0.mk (below_step HB.out hb)
 clear ho1 ho2 ho3 hb hx0 hx1 hx2 hx3
 obtain ⟨hx0, hx1, hx2, hx3⟩ := BK.cells
 have hf0 := blk_frozen BK.out 0
 have hf1 := blk_frozen BK.out 1
 have hf2 := blk_frozen BK.out 2
 have hf3 := blk_frozen BK.out 3
 go_upto_region 2 with (fail)
 have HW : ∃ w6 : World, w6 = ((((w5.setCell ⟨gb, 0, none⟩ (.bool a0_0)).setCell ⟨gb, 1, none⟩ (.slice B1 l0_1.length d1)).setCell ⟨gb, 2, none⟩ (.slice B2 l0_2.length d2)).setCell ⟨gb, 3, none⟩ (.slice B3 l0_3.length d3)) := ⟨_, rfl⟩
 obtain ⟨w6, hw6⟩ := HW
 have hsz : w6.heap.size = w5.heap.size := by rw [hw6]; simp
 have BK6 : NBox w6 gb a0_0 B1 l0_1.length d1 B2 l0_2.length d2 B3 l0_3.length d3 := by rw [hw6]; exact BK.put4
 have BA6 : NBox w6 ga false none 0 0 none 0 0 none 0 0 := by rw [hw6]; exact BA.far4 (Ne.symm NE.out)
 have BC6 : NBox w6 gc false none 0 0 none 0 0 none 0 0 := by rw [hw6]; exact BC.far4 (Ne.symm NE2.out.1)
 have HB6 : Aside0 (Below w.heap.size w w6) := ⟨by rw [hw6]; exact below_put4 HB.out GE.out⟩
 have HU1 : Aside0 (Kd.V Kd.string 9 w6 w.heap.size (fun k => w4.heap.size ≤ k ∧ k < w6.heap.size) (.slice B1 l0_1.length d1) l0_1) := ⟨by
  rw [hsz, hw6]; exact V_put4 HV1.out (fun k hk => by have := NW.out; omega)⟩
 have HU2 : Aside0 (Kd.V Kd.string 9 w6 w.heap.size (fun k => w4.heap.size ≤ k ∧ k < w6.heap.size) (.slice B2 l0_2.length d2) l0_2) := ⟨by
  rw [hsz, hw6]; exact V_put4 HV2.out (fun k hk => by have := NW.out; omega)⟩
 have HU3 : Aside0 (Kd.V (Kd.int .i64) 3 w6 w.heap.size (fun k => w4.heap.size ≤ k ∧ k < w6.heap.size) (.slice B3 l0_3.length d3) l0_3) := ⟨by
  rw [hsz, hw6]; exact V_put4 HV3.out (fun k hk => by have := NW.out; omega)⟩
 rw [← hw6]
 clear hw6 hsz BK BA BC HB HV1 HV2 HV3 hx0 hx1 hx2 hx3 hf0 hf1 hf2 hf3
 obtain ⟨hx0, hx1, hx2, hx3⟩ := BK6.cells
 by_cases hlt : l0_1.length < 2
 ·have HT := H.out
  rw [if_pos hlt] at HT
  simp only [Option.some.injEq, Prod.mk.injEq] at HT
  obtain ⟨rfl, rfl, rfl, rfl, rfl, rfl, rfl, rfl, rfl⟩ := HT
  have hd0 : decide ((l0_1.length : Int) < 2) = true := by simp; omega
  obtain ⟨hy0, hy1, hy2, hy3⟩ := BA6.cells
  obtain ⟨hz0, hz1, hz2, hz3⟩ := BC6.cells
  have hf0 := blk_frozen BA6.out 0
  have hf1 := blk_frozen BA6.out 1
  have hf2 := blk_frozen BA6.out 2
  have hf3 := blk_frozen BA6.out 3
  have hg0 := blk_frozen BC6.out 0
  have hg1 := blk_frozen BC6.out 1
  have hg2 := blk_frozen BC6.out 2
  have hg3 := blk_frozen BC6.out 3
  clear H
  have hne1 : ga ≠ gc := NE2.out.2
  have hne2 : gc ≠ ga := Ne.symm hne1
  go_upto_region 3 with (fail)
  go_wp2
  refine bodyPost_ret (results_list (rs := [.cell 2 25, .tmp 3, .cell 4 25]) rfl (by simp) (.cell ga 25 #[.bool a0_0, .slice B1 l0_1.length d1, .slice B2 l0_2.length d2, .slice B3 l0_3.length d3] (0, 0) _ rfl (NBox.far4 (NBox.put4 BA6) hne1).out Try.underlying25 rfl (by kernel_rfl) (.tmp (.cell gc 25 #[.bool true, .slice none 0 0, .slice none 0 0, .slice none 0 0] (0, 0) _ rfl (NBox.put4 (NBox.far4 BC6 hne2)).out Try.underlying25 rfl (by kernel_rfl) .nil)))) rfl ?_
  have ka : ∀ k, (w4.heap.size ≤ k ∧ k < w6.heap.size) → k ≠ ga := fun k hk => by have := NW.out; omega
  have kc : ∀ k, (w4.heap.size ≤ k ∧ k < w6.heap.size) → k ≠ gc := fun k hk => by have := NW.out; omega
  have kw : ∀ k, (w4.heap.size ≤ k ∧ k < w6.heap.size) → w.heap.size ≤ k := fun k hk => by have := NW.out; omega
  exact ⟨_, _, _, _, _, _, rfl, Kd.V_mono (V_put4 (V_put4 HU1.out ka) kc) kw, Kd.V_mono (V_put4 (V_put4 HU2.out ka) kc) kw, Kd.V_mono (V_put4 (V_put4 HU3.out ka) kc) kw, Kd.V_nil _ _ _ _ _, Kd.V_nil _ _ _ _ _, Kd.V_nil _ _ _ _ _, below_put4 (below_put4 HB6.out GA.out) GC.out⟩
 ·have HT := H.out
  rw [if_neg hlt] at HT
  clear H
  have H := Aside0.mk HT
  clear HT
  have hd0 : decide ((l0_1.length : Int) < 2) = false := by simp; omega
  have hq : (l0_1.length : Int).tdiv 2 = ((l0_1.length / 2 : Nat) : Int) := by rw [Int.tdiv_eq_ediv_of_nonneg (by omega)]; omega
  obtain ⟨q, hqd⟩ : ∃ q, q = l0_1.length / 2 := ⟨_, rfl⟩
  rw [← hqd] at hq H
  have hqn : 1 ≤ q ∧ q + 1 ≤ l0_1.length := by omega
  have hq2 : (l0_1.length : Int) / 2 = (q : Int) := by omega
  clear hqd hq
  have cut1 := fun W => cutHM 22 9 _ 16 Try.underlying22 info9 B1 l0_1.length d1 q (by omega) W
  have eg : w6.heap.size ≠ gb := World.new_ne w6 ⟨gb, 0, none⟩ hx0
  go_upto_region 5 with (fail)
  go_cut [6, 7] (fun v6 v7 wc => ∃ g6 g7 : Nat, v6 = .pointer (some ⟨g6, 0, none⟩) ∧ v7 = .pointer (some ⟨g7, 0, none⟩) ∧ Aside0 (g6 ≠ g7 ∧ w6.heap.size ≤ g6 ∧ w6.heap.size ≤ g7) ∧ NBox wc g6 a0_0 B1 q q none 0 0 none 0 0 ∧ NBox wc g7 a0_0 none 0 0 none 0 0 none 0 0 ∧ Aside0 (Below w6.heap.size w6 wc))
  case first =>
   go_region_held3 (fun w' => w'.cell? ⟨gb, 0, none⟩ = some (.bool a0_0) ∧ w'.cell? ⟨gb, 1, none⟩ = some (.slice B1 l0_1.length d1)) (go_keep) (fail)
   all_goals go_wp2_with fail
   all_goals go_meet
   ·exact ⟨_, _, rfl, rfl, ⟨by omega, by omega, by omega⟩, (two_new w6 a0_0 B1 q q none 0 0 none 0 0 a0_0 none 0 0 none 0 0 none 0 0).1, (two_new w6 a0_0 B1 q q none 0 0 none 0 0 a0_0 none 0 0 none 0 0 none 0 0).2.1, ⟨(two_new w6 a0_0 B1 q q none 0 0 none 0 0 a0_0 none 0 0 none 0 0 none 0 0).2.2⟩⟩
   ·exact ⟨_, _, rfl, rfl, ⟨by omega, by omega, by omega⟩, (two_new w6 a0_0 none 0 0 none 0 0 none 0 0 a0_0 B1 q q none 0 0 none 0 0).2.1, (two_new w6 a0_0 none 0 0 none 0 0 none 0 0 a0_0 B1 q q none 0 0 none 0 0).1, ⟨(two_new w6 a0_0 none 0 0 none 0 0 none 0 0 a0_0 B1 q q none 0 0 none 0 0).2.2⟩⟩
  case rest =>
   obtain ⟨g6, g7, rfl, rfl, N67, B6, B7, hb⟩ := hcut
   have NB := Aside0.mk (And.intro (blk_lt BK6.out) (And.intro (blk_lt BA6.out) (blk_lt BC6.out)))
   replace BK6 := BK6.below hb.out
   replace BA6 := BA6.below hb.out
   replace BC6 := BC6.below hb.out
   have HW1 := Aside0.mk (Kd.V_below HU1.out hb.out)
   have HW2 := Aside0.mk (Kd.V_below HU2.out hb.out)
   have HW3 := Aside0.mk (Kd.V_below HU3.out hb.out)
   have HBc := Aside0.mk (below_step HB6.out hb.out)
   have k6 : Aside0 (∀ k, (w4.heap.size ≤ k ∧ k < w6.heap.size) → k ≠ g6) := ⟨fun k hk => by have := N67.out; omega⟩
   have k7 : Aside0 (∀ k, (w4.heap.size ≤ k ∧ k < w6.heap.size) → k ≠ g7) := ⟨fun k hk => by have := N67.out; omega⟩
   have ka : Aside0 (∀ k, (w4.heap.size ≤ k ∧ k < w6.heap.size) → k ≠ ga) := ⟨fun k hk => by have := NW.out; omega⟩
   have kc : Aside0 (∀ k, (w4.heap.size ≤ k ∧ k < w6.heap.size) → k ≠ gc) := ⟨fun k hk => by have := NW.out; omega⟩
   have kw : Aside0 (∀ k, (w4.heap.size ≤ k ∧ k < w6.heap.size) → w.heap.size ≤ k) := ⟨fun k hk => by have := NW.out; omega⟩
   have NE6 : Aside0 (g6 ≠ g7 ∧ gb ≠ g6 ∧ gb ≠ g7 ∧ ga ≠ g6 ∧ ga ≠ g7 ∧ gc ≠ g6 ∧ gc ≠ g7 ∧ w.heap.size ≤ g6 ∧ w.heap.size ≤ g7) := ⟨by have := N67.out; have := NB.out; have := GE.out; omega⟩
   clear HU1 HU2 HU3 HB6 hb hx0 hx1 hx2 hx3 eg cut1
   obtain ⟨hx0, hx1, hx2, hx3⟩ := BK6.cells
   cases a0_0 with
   | true =>
    have HT := H.out
    rw [if_pos rfl] at HT
    split at HT
    case isFalse => cases HT
    rename_i hl21
    simp only [Option.some.injEq, Prod.mk.injEq] at HT
    obtain ⟨rfl, rfl, rfl, rfl, rfl, rfl, rfl, rfl, rfl⟩ := HT
    clear H
    have cutA := fun W => cutHM 22 9 _ 16 Try.underlying22 info9 B2 l0_2.length d2 q (by omega) W
    obtain ⟨C1, eC1, cutB⟩ := cutL 22 9 _ 16 Try.underlying22 info9 B1 l0_1.length d1 q (by omega)
    obtain ⟨C2, eC2, cutC⟩ := cutL 22 9 _ 16 Try.underlying22 info9 B2 l0_2.length d2 q (by omega)
    have EC1 := Aside0.mk eC1
    have EC2 := Aside0.mk eC2
    have HL21 := Aside0.mk hl21
    clear eC1 eC2 hl21
    have e6 : gb ≠ g6 := NE6.out.2.1
    have e7 : gb ≠ g7 := NE6.out.2.2.1
    have e67 : g6 ≠ g7 := NE6.out.1
    have e6' := Ne.symm e6
    have e7' := Ne.symm e7
    have e67' := Ne.symm e67
    have hf0 := blk_frozen B6.out 2
    have hf1 := blk_frozen B7.out 1
    have hf2 := blk_frozen B7.out 2
    obtain ⟨hp0, hp1, hp2, hp3⟩ := B6.cells
    obtain ⟨hq0, hq1, hq2', hq3⟩ := B7.cells
    go_upto_region 7 with (fail)
    go_region_held3 (fun w' => w'.cell? ⟨gb, 1, none⟩ = some (.slice B1 l0_1.length d1) ∧ w'.cell? ⟨gb, 2, none⟩ = some (.slice B2 l0_2.length d2)) (go_keep) (fail)
    have HW8 : ∃ w8 : World, w8 = (((wc.setCell ⟨g6, 2, none⟩ (.slice B2 q q)).setCell ⟨g7, 1, none⟩ (.slice C1 (l0_1.length - q) (d1 - q))).setCell ⟨g7, 2, none⟩ (.slice C2 (l0_2.length - q) (d2 - q))).drew := ⟨_, rfl⟩
    obtain ⟨w8, hw8⟩ := HW8
    have B68 : NBox w8 g6 true B1 q q B2 q q none 0 0 := ⟨by
     rw [hw8]
     exact blk_drew (blk_far (blk_far (blk_put (cs := #[.bool true, .slice B1 q q, .slice none 0 0, .slice none 0 0]) B6.out 2 _ rfl) e67 _) e67 _)⟩
    have B78 : NBox w8 g7 true C1 (l0_1.length - q) (d1 - q) C2 (l0_2.length - q) (d2 - q) none 0 0 := ⟨by
     rw [hw8]
     exact blk_drew (blk_put (cs := #[.bool true, .slice C1 (l0_1.length - q) (d1 - q), .slice none 0 0, .slice none 0 0]) (blk_put (cs := #[.bool true, .slice none 0 0, .slice none 0 0, .slice none 0 0]) (blk_far B7.out e67' _) 1 _ rfl) 2 _ rfl)⟩
    have BK8 : NBox w8 gb true B1 l0_1.length d1 B2 l0_2.length d2 B3 l0_3.length d3 := ⟨by
     rw [hw8]
     exact blk_drew (blk_far (blk_far (blk_far BK6.out e6 _) e7 _) e7 _)⟩
    have BA8 : NBox w8 ga false none 0 0 none 0 0 none 0 0 := ⟨by
     rw [hw8]
     exact blk_drew (blk_far (blk_far (blk_far BA6.out NE6.out.2.2.2.1 _) NE6.out.2.2.2.2.1 _) NE6.out.2.2.2.2.1 _)⟩
    have BC8 : NBox w8 gc false none 0 0 none 0 0 none 0 0 := ⟨by
     rw [hw8]
     exact blk_drew (blk_far (blk_far (blk_far BC6.out NE6.out.2.2.2.2.2.1 _) NE6.out.2.2.2.2.2.2.1 _) NE6.out.2.2.2.2.2.2.1 _)⟩
    have HB8 : Aside0 (Below w.heap.size w w8) := ⟨by
     rw [hw8]
     exact below_drew1 (below_set (below_set (below_set HBc.out NE6.out.2.2.2.2.2.2.2.1) NE6.out.2.2.2.2.2.2.2.2) NE6.out.2.2.2.2.2.2.2.2)⟩
    have HX1 : Aside0 (Kd.V Kd.string 9 w8 w.heap.size (fun k => w4.heap.size ≤ k ∧ k < w6.heap.size) (.slice B1 l0_1.length d1) l0_1) := ⟨by
     rw [hw8]
     exact Kd.V_drew (Kd.V_far (Kd.V_far (Kd.V_far HW1.out k6.out _) k7.out _) k7.out _)⟩
    have HX2 : Aside0 (Kd.V Kd.string 9 w8 w.heap.size (fun k => w4.heap.size ≤ k ∧ k < w6.heap.size) (.slice B2 l0_2.length d2) l0_2) := ⟨by
     rw [hw8]
     exact Kd.V_drew (Kd.V_far (Kd.V_far (Kd.V_far HW2.out k6.out _) k7.out _) k7.out _)⟩
    rw [← hw8]
    clear hw8 BK6 BA6 BC6 B6 B7 HBc HW1 HW2 HW3 hx0 hx1 hx2 hx3 hp0 hp1 hp2 hp3 hq0 hq1 hq2' hq3 hf0 hf1 hf2 cutA cutB cutC
    obtain ⟨ad, s, hA, hs, hxc⟩ := str_at (Kd.V_reads' HX1.out).2.2 q (by omega)
    have hin := Kd.F_in (Kd.V_F HX1.out) hA (by omega) (by decide)
    have en1 : ga ≠ ad.block := Ne.symm (ka.out _ hin)
    have en2 : gc ≠ ad.block := Ne.symm (kc.out _ hin)
    clear hin
    subst hA
    have en1' : ga ≠ (ad.add q).block := by unfold Addr.add; split <;> exact en1
    have en2' : gc ≠ (ad.add q).block := by unfold Addr.add; split <;> exact en2
    obtain ⟨hx0, hx1, hx2, hx3⟩ := BK8.cells
    obtain ⟨hp0, hp1, hp2, hp3⟩ := B68.cells
    obtain ⟨hq0, hq1, hq2', hq3⟩ := B78.cells
    obtain ⟨ha0, ha1, ha2, ha3⟩ := BA8.cells
    obtain ⟨hc0, hc1, hc2, hc3⟩ := BC8.cells
    have hf0 := blk_frozen BA8.out 0
    have hf1 := blk_frozen BA8.out 1
    have hf2 := blk_frozen BA8.out 2
    have hf3 := blk_frozen BA8.out 3
    have hg0 := blk_frozen BC8.out 0
    have hg1 := blk_frozen BC8.out 1
    have hg2 := blk_frozen BC8.out 2
    have hg3 := blk_frozen BC8.out 3
    have eab : ga ≠ gb := Ne.symm NE.out
    have ecb : gc ≠ gb := Ne.symm NE2.out.1
    have eac : ga ≠ gc := NE2.out.2
    have eca : gc ≠ ga := Ne.symm eac
    have ea6 : ga ≠ g6 := NE6.out.2.2.2.1
    have ea7 : ga ≠ g7 := NE6.out.2.2.2.2.1
    have ec6 : gc ≠ g6 := NE6.out.2.2.2.2.2.1
    have ec7 : gc ≠ g7 := NE6.out.2.2.2.2.2.2.1
    have hi0 : (0 : Int) ≤ (q : Int) := by omega
    have hi1 : (q : Int) < (l0_1.length : Int) := by omega
    go_upto_region 8 with (fail)
    go_region_held3 (fun w' => w'.cell? ⟨g6, 0, none⟩ = some (.bool true) ∧ w'.cell? ⟨g6, 1, none⟩ = some (.slice (some ad) q q) ∧ w'.cell? ⟨g6, 2, none⟩ = some (.slice B2 q q) ∧ w'.cell? ⟨g6, 3, none⟩ = some (.slice none 0 0) ∧
     w'.cell? ⟨g7, 0, none⟩ = some (.bool true) ∧ w'.cell? ⟨g7, 1, none⟩ = some (.slice C1 (l0_1.length - q) (d1 - q)) ∧ w'.cell? ⟨g7, 2, none⟩ = some (.slice C2 (l0_2.length - q) (d2 - q)) ∧ w'.cell? ⟨g7, 3, none⟩ = some (.slice none 0 0) ∧
     w'.cell? ⟨gb, 1, none⟩ = some (.slice (some ad) l0_1.length d1) ∧ w'.cell? (ad.add q) = some (.string s)) (go_keep) (fail)
    go_wp2
    refine bodyPost_ret (results_list (rs := [.cell 2 25, .tmp 3, .cell 4 25]) rfl (by simp) (.cell ga 25 #[.bool true, .slice (some ad) q q, .slice B2 q q, .slice none 0 0] (0, 0) _ rfl (blk_drew (NBox.far4 (NBox.put4 BA8) eac).out) Try.underlying25 rfl (by kernel_rfl) (.tmp (.cell gc 25 #[.bool true, .slice C1 (l0_1.length - q) (d1 - q), .slice C2 (l0_2.length - q) (d2 - q), .slice none 0 0] (0, 0) _ rfl (blk_drew (NBox.put4 (NBox.far4 BC8 eca)).out) Try.underlying25 rfl (by kernel_rfl) .nil)))) rfl ?_
    have hgs : l0_1.getD q ⟨#[]⟩ = s := by rw [List.getD_eq_getElem?_getD, hs.out]; rfl
    rw [hgs]
    have P1 := V_take (q := q) (c' := q) HX1.out (by omega) (Nat.le_refl _)
    have P2 := V_take (q := q) (c' := q) HX2.out (by have := HL21.out; omega) (Nat.le_refl _)
    have P3 := V_drop HX1.out rfl (by omega) EC1.out
    have P4 := V_drop HX2.out rfl (by have := HL21.out; omega) EC2.out
    exact ⟨_, _, _, _, _, _, rfl, Kd.V_drew (Kd.V_mono (V_put4 (V_put4 P1 ka.out) kc.out) kw.out), Kd.V_drew (Kd.V_mono (V_put4 (V_put4 P2 ka.out) kc.out) kw.out), Kd.V_nil _ _ _ _ _, Kd.V_drew (Kd.V_mono (V_put4 (V_put4 P3 ka.out) kc.out) kw.out), Kd.V_drew (Kd.V_mono (V_put4 (V_put4 P4 ka.out) kc.out) kw.out), Kd.V_nil _ _ _ _ _, below_drew1 (below_put4 (below_put4 HB8.out GA.out) GC.out)⟩
   | false =>
    obtain ⟨p, hp⟩ : ∃ p, p = q + 1 := ⟨_, rfl⟩
    have HP := Aside0.mk hp
    have HT := H.out
    rw [← hp] at HT
    have hp1 : p ≤ l0_1.length := by omega
    rw [if_neg (by simp)] at HT
    split at HT
    case isFalse => cases HT
    rename_i hl31
    simp only [Option.some.injEq, Prod.mk.injEq] at HT
    obtain ⟨rfl, rfl, rfl, rfl, rfl, rfl, rfl, rfl, rfl⟩ := HT
    clear H hp
    have hpd : p ≤ d1 := by omega
    have cutA := fun W => cutHM 23 3 _ 8 Try.underlying23 info3 B3 l0_3.length d3 p (by have := hl31; omega) W
    obtain ⟨C1, eC1, cutB⟩ := cutL 22 9 _ 16 Try.underlying22 info9 B1 l0_1.length d1 p (by omega)
    obtain ⟨C2, eC2, cutC⟩ := cutL 23 3 _ 8 Try.underlying23 info3 B3 l0_3.length d3 p (by have := hl31; omega)
    have EC1 := Aside0.mk eC1
    have EC2 := Aside0.mk eC2
    have HL31 := Aside0.mk hl31
    clear eC1 eC2 hl31
    have e6 : gb ≠ g6 := NE6.out.2.1
    have e7 : gb ≠ g7 := NE6.out.2.2.1
    have e67 : g6 ≠ g7 := NE6.out.1
    have e6' := Ne.symm e6
    have e7' := Ne.symm e7
    have e67' := Ne.symm e67
    have hf0 := blk_frozen B6.out 3
    have hw1 : IntKind.i64.wrap ((q : Int) + 1) = (p : Int) := by have := HP.out; rw [i64_w]; unfold Go.RowKit.wrap64; omega
    have hf1 := blk_frozen B7.out 1
    have hf2 := blk_frozen B7.out 3
    obtain ⟨hp0, hp1, hp2, hp3⟩ := B6.cells
    obtain ⟨hq0, hq1, hq2', hq3⟩ := B7.cells
    go_upto_region 9 with (fail)
    go_region_held3 (fun w' => w'.cell? ⟨gb, 1, none⟩ = some (.slice B1 l0_1.length d1) ∧ w'.cell? ⟨gb, 3, none⟩ = some (.slice B3 l0_3.length d3)) (go_keep) (fail)
    have HW8 : ∃ w8 : World, w8 = (((wc.setCell ⟨g6, 3, none⟩ (.slice B3 p p)).setCell ⟨g7, 1, none⟩ (.slice C1 (l0_1.length - p) (d1 - p))).setCell ⟨g7, 3, none⟩ (.slice C2 (l0_3.length - p) (d3 - p))).drew := ⟨_, rfl⟩
    obtain ⟨w8, hw8⟩ := HW8
    have B68 : NBox w8 g6 false B1 q q none 0 0 B3 p p := ⟨by
     rw [hw8]
     exact blk_drew (blk_far (blk_far (blk_put (cs := #[.bool false, .slice B1 q q, .slice none 0 0, .slice none 0 0]) B6.out 3 _ rfl) e67 _) e67 _)⟩
    have B78 : NBox w8 g7 false C1 (l0_1.length - p) (d1 - p) none 0 0 C2 (l0_3.length - p) (d3 - p) := ⟨by
     rw [hw8]
     exact blk_drew (blk_put (cs := #[.bool false, .slice C1 (l0_1.length - p) (d1 - p), .slice none 0 0, .slice none 0 0]) (blk_put (cs := #[.bool false, .slice none 0 0, .slice none 0 0, .slice none 0 0]) (blk_far B7.out e67' _) 1 _ rfl) 3 _ rfl)⟩
    have BK8 : NBox w8 gb false B1 l0_1.length d1 B2 l0_2.length d2 B3 l0_3.length d3 := ⟨by
     rw [hw8]
     exact blk_drew (blk_far (blk_far (blk_far BK6.out e6 _) e7 _) e7 _)⟩
    have BA8 : NBox w8 ga false none 0 0 none 0 0 none 0 0 := ⟨by
     rw [hw8]
     exact blk_drew (blk_far (blk_far (blk_far BA6.out NE6.out.2.2.2.1 _) NE6.out.2.2.2.2.1 _) NE6.out.2.2.2.2.1 _)⟩
    have BC8 : NBox w8 gc false none 0 0 none 0 0 none 0 0 := ⟨by
     rw [hw8]
     exact blk_drew (blk_far (blk_far (blk_far BC6.out NE6.out.2.2.2.2.2.1 _) NE6.out.2.2.2.2.2.2.1 _) NE6.out.2.2.2.2.2.2.1 _)⟩
    have HB8 : Aside0 (Below w.heap.size w w8) := ⟨by
     rw [hw8]
     exact below_drew1 (below_set (below_set (below_set HBc.out NE6.out.2.2.2.2.2.2.2.1) NE6.out.2.2.2.2.2.2.2.2) NE6.out.2.2.2.2.2.2.2.2)⟩
    have HX1 : Aside0 (Kd.V Kd.string 9 w8 w.heap.size (fun k => w4.heap.size ≤ k ∧ k < w6.heap.size) (.slice B1 l0_1.length d1) l0_1) := ⟨by
     rw [hw8]
     exact Kd.V_drew (Kd.V_far (Kd.V_far (Kd.V_far HW1.out k6.out _) k7.out _) k7.out _)⟩
    have HX2 : Aside0 (Kd.V (Kd.int .i64) 3 w8 w.heap.size (fun k => w4.heap.size ≤ k ∧ k < w6.heap.size) (.slice B3 l0_3.length d3) l0_3) := ⟨by
     rw [hw8]
     exact Kd.V_drew (Kd.V_far (Kd.V_far (Kd.V_far HW3.out k6.out _) k7.out _) k7.out _)⟩
    rw [← hw8]
    clear hw8 BK6 BA6 BC6 B6 B7 HBc HW1 HW2 HW3 hx0 hx1 hx2 hx3 hp0 hp1 hp2 hp3 hq0 hq1 hq2' hq3 hf0 hf1 hf2 cutA cutB cutC
    obtain ⟨ad, s, hA, hs, hxc⟩ := str_at (Kd.V_reads' HX1.out).2.2 q (by omega)
    have hin := Kd.F_in (Kd.V_F HX1.out) hA (by omega) (by decide)
    have en1 : ga ≠ ad.block := Ne.symm (ka.out _ hin)
    have en2 : gc ≠ ad.block := Ne.symm (kc.out _ hin)
    clear hin
    subst hA
    have en1' : ga ≠ (ad.add q).block := by unfold Addr.add; split <;> exact en1
    have en2' : gc ≠ (ad.add q).block := by unfold Addr.add; split <;> exact en2
    obtain ⟨hx0, hx1, hx2, hx3⟩ := BK8.cells
    obtain ⟨hp0, hp1, hp2, hp3⟩ := B68.cells
    obtain ⟨hq0, hq1, hq2', hq3⟩ := B78.cells
    obtain ⟨ha0, ha1, ha2, ha3⟩ := BA8.cells
    obtain ⟨hc0, hc1, hc2, hc3⟩ := BC8.cells
    have hf0 := blk_frozen BA8.out 0
    have hf1 := blk_frozen BA8.out 1
    have hf2 := blk_frozen BA8.out 2
    have hf3 := blk_frozen BA8.out 3
    have hg0 := blk_frozen BC8.out 0
    have hg1 := blk_frozen BC8.out 1
    have hg2 := blk_frozen BC8.out 2
    have hg3 := blk_frozen BC8.out 3
    have eab : ga ≠ gb := Ne.symm NE.out
    have ecb : gc ≠ gb := Ne.symm NE2.out.1
    have eac : ga ≠ gc := NE2.out.2
    have eca : gc ≠ ga := Ne.symm eac
    have ea6 : ga ≠ g6 := NE6.out.2.2.2.1
    have ea7 : ga ≠ g7 := NE6.out.2.2.2.2.1
    have ec6 : gc ≠ g6 := NE6.out.2.2.2.2.2.1
    have ec7 : gc ≠ g7 := NE6.out.2.2.2.2.2.2.1
    have hi0 : (0 : Int) ≤ (q : Int) := by omega
    have hi1 : (q : Int) < (l0_1.length : Int) := by omega
    go_upto_region 10 with (fail)
    go_region_held3 (fun w' => w'.cell? ⟨g6, 0, none⟩ = some (.bool false) ∧ w'.cell? ⟨g6, 1, none⟩ = some (.slice (some ad) q q) ∧ w'.cell? ⟨g6, 2, none⟩ = some (.slice none 0 0) ∧ w'.cell? ⟨g6, 3, none⟩ = some (.slice B3 p p) ∧
     w'.cell? ⟨g7, 0, none⟩ = some (.bool false) ∧ w'.cell? ⟨g7, 1, none⟩ = some (.slice C1 (l0_1.length - p) (d1 - p)) ∧ w'.cell? ⟨g7, 2, none⟩ = some (.slice none 0 0) ∧ w'.cell? ⟨g7, 3, none⟩ = some (.slice C2 (l0_3.length - p) (d3 - p)) ∧
     w'.cell? ⟨gb, 1, none⟩ = some (.slice (some ad) l0_1.length d1) ∧ w'.cell? (ad.add q) = some (.string s)) (go_keep) (fail)
    go_wp2
    refine bodyPost_ret (results_list (rs := [.cell 2 25, .tmp 3, .cell 4 25]) rfl (by simp) (.cell ga 25 #[.bool false, .slice (some ad) q q, .slice none 0 0, .slice B3 p p] (0, 0) _ rfl (blk_drew (NBox.far4 (NBox.put4 BA8) eac).out) Try.underlying25 rfl (by kernel_rfl) (.tmp (.cell gc 25 #[.bool false, .slice C1 (l0_1.length - p) (d1 - p), .slice none 0 0, .slice C2 (l0_3.length - p) (d3 - p)] (0, 0) _ rfl (blk_drew (NBox.put4 (NBox.far4 BC8 eca)).out) Try.underlying25 rfl (by kernel_rfl) .nil)))) rfl ?_
    have hgs : l0_1.getD q ⟨#[]⟩ = s := by rw [List.getD_eq_getElem?_getD, hs.out]; rfl
    rw [hgs]
    have P1 := V_take (q := q) (c' := q) HX1.out (by omega) (Nat.le_refl _)
    have P2 := V_take (q := p) (c' := p) HX2.out (by have := HL31.out; omega) (Nat.le_refl _)
    have P3 := V_drop HX1.out rfl (by omega) EC1.out
    have P4 := V_drop HX2.out rfl (by have := HL31.out; omega) EC2.out
    exact ⟨_, _, _, _, _, _, rfl, Kd.V_drew (Kd.V_mono (V_put4 (V_put4 P1 ka.out) kc.out) kw.out), Kd.V_nil _ _ _ _ _, Kd.V_drew (Kd.V_mono (V_put4 (V_put4 P2 ka.out) kc.out) kw.out), Kd.V_drew (Kd.V_mono (V_put4 (V_put4 P3 ka.out) kc.out) kw.out), Kd.V_nil _ _ _ _ _, Kd.V_drew (Kd.V_mono (V_put4 (V_put4 P4 ka.out) kc.out) kw.out), below_drew1 (below_put4 (below_put4 HB8.out GA.out) GC.out)⟩

end Go.Proofs.Ytpdlbebiapimoaa.PN
