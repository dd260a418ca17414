/- node.Join -/
import Derived.Test.YtpdlbebiapimoaaHJoin0
import Derived.Test.YtpdlbebiapimoaaHClone
namespace Go.Proofs.Ytpdlbebiapimoaa.PN
open Go.RowKit Go.Proofs.YtpdlbebiapimoaaW.PrintWords Go.Proofs.YtpdlbebiapimoaaW.PrintLast Go.Proofs.YtpdlbebiapimoaaW.PrintMore
set_option linter.unusedVariables false
set_option linter.unusedSimpArgs false
section
variable {P : Program} {ops : Array Oper} {Q : Exit → Act → World → Prop} {md : Region.Mode} {S : World → Prop}
/-- Two may come up. -/
theorem wpAnyP_two {m : Nat} (i j : Nat) {oi oj : Oper} {fuel : Nat} {listed : Array Bool} {a : Act} {w : World} (hi : ops[i]? = some oi) (hj : ops[j]? = some oj) (hr : Region.ready md ops listed = [i, j])
  (hw : Region.wanted oi (yielded ops a.tmps) = true) (hw2 : Region.wanted oj (yielded ops a.tmps) = true)
  (h : ∀ K : Act → World → Prop, (∀ a w, ((listed.setIfInBounds i true).getD m true = false → S w) → wpAnyP P md ops Q S m fuel (listed.setIfInBounds i true) a w → K a w) → Oper.wp P oi a w K Q)
  (h2 : ∀ K : Act → World → Prop, (∀ a w, ((listed.setIfInBounds j true).getD m true = false → S w) → wpAnyP P md ops Q S m fuel (listed.setIfInBounds j true) a w → K a w) → Oper.wp P oj a w K Q) :
  wpAnyP P md ops Q S m (fuel + 1) listed a w := by
 refine ⟨fun h0 => absurd (hr ▸ h0) (by simp), fun k hk => ?_⟩
 rw [hr] at hk
 rcases List.mem_cons.1 hk with rfl | hk
 ·refine wpOp_step hi (fun K' hK => ?_)
  rw [if_pos hw]
  exact h K' (fun a w h1 h2 => hK a w ⟨h1, h2⟩)
 ·obtain rfl : k = j := by simpa using hk
  refine wpOp_step hj (fun K' hK => ?_)
  rw [if_pos hw2]
  exact h2 K' (fun a w h1 h2 => hK a w ⟨h1, h2⟩)
/-- A block is made. -/
theorem oper_make {o : Oper} {a : Act} {W : World} {K : Act → World → Prop} (n : Nat) {cs : Array Value} {t : TypeId}
  (hrun : (execOp a.eval o).run P W = .ok (.value (.slice (some ⟨W.heap.size, 0, none⟩) n n)) (W.alloc (.cells cs t (0, 0))))
  (h : ∀ g, g = W.heap.size → ∀ w1, w1.heap[g]? = some (.cells cs t (0, 0)) → Below W.heap.size W w1 → K (a.put o.dst (.slice (some ⟨g, 0, none⟩) n n)) w1) : Oper.wp P o a W K Q := by
 unfold Oper.wp
 rw [hrun]
 exact h _ rfl _ (blk_new W _) (below_alloc (Below.refl _ _) _)
end
set_option maxHeartbeats 8000000 in
set_option maxRecDepth 100000 in
theorem node_Join.calls (a0_0 : Bool) (A0_1 : Option Addr) (c0_1 : Nat) (l0_1 : List ByteArray) (A0_2 : Option Addr) (c0_2 : Nat) (l0_2 : List ByteArray) (A0_3 : Option Addr) (c0_3 : Nat) (l0_3 : List Int) (a1 : ByteArray) (a2_0 : Bool) (A2_1 : Option Addr) (c2_1 : Nat) (l2_1 : List ByteArray) (A2_2 : Option Addr) (c2_2 : Nat) (l2_2 : List ByteArray) (A2_3 : Option Addr) (c2_3 : Nat) (l2_3 : List Int) (r1 : Bool) (r2 : List ByteArray) (r3 : List ByteArray) (r4 : List Int) (w : World) (hr0_1 : Kd.C Kd.string w A0_1 l0_1.length l0_1) (hc0_1 : l0_1.length ≤ c0_1) (hr0_2 : Kd.C Kd.string w A0_2 l0_2.length l0_2) (hc0_2 : l0_2.length ≤ c0_2) (hr0_3 : Kd.C (Kd.int .i64) w A0_3 l0_3.length l0_3) (hc0_3 : l0_3.length ≤ c0_3) (hr2_1 : Kd.C Kd.string w A2_1 l2_1.length l2_1) (hc2_1 : l2_1.length ≤ c2_1) (hr2_2 : Kd.C Kd.string w A2_2 l2_2.length l2_2) (hc2_2 : l2_2.length ≤ c2_2) (hr2_3 : Kd.C (Kd.int .i64) w A2_3 l2_3.length l2_3) (hc2_3 : l2_3.length ≤ c2_3) (h : node_Join.f a0_0 l0_1 l0_2 l0_3 a1 a2_0 l2_1 l2_2 l2_3 = some (r1, r2, r3, r4)) :
  Calls Try.prog 26 #[.agg #[.bool a0_0, .slice A0_1 l0_1.length c0_1, .slice A0_2 l0_2.length c0_2, .slice A0_3 l0_3.length c0_3], .string a1, .agg #[.bool a2_0, .slice A2_1 l2_1.length c2_1, .slice A2_2 l2_2.length c2_2, .slice A2_3 l2_3.length c2_3]] w fun e w' => ∃ v1_ v2_ v3_ : Value, e = .returned (.agg #[.bool r1, v1_, v2_, v3_]) ∧ Kd.V Kd.string 9 w' w.heap.size (fun k_ => (w.heap.size ≤ k_)) v1_ r2 ∧ Kd.V Kd.string 9 w' w.heap.size (fun k_ => (w.heap.size ≤ k_)) v2_ r3 ∧ Kd.V (Kd.int .i64) 3 w' w.heap.size (fun k_ => (w.heap.size ≤ k_)) v3_ r4 ∧ Below w.heap.size w w' := by
 unfold node_Join.f at h
 split at h
 case isFalse => cases h
 rename_i hsz
 obtain ⟨⟨n01, n02, n03⟩, n21, n22, n23⟩ := hsz
 have H := Aside0.mk (Option.some.inj h)
 clear h
 have H1 := Aside0.mk hr0_1
 have H2 := Aside0.mk hr0_2
 have H3 := Aside0.mk hr0_3
 have K1 := Aside0.mk hr2_1
 have K2 := Aside0.mk hr2_2
 have K3 := Aside0.mk hr2_3
 clear hr0_1 hr0_2 hr0_3 hr2_1 hr2_2 hr2_3
 have hu25 := Try.underlying25
 go_enter Try.func26, Try.ntmps26
 go_upto_region 1 with (first | ((with_reducible refine gate_dst (N := 3) rfl ?_); refine box_event ?hg (N := 3) ?hd (cs := #[.bool a0_0, .slice A0_1 l0_1.length c0_1, .slice A0_2 l0_2.length c0_2, .slice A0_3 l0_3.length c0_3]) (t := 25) ?hr ?_; (case hd => rfl); (case hg => rfl); (case hr => first | (go_simp; done) | (go_simp; rfl)); intro ga hg w2 hbox hb; have HB := Aside0.mk hb; have BA := NBox.mk hbox; clear hg hbox hb) | ((with_reducible refine gate_dst (N := 5) rfl ?_); refine box_event ?hg (N := 5) ?hd (cs := #[.bool a2_0, .slice A2_1 l2_1.length c2_1, .slice A2_2 l2_2.length c2_2, .slice A2_3 l2_3.length c2_3]) (t := 25) ?hr ?_; (case hd => rfl); (case hg => rfl); (case hr => first | (go_simp; done) | (go_simp; rfl)); intro gb hg w3 hbox hb; replace BA := BA.below hb; replace HB := Aside0.mk (below_step HB.out hb); have BB := NBox.mk hbox; clear hg hbox hb) | ((with_reducible refine gate_dst (N := 6) rfl ?_); refine box_event ?hg (N := 6) ?hd (cs := #[.bool false, .slice none 0 0, .slice none 0 0, .slice none 0 0]) (t := 25) ?hr ?_; (case hd => rfl); (case hg => rfl); (case hr => first | (go_simp; done) | (go_simp; rfl)); intro gr hg w4 hbox hb; have NE := Aside0.mk (show ga < gr ∧ gb < gr by have := blk_lt BA.out; have := blk_lt BB.out; omega); replace BA := BA.below hb; replace BB := BB.below hb; have GR := Aside0.mk (Nat.le_trans (below_size HB.out) (Nat.le_of_eq hg.symm)); replace HB := Aside0.mk (below_step HB.out hb); have BR := NBox.mk hbox; clear hg hbox hb))
 obtain ⟨hx0, hx1, hx2, hx3⟩ := BA.cells
 obtain ⟨hy0, hy1, hy2, hy3⟩ := BB.cells
 obtain ⟨hz0, hz1, hz2, hz3⟩ := BR.cells
 have er1 : gr ≠ ga := by have := NE.out; omega
 have er2 : gr ≠ gb := by have := NE.out; omega
 have er1' := Ne.symm er1
 have er2' := Ne.symm er2
 by_cases hab : a0_0 = a2_0
 ·subst hab
  cases a0_0 with
  | true =>
   have HT := H.out
   simp only [bne_self_eq_false, Bool.false_eq_true, if_false, if_true, Prod.mk.injEq] at HT
   obtain ⟨rfl, rfl, rfl, rfl⟩ := HT
   clear H
   go_upto_region 4 with (fail)
   have BA1 : NBox w4.drew ga _ _ _ _ _ _ _ _ _ _ := ⟨blk_drew BA.out⟩
   have BB1 : NBox w4.drew gb _ _ _ _ _ _ _ _ _ _ := ⟨blk_drew BB.out⟩
   have BR1 : NBox w4.drew gr _ _ _ _ _ _ _ _ _ _ := ⟨blk_drew BR.out⟩
   have HB1 := Aside0.mk (below_drew1 HB.out)
   clear BA BB BR HB hx0 hx1 hx2 hx3 hy0 hy1 hy2 hy3 hz0 hz1 hz2 hz3
   have BA := BA1; have BB := BB1; have BR := BR1; have HB := HB1
   clear BA1 BB1 BR1 HB1
   have HS := Aside0.mk (And.intro BA.cells.2.1 (And.intro BB.cells.2.1 (And.intro BA.cells.2.2.1 BB.cells.2.2.1)))
   refine wp_region_P (fun w' => w'.cell? ⟨ga, 1, none⟩ = some (.slice A0_1 l0_1.length c0_1) ∧ w'.cell? ⟨gb, 1, none⟩ = some (.slice A2_1 l2_1.length c2_1) ∧ w'.cell? ⟨ga, 2, none⟩ = some (.slice A0_2 l0_2.length c0_2) ∧ w'.cell? ⟨gb, 2, none⟩ = some (.slice A2_2 l2_2.length c2_2)) 13 (by kernel_rfl) ?_
   generalize w4.drew = w5 at *
   refine wpAnyP_take 0 (oi := _) (v := ?vx1) rfl (by kernel_rfl) (fun _ _ _ h => h) (by rfl) HS.out ?hyx1 ?restx1
   case hyx1 => intro w_ hSw; obtain ⟨hs1, hs2, hs3, hs4⟩ := hSw; first | (go_simp; done) | (go_simp; with_reducible rfl)
   try simp only [Act.put, List.setIfInBounds_toArray, List.set_cons_zero, List.set_cons_succ]
   refine wpAnyP_take 1 (oi := _) (v := ?vx2) rfl (by kernel_rfl) (fun _ _ _ h => h) (by rfl) HS.out ?hyx2 ?restx2
   case hyx2 => intro w_ hSw; obtain ⟨hs1, hs2, hs3, hs4⟩ := hSw; first | (go_simp; done) | (go_simp; with_reducible rfl)
   try simp only [Act.put, List.setIfInBounds_toArray, List.set_cons_zero, List.set_cons_succ]
   refine wpAnyP_take 2 (oi := _) (v := ?vx3) rfl (by kernel_rfl) (fun _ _ _ h => h) (by rfl) HS.out ?hyx3 ?restx3
   case hyx3 => intro w_ hSw; obtain ⟨hs1, hs2, hs3, hs4⟩ := hSw; first | (go_simp; done) | (go_simp; with_reducible rfl)
   try simp only [Act.put, List.setIfInBounds_toArray, List.set_cons_zero, List.set_cons_succ]
   refine wpAnyP_take 3 (oi := _) (v := ?vx4) rfl (by kernel_rfl) (fun _ _ _ h => h) (by rfl) HS.out ?hyx4 ?restx4
   case hyx4 => intro w_ hSw; obtain ⟨hs1, hs2, hs3, hs4⟩ := hSw; first | (go_simp; done) | (go_simp; with_reducible rfl)
   try simp only [Act.put, List.setIfInBounds_toArray, List.set_cons_zero, List.set_cons_succ]
   refine wpAnyP_take 6 (oi := _) (v := ?vx5) rfl (by kernel_rfl) (fun _ _ _ h => h) (by rfl) HS.out ?hyx5 ?restx5
   case hyx5 => intro w_ hSw; obtain ⟨hs1, hs2, hs3, hs4⟩ := hSw; first | (go_simp; done) | (go_simp; with_reducible rfl)
   try simp only [Act.put, List.setIfInBounds_toArray, List.set_cons_zero, List.set_cons_succ]
   refine wpAnyP_take 7 (oi := _) (v := ?vx6) rfl (by kernel_rfl) (fun _ _ _ h => h) (by rfl) HS.out ?hyx6 ?restx6
   case hyx6 => intro w_ hSw; obtain ⟨hs1, hs2, hs3, hs4⟩ := hSw; first | (go_simp; done) | (go_simp; with_reducible rfl)
   try simp only [Act.put, List.setIfInBounds_toArray, List.set_cons_zero, List.set_cons_succ]
   refine wpAnyP_take 8 (oi := _) (v := ?vx7) rfl (by kernel_rfl) (fun _ _ _ h => h) (by rfl) HS.out ?hyx7 ?restx7
   case hyx7 => intro w_ hSw; obtain ⟨hs1, hs2, hs3, hs4⟩ := hSw; first | (go_simp; done) | (go_simp; with_reducible rfl)
   try simp only [Act.put, List.setIfInBounds_toArray, List.set_cons_zero, List.set_cons_succ]
   refine wpAnyP_take 9 (oi := _) (v := ?vx8) rfl (by kernel_rfl) (fun _ _ _ h => h) (by rfl) HS.out ?hyx8 ?restx8
   case hyx8 => intro w_ hSw; obtain ⟨hs1, hs2, hs3, hs4⟩ := hSw; first | (go_simp; done) | (go_simp; with_reducible rfl)
   try simp only [Act.put, List.setIfInBounds_toArray, List.set_cons_zero, List.set_cons_succ]
   refine wpAnyP_two 4 10 rfl rfl (by kernel_rfl) (by rfl) (by rfl) (fun K hK => ?_) (fun K hK => ?_)
   ·skip
    have HK := Aside0.mk hK
    clear hK
    refine oper_make 2 (cs := #[.slice A0_1 l0_1.length c0_1, .slice A2_1 l2_1.length c2_1]) (t := 22) (by first | (go_simp; done) | (go_simp; rfl)) (fun g4 hg wx9 hbox hb => ?_)
    have BA1 := BA.below hb
    have BB1 := BB.below hb
    have BR1 := BR.below hb
    have HB1 := Aside0.mk (below_step HB.out hb)
    clear BA BB BR HB HS
    have BA := BA1; have BB := BB1; have BR := BR1; have HB := HB1
    clear BA1 BB1 BR1 HB1
    have HS := Aside0.mk (And.intro BA.cells.2.1 (And.intro BB.cells.2.1 (And.intro BA.cells.2.2.1 BB.cells.2.2.1)))
    have G4 := Aside0.mk hbox
    clear hbox hb hg
    refine HK.out _ _ (fun _ => HS.out) ?_
    clear HK K
    try simp only [Act.put, List.setIfInBounds_toArray, List.set_cons_zero, List.set_cons_succ]
    refine wpAnyP_two 5 10 rfl rfl (by kernel_rfl) (by rfl) (by rfl) (fun K hK => ?_) (fun K hK => ?_)
    ·skip
     have HK := Aside0.mk hK
     clear hK
     go_simp
     go_at_call 46
     refine (cat2s G4.out (Kd.C_below H1.out HB.out) hc0_1 (Kd.C_below K1.out HB.out) hc2_1 n01 n21).mono ?_
     rintro e wx10 ⟨E1, e1, rfl, ho, hb⟩
     have HV1 := Aside0.mk (Kd.R_lower ho (below_size HB.out))
     clear ho
     have BA1 := BA.below hb
     have BB1 := BB.below hb
     have BR1 := BR.below hb
     have G4' := Aside0.mk (blk_below G4.out hb)
     have HB1 := Aside0.mk (below_step HB.out hb)
     clear BA BB BR HB HS G4
     have BA := BA1; have BB := BB1; have BR := BR1; have HB := HB1; have G4 := G4'
     clear BA1 BB1 BR1 HB1 G4'
     have HS := Aside0.mk (And.intro BA.cells.2.1 (And.intro BB.cells.2.1 (And.intro BA.cells.2.2.1 BB.cells.2.2.1)))
     clear hb
     refine HK.out _ _ (fun _ => HS.out) ?_
     clear HK K
     try simp only [Act.put, List.setIfInBounds_toArray, List.set_cons_zero, List.set_cons_succ]
     refine wpAnyP_one 10 rfl (by kernel_rfl) (by rfl) (fun K hK => ?_)
     have HK := Aside0.mk hK
     clear hK
     refine oper_make 2 (cs := #[.slice A0_2 l0_2.length c0_2, .slice A2_2 l2_2.length c2_2]) (t := 22) (by first | (go_simp; done) | (go_simp; rfl)) (fun g10 hg wx11 hbox hb => ?_)
     have BA1 := BA.below hb
     have BB1 := BB.below hb
     have BR1 := BR.below hb
     have G4' := Aside0.mk (blk_below G4.out hb)
     have HV1' := Aside0.mk (Kd.R_below HV1.out hb)
     have HB1 := Aside0.mk (below_step HB.out hb)
     clear BA BB BR HB HS G4 HV1
     have BA := BA1; have BB := BB1; have BR := BR1; have HB := HB1; have G4 := G4'; have HV1 := HV1'
     clear BA1 BB1 BR1 HB1 G4' HV1'
     have HS := Aside0.mk (And.intro BA.cells.2.1 (And.intro BB.cells.2.1 (And.intro BA.cells.2.2.1 BB.cells.2.2.1)))
     have G10 := Aside0.mk hbox
     clear hbox hb hg
     refine HK.out _ _ (fun _ => HS.out) ?_
     clear HK K
     try simp only [Act.put, List.setIfInBounds_toArray, List.set_cons_zero, List.set_cons_succ]
     refine wpAnyP_one 11 rfl (by kernel_rfl) (by rfl) (fun K hK => ?_)
     have HK := Aside0.mk hK
     clear hK
     go_simp
     go_at_call 46
     refine (cat2s G10.out (Kd.C_below H2.out HB.out) hc0_2 (Kd.C_below K2.out HB.out) hc2_2 n02 n22).mono ?_
     rintro e wx12 ⟨E2, e2, rfl, ho, hb⟩
     have HV2 := Aside0.mk (Kd.R_lower ho (below_size HB.out))
     clear ho
     have BA1 := BA.below hb
     have BB1 := BB.below hb
     have BR1 := BR.below hb
     have G4' := Aside0.mk (blk_below G4.out hb)
     have G10' := Aside0.mk (blk_below G10.out hb)
     have HV1' := Aside0.mk (Kd.R_below HV1.out hb)
     have HB1 := Aside0.mk (below_step HB.out hb)
     clear BA BB BR HB HS G4 G10 HV1
     have BA := BA1; have BB := BB1; have BR := BR1; have HB := HB1; have G4 := G4'; have G10 := G10'; have HV1 := HV1'
     clear BA1 BB1 BR1 HB1 G4' G10' HV1'
     have HS := Aside0.mk (And.intro BA.cells.2.1 (And.intro BB.cells.2.1 (And.intro BA.cells.2.2.1 BB.cells.2.2.1)))
     clear hb
     refine HK.out _ _ (fun _ => HS.out) ?_
     clear HK K
     try simp only [Act.put, List.setIfInBounds_toArray, List.set_cons_zero, List.set_cons_succ]
     obtain ⟨hz0, hz1, hz2, hz3⟩ := BR.cells
     have hf0 := blk_frozen BR.out 0
     have hf1 := blk_frozen BR.out 1
     have hf2 := blk_frozen BR.out 2
     have hf3 := blk_frozen BR.out 3
     refine wpAnyP_take 12 (oi := _) (v := ?vx13) rfl (by kernel_rfl) (fun _ _ _ h => h) (by rfl) HS.out ?hyx13 ?restx13
     case hyx13 => intro w_ hSw; obtain ⟨hs1, hs2, hs3, hs4⟩ := hSw; first | (go_simp; done) | (go_simp; with_reducible rfl)
     try simp only [Act.put, List.setIfInBounds_toArray, List.set_cons_zero, List.set_cons_succ]
     refine wpAnyP_one 13 rfl (by kernel_rfl) (by rfl) (fun K hK => ?_)
     have HK := Aside0.mk hK
     clear hK
     go_simp
     refine HK.out _ _ (fun h_ => absurd h_ (by decide)) ?_
     clear HK K
     try simp only [Act.put, List.setIfInBounds_toArray, List.set_cons_zero, List.set_cons_succ]
     refine wpAnyP_done (by kernel_rfl) ?_ _
     clear HS hz0 hz1 hz2 hz3 hf0 hf1 hf2 hf3
     go_wp2
     refine bodyPost_ret (results_single rfl (.cell gr 25 #[.bool true, .slice E1 (l0_1.length + l2_1.length) e1, .slice E2 (l0_2.length + l2_2.length) e2, .slice none 0 0] (0, 0) _ rfl (NBox.put4 BR).out Try.underlying25 rfl (by kernel_rfl) .nil)) rfl ?_
     have HL1 := HV1.out
     first | rw [show (l0_1 ++ ([a1] ++ l2_1)).length = l0_1.length + (l2_1.length + 1) by simp] at HL1 | simp only [List.length_append] at HL1
     have HL2 := HV2.out
     first | rw [show (l0_1 ++ ([a1] ++ l2_1)).length = l0_1.length + (l2_1.length + 1) by simp] at HL2 | simp only [List.length_append] at HL2
     exact ⟨_, _, _, rfl, R_toV (R_put4 HL1 BR (by decide)), R_toV (R_put4 HL2 BR (by decide)), Kd.V_nil _ _ _ _ _, below_put4 HB.out GR.out⟩
    ·skip
     have HK := Aside0.mk hK
     clear hK
     refine oper_make 2 (cs := #[.slice A0_2 l0_2.length c0_2, .slice A2_2 l2_2.length c2_2]) (t := 22) (by first | (go_simp; done) | (go_simp; rfl)) (fun g10 hg wx14 hbox hb => ?_)
     have BA1 := BA.below hb
     have BB1 := BB.below hb
     have BR1 := BR.below hb
     have G4' := Aside0.mk (blk_below G4.out hb)
     have HB1 := Aside0.mk (below_step HB.out hb)
     clear BA BB BR HB HS G4
     have BA := BA1; have BB := BB1; have BR := BR1; have HB := HB1; have G4 := G4'
     clear BA1 BB1 BR1 HB1 G4'
     have HS := Aside0.mk (And.intro BA.cells.2.1 (And.intro BB.cells.2.1 (And.intro BA.cells.2.2.1 BB.cells.2.2.1)))
     have G10 := Aside0.mk hbox
     clear hbox hb hg
     refine HK.out _ _ (fun _ => HS.out) ?_
     clear HK K
     try simp only [Act.put, List.setIfInBounds_toArray, List.set_cons_zero, List.set_cons_succ]
     refine wpAnyP_one 5 rfl (by kernel_rfl) (by rfl) (fun K hK => ?_)
     have HK := Aside0.mk hK
     clear hK
     go_simp
     go_at_call 46
     refine (cat2s G4.out (Kd.C_below H1.out HB.out) hc0_1 (Kd.C_below K1.out HB.out) hc2_1 n01 n21).mono ?_
     rintro e wx15 ⟨E1, e1, rfl, ho, hb⟩
     have HV1 := Aside0.mk (Kd.R_lower ho (below_size HB.out))
     clear ho
     have BA1 := BA.below hb
     have BB1 := BB.below hb
     have BR1 := BR.below hb
     have G4' := Aside0.mk (blk_below G4.out hb)
     have G10' := Aside0.mk (blk_below G10.out hb)
     have HB1 := Aside0.mk (below_step HB.out hb)
     clear BA BB BR HB HS G4 G10
     have BA := BA1; have BB := BB1; have BR := BR1; have HB := HB1; have G4 := G4'; have G10 := G10'
     clear BA1 BB1 BR1 HB1 G4' G10'
     have HS := Aside0.mk (And.intro BA.cells.2.1 (And.intro BB.cells.2.1 (And.intro BA.cells.2.2.1 BB.cells.2.2.1)))
     clear hb
     refine HK.out _ _ (fun _ => HS.out) ?_
     clear HK K
     try simp only [Act.put, List.setIfInBounds_toArray, List.set_cons_zero, List.set_cons_succ]
     refine wpAnyP_one 11 rfl (by kernel_rfl) (by rfl) (fun K hK => ?_)
     have HK := Aside0.mk hK
     clear hK
     go_simp
     go_at_call 46
     refine (cat2s G10.out (Kd.C_below H2.out HB.out) hc0_2 (Kd.C_below K2.out HB.out) hc2_2 n02 n22).mono ?_
     rintro e wx16 ⟨E2, e2, rfl, ho, hb⟩
     have HV2 := Aside0.mk (Kd.R_lower ho (below_size HB.out))
     clear ho
     have BA1 := BA.below hb
     have BB1 := BB.below hb
     have BR1 := BR.below hb
     have G4' := Aside0.mk (blk_below G4.out hb)
     have G10' := Aside0.mk (blk_below G10.out hb)
     have HV1' := Aside0.mk (Kd.R_below HV1.out hb)
     have HB1 := Aside0.mk (below_step HB.out hb)
     clear BA BB BR HB HS G4 G10 HV1
     have BA := BA1; have BB := BB1; have BR := BR1; have HB := HB1; have G4 := G4'; have G10 := G10'; have HV1 := HV1'
     clear BA1 BB1 BR1 HB1 G4' G10' HV1'
     have HS := Aside0.mk (And.intro BA.cells.2.1 (And.intro BB.cells.2.1 (And.intro BA.cells.2.2.1 BB.cells.2.2.1)))
     clear hb
     refine HK.out _ _ (fun _ => HS.out) ?_
     clear HK K
     try simp only [Act.put, List.setIfInBounds_toArray, List.set_cons_zero, List.set_cons_succ]
     obtain ⟨hz0, hz1, hz2, hz3⟩ := BR.cells
     have hf0 := blk_frozen BR.out 0
     have hf1 := blk_frozen BR.out 1
     have hf2 := blk_frozen BR.out 2
     have hf3 := blk_frozen BR.out 3
     refine wpAnyP_take 12 (oi := _) (v := ?vx17) rfl (by kernel_rfl) (fun _ _ _ h => h) (by rfl) HS.out ?hyx17 ?restx17
     case hyx17 => intro w_ hSw; obtain ⟨hs1, hs2, hs3, hs4⟩ := hSw; first | (go_simp; done) | (go_simp; with_reducible rfl)
     try simp only [Act.put, List.setIfInBounds_toArray, List.set_cons_zero, List.set_cons_succ]
     refine wpAnyP_one 13 rfl (by kernel_rfl) (by rfl) (fun K hK => ?_)
     have HK := Aside0.mk hK
     clear hK
     go_simp
     refine HK.out _ _ (fun h_ => absurd h_ (by decide)) ?_
     clear HK K
     try simp only [Act.put, List.setIfInBounds_toArray, List.set_cons_zero, List.set_cons_succ]
     refine wpAnyP_done (by kernel_rfl) ?_ _
     clear HS hz0 hz1 hz2 hz3 hf0 hf1 hf2 hf3
     go_wp2
     refine bodyPost_ret (results_single rfl (.cell gr 25 #[.bool true, .slice E1 (l0_1.length + l2_1.length) e1, .slice E2 (l0_2.length + l2_2.length) e2, .slice none 0 0] (0, 0) _ rfl (NBox.put4 BR).out Try.underlying25 rfl (by kernel_rfl) .nil)) rfl ?_
     have HL1 := HV1.out
     first | rw [show (l0_1 ++ ([a1] ++ l2_1)).length = l0_1.length + (l2_1.length + 1) by simp] at HL1 | simp only [List.length_append] at HL1
     have HL2 := HV2.out
     first | rw [show (l0_1 ++ ([a1] ++ l2_1)).length = l0_1.length + (l2_1.length + 1) by simp] at HL2 | simp only [List.length_append] at HL2
     exact ⟨_, _, _, rfl, R_toV (R_put4 HL1 BR (by decide)), R_toV (R_put4 HL2 BR (by decide)), Kd.V_nil _ _ _ _ _, below_put4 HB.out GR.out⟩
   ·skip
    have HK := Aside0.mk hK
    clear hK
    refine oper_make 2 (cs := #[.slice A0_2 l0_2.length c0_2, .slice A2_2 l2_2.length c2_2]) (t := 22) (by first | (go_simp; done) | (go_simp; rfl)) (fun g10 hg wx18 hbox hb => ?_)
    have BA1 := BA.below hb
    have BB1 := BB.below hb
    have BR1 := BR.below hb
    have HB1 := Aside0.mk (below_step HB.out hb)
    clear BA BB BR HB HS
    have BA := BA1; have BB := BB1; have BR := BR1; have HB := HB1
    clear BA1 BB1 BR1 HB1
    have HS := Aside0.mk (And.intro BA.cells.2.1 (And.intro BB.cells.2.1 (And.intro BA.cells.2.2.1 BB.cells.2.2.1)))
    have G10 := Aside0.mk hbox
    clear hbox hb hg
    refine HK.out _ _ (fun _ => HS.out) ?_
    clear HK K
    try simp only [Act.put, List.setIfInBounds_toArray, List.set_cons_zero, List.set_cons_succ]
    refine wpAnyP_one 4 rfl (by kernel_rfl) (by rfl) (fun K hK => ?_)
    have HK := Aside0.mk hK
    clear hK
    refine oper_make 2 (cs := #[.slice A0_1 l0_1.length c0_1, .slice A2_1 l2_1.length c2_1]) (t := 22) (by first | (go_simp; done) | (go_simp; rfl)) (fun g4 hg wx19 hbox hb => ?_)
    have BA1 := BA.below hb
    have BB1 := BB.below hb
    have BR1 := BR.below hb
    have G10' := Aside0.mk (blk_below G10.out hb)
    have HB1 := Aside0.mk (below_step HB.out hb)
    clear BA BB BR HB HS G10
    have BA := BA1; have BB := BB1; have BR := BR1; have HB := HB1; have G10 := G10'
    clear BA1 BB1 BR1 HB1 G10'
    have HS := Aside0.mk (And.intro BA.cells.2.1 (And.intro BB.cells.2.1 (And.intro BA.cells.2.2.1 BB.cells.2.2.1)))
    have G4 := Aside0.mk hbox
    clear hbox hb hg
    refine HK.out _ _ (fun _ => HS.out) ?_
    clear HK K
    try simp only [Act.put, List.setIfInBounds_toArray, List.set_cons_zero, List.set_cons_succ]
    refine wpAnyP_one 5 rfl (by kernel_rfl) (by rfl) (fun K hK => ?_)
    have HK := Aside0.mk hK
    clear hK
    go_simp
    go_at_call 46
    refine (cat2s G4.out (Kd.C_below H1.out HB.out) hc0_1 (Kd.C_below K1.out HB.out) hc2_1 n01 n21).mono ?_
    rintro e wx20 ⟨E1, e1, rfl, ho, hb⟩
    have HV1 := Aside0.mk (Kd.R_lower ho (below_size HB.out))
    clear ho
    have BA1 := BA.below hb
    have BB1 := BB.below hb
    have BR1 := BR.below hb
    have G10' := Aside0.mk (blk_below G10.out hb)
    have G4' := Aside0.mk (blk_below G4.out hb)
    have HB1 := Aside0.mk (below_step HB.out hb)
    clear BA BB BR HB HS G10 G4
    have BA := BA1; have BB := BB1; have BR := BR1; have HB := HB1; have G10 := G10'; have G4 := G4'
    clear BA1 BB1 BR1 HB1 G10' G4'
    have HS := Aside0.mk (And.intro BA.cells.2.1 (And.intro BB.cells.2.1 (And.intro BA.cells.2.2.1 BB.cells.2.2.1)))
    clear hb
    refine HK.out _ _ (fun _ => HS.out) ?_
    clear HK K
    try simp only [Act.put, List.setIfInBounds_toArray, List.set_cons_zero, List.set_cons_succ]
    refine wpAnyP_one 11 rfl (by kernel_rfl) (by rfl) (fun K hK => ?_)
    have HK := Aside0.mk hK
    clear hK
    go_simp
    go_at_call 46
    refine (cat2s G10.out (Kd.C_below H2.out HB.out) hc0_2 (Kd.C_below K2.out HB.out) hc2_2 n02 n22).mono ?_
    rintro e wx21 ⟨E2, e2, rfl, ho, hb⟩
    have HV2 := Aside0.mk (Kd.R_lower ho (below_size HB.out))
    clear ho
    have BA1 := BA.below hb
    have BB1 := BB.below hb
    have BR1 := BR.below hb
    have G10' := Aside0.mk (blk_below G10.out hb)
    have G4' := Aside0.mk (blk_below G4.out hb)
    have HV1' := Aside0.mk (Kd.R_below HV1.out hb)
    have HB1 := Aside0.mk (below_step HB.out hb)
    clear BA BB BR HB HS G10 G4 HV1
    have BA := BA1; have BB := BB1; have BR := BR1; have HB := HB1; have G10 := G10'; have G4 := G4'; have HV1 := HV1'
    clear BA1 BB1 BR1 HB1 G10' G4' HV1'
    have HS := Aside0.mk (And.intro BA.cells.2.1 (And.intro BB.cells.2.1 (And.intro BA.cells.2.2.1 BB.cells.2.2.1)))
    clear hb
    refine HK.out _ _ (fun _ => HS.out) ?_
    clear HK K
    try simp only [Act.put, List.setIfInBounds_toArray, List.set_cons_zero, List.set_cons_succ]
    obtain ⟨hz0, hz1, hz2, hz3⟩ := BR.cells
    have hf0 := blk_frozen BR.out 0
    have hf1 := blk_frozen BR.out 1
    have hf2 := blk_frozen BR.out 2
    have hf3 := blk_frozen BR.out 3
    refine wpAnyP_take 12 (oi := _) (v := ?vx22) rfl (by kernel_rfl) (fun _ _ _ h => h) (by rfl) HS.out ?hyx22 ?restx22
    case hyx22 => intro w_ hSw; obtain ⟨hs1, hs2, hs3, hs4⟩ := hSw; first | (go_simp; done) | (go_simp; with_reducible rfl)
    try simp only [Act.put, List.setIfInBounds_toArray, List.set_cons_zero, List.set_cons_succ]
    refine wpAnyP_one 13 rfl (by kernel_rfl) (by rfl) (fun K hK => ?_)
    have HK := Aside0.mk hK
    clear hK
    go_simp
    refine HK.out _ _ (fun h_ => absurd h_ (by decide)) ?_
    clear HK K
    try simp only [Act.put, List.setIfInBounds_toArray, List.set_cons_zero, List.set_cons_succ]
    refine wpAnyP_done (by kernel_rfl) ?_ _
    clear HS hz0 hz1 hz2 hz3 hf0 hf1 hf2 hf3
    go_wp2
    refine bodyPost_ret (results_single rfl (.cell gr 25 #[.bool true, .slice E1 (l0_1.length + l2_1.length) e1, .slice E2 (l0_2.length + l2_2.length) e2, .slice none 0 0] (0, 0) _ rfl (NBox.put4 BR).out Try.underlying25 rfl (by kernel_rfl) .nil)) rfl ?_
    have HL1 := HV1.out
    first | rw [show (l0_1 ++ ([a1] ++ l2_1)).length = l0_1.length + (l2_1.length + 1) by simp] at HL1 | simp only [List.length_append] at HL1
    have HL2 := HV2.out
    first | rw [show (l0_1 ++ ([a1] ++ l2_1)).length = l0_1.length + (l2_1.length + 1) by simp] at HL2 | simp only [List.length_append] at HL2
    exact ⟨_, _, _, rfl, R_toV (R_put4 HL1 BR (by decide)), R_toV (R_put4 HL2 BR (by decide)), Kd.V_nil _ _ _ _ _, below_put4 HB.out GR.out⟩
  | false =>
   have HT := H.out
   simp only [bne_self_eq_false, Bool.false_eq_true, if_false, Prod.mk.injEq] at HT
   obtain ⟨rfl, rfl, rfl, rfl⟩ := HT
   clear H
   go_upto_region 5 with (fail)
   have BA1 : NBox w4.drew ga _ _ _ _ _ _ _ _ _ _ := ⟨blk_drew BA.out⟩
   have BB1 : NBox w4.drew gb _ _ _ _ _ _ _ _ _ _ := ⟨blk_drew BB.out⟩
   have BR1 : NBox w4.drew gr _ _ _ _ _ _ _ _ _ _ := ⟨blk_drew BR.out⟩
   have HB1 := Aside0.mk (below_drew1 HB.out)
   clear BA BB BR HB hx0 hx1 hx2 hx3 hy0 hy1 hy2 hy3 hz0 hz1 hz2 hz3
   have BA := BA1; have BB := BB1; have BR := BR1; have HB := HB1
   clear BA1 BB1 BR1 HB1
   have HS := Aside0.mk (And.intro BA.cells.2.1 (And.intro BB.cells.2.1 (And.intro BA.cells.2.2.2 BB.cells.2.2.2)))
   refine wp_region_P (fun w' => w'.cell? ⟨ga, 1, none⟩ = some (.slice A0_1 l0_1.length c0_1) ∧ w'.cell? ⟨gb, 1, none⟩ = some (.slice A2_1 l2_1.length c2_1) ∧ w'.cell? ⟨ga, 3, none⟩ = some (.slice A0_3 l0_3.length c0_3) ∧ w'.cell? ⟨gb, 3, none⟩ = some (.slice A2_3 l2_3.length c2_3)) 15 (by kernel_rfl) ?_
   generalize w4.drew = w5 at *
   refine wpAnyP_take 0 (oi := _) (v := ?vx23) rfl (by kernel_rfl) (fun _ _ _ h => h) (by rfl) HS.out ?hyx23 ?restx23
   case hyx23 => intro w_ hSw; obtain ⟨hs1, hs2, hs3, hs4⟩ := hSw; first | (go_simp; done) | (go_simp; with_reducible rfl)
   try simp only [Act.put, List.setIfInBounds_toArray, List.set_cons_zero, List.set_cons_succ]
   refine wpAnyP_take 1 (oi := _) (v := ?vx24) rfl (by kernel_rfl) (fun _ _ _ h => h) (by rfl) HS.out ?hyx24 ?restx24
   case hyx24 => intro w_ hSw; obtain ⟨hs1, hs2, hs3, hs4⟩ := hSw; first | (go_simp; done) | (go_simp; with_reducible rfl)
   try simp only [Act.put, List.setIfInBounds_toArray, List.set_cons_zero, List.set_cons_succ]
   refine wpAnyP_take 2 (oi := _) (v := ?vx25) rfl (by kernel_rfl) (fun _ _ _ h => h) (by rfl) HS.out ?hyx25 ?restx25
   case hyx25 => intro w_ hSw; obtain ⟨hs1, hs2, hs3, hs4⟩ := hSw; first | (go_simp; done) | (go_simp; with_reducible rfl)
   try simp only [Act.put, List.setIfInBounds_toArray, List.set_cons_zero, List.set_cons_succ]
   refine wpAnyP_take 4 (oi := _) (v := ?vx26) rfl (by kernel_rfl) (fun _ _ _ h => h) (by rfl) HS.out ?hyx26 ?restx26
   case hyx26 => intro w_ hSw; obtain ⟨hs1, hs2, hs3, hs4⟩ := hSw; first | (go_simp; done) | (go_simp; with_reducible rfl)
   try simp only [Act.put, List.setIfInBounds_toArray, List.set_cons_zero, List.set_cons_succ]
   refine wpAnyP_take 5 (oi := _) (v := ?vx27) rfl (by kernel_rfl) (fun _ _ _ h => h) (by rfl) HS.out ?hyx27 ?restx27
   case hyx27 => intro w_ hSw; obtain ⟨hs1, hs2, hs3, hs4⟩ := hSw; first | (go_simp; done) | (go_simp; with_reducible rfl)
   try simp only [Act.put, List.setIfInBounds_toArray, List.set_cons_zero, List.set_cons_succ]
   refine wpAnyP_take 8 (oi := _) (v := ?vx28) rfl (by kernel_rfl) (fun _ _ _ h => h) (by rfl) HS.out ?hyx28 ?restx28
   case hyx28 => intro w_ hSw; obtain ⟨hs1, hs2, hs3, hs4⟩ := hSw; first | (go_simp; done) | (go_simp; with_reducible rfl)
   try simp only [Act.put, List.setIfInBounds_toArray, List.set_cons_zero, List.set_cons_succ]
   refine wpAnyP_take 9 (oi := _) (v := ?vx29) rfl (by kernel_rfl) (fun _ _ _ h => h) (by rfl) HS.out ?hyx29 ?restx29
   case hyx29 => intro w_ hSw; obtain ⟨hs1, hs2, hs3, hs4⟩ := hSw; first | (go_simp; done) | (go_simp; with_reducible rfl)
   try simp only [Act.put, List.setIfInBounds_toArray, List.set_cons_zero, List.set_cons_succ]
   refine wpAnyP_take 10 (oi := _) (v := ?vx30) rfl (by kernel_rfl) (fun _ _ _ h => h) (by rfl) HS.out ?hyx30 ?restx30
   case hyx30 => intro w_ hSw; obtain ⟨hs1, hs2, hs3, hs4⟩ := hSw; first | (go_simp; done) | (go_simp; with_reducible rfl)
   try simp only [Act.put, List.setIfInBounds_toArray, List.set_cons_zero, List.set_cons_succ]
   refine wpAnyP_take 11 (oi := _) (v := ?vx31) rfl (by kernel_rfl) (fun _ _ _ h => h) (by rfl) HS.out ?hyx31 ?restx31
   case hyx31 => intro w_ hSw; obtain ⟨hs1, hs2, hs3, hs4⟩ := hSw; first | (go_simp; done) | (go_simp; with_reducible rfl)
   try simp only [Act.put, List.setIfInBounds_toArray, List.set_cons_zero, List.set_cons_succ]
   refine wpAnyP_two 3 12 rfl rfl (by kernel_rfl) (by rfl) (by rfl) (fun K hK => ?_) (fun K hK => ?_)
   ·skip
    have HK := Aside0.mk hK
    clear hK
    refine oper_make 1 (cs := #[.string a1]) (t := 9) (by first | (go_simp; done) | (go_simp; rfl)) (fun g3 hg wx32 hbox hb => ?_)
    have BA1 := BA.below hb
    have BB1 := BB.below hb
    have BR1 := BR.below hb
    have HB1 := Aside0.mk (below_step HB.out hb)
    clear BA BB BR HB HS
    have BA := BA1; have BB := BB1; have BR := BR1; have HB := HB1
    clear BA1 BB1 BR1 HB1
    have HS := Aside0.mk (And.intro BA.cells.2.1 (And.intro BB.cells.2.1 (And.intro BA.cells.2.2.2 BB.cells.2.2.2)))
    have G3 := Aside0.mk hbox
    clear hbox hb hg
    refine HK.out _ _ (fun _ => HS.out) ?_
    clear HK K
    try simp only [Act.put, List.setIfInBounds_toArray, List.set_cons_zero, List.set_cons_succ]
    refine wpAnyP_two 6 12 rfl rfl (by kernel_rfl) (by rfl) (by rfl) (fun K hK => ?_) (fun K hK => ?_)
    ·skip
     have HK := Aside0.mk hK
     clear hK
     refine oper_make 3 (cs := #[.slice A0_1 l0_1.length c0_1, .slice (some ⟨g3, 0, none⟩) 1 1, .slice A2_1 l2_1.length c2_1]) (t := 22) (by first | (go_simp; done) | (go_simp; rfl)) (fun g6 hg wx33 hbox hb => ?_)
     have BA1 := BA.below hb
     have BB1 := BB.below hb
     have BR1 := BR.below hb
     have G3' := Aside0.mk (blk_below G3.out hb)
     have HB1 := Aside0.mk (below_step HB.out hb)
     clear BA BB BR HB HS G3
     have BA := BA1; have BB := BB1; have BR := BR1; have HB := HB1; have G3 := G3'
     clear BA1 BB1 BR1 HB1 G3'
     have HS := Aside0.mk (And.intro BA.cells.2.1 (And.intro BB.cells.2.1 (And.intro BA.cells.2.2.2 BB.cells.2.2.2)))
     have G6 := Aside0.mk hbox
     clear hbox hb hg
     refine HK.out _ _ (fun _ => HS.out) ?_
     clear HK K
     try simp only [Act.put, List.setIfInBounds_toArray, List.set_cons_zero, List.set_cons_succ]
     refine wpAnyP_two 7 12 rfl rfl (by kernel_rfl) (by rfl) (by rfl) (fun K hK => ?_) (fun K hK => ?_)
     ·skip
      have HK := Aside0.mk hK
      clear hK
      go_simp
      go_at_call 46
      refine (cat3s (l2 := [a1]) G6.out (Kd.C_below H1.out HB.out) hc0_1 (C_str1 G3.out) (Nat.le_refl 1) (Kd.C_below K1.out HB.out) hc2_1 n01 (by simp) n21).mono ?_
      rintro e wx34 ⟨E1, e1, rfl, ho, hb⟩
      have HV1 := Aside0.mk (Kd.R_lower ho (below_size HB.out))
      clear ho
      have BA1 := BA.below hb
      have BB1 := BB.below hb
      have BR1 := BR.below hb
      have G3' := Aside0.mk (blk_below G3.out hb)
      have G6' := Aside0.mk (blk_below G6.out hb)
      have HB1 := Aside0.mk (below_step HB.out hb)
      clear BA BB BR HB HS G3 G6
      have BA := BA1; have BB := BB1; have BR := BR1; have HB := HB1; have G3 := G3'; have G6 := G6'
      clear BA1 BB1 BR1 HB1 G3' G6'
      have HS := Aside0.mk (And.intro BA.cells.2.1 (And.intro BB.cells.2.1 (And.intro BA.cells.2.2.2 BB.cells.2.2.2)))
      clear hb
      refine HK.out _ _ (fun _ => HS.out) ?_
      clear HK K
      try simp only [Act.put, List.setIfInBounds_toArray, List.set_cons_zero, List.set_cons_succ]
      refine wpAnyP_one 12 rfl (by kernel_rfl) (by rfl) (fun K hK => ?_)
      have HK := Aside0.mk hK
      clear hK
      refine oper_make 2 (cs := #[.slice A0_3 l0_3.length c0_3, .slice A2_3 l2_3.length c2_3]) (t := 23) (by first | (go_simp; done) | (go_simp; rfl)) (fun g12 hg wx35 hbox hb => ?_)
      have BA1 := BA.below hb
      have BB1 := BB.below hb
      have BR1 := BR.below hb
      have G3' := Aside0.mk (blk_below G3.out hb)
      have G6' := Aside0.mk (blk_below G6.out hb)
      have HV1' := Aside0.mk (Kd.R_below HV1.out hb)
      have HB1 := Aside0.mk (below_step HB.out hb)
      clear BA BB BR HB HS G3 G6 HV1
      have BA := BA1; have BB := BB1; have BR := BR1; have HB := HB1; have G3 := G3'; have G6 := G6'; have HV1 := HV1'
      clear BA1 BB1 BR1 HB1 G3' G6' HV1'
      have HS := Aside0.mk (And.intro BA.cells.2.1 (And.intro BB.cells.2.1 (And.intro BA.cells.2.2.2 BB.cells.2.2.2)))
      have G12 := Aside0.mk hbox
      clear hbox hb hg
      refine HK.out _ _ (fun _ => HS.out) ?_
      clear HK K
      try simp only [Act.put, List.setIfInBounds_toArray, List.set_cons_zero, List.set_cons_succ]
      refine wpAnyP_one 13 rfl (by kernel_rfl) (by rfl) (fun K hK => ?_)
      have HK := Aside0.mk hK
      clear hK
      go_simp
      go_at_call 47
      refine (cat2i G12.out (Kd.C_below H3.out HB.out) hc0_3 (Kd.C_below K3.out HB.out) hc2_3 n03 n23).mono ?_
      rintro e wx36 ⟨E2, e2, rfl, ho, hb⟩
      have HV2 := Aside0.mk (Kd.R_lower ho (below_size HB.out))
      clear ho
      have BA1 := BA.below hb
      have BB1 := BB.below hb
      have BR1 := BR.below hb
      have G3' := Aside0.mk (blk_below G3.out hb)
      have G6' := Aside0.mk (blk_below G6.out hb)
      have G12' := Aside0.mk (blk_below G12.out hb)
      have HV1' := Aside0.mk (Kd.R_below HV1.out hb)
      have HB1 := Aside0.mk (below_step HB.out hb)
      clear BA BB BR HB HS G3 G6 G12 HV1
      have BA := BA1; have BB := BB1; have BR := BR1; have HB := HB1; have G3 := G3'; have G6 := G6'; have G12 := G12'; have HV1 := HV1'
      clear BA1 BB1 BR1 HB1 G3' G6' G12' HV1'
      have HS := Aside0.mk (And.intro BA.cells.2.1 (And.intro BB.cells.2.1 (And.intro BA.cells.2.2.2 BB.cells.2.2.2)))
      clear hb
      refine HK.out _ _ (fun _ => HS.out) ?_
      clear HK K
      try simp only [Act.put, List.setIfInBounds_toArray, List.set_cons_zero, List.set_cons_succ]
      obtain ⟨hz0, hz1, hz2, hz3⟩ := BR.cells
      have hf0 := blk_frozen BR.out 0
      have hf1 := blk_frozen BR.out 1
      have hf2 := blk_frozen BR.out 2
      have hf3 := blk_frozen BR.out 3
      refine wpAnyP_take 14 (oi := _) (v := ?vx37) rfl (by kernel_rfl) (fun _ _ _ h => h) (by rfl) HS.out ?hyx37 ?restx37
      case hyx37 => intro w_ hSw; obtain ⟨hs1, hs2, hs3, hs4⟩ := hSw; first | (go_simp; done) | (go_simp; with_reducible rfl)
      try simp only [Act.put, List.setIfInBounds_toArray, List.set_cons_zero, List.set_cons_succ]
      refine wpAnyP_one 15 rfl (by kernel_rfl) (by rfl) (fun K hK => ?_)
      have HK := Aside0.mk hK
      clear hK
      go_simp
      refine HK.out _ _ (fun h_ => absurd h_ (by decide)) ?_
      clear HK K
      try simp only [Act.put, List.setIfInBounds_toArray, List.set_cons_zero, List.set_cons_succ]
      refine wpAnyP_done (by kernel_rfl) ?_ _
      clear HS hz0 hz1 hz2 hz3 hf0 hf1 hf2 hf3
      go_wp2
      refine bodyPost_ret (results_single rfl (.cell gr 25 #[.bool false, .slice E1 (l0_1.length + (l2_1.length + 1)) e1, .slice none 0 0, .slice E2 (l0_3.length + l2_3.length) e2] (0, 0) _ rfl (NBox.put4 BR).out Try.underlying25 rfl (by kernel_rfl) .nil)) rfl ?_
      have HL1 := HV1.out
      first | rw [show (l0_1 ++ ([a1] ++ l2_1)).length = l0_1.length + (l2_1.length + 1) by simp] at HL1 | simp only [List.length_append] at HL1
      have HL2 := HV2.out
      first | rw [show (l0_1 ++ ([a1] ++ l2_1)).length = l0_1.length + (l2_1.length + 1) by simp] at HL2 | simp only [List.length_append] at HL2
      exact ⟨_, _, _, rfl, R_toV (R_put4 HL1 BR (by decide)), Kd.V_nil _ _ _ _ _, R_toV (R_put4 HL2 BR (by decide)), below_put4 HB.out GR.out⟩
     ·skip
      have HK := Aside0.mk hK
      clear hK
      refine oper_make 2 (cs := #[.slice A0_3 l0_3.length c0_3, .slice A2_3 l2_3.length c2_3]) (t := 23) (by first | (go_simp; done) | (go_simp; rfl)) (fun g12 hg wx38 hbox hb => ?_)
      have BA1 := BA.below hb
      have BB1 := BB.below hb
      have BR1 := BR.below hb
      have G3' := Aside0.mk (blk_below G3.out hb)
      have G6' := Aside0.mk (blk_below G6.out hb)
      have HB1 := Aside0.mk (below_step HB.out hb)
      clear BA BB BR HB HS G3 G6
      have BA := BA1; have BB := BB1; have BR := BR1; have HB := HB1; have G3 := G3'; have G6 := G6'
      clear BA1 BB1 BR1 HB1 G3' G6'
      have HS := Aside0.mk (And.intro BA.cells.2.1 (And.intro BB.cells.2.1 (And.intro BA.cells.2.2.2 BB.cells.2.2.2)))
      have G12 := Aside0.mk hbox
      clear hbox hb hg
      refine HK.out _ _ (fun _ => HS.out) ?_
      clear HK K
      try simp only [Act.put, List.setIfInBounds_toArray, List.set_cons_zero, List.set_cons_succ]
      refine wpAnyP_one 7 rfl (by kernel_rfl) (by rfl) (fun K hK => ?_)
      have HK := Aside0.mk hK
      clear hK
      go_simp
      go_at_call 46
      refine (cat3s (l2 := [a1]) G6.out (Kd.C_below H1.out HB.out) hc0_1 (C_str1 G3.out) (Nat.le_refl 1) (Kd.C_below K1.out HB.out) hc2_1 n01 (by simp) n21).mono ?_
      rintro e wx39 ⟨E1, e1, rfl, ho, hb⟩
      have HV1 := Aside0.mk (Kd.R_lower ho (below_size HB.out))
      clear ho
      have BA1 := BA.below hb
      have BB1 := BB.below hb
      have BR1 := BR.below hb
      have G3' := Aside0.mk (blk_below G3.out hb)
      have G6' := Aside0.mk (blk_below G6.out hb)
      have G12' := Aside0.mk (blk_below G12.out hb)
      have HB1 := Aside0.mk (below_step HB.out hb)
      clear BA BB BR HB HS G3 G6 G12
      have BA := BA1; have BB := BB1; have BR := BR1; have HB := HB1; have G3 := G3'; have G6 := G6'; have G12 := G12'
      clear BA1 BB1 BR1 HB1 G3' G6' G12'
      have HS := Aside0.mk (And.intro BA.cells.2.1 (And.intro BB.cells.2.1 (And.intro BA.cells.2.2.2 BB.cells.2.2.2)))
      clear hb
      refine HK.out _ _ (fun _ => HS.out) ?_
      clear HK K
      try simp only [Act.put, List.setIfInBounds_toArray, List.set_cons_zero, List.set_cons_succ]
      refine wpAnyP_one 13 rfl (by kernel_rfl) (by rfl) (fun K hK => ?_)
      have HK := Aside0.mk hK
      clear hK
      go_simp
      go_at_call 47
      refine (cat2i G12.out (Kd.C_below H3.out HB.out) hc0_3 (Kd.C_below K3.out HB.out) hc2_3 n03 n23).mono ?_
      rintro e wx40 ⟨E2, e2, rfl, ho, hb⟩
      have HV2 := Aside0.mk (Kd.R_lower ho (below_size HB.out))
      clear ho
      have BA1 := BA.below hb
      have BB1 := BB.below hb
      have BR1 := BR.below hb
      have G3' := Aside0.mk (blk_below G3.out hb)
      have G6' := Aside0.mk (blk_below G6.out hb)
      have G12' := Aside0.mk (blk_below G12.out hb)
      have HV1' := Aside0.mk (Kd.R_below HV1.out hb)
      have HB1 := Aside0.mk (below_step HB.out hb)
      clear BA BB BR HB HS G3 G6 G12 HV1
      have BA := BA1; have BB := BB1; have BR := BR1; have HB := HB1; have G3 := G3'; have G6 := G6'; have G12 := G12'; have HV1 := HV1'
      clear BA1 BB1 BR1 HB1 G3' G6' G12' HV1'
      have HS := Aside0.mk (And.intro BA.cells.2.1 (And.intro BB.cells.2.1 (And.intro BA.cells.2.2.2 BB.cells.2.2.2)))
      clear hb
      refine HK.out _ _ (fun _ => HS.out) ?_
      clear HK K
      try simp only [Act.put, List.setIfInBounds_toArray, List.set_cons_zero, List.set_cons_succ]
      obtain ⟨hz0, hz1, hz2, hz3⟩ := BR.cells
      have hf0 := blk_frozen BR.out 0
      have hf1 := blk_frozen BR.out 1
      have hf2 := blk_frozen BR.out 2
      have hf3 := blk_frozen BR.out 3
      refine wpAnyP_take 14 (oi := _) (v := ?vx41) rfl (by kernel_rfl) (fun _ _ _ h => h) (by rfl) HS.out ?hyx41 ?restx41
      case hyx41 => intro w_ hSw; obtain ⟨hs1, hs2, hs3, hs4⟩ := hSw; first | (go_simp; done) | (go_simp; with_reducible rfl)
      try simp only [Act.put, List.setIfInBounds_toArray, List.set_cons_zero, List.set_cons_succ]
      refine wpAnyP_one 15 rfl (by kernel_rfl) (by rfl) (fun K hK => ?_)
      have HK := Aside0.mk hK
      clear hK
      go_simp
      refine HK.out _ _ (fun h_ => absurd h_ (by decide)) ?_
      clear HK K
      try simp only [Act.put, List.setIfInBounds_toArray, List.set_cons_zero, List.set_cons_succ]
      refine wpAnyP_done (by kernel_rfl) ?_ _
      clear HS hz0 hz1 hz2 hz3 hf0 hf1 hf2 hf3
      go_wp2
      refine bodyPost_ret (results_single rfl (.cell gr 25 #[.bool false, .slice E1 (l0_1.length + (l2_1.length + 1)) e1, .slice none 0 0, .slice E2 (l0_3.length + l2_3.length) e2] (0, 0) _ rfl (NBox.put4 BR).out Try.underlying25 rfl (by kernel_rfl) .nil)) rfl ?_
      have HL1 := HV1.out
      first | rw [show (l0_1 ++ ([a1] ++ l2_1)).length = l0_1.length + (l2_1.length + 1) by simp] at HL1 | simp only [List.length_append] at HL1
      have HL2 := HV2.out
      first | rw [show (l0_1 ++ ([a1] ++ l2_1)).length = l0_1.length + (l2_1.length + 1) by simp] at HL2 | simp only [List.length_append] at HL2
      exact ⟨_, _, _, rfl, R_toV (R_put4 HL1 BR (by decide)), Kd.V_nil _ _ _ _ _, R_toV (R_put4 HL2 BR (by decide)), below_put4 HB.out GR.out⟩
    ·skip
     have HK := Aside0.mk hK
     clear hK
     refine oper_make 2 (cs := #[.slice A0_3 l0_3.length c0_3, .slice A2_3 l2_3.length c2_3]) (t := 23) (by first | (go_simp; done) | (go_simp; rfl)) (fun g12 hg wx42 hbox hb => ?_)
     have BA1 := BA.below hb
     have BB1 := BB.below hb
     have BR1 := BR.below hb
     have G3' := Aside0.mk (blk_below G3.out hb)
     have HB1 := Aside0.mk (below_step HB.out hb)
     clear BA BB BR HB HS G3
     have BA := BA1; have BB := BB1; have BR := BR1; have HB := HB1; have G3 := G3'
     clear BA1 BB1 BR1 HB1 G3'
     have HS := Aside0.mk (And.intro BA.cells.2.1 (And.intro BB.cells.2.1 (And.intro BA.cells.2.2.2 BB.cells.2.2.2)))
     have G12 := Aside0.mk hbox
     clear hbox hb hg
     refine HK.out _ _ (fun _ => HS.out) ?_
     clear HK K
     try simp only [Act.put, List.setIfInBounds_toArray, List.set_cons_zero, List.set_cons_succ]
     refine wpAnyP_one 6 rfl (by kernel_rfl) (by rfl) (fun K hK => ?_)
     have HK := Aside0.mk hK
     clear hK
     refine oper_make 3 (cs := #[.slice A0_1 l0_1.length c0_1, .slice (some ⟨g3, 0, none⟩) 1 1, .slice A2_1 l2_1.length c2_1]) (t := 22) (by first | (go_simp; done) | (go_simp; rfl)) (fun g6 hg wx43 hbox hb => ?_)
     have BA1 := BA.below hb
     have BB1 := BB.below hb
     have BR1 := BR.below hb
     have G3' := Aside0.mk (blk_below G3.out hb)
     have G12' := Aside0.mk (blk_below G12.out hb)
     have HB1 := Aside0.mk (below_step HB.out hb)
     clear BA BB BR HB HS G3 G12
     have BA := BA1; have BB := BB1; have BR := BR1; have HB := HB1; have G3 := G3'; have G12 := G12'
     clear BA1 BB1 BR1 HB1 G3' G12'
     have HS := Aside0.mk (And.intro BA.cells.2.1 (And.intro BB.cells.2.1 (And.intro BA.cells.2.2.2 BB.cells.2.2.2)))
     have G6 := Aside0.mk hbox
     clear hbox hb hg
     refine HK.out _ _ (fun _ => HS.out) ?_
     clear HK K
     try simp only [Act.put, List.setIfInBounds_toArray, List.set_cons_zero, List.set_cons_succ]
     refine wpAnyP_one 7 rfl (by kernel_rfl) (by rfl) (fun K hK => ?_)
     have HK := Aside0.mk hK
     clear hK
     go_simp
     go_at_call 46
     refine (cat3s (l2 := [a1]) G6.out (Kd.C_below H1.out HB.out) hc0_1 (C_str1 G3.out) (Nat.le_refl 1) (Kd.C_below K1.out HB.out) hc2_1 n01 (by simp) n21).mono ?_
     rintro e wx44 ⟨E1, e1, rfl, ho, hb⟩
     have HV1 := Aside0.mk (Kd.R_lower ho (below_size HB.out))
     clear ho
     have BA1 := BA.below hb
     have BB1 := BB.below hb
     have BR1 := BR.below hb
     have G3' := Aside0.mk (blk_below G3.out hb)
     have G12' := Aside0.mk (blk_below G12.out hb)
     have G6' := Aside0.mk (blk_below G6.out hb)
     have HB1 := Aside0.mk (below_step HB.out hb)
     clear BA BB BR HB HS G3 G12 G6
     have BA := BA1; have BB := BB1; have BR := BR1; have HB := HB1; have G3 := G3'; have G12 := G12'; have G6 := G6'
     clear BA1 BB1 BR1 HB1 G3' G12' G6'
     have HS := Aside0.mk (And.intro BA.cells.2.1 (And.intro BB.cells.2.1 (And.intro BA.cells.2.2.2 BB.cells.2.2.2)))
     clear hb
     refine HK.out _ _ (fun _ => HS.out) ?_
     clear HK K
     try simp only [Act.put, List.setIfInBounds_toArray, List.set_cons_zero, List.set_cons_succ]
     refine wpAnyP_one 13 rfl (by kernel_rfl) (by rfl) (fun K hK => ?_)
     have HK := Aside0.mk hK
     clear hK
     go_simp
     go_at_call 47
     refine (cat2i G12.out (Kd.C_below H3.out HB.out) hc0_3 (Kd.C_below K3.out HB.out) hc2_3 n03 n23).mono ?_
     rintro e wx45 ⟨E2, e2, rfl, ho, hb⟩
     have HV2 := Aside0.mk (Kd.R_lower ho (below_size HB.out))
     clear ho
     have BA1 := BA.below hb
     have BB1 := BB.below hb
     have BR1 := BR.below hb
     have G3' := Aside0.mk (blk_below G3.out hb)
     have G12' := Aside0.mk (blk_below G12.out hb)
     have G6' := Aside0.mk (blk_below G6.out hb)
     have HV1' := Aside0.mk (Kd.R_below HV1.out hb)
     have HB1 := Aside0.mk (below_step HB.out hb)
     clear BA BB BR HB HS G3 G12 G6 HV1
     have BA := BA1; have BB := BB1; have BR := BR1; have HB := HB1; have G3 := G3'; have G12 := G12'; have G6 := G6'; have HV1 := HV1'
     clear BA1 BB1 BR1 HB1 G3' G12' G6' HV1'
     have HS := Aside0.mk (And.intro BA.cells.2.1 (And.intro BB.cells.2.1 (And.intro BA.cells.2.2.2 BB.cells.2.2.2)))
     clear hb
     refine HK.out _ _ (fun _ => HS.out) ?_
     clear HK K
     try simp only [Act.put, List.setIfInBounds_toArray, List.set_cons_zero, List.set_cons_succ]
     obtain ⟨hz0, hz1, hz2, hz3⟩ := BR.cells
     have hf0 := blk_frozen BR.out 0
     have hf1 := blk_frozen BR.out 1
     have hf2 := blk_frozen BR.out 2
     have hf3 := blk_frozen BR.out 3
     refine wpAnyP_take 14 (oi := _) (v := ?vx46) rfl (by kernel_rfl) (fun _ _ _ h => h) (by rfl) HS.out ?hyx46 ?restx46
     case hyx46 => intro w_ hSw; obtain ⟨hs1, hs2, hs3, hs4⟩ := hSw; first | (go_simp; done) | (go_simp; with_reducible rfl)
     try simp only [Act.put, List.setIfInBounds_toArray, List.set_cons_zero, List.set_cons_succ]
     refine wpAnyP_one 15 rfl (by kernel_rfl) (by rfl) (fun K hK => ?_)
     have HK := Aside0.mk hK
     clear hK
     go_simp
     refine HK.out _ _ (fun h_ => absurd h_ (by decide)) ?_
     clear HK K
     try simp only [Act.put, List.setIfInBounds_toArray, List.set_cons_zero, List.set_cons_succ]
     refine wpAnyP_done (by kernel_rfl) ?_ _
     clear HS hz0 hz1 hz2 hz3 hf0 hf1 hf2 hf3
     go_wp2
     refine bodyPost_ret (results_single rfl (.cell gr 25 #[.bool false, .slice E1 (l0_1.length + (l2_1.length + 1)) e1, .slice none 0 0, .slice E2 (l0_3.length + l2_3.length) e2] (0, 0) _ rfl (NBox.put4 BR).out Try.underlying25 rfl (by kernel_rfl) .nil)) rfl ?_
     have HL1 := HV1.out
     first | rw [show (l0_1 ++ ([a1] ++ l2_1)).length = l0_1.length + (l2_1.length + 1) by simp] at HL1 | simp only [List.length_append] at HL1
     have HL2 := HV2.out
     first | rw [show (l0_1 ++ ([a1] ++ l2_1)).length = l0_1.length + (l2_1.length + 1) by simp] at HL2 | simp only [List.length_append] at HL2
     exact ⟨_, _, _, rfl, R_toV (R_put4 HL1 BR (by decide)), Kd.V_nil _ _ _ _ _, R_toV (R_put4 HL2 BR (by decide)), below_put4 HB.out GR.out⟩
   ·skip
    have HK := Aside0.mk hK
    clear hK
    refine oper_make 2 (cs := #[.slice A0_3 l0_3.length c0_3, .slice A2_3 l2_3.length c2_3]) (t := 23) (by first | (go_simp; done) | (go_simp; rfl)) (fun g12 hg wx47 hbox hb => ?_)
    have BA1 := BA.below hb
    have BB1 := BB.below hb
    have BR1 := BR.below hb
    have HB1 := Aside0.mk (below_step HB.out hb)
    clear BA BB BR HB HS
    have BA := BA1; have BB := BB1; have BR := BR1; have HB := HB1
    clear BA1 BB1 BR1 HB1
    have HS := Aside0.mk (And.intro BA.cells.2.1 (And.intro BB.cells.2.1 (And.intro BA.cells.2.2.2 BB.cells.2.2.2)))
    have G12 := Aside0.mk hbox
    clear hbox hb hg
    refine HK.out _ _ (fun _ => HS.out) ?_
    clear HK K
    try simp only [Act.put, List.setIfInBounds_toArray, List.set_cons_zero, List.set_cons_succ]
    refine wpAnyP_one 3 rfl (by kernel_rfl) (by rfl) (fun K hK => ?_)
    have HK := Aside0.mk hK
    clear hK
    refine oper_make 1 (cs := #[.string a1]) (t := 9) (by first | (go_simp; done) | (go_simp; rfl)) (fun g3 hg wx48 hbox hb => ?_)
    have BA1 := BA.below hb
    have BB1 := BB.below hb
    have BR1 := BR.below hb
    have G12' := Aside0.mk (blk_below G12.out hb)
    have HB1 := Aside0.mk (below_step HB.out hb)
    clear BA BB BR HB HS G12
    have BA := BA1; have BB := BB1; have BR := BR1; have HB := HB1; have G12 := G12'
    clear BA1 BB1 BR1 HB1 G12'
    have HS := Aside0.mk (And.intro BA.cells.2.1 (And.intro BB.cells.2.1 (And.intro BA.cells.2.2.2 BB.cells.2.2.2)))
    have G3 := Aside0.mk hbox
    clear hbox hb hg
    refine HK.out _ _ (fun _ => HS.out) ?_
    clear HK K
    try simp only [Act.put, List.setIfInBounds_toArray, List.set_cons_zero, List.set_cons_succ]
    refine wpAnyP_one 6 rfl (by kernel_rfl) (by rfl) (fun K hK => ?_)
    have HK := Aside0.mk hK
    clear hK
    refine oper_make 3 (cs := #[.slice A0_1 l0_1.length c0_1, .slice (some ⟨g3, 0, none⟩) 1 1, .slice A2_1 l2_1.length c2_1]) (t := 22) (by first | (go_simp; done) | (go_simp; rfl)) (fun g6 hg wx49 hbox hb => ?_)
    have BA1 := BA.below hb
    have BB1 := BB.below hb
    have BR1 := BR.below hb
    have G12' := Aside0.mk (blk_below G12.out hb)
    have G3' := Aside0.mk (blk_below G3.out hb)
    have HB1 := Aside0.mk (below_step HB.out hb)
    clear BA BB BR HB HS G12 G3
    have BA := BA1; have BB := BB1; have BR := BR1; have HB := HB1; have G12 := G12'; have G3 := G3'
    clear BA1 BB1 BR1 HB1 G12' G3'
    have HS := Aside0.mk (And.intro BA.cells.2.1 (And.intro BB.cells.2.1 (And.intro BA.cells.2.2.2 BB.cells.2.2.2)))
    have G6 := Aside0.mk hbox
    clear hbox hb hg
    refine HK.out _ _ (fun _ => HS.out) ?_
    clear HK K
    try simp only [Act.put, List.setIfInBounds_toArray, List.set_cons_zero, List.set_cons_succ]
    refine wpAnyP_one 7 rfl (by kernel_rfl) (by rfl) (fun K hK => ?_)
    have HK := Aside0.mk hK
    clear hK
    go_simp
    go_at_call 46
    refine (cat3s (l2 := [a1]) G6.out (Kd.C_below H1.out HB.out) hc0_1 (C_str1 G3.out) (Nat.le_refl 1) (Kd.C_below K1.out HB.out) hc2_1 n01 (by simp) n21).mono ?_
    rintro e wx50 ⟨E1, e1, rfl, ho, hb⟩
    have HV1 := Aside0.mk (Kd.R_lower ho (below_size HB.out))
    clear ho
    have BA1 := BA.below hb
    have BB1 := BB.below hb
    have BR1 := BR.below hb
    have G12' := Aside0.mk (blk_below G12.out hb)
    have G3' := Aside0.mk (blk_below G3.out hb)
    have G6' := Aside0.mk (blk_below G6.out hb)
    have HB1 := Aside0.mk (below_step HB.out hb)
    clear BA BB BR HB HS G12 G3 G6
    have BA := BA1; have BB := BB1; have BR := BR1; have HB := HB1; have G12 := G12'; have G3 := G3'; have G6 := G6'
    clear BA1 BB1 BR1 HB1 G12' G3' G6'
    have HS := Aside0.mk (And.intro BA.cells.2.1 (And.intro BB.cells.2.1 (And.intro BA.cells.2.2.2 BB.cells.2.2.2)))
    clear hb
    refine HK.out _ _ (fun _ => HS.out) ?_
    clear HK K
    try simp only [Act.put, List.setIfInBounds_toArray, List.set_cons_zero, List.set_cons_succ]
    refine wpAnyP_one 13 rfl (by kernel_rfl) (by rfl) (fun K hK => ?_)
    have HK := Aside0.mk hK
    clear hK
    go_simp
    go_at_call 47
    refine (cat2i G12.out (Kd.C_below H3.out HB.out) hc0_3 (Kd.C_below K3.out HB.out) hc2_3 n03 n23).mono ?_
    rintro e wx51 ⟨E2, e2, rfl, ho, hb⟩
    have HV2 := Aside0.mk (Kd.R_lower ho (below_size HB.out))
    clear ho
    have BA1 := BA.below hb
    have BB1 := BB.below hb
    have BR1 := BR.below hb
    have G12' := Aside0.mk (blk_below G12.out hb)
    have G3' := Aside0.mk (blk_below G3.out hb)
    have G6' := Aside0.mk (blk_below G6.out hb)
    have HV1' := Aside0.mk (Kd.R_below HV1.out hb)
    have HB1 := Aside0.mk (below_step HB.out hb)
    clear BA BB BR HB HS G12 G3 G6 HV1
    have BA := BA1; have BB := BB1; have BR := BR1; have HB := HB1; have G12 := G12'; have G3 := G3'; have G6 := G6'; have HV1 := HV1'
    clear BA1 BB1 BR1 HB1 G12' G3' G6' HV1'
    have HS := Aside0.mk (And.intro BA.cells.2.1 (And.intro BB.cells.2.1 (And.intro BA.cells.2.2.2 BB.cells.2.2.2)))
    clear hb
    refine HK.out _ _ (fun _ => HS.out) ?_
    clear HK K
    try simp only [Act.put, List.setIfInBounds_toArray, List.set_cons_zero, List.set_cons_succ]
    obtain ⟨hz0, hz1, hz2, hz3⟩ := BR.cells
    have hf0 := blk_frozen BR.out 0
    have hf1 := blk_frozen BR.out 1
    have hf2 := blk_frozen BR.out 2
    have hf3 := blk_frozen BR.out 3
    refine wpAnyP_take 14 (oi := _) (v := ?vx52) rfl (by kernel_rfl) (fun _ _ _ h => h) (by rfl) HS.out ?hyx52 ?restx52
    case hyx52 => intro w_ hSw; obtain ⟨hs1, hs2, hs3, hs4⟩ := hSw; first | (go_simp; done) | (go_simp; with_reducible rfl)
    try simp only [Act.put, List.setIfInBounds_toArray, List.set_cons_zero, List.set_cons_succ]
    refine wpAnyP_one 15 rfl (by kernel_rfl) (by rfl) (fun K hK => ?_)
    have HK := Aside0.mk hK
    clear hK
    go_simp
    refine HK.out _ _ (fun h_ => absurd h_ (by decide)) ?_
    clear HK K
    try simp only [Act.put, List.setIfInBounds_toArray, List.set_cons_zero, List.set_cons_succ]
    refine wpAnyP_done (by kernel_rfl) ?_ _
    clear HS hz0 hz1 hz2 hz3 hf0 hf1 hf2 hf3
    go_wp2
    refine bodyPost_ret (results_single rfl (.cell gr 25 #[.bool false, .slice E1 (l0_1.length + (l2_1.length + 1)) e1, .slice none 0 0, .slice E2 (l0_3.length + l2_3.length) e2] (0, 0) _ rfl (NBox.put4 BR).out Try.underlying25 rfl (by kernel_rfl) .nil)) rfl ?_
    have HL1 := HV1.out
    first | rw [show (l0_1 ++ ([a1] ++ l2_1)).length = l0_1.length + (l2_1.length + 1) by simp] at HL1 | simp only [List.length_append] at HL1
    have HL2 := HV2.out
    first | rw [show (l0_1 ++ ([a1] ++ l2_1)).length = l0_1.length + (l2_1.length + 1) by simp] at HL2 | simp only [List.length_append] at HL2
    exact ⟨_, _, _, rfl, R_toV (R_put4 HL1 BR (by decide)), Kd.V_nil _ _ _ _ _, R_toV (R_put4 HL2 BR (by decide)), below_put4 HB.out GR.out⟩
 ·cases a0_0 with
  | true =>
   obtain rfl : a2_0 = false := by cases a2_0 <;> simp_all
   have HT := H.out
   rw [if_pos (by decide)] at HT
   simp only [Prod.mk.injEq] at HT
   obtain ⟨rfl, rfl, rfl, rfl⟩ := HT
   clear H
   go_wp2_with fail
   refine (node_cloned.calls true A0_1 c0_1 l0_1 A0_2 c0_2 l0_2 A0_3 c0_3 l0_3 true l0_1 l0_2 l0_3 w4 (Kd.C_below H1.out HB.out) hc0_1 (Kd.C_below H2.out HB.out) hc0_2 (Kd.C_below H3.out HB.out) hc0_3 (by unfold node_cloned.f; rw [if_pos ⟨n01, n02, n03⟩])).mono ?_
   rintro e w5 ⟨v1, v2, v3, rfl, ho1, ho2, ho3, hb⟩
   obtain ⟨B1, d1, e1⟩ := Kd.V_slice ho1
   obtain ⟨B2, d2, e2⟩ := Kd.V_slice ho2
   obtain ⟨B3, d3, e3⟩ := Kd.V_slice ho3
   subst e1 e2 e3
   have NW : Aside0 (w.heap.size ≤ w4.heap.size ∧ gr < w4.heap.size) := ⟨below_size HB.out, blk_lt BR.out⟩
   have HV1 := Aside0.mk ho1
   have HV2 := Aside0.mk ho2
   have HV3 := Aside0.mk ho3
   have BR5 := BR.below hb
   have HB5 := Aside0.mk (below_step HB.out hb)
   clear ho1 ho2 ho3 hb hx0 hx1 hx2 hx3 hy0 hy1 hy2 hy3 hz0 hz1 hz2 hz3 BA BB BR HB
   obtain ⟨hz0, hz1, hz2, hz3⟩ := BR5.cells
   have hf0 := blk_frozen BR5.out 0
   have hf1 := blk_frozen BR5.out 1
   have hf2 := blk_frozen BR5.out 2
   have hf3 := blk_frozen BR5.out 3
   go_wp2
   refine bodyPost_ret (results_single rfl (.cell gr 25 #[.bool true, .slice B1 l0_1.length d1, .slice B2 l0_2.length d2, .slice B3 l0_3.length d3] (0, 0) _ rfl (NBox.put4 BR5).out Try.underlying25 rfl (by kernel_rfl) .nil)) rfl ?_
   have kr : ∀ k, w4.heap.size ≤ k → k ≠ gr := fun k hk => by have := NW.out; omega
   have kw : ∀ k, w4.heap.size ≤ k → w.heap.size ≤ k := fun k hk => by have := NW.out; omega
   exact ⟨_, _, _, rfl, Kd.V_mono (V_put4 HV1.out kr) kw, Kd.V_mono (V_put4 HV2.out kr) kw, Kd.V_mono (V_put4 HV3.out kr) kw, below_put4 HB5.out GR.out⟩
  | false =>
   obtain rfl : a2_0 = true := by cases a2_0 <;> simp_all
   have HT := H.out
   rw [if_pos (by decide)] at HT
   simp only [Prod.mk.injEq] at HT
   obtain ⟨rfl, rfl, rfl, rfl⟩ := HT
   clear H
   go_wp2_with fail
   refine (node_cloned.calls false A0_1 c0_1 l0_1 A0_2 c0_2 l0_2 A0_3 c0_3 l0_3 false l0_1 l0_2 l0_3 w4 (Kd.C_below H1.out HB.out) hc0_1 (Kd.C_below H2.out HB.out) hc0_2 (Kd.C_below H3.out HB.out) hc0_3 (by unfold node_cloned.f; rw [if_pos ⟨n01, n02, n03⟩])).mono ?_
   rintro e w5 ⟨v1, v2, v3, rfl, ho1, ho2, ho3, hb⟩
   obtain ⟨B1, d1, e1⟩ := Kd.V_slice ho1
   obtain ⟨B2, d2, e2⟩ := Kd.V_slice ho2
   obtain ⟨B3, d3, e3⟩ := Kd.V_slice ho3
   subst e1 e2 e3
   have NW : Aside0 (w.heap.size ≤ w4.heap.size ∧ gr < w4.heap.size) := ⟨below_size HB.out, blk_lt BR.out⟩
   have HV1 := Aside0.mk ho1
   have HV2 := Aside0.mk ho2
   have HV3 := Aside0.mk ho3
   have BR5 := BR.below hb
   have HB5 := Aside0.mk (below_step HB.out hb)
   clear ho1 ho2 ho3 hb hx0 hx1 hx2 hx3 hy0 hy1 hy2 hy3 hz0 hz1 hz2 hz3 BA BB BR HB
   obtain ⟨hz0, hz1, hz2, hz3⟩ := BR5.cells
   have hf0 := blk_frozen BR5.out 0
   have hf1 := blk_frozen BR5.out 1
   have hf2 := blk_frozen BR5.out 2
   have hf3 := blk_frozen BR5.out 3
   go_wp2
   refine bodyPost_ret (results_single rfl (.cell gr 25 #[.bool false, .slice B1 l0_1.length d1, .slice B2 l0_2.length d2, .slice B3 l0_3.length d3] (0, 0) _ rfl (NBox.put4 BR5).out Try.underlying25 rfl (by kernel_rfl) .nil)) rfl ?_
   have kr : ∀ k, w4.heap.size ≤ k → k ≠ gr := fun k hk => by have := NW.out; omega
   have kw : ∀ k, w4.heap.size ≤ k → w.heap.size ≤ k := fun k hk => by have := NW.out; omega
   exact ⟨_, _, _, rfl, Kd.V_mono (V_put4 HV1.out kr) kw, Kd.V_mono (V_put4 HV2.out kr) kw, Kd.V_mono (V_put4 HV3.out kr) kw, below_put4 HB5.out GR.out⟩

end Go.Proofs.Ytpdlbebiapimoaa.PN
