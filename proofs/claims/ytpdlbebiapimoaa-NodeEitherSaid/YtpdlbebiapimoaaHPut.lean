/- node.Put -/
import Derived.Test.YtpdlbebiapimoaaHRegion2
import Derived.Test.YtpdlbebiapimoaaHLaid
import Derived.Test.YtpdlbebiapimoaaHClone
import Derived.Test.YtpdlbebiapimoaaHFind
import Derived.Test.YtpdlbebiapimoaaPurePl
import Derived.Test.YtpdlbebiapimoaaHJoin0
namespace Go.Proofs.Ytpdlbebiapimoaa.PN
open Go.RowKit Go.Proofs.YtpdlbebiapimoaaW.PrintWords Go.Proofs.YtpdlbebiapimoaaW.PrintLast Go.Proofs.YtpdlbebiapimoaaW.PrintMore
set_option linter.unusedVariables false
set_option linter.unusedSimpArgs false
theorem laid1 {W : World} (A : Option Addr) (c : Nat) (l : List ByteArray) (q p : Nat) (key : ByteArray) {g t : Nat} (h : Kd.string.C W A l.length l) (hc : l.length ≤ c) (hb : W.heap[g]? = some (.cells #[.string key] t (0, 0))) (hq : q ≤ l.length) (hp : p ≤ l.length) (hl : l.length ≤ 100000) :
    Calls Try.prog 48 #[.slice A l.length c, .int .i64 q, .int .i64 p, .slice (some ⟨g, 0, none⟩) 1 1] W fun e W' => ∃ E n e1, e = .returned (.slice E n e1) ∧ Kd.R Kd.string 9 W' W.heap.size (fun _ => True) (.slice E n e1) (l.take q ++ [key] ++ l.drop p) ∧ Below W.heap.size W W' := by
  refine (node_laid_string.calls A c l q p (some ⟨g, 0, none⟩) 1 [key] (l.take q ++ [key] ++ l.drop p) W h hc (C_str1 hb) (Nat.le_refl 1) ?_).mono ?_
  · unfold node_laid_string.f
    rw [if_pos ⟨hl, by simp, by omega, by omega, by omega, by omega⟩]
    simp
  · rintro e W' ⟨v, rfl, ho, hb⟩
    obtain ⟨E, e1, rfl⟩ := Kd.R_slice ho
    exact ⟨E, _, e1, rfl, ho, hb⟩
set_option maxHeartbeats 8000000 in
set_option maxRecDepth 100000 in
theorem node_Put.calls (a0_0 : Bool) (A0_1 : Option Addr) (c0_1 : Nat) (l0_1 : List ByteArray) (A0_2 : Option Addr) (c0_2 : Nat) (l0_2 : List ByteArray) (A0_3 : Option Addr) (c0_3 : Nat) (l0_3 : List Int) (a1 : ByteArray) (a2 : ByteArray) (r1 : Bool) (r2 : List ByteArray) (r3 : List ByteArray) (r4 : List Int) (w : World) (hr0_1 : Kd.C Kd.string w A0_1 l0_1.length l0_1) (hc0_1 : l0_1.length ≤ c0_1) (hr0_2 : Kd.C Kd.string w A0_2 l0_2.length l0_2) (hc0_2 : l0_2.length ≤ c0_2) (hr0_3 : Kd.C (Kd.int .i64) w A0_3 l0_3.length l0_3) (hc0_3 : l0_3.length ≤ c0_3) (h : node_Put.f a0_0 l0_1 l0_2 l0_3 a1 a2 = some (r1, r2, r3, r4)) :
    Calls Try.prog 29 #[.agg #[.bool a0_0, .slice A0_1 l0_1.length c0_1, .slice A0_2 l0_2.length c0_2, .slice A0_3 l0_3.length c0_3], .string a1, .string a2] w fun e w' => ∃ v1_ v2_ v3_ : Value, e = .returned (.agg #[.bool r1, v1_, v2_, v3_]) ∧ Kd.V Kd.string 9 w' w.heap.size (fun k_ => (w.heap.size ≤ k_)) v1_ r2 ∧ Kd.V Kd.string 9 w' w.heap.size (fun k_ => (w.heap.size ≤ k_)) v2_ r3 ∧ Kd.V (Kd.int .i64) 3 w' w.heap.size (fun k_ => (w.heap.size ≤ k_)) v3_ r4 ∧ Below w.heap.size w w' := by
  unfold node_Put.f at h
  split at h
  case isFalse => cases h
  rename_i hsz
  obtain ⟨hl1, hl2, hl3⟩ := hsz
  have H := Aside0.mk h
  clear h
  have H1 := Aside0.mk hr0_1
  have H2 := Aside0.mk hr0_2
  have H3 := Aside0.mk hr0_3
  clear hr0_1 hr0_2 hr0_3
  have hu25 := Try.underlying25
  go_enter Try.func29, Try.ntmps29
  go_upto_region 1 with (first | ((with_reducible refine gate_dst (N := 3) rfl ?_); refine box_event ?hg (N := 3) ?hd (cs := #[.bool a0_0, .slice A0_1 l0_1.length c0_1, .slice A0_2 l0_2.length c0_2, .slice A0_3 l0_3.length c0_3]) (t := 25) ?hr ?_; (case hd => rfl); (case hg => rfl); (case hr => first | (go_simp; done) | (go_simp; rfl)); intro ga hg w2 hbox hb; have HB := Aside0.mk hb; have BA := NBox.mk hbox; clear hg hbox hb) | ((with_reducible refine gate_dst (N := 6) rfl ?_); refine box_event ?hg (N := 6) ?hd (cs := #[.bool false, .slice none 0 0, .slice none 0 0, .slice none 0 0]) (t := 25) ?hr ?_; (case hd => rfl); (case hg => rfl); (case hr => first | (go_simp; done) | (go_simp; rfl)); intro gr hg w4 hbox hb; have NE := Aside0.mk (show ga < gr by have := blk_lt BA.out; omega); replace BA := BA.below hb; have GR := Aside0.mk (Nat.le_trans (below_size HB.out) (Nat.le_of_eq hg.symm)); replace HB := Aside0.mk (below_step HB.out hb); have BR := NBox.mk hbox; clear hg hbox hb))
  obtain ⟨hx0, hx1, hx2, hx3⟩ := BA.cells
  cases a0_0 with
  | false =>
    have HT := H.out
    rw [if_neg (by decide)] at HT
    simp only [Option.some.injEq, Prod.mk.injEq] at HT
    obtain ⟨rfl, rfl, rfl, rfl⟩ := HT
    clear H
    go_wp2_with fail
    refine (node_cloned.calls false A0_1 c0_1 l0_1 A0_2 c0_2 l0_2 A0_3 c0_3 l0_3 false l0_1 l0_2 l0_3 w4 (Kd.C_below H1.out HB.out) hc0_1 (Kd.C_below H2.out HB.out) hc0_2 (Kd.C_below H3.out HB.out) hc0_3 (by unfold node_cloned.f; rw [if_pos ⟨hl1, hl2, hl3⟩])).mono ?_
    rintro e w5 ⟨v1, v2, v3, rfl, ho1, ho2, ho3, hb⟩
    obtain ⟨B1, d1, e1⟩ := Kd.V_slice ho1
    obtain ⟨B2, d2, e2⟩ := Kd.V_slice ho2
    obtain ⟨B3, d3, e3⟩ := Kd.V_slice ho3
    subst e1 e2 e3
    have NW : Aside0 (w.heap.size ≤ w4.heap.size ∧ gr < w4.heap.size) := ⟨below_size HB.out, blk_lt BR.out⟩
    have HV1 := Aside0.mk ho1
    have HV2 := Aside0.mk ho2
    have HV3 := Aside0.mk ho3
    have BR5 := BR.below hb
    have HB5 := Aside0.mk (below_step HB.out hb)
    clear ho1 ho2 ho3 hb hx0 hx1 hx2 hx3 BA BR HB
    obtain ⟨hz0, hz1, hz2, hz3⟩ := BR5.cells
    have hf0 := blk_frozen BR5.out 0
    have hf1 := blk_frozen BR5.out 1
    have hf2 := blk_frozen BR5.out 2
    have hf3 := blk_frozen BR5.out 3
    go_wp2
    refine bodyPost_ret (results_single rfl (.cell gr 25 #[.bool false, .slice B1 l0_1.length d1, .slice B2 l0_2.length d2, .slice B3 l0_3.length d3] (0, 0) _ rfl (NBox.put4 BR5).out Try.underlying25 rfl (by kernel_rfl) .nil)) rfl ?_
    have kr : ∀ k, w4.heap.size ≤ k → k ≠ gr := fun k hk => by have := NW.out; omega
    have kw : ∀ k, w4.heap.size ≤ k → w.heap.size ≤ k := fun k hk => by have := NW.out; omega
    exact ⟨_, _, _, rfl, Kd.V_mono (V_put4 HV1.out kr) kw, Kd.V_mono (V_put4 HV2.out kr) kw, Kd.V_mono (V_put4 HV3.out kr) kw, below_put4 HB5.out GR.out⟩
  | true =>
    have HT := H.out
    rw [if_pos rfl] at HT
    split at HT
    case isFalse => cases HT
    rename_i hrl
    simp only [Option.some.injEq, Prod.mk.injEq] at HT
    have HE1 := Aside0.mk HT.2.1
    have HE2 := Aside0.mk HT.2.2.1
    obtain ⟨rfl, _, _, rfl⟩ := HT
    clear H
    have hfi := find_eq true l0_1 l0_2 l0_3 a1 hrl.1 hl1
    rw [show (if (isin l0_1 a1 && !true) = true then (below l0_1 a1 : Int) + 1 else (below l0_1 a1 : Int)) = (below l0_1 a1 : Int) by simp] at hfi
    have HFI := Aside0.mk hfi
    have HL2 := Aside0.mk hrl.2
    have HLT := Aside0.mk (isin_lt hrl.1 a1)
    have hql := below_le l0_1 a1
    clear hfi hrl
    obtain ⟨q, hqd⟩ : ∃ q, q = below l0_1 a1 := ⟨_, rfl⟩
    rw [← hqd] at HFI HE1 HE2 HLT hql
    clear hqd
    go_wp2_with fail
    refine (node_Find.calls true A0_1 c0_1 l0_1 A0_2 c0_2 l0_2 A0_3 c0_3 l0_3 a1 q (isin l0_1 a1) w4 (Kd.C_below H1.out HB.out) hc0_1 (Kd.C_below H2.out HB.out) hc0_2 (Kd.C_below H3.out HB.out) hc0_3 HFI.out).mono ?_
    rintro e w5 ⟨rfl, hb⟩
    replace BA := BA.below hb
    replace BR := BR.below hb
    replace HB := Aside0.mk (below_step HB.out hb)
    clear hb hx0 hx1 hx2 hx3
    obtain ⟨hx0, hx1, hx2, hx3⟩ := BA.cells
    obtain ⟨hz0, hz1, hz2, hz3⟩ := BR.cells
    have er1 : gr ≠ ga := by have := NE.out; omega
    have er1' := Ne.symm er1
    cases hi : isin l0_1 a1 with
    | true =>
      have hqlt := HLT.out hi
      rw [hi] at HE1 HE2
      have HI := Aside0.mk hi
      clear hi
      obtain ⟨p, hp⟩ : ∃ p, p = q + 1 := ⟨_, rfl⟩
      have hw1 : IntKind.i64.wrap ((q : Int) + 1) = (p : Int) := by rw [i64_w]; unfold Go.RowKit.wrap64; omega
      rw [if_pos rfl, ← hp] at HE1 HE2
      have hq1 : q ≤ l0_1.length := hql
      have hp1 : p ≤ l0_1.length := by omega
      have hq2 : q ≤ l0_2.length := by have := HL2.out; omega
      have hp2 : p ≤ l0_2.length := by have := HL2.out; omega
      obtain rfl := HE1.out
      obtain rfl := HE2.out
      clear HE1 HE2 hp
      go_upto_region 7 with (fail)
      have BB := BA
      have BA1 : NBox w5.drew ga _ _ _ _ _ _ _ _ _ _ := ⟨blk_drew BA.out⟩
      have BB1 : NBox w5.drew ga _ _ _ _ _ _ _ _ _ _ := ⟨blk_drew BB.out⟩
      have BR1 : NBox w5.drew gr _ _ _ _ _ _ _ _ _ _ := ⟨blk_drew BR.out⟩
      have HB1 := Aside0.mk (below_drew1 HB.out)
      clear BA BB BR HB hx0 hx1 hx2 hx3 hz0 hz1 hz2 hz3
      have BA := BA1; have BB := BB1; have BR := BR1; have HB := HB1
      clear BA1 BB1 BR1 HB1
      have HS := Aside0.mk (And.intro BA.cells.2.1 (And.intro BB.cells.2.1 (And.intro BA.cells.2.2.1 BB.cells.2.2.1)))
      refine wp_region_P (fun w' => w'.cell? ⟨ga, 1, none⟩ = some (.slice A0_1 l0_1.length c0_1) ∧ w'.cell? ⟨ga, 1, none⟩ = some (.slice A0_1 l0_1.length c0_1) ∧ w'.cell? ⟨ga, 2, none⟩ = some (.slice A0_2 l0_2.length c0_2) ∧ w'.cell? ⟨ga, 2, none⟩ = some (.slice A0_2 l0_2.length c0_2)) 15 (by kernel_rfl) ?_
      generalize w5.drew = w6 at *
      refine wpAnyP_take 0 (oi := _) (v := ?vx1) rfl (by kernel_rfl) (fun _ _ _ h => h) (by rfl) HS.out ?hyx1 ?restx1
      case hyx1 => intro w_ hSw; obtain ⟨hs1, hs2, hs3, hs4⟩ := hSw; first | (go_simp; done) | (go_simp; with_reducible rfl)
      try simp only [Act.put, List.setIfInBounds_toArray, List.set_cons_zero, List.set_cons_succ]
      refine wpAnyP_take 1 (oi := _) (v := ?vx2) rfl (by kernel_rfl) (fun _ _ _ h => h) (by rfl) HS.out ?hyx2 ?restx2
      case hyx2 => intro w_ hSw; obtain ⟨hs1, hs2, hs3, hs4⟩ := hSw; first | (go_simp; done) | (go_simp; with_reducible rfl)
      try simp only [Act.put, List.setIfInBounds_toArray, List.set_cons_zero, List.set_cons_succ]
      refine wpAnyP_take 2 (oi := _) (v := ?vx3) rfl (by kernel_rfl) (fun _ _ _ h => h) (by rfl) HS.out ?hyx3 ?restx3
      case hyx3 => intro w_ hSw; obtain ⟨hs1, hs2, hs3, hs4⟩ := hSw; first | (go_simp; done) | (go_simp; with_reducible rfl)
      try simp only [Act.put, List.setIfInBounds_toArray, List.set_cons_zero, List.set_cons_succ]
      refine wpAnyP_take 3 (oi := _) (v := ?vx4) rfl (by kernel_rfl) (fun _ _ _ h => h) (by rfl) HS.out ?hyx4 ?restx4
      case hyx4 => intro w_ hSw; obtain ⟨hs1, hs2, hs3, hs4⟩ := hSw; first | (go_simp; done) | (go_simp; with_reducible rfl)
      try simp only [Act.put, List.setIfInBounds_toArray, List.set_cons_zero, List.set_cons_succ]
      refine wpAnyP_take 4 (oi := _) (v := ?vx5) rfl (by kernel_rfl) (fun _ _ _ h => h) (by rfl) HS.out ?hyx5 ?restx5
      case hyx5 => intro w_ hSw; obtain ⟨hs1, hs2, hs3, hs4⟩ := hSw; first | (go_simp; done) | (go_simp; with_reducible rfl)
      try simp only [Act.put, List.setIfInBounds_toArray, List.set_cons_zero, List.set_cons_succ]
      refine wpAnyP_take 7 (oi := _) (v := ?vx6) rfl (by kernel_rfl) (fun _ _ _ h => h) (by rfl) HS.out ?hyx6 ?restx6
      case hyx6 => intro w_ hSw; obtain ⟨hs1, hs2, hs3, hs4⟩ := hSw; first | (go_simp; done) | (go_simp; with_reducible rfl)
      try simp only [Act.put, List.setIfInBounds_toArray, List.set_cons_zero, List.set_cons_succ]
      refine wpAnyP_take 8 (oi := _) (v := ?vx7) rfl (by kernel_rfl) (fun _ _ _ h => h) (by rfl) HS.out ?hyx7 ?restx7
      case hyx7 => intro w_ hSw; obtain ⟨hs1, hs2, hs3, hs4⟩ := hSw; first | (go_simp; done) | (go_simp; with_reducible rfl)
      try simp only [Act.put, List.setIfInBounds_toArray, List.set_cons_zero, List.set_cons_succ]
      refine wpAnyP_take 9 (oi := _) (v := ?vx8) rfl (by kernel_rfl) (fun _ _ _ h => h) (by rfl) HS.out ?hyx8 ?restx8
      case hyx8 => intro w_ hSw; obtain ⟨hs1, hs2, hs3, hs4⟩ := hSw; first | (go_simp; done) | (go_simp; with_reducible rfl)
      try simp only [Act.put, List.setIfInBounds_toArray, List.set_cons_zero, List.set_cons_succ]
      refine wpAnyP_take 10 (oi := _) (v := ?vx9) rfl (by kernel_rfl) (fun _ _ _ h => h) (by rfl) HS.out ?hyx9 ?restx9
      case hyx9 => intro w_ hSw; obtain ⟨hs1, hs2, hs3, hs4⟩ := hSw; first | (go_simp; done) | (go_simp; with_reducible rfl)
      try simp only [Act.put, List.setIfInBounds_toArray, List.set_cons_zero, List.set_cons_succ]
      refine wpAnyP_take 11 (oi := _) (v := ?vx10) rfl (by kernel_rfl) (fun _ _ _ h => h) (by rfl) HS.out ?hyx10 ?restx10
      case hyx10 => intro w_ hSw; obtain ⟨hs1, hs2, hs3, hs4⟩ := hSw; first | (go_simp; done) | (go_simp; with_reducible rfl)
      try simp only [Act.put, List.setIfInBounds_toArray, List.set_cons_zero, List.set_cons_succ]
      refine wpAnyP_two 5 12 rfl rfl (by kernel_rfl) (by rfl) (by rfl) (fun K hK => ?_) (fun K hK => ?_)
      · skip
        have HK := Aside0.mk hK
        clear hK
        refine oper_make 1 (cs := #[.string a1]) (t := 9) (by first | (go_simp; done) | (go_simp; rfl)) (fun g5 hg wx11 hbox hb => ?_)
        have BA1 := BA.below hb
        have BB1 := BB.below hb
        have BR1 := BR.below hb
        have HB1 := Aside0.mk (below_step HB.out hb)
        clear BA BB BR HB HS
        have BA := BA1; have BB := BB1; have BR := BR1; have HB := HB1
        clear BA1 BB1 BR1 HB1
        have HS := Aside0.mk (And.intro BA.cells.2.1 (And.intro BB.cells.2.1 (And.intro BA.cells.2.2.1 BB.cells.2.2.1)))
        have G5 := Aside0.mk hbox
        clear hbox hb hg
        refine HK.out _ _ (fun _ => HS.out) ?_
        clear HK K
        try simp only [Act.put, List.setIfInBounds_toArray, List.set_cons_zero, List.set_cons_succ]
        refine wpAnyP_two 6 12 rfl rfl (by kernel_rfl) (by rfl) (by rfl) (fun K hK => ?_) (fun K hK => ?_)
        · skip
          have HK := Aside0.mk hK
          clear hK
          go_simp
          go_at_call 48
          refine (laid1 A0_1 c0_1 l0_1 q p a1 (Kd.C_below H1.out HB.out) hc0_1 G5.out hq1 hp1 hl1).mono ?_
          rintro e wx12 ⟨E1, n1, e1, rfl, ho, hb⟩
          have HV1 := Aside0.mk (Kd.R_lower ho (below_size HB.out))
          clear ho
          have BA1 := BA.below hb
          have BB1 := BB.below hb
          have BR1 := BR.below hb
          have G5' := Aside0.mk (blk_below G5.out hb)
          have HB1 := Aside0.mk (below_step HB.out hb)
          clear BA BB BR HB HS G5
          have BA := BA1; have BB := BB1; have BR := BR1; have HB := HB1; have G5 := G5'
          clear BA1 BB1 BR1 HB1 G5'
          have HS := Aside0.mk (And.intro BA.cells.2.1 (And.intro BB.cells.2.1 (And.intro BA.cells.2.2.1 BB.cells.2.2.1)))
          clear hb
          refine HK.out _ _ (fun _ => HS.out) ?_
          clear HK K
          try simp only [Act.put, List.setIfInBounds_toArray, List.set_cons_zero, List.set_cons_succ]
          refine wpAnyP_one 12 rfl (by kernel_rfl) (by rfl) (fun K hK => ?_)
          have HK := Aside0.mk hK
          clear hK
          refine oper_make 1 (cs := #[.string a2]) (t := 9) (by first | (go_simp; done) | (go_simp; rfl)) (fun g12 hg wx13 hbox hb => ?_)
          have BA1 := BA.below hb
          have BB1 := BB.below hb
          have BR1 := BR.below hb
          have G5' := Aside0.mk (blk_below G5.out hb)
          have HV1' := Aside0.mk (Kd.R_below HV1.out hb)
          have HB1 := Aside0.mk (below_step HB.out hb)
          clear BA BB BR HB HS G5 HV1
          have BA := BA1; have BB := BB1; have BR := BR1; have HB := HB1; have G5 := G5'; have HV1 := HV1'
          clear BA1 BB1 BR1 HB1 G5' HV1'
          have HS := Aside0.mk (And.intro BA.cells.2.1 (And.intro BB.cells.2.1 (And.intro BA.cells.2.2.1 BB.cells.2.2.1)))
          have G12 := Aside0.mk hbox
          clear hbox hb hg
          refine HK.out _ _ (fun _ => HS.out) ?_
          clear HK K
          try simp only [Act.put, List.setIfInBounds_toArray, List.set_cons_zero, List.set_cons_succ]
          refine wpAnyP_one 13 rfl (by kernel_rfl) (by rfl) (fun K hK => ?_)
          have HK := Aside0.mk hK
          clear hK
          go_simp
          go_at_call 48
          refine (laid1 A0_2 c0_2 l0_2 q p a2 (Kd.C_below H2.out HB.out) hc0_2 G12.out hq2 hp2 hl2).mono ?_
          rintro e wx14 ⟨E2, n2, e2, rfl, ho, hb⟩
          have HV2 := Aside0.mk (Kd.R_lower ho (below_size HB.out))
          clear ho
          have BA1 := BA.below hb
          have BB1 := BB.below hb
          have BR1 := BR.below hb
          have G5' := Aside0.mk (blk_below G5.out hb)
          have G12' := Aside0.mk (blk_below G12.out hb)
          have HV1' := Aside0.mk (Kd.R_below HV1.out hb)
          have HB1 := Aside0.mk (below_step HB.out hb)
          clear BA BB BR HB HS G5 G12 HV1
          have BA := BA1; have BB := BB1; have BR := BR1; have HB := HB1; have G5 := G5'; have G12 := G12'; have HV1 := HV1'
          clear BA1 BB1 BR1 HB1 G5' G12' HV1'
          have HS := Aside0.mk (And.intro BA.cells.2.1 (And.intro BB.cells.2.1 (And.intro BA.cells.2.2.1 BB.cells.2.2.1)))
          clear hb
          refine HK.out _ _ (fun _ => HS.out) ?_
          clear HK K
          try simp only [Act.put, List.setIfInBounds_toArray, List.set_cons_zero, List.set_cons_succ]
          obtain ⟨hz0, hz1, hz2, hz3⟩ := BR.cells
          have hf0 := blk_frozen BR.out 0
          have hf1 := blk_frozen BR.out 1
          have hf2 := blk_frozen BR.out 2
          have hf3 := blk_frozen BR.out 3
          refine wpAnyP_take 14 (oi := _) (v := ?vx15) rfl (by kernel_rfl) (fun _ _ _ h => h) (by rfl) HS.out ?hyx15 ?restx15
          case hyx15 => intro w_ hSw; obtain ⟨hs1, hs2, hs3, hs4⟩ := hSw; first | (go_simp; done) | (go_simp; with_reducible rfl)
          try simp only [Act.put, List.setIfInBounds_toArray, List.set_cons_zero, List.set_cons_succ]
          refine wpAnyP_one 15 rfl (by kernel_rfl) (by rfl) (fun K hK => ?_)
          have HK := Aside0.mk hK
          clear hK
          go_simp
          refine HK.out _ _ (fun h_ => absurd h_ (by decide)) ?_
          clear HK K
          try simp only [Act.put, List.setIfInBounds_toArray, List.set_cons_zero, List.set_cons_succ]
          refine wpAnyP_done (by kernel_rfl) ?_ _
          clear HS hz0 hz1 hz2 hz3 hf0 hf1 hf2 hf3
          go_wp2
          refine bodyPost_ret (results_single rfl (.cell gr 25 #[.bool true, .slice E1 n1 e1, .slice E2 n2 e2, .slice none 0 0] (0, 0) _ rfl (NBox.put4 BR).out Try.underlying25 rfl (by kernel_rfl) .nil)) rfl ?_
          have HL1 := HV1.out
          have HL2 := HV2.out
          exact ⟨_, _, _, rfl, R_toV (R_put4 HL1 BR (by decide)), R_toV (R_put4 HL2 BR (by decide)), Kd.V_nil _ _ _ _ _, below_put4 HB.out GR.out⟩
        · skip
          have HK := Aside0.mk hK
          clear hK
          refine oper_make 1 (cs := #[.string a2]) (t := 9) (by first | (go_simp; done) | (go_simp; rfl)) (fun g12 hg wx16 hbox hb => ?_)
          have BA1 := BA.below hb
          have BB1 := BB.below hb
          have BR1 := BR.below hb
          have G5' := Aside0.mk (blk_below G5.out hb)
          have HB1 := Aside0.mk (below_step HB.out hb)
          clear BA BB BR HB HS G5
          have BA := BA1; have BB := BB1; have BR := BR1; have HB := HB1; have G5 := G5'
          clear BA1 BB1 BR1 HB1 G5'
          have HS := Aside0.mk (And.intro BA.cells.2.1 (And.intro BB.cells.2.1 (And.intro BA.cells.2.2.1 BB.cells.2.2.1)))
          have G12 := Aside0.mk hbox
          clear hbox hb hg
          refine HK.out _ _ (fun _ => HS.out) ?_
          clear HK K
          try simp only [Act.put, List.setIfInBounds_toArray, List.set_cons_zero, List.set_cons_succ]
          refine wpAnyP_one 6 rfl (by kernel_rfl) (by rfl) (fun K hK => ?_)
          have HK := Aside0.mk hK
          clear hK
          go_simp
          go_at_call 48
          refine (laid1 A0_1 c0_1 l0_1 q p a1 (Kd.C_below H1.out HB.out) hc0_1 G5.out hq1 hp1 hl1).mono ?_
          rintro e wx17 ⟨E1, n1, e1, rfl, ho, hb⟩
          have HV1 := Aside0.mk (Kd.R_lower ho (below_size HB.out))
          clear ho
          have BA1 := BA.below hb
          have BB1 := BB.below hb
          have BR1 := BR.below hb
          have G5' := Aside0.mk (blk_below G5.out hb)
          have G12' := Aside0.mk (blk_below G12.out hb)
          have HB1 := Aside0.mk (below_step HB.out hb)
          clear BA BB BR HB HS G5 G12
          have BA := BA1; have BB := BB1; have BR := BR1; have HB := HB1; have G5 := G5'; have G12 := G12'
          clear BA1 BB1 BR1 HB1 G5' G12'
          have HS := Aside0.mk (And.intro BA.cells.2.1 (And.intro BB.cells.2.1 (And.intro BA.cells.2.2.1 BB.cells.2.2.1)))
          clear hb
          refine HK.out _ _ (fun _ => HS.out) ?_
          clear HK K
          try simp only [Act.put, List.setIfInBounds_toArray, List.set_cons_zero, List.set_cons_succ]
          refine wpAnyP_one 13 rfl (by kernel_rfl) (by rfl) (fun K hK => ?_)
          have HK := Aside0.mk hK
          clear hK
          go_simp
          go_at_call 48
          refine (laid1 A0_2 c0_2 l0_2 q p a2 (Kd.C_below H2.out HB.out) hc0_2 G12.out hq2 hp2 hl2).mono ?_
          rintro e wx18 ⟨E2, n2, e2, rfl, ho, hb⟩
          have HV2 := Aside0.mk (Kd.R_lower ho (below_size HB.out))
          clear ho
          have BA1 := BA.below hb
          have BB1 := BB.below hb
          have BR1 := BR.below hb
          have G5' := Aside0.mk (blk_below G5.out hb)
          have G12' := Aside0.mk (blk_below G12.out hb)
          have HV1' := Aside0.mk (Kd.R_below HV1.out hb)
          have HB1 := Aside0.mk (below_step HB.out hb)
          clear BA BB BR HB HS G5 G12 HV1
          have BA := BA1; have BB := BB1; have BR := BR1; have HB := HB1; have G5 := G5'; have G12 := G12'; have HV1 := HV1'
          clear BA1 BB1 BR1 HB1 G5' G12' HV1'
          have HS := Aside0.mk (And.intro BA.cells.2.1 (And.intro BB.cells.2.1 (And.intro BA.cells.2.2.1 BB.cells.2.2.1)))
          clear hb
          refine HK.out _ _ (fun _ => HS.out) ?_
          clear HK K
          try simp only [Act.put, List.setIfInBounds_toArray, List.set_cons_zero, List.set_cons_succ]
          obtain ⟨hz0, hz1, hz2, hz3⟩ := BR.cells
          have hf0 := blk_frozen BR.out 0
          have hf1 := blk_frozen BR.out 1
          have hf2 := blk_frozen BR.out 2
          have hf3 := blk_frozen BR.out 3
          refine wpAnyP_take 14 (oi := _) (v := ?vx19) rfl (by kernel_rfl) (fun _ _ _ h => h) (by rfl) HS.out ?hyx19 ?restx19
          case hyx19 => intro w_ hSw; obtain ⟨hs1, hs2, hs3, hs4⟩ := hSw; first | (go_simp; done) | (go_simp; with_reducible rfl)
          try simp only [Act.put, List.setIfInBounds_toArray, List.set_cons_zero, List.set_cons_succ]
          refine wpAnyP_one 15 rfl (by kernel_rfl) (by rfl) (fun K hK => ?_)
          have HK := Aside0.mk hK
          clear hK
          go_simp
          refine HK.out _ _ (fun h_ => absurd h_ (by decide)) ?_
          clear HK K
          try simp only [Act.put, List.setIfInBounds_toArray, List.set_cons_zero, List.set_cons_succ]
          refine wpAnyP_done (by kernel_rfl) ?_ _
          clear HS hz0 hz1 hz2 hz3 hf0 hf1 hf2 hf3
          go_wp2
          refine bodyPost_ret (results_single rfl (.cell gr 25 #[.bool true, .slice E1 n1 e1, .slice E2 n2 e2, .slice none 0 0] (0, 0) _ rfl (NBox.put4 BR).out Try.underlying25 rfl (by kernel_rfl) .nil)) rfl ?_
          have HL1 := HV1.out
          have HL2 := HV2.out
          exact ⟨_, _, _, rfl, R_toV (R_put4 HL1 BR (by decide)), R_toV (R_put4 HL2 BR (by decide)), Kd.V_nil _ _ _ _ _, below_put4 HB.out GR.out⟩
      · skip
        have HK := Aside0.mk hK
        clear hK
        refine oper_make 1 (cs := #[.string a2]) (t := 9) (by first | (go_simp; done) | (go_simp; rfl)) (fun g12 hg wx20 hbox hb => ?_)
        have BA1 := BA.below hb
        have BB1 := BB.below hb
        have BR1 := BR.below hb
        have HB1 := Aside0.mk (below_step HB.out hb)
        clear BA BB BR HB HS
        have BA := BA1; have BB := BB1; have BR := BR1; have HB := HB1
        clear BA1 BB1 BR1 HB1
        have HS := Aside0.mk (And.intro BA.cells.2.1 (And.intro BB.cells.2.1 (And.intro BA.cells.2.2.1 BB.cells.2.2.1)))
        have G12 := Aside0.mk hbox
        clear hbox hb hg
        refine HK.out _ _ (fun _ => HS.out) ?_
        clear HK K
        try simp only [Act.put, List.setIfInBounds_toArray, List.set_cons_zero, List.set_cons_succ]
        refine wpAnyP_one 5 rfl (by kernel_rfl) (by rfl) (fun K hK => ?_)
        have HK := Aside0.mk hK
        clear hK
        refine oper_make 1 (cs := #[.string a1]) (t := 9) (by first | (go_simp; done) | (go_simp; rfl)) (fun g5 hg wx21 hbox hb => ?_)
        have BA1 := BA.below hb
        have BB1 := BB.below hb
        have BR1 := BR.below hb
        have G12' := Aside0.mk (blk_below G12.out hb)
        have HB1 := Aside0.mk (below_step HB.out hb)
        clear BA BB BR HB HS G12
        have BA := BA1; have BB := BB1; have BR := BR1; have HB := HB1; have G12 := G12'
        clear BA1 BB1 BR1 HB1 G12'
        have HS := Aside0.mk (And.intro BA.cells.2.1 (And.intro BB.cells.2.1 (And.intro BA.cells.2.2.1 BB.cells.2.2.1)))
        have G5 := Aside0.mk hbox
        clear hbox hb hg
        refine HK.out _ _ (fun _ => HS.out) ?_
        clear HK K
        try simp only [Act.put, List.setIfInBounds_toArray, List.set_cons_zero, List.set_cons_succ]
        refine wpAnyP_one 6 rfl (by kernel_rfl) (by rfl) (fun K hK => ?_)
        have HK := Aside0.mk hK
        clear hK
        go_simp
        go_at_call 48
        refine (laid1 A0_1 c0_1 l0_1 q p a1 (Kd.C_below H1.out HB.out) hc0_1 G5.out hq1 hp1 hl1).mono ?_
        rintro e wx22 ⟨E1, n1, e1, rfl, ho, hb⟩
        have HV1 := Aside0.mk (Kd.R_lower ho (below_size HB.out))
        clear ho
        have BA1 := BA.below hb
        have BB1 := BB.below hb
        have BR1 := BR.below hb
        have G12' := Aside0.mk (blk_below G12.out hb)
        have G5' := Aside0.mk (blk_below G5.out hb)
        have HB1 := Aside0.mk (below_step HB.out hb)
        clear BA BB BR HB HS G12 G5
        have BA := BA1; have BB := BB1; have BR := BR1; have HB := HB1; have G12 := G12'; have G5 := G5'
        clear BA1 BB1 BR1 HB1 G12' G5'
        have HS := Aside0.mk (And.intro BA.cells.2.1 (And.intro BB.cells.2.1 (And.intro BA.cells.2.2.1 BB.cells.2.2.1)))
        clear hb
        refine HK.out _ _ (fun _ => HS.out) ?_
        clear HK K
        try simp only [Act.put, List.setIfInBounds_toArray, List.set_cons_zero, List.set_cons_succ]
        refine wpAnyP_one 13 rfl (by kernel_rfl) (by rfl) (fun K hK => ?_)
        have HK := Aside0.mk hK
        clear hK
        go_simp
        go_at_call 48
        refine (laid1 A0_2 c0_2 l0_2 q p a2 (Kd.C_below H2.out HB.out) hc0_2 G12.out hq2 hp2 hl2).mono ?_
        rintro e wx23 ⟨E2, n2, e2, rfl, ho, hb⟩
        have HV2 := Aside0.mk (Kd.R_lower ho (below_size HB.out))
        clear ho
        have BA1 := BA.below hb
        have BB1 := BB.below hb
        have BR1 := BR.below hb
        have G12' := Aside0.mk (blk_below G12.out hb)
        have G5' := Aside0.mk (blk_below G5.out hb)
        have HV1' := Aside0.mk (Kd.R_below HV1.out hb)
        have HB1 := Aside0.mk (below_step HB.out hb)
        clear BA BB BR HB HS G12 G5 HV1
        have BA := BA1; have BB := BB1; have BR := BR1; have HB := HB1; have G12 := G12'; have G5 := G5'; have HV1 := HV1'
        clear BA1 BB1 BR1 HB1 G12' G5' HV1'
        have HS := Aside0.mk (And.intro BA.cells.2.1 (And.intro BB.cells.2.1 (And.intro BA.cells.2.2.1 BB.cells.2.2.1)))
        clear hb
        refine HK.out _ _ (fun _ => HS.out) ?_
        clear HK K
        try simp only [Act.put, List.setIfInBounds_toArray, List.set_cons_zero, List.set_cons_succ]
        obtain ⟨hz0, hz1, hz2, hz3⟩ := BR.cells
        have hf0 := blk_frozen BR.out 0
        have hf1 := blk_frozen BR.out 1
        have hf2 := blk_frozen BR.out 2
        have hf3 := blk_frozen BR.out 3
        refine wpAnyP_take 14 (oi := _) (v := ?vx24) rfl (by kernel_rfl) (fun _ _ _ h => h) (by rfl) HS.out ?hyx24 ?restx24
        case hyx24 => intro w_ hSw; obtain ⟨hs1, hs2, hs3, hs4⟩ := hSw; first | (go_simp; done) | (go_simp; with_reducible rfl)
        try simp only [Act.put, List.setIfInBounds_toArray, List.set_cons_zero, List.set_cons_succ]
        refine wpAnyP_one 15 rfl (by kernel_rfl) (by rfl) (fun K hK => ?_)
        have HK := Aside0.mk hK
        clear hK
        go_simp
        refine HK.out _ _ (fun h_ => absurd h_ (by decide)) ?_
        clear HK K
        try simp only [Act.put, List.setIfInBounds_toArray, List.set_cons_zero, List.set_cons_succ]
        refine wpAnyP_done (by kernel_rfl) ?_ _
        clear HS hz0 hz1 hz2 hz3 hf0 hf1 hf2 hf3
        go_wp2
        refine bodyPost_ret (results_single rfl (.cell gr 25 #[.bool true, .slice E1 n1 e1, .slice E2 n2 e2, .slice none 0 0] (0, 0) _ rfl (NBox.put4 BR).out Try.underlying25 rfl (by kernel_rfl) .nil)) rfl ?_
        have HL1 := HV1.out
        have HL2 := HV2.out
        exact ⟨_, _, _, rfl, R_toV (R_put4 HL1 BR (by decide)), R_toV (R_put4 HL2 BR (by decide)), Kd.V_nil _ _ _ _ _, below_put4 HB.out GR.out⟩
    | false =>
      rw [hi] at HE1 HE2
      have HI := Aside0.mk hi
      clear hi
      obtain ⟨p, hp⟩ : ∃ p, p = q := ⟨_, rfl⟩
      rw [if_neg (by decide), Nat.add_zero] at HE1 HE2
      have hq1 : q ≤ l0_1.length := hql
      have hp1 : p ≤ l0_1.length := by omega
      have hq2 : q ≤ l0_2.length := by have := HL2.out; omega
      have hp2 : p ≤ l0_2.length := by have := HL2.out; omega
      obtain rfl := HE1.out
      obtain rfl := HE2.out
      clear HE1 HE2
      subst hp
      go_upto_region 7 with (fail)
      have BB := BA
      have BA1 : NBox w5.drew ga _ _ _ _ _ _ _ _ _ _ := ⟨blk_drew BA.out⟩
      have BB1 : NBox w5.drew ga _ _ _ _ _ _ _ _ _ _ := ⟨blk_drew BB.out⟩
      have BR1 : NBox w5.drew gr _ _ _ _ _ _ _ _ _ _ := ⟨blk_drew BR.out⟩
      have HB1 := Aside0.mk (below_drew1 HB.out)
      clear BA BB BR HB hx0 hx1 hx2 hx3 hz0 hz1 hz2 hz3
      have BA := BA1; have BB := BB1; have BR := BR1; have HB := HB1
      clear BA1 BB1 BR1 HB1
      have HS := Aside0.mk (And.intro BA.cells.2.1 (And.intro BB.cells.2.1 (And.intro BA.cells.2.2.1 BB.cells.2.2.1)))
      refine wp_region_P (fun w' => w'.cell? ⟨ga, 1, none⟩ = some (.slice A0_1 l0_1.length c0_1) ∧ w'.cell? ⟨ga, 1, none⟩ = some (.slice A0_1 l0_1.length c0_1) ∧ w'.cell? ⟨ga, 2, none⟩ = some (.slice A0_2 l0_2.length c0_2) ∧ w'.cell? ⟨ga, 2, none⟩ = some (.slice A0_2 l0_2.length c0_2)) 15 (by kernel_rfl) ?_
      generalize w5.drew = w6 at *
      refine wpAnyP_take 0 (oi := _) (v := ?vx25) rfl (by kernel_rfl) (fun _ _ _ h => h) (by rfl) HS.out ?hyx25 ?restx25
      case hyx25 => intro w_ hSw; obtain ⟨hs1, hs2, hs3, hs4⟩ := hSw; first | (go_simp; done) | (go_simp; with_reducible rfl)
      try simp only [Act.put, List.setIfInBounds_toArray, List.set_cons_zero, List.set_cons_succ]
      refine wpAnyP_take 1 (oi := _) (v := ?vx26) rfl (by kernel_rfl) (fun _ _ _ h => h) (by rfl) HS.out ?hyx26 ?restx26
      case hyx26 => intro w_ hSw; obtain ⟨hs1, hs2, hs3, hs4⟩ := hSw; first | (go_simp; done) | (go_simp; with_reducible rfl)
      try simp only [Act.put, List.setIfInBounds_toArray, List.set_cons_zero, List.set_cons_succ]
      refine wpAnyP_take 2 (oi := _) (v := ?vx27) rfl (by kernel_rfl) (fun _ _ _ h => h) (by rfl) HS.out ?hyx27 ?restx27
      case hyx27 => intro w_ hSw; obtain ⟨hs1, hs2, hs3, hs4⟩ := hSw; first | (go_simp; done) | (go_simp; with_reducible rfl)
      try simp only [Act.put, List.setIfInBounds_toArray, List.set_cons_zero, List.set_cons_succ]
      refine wpAnyP_take 3 (oi := _) (v := ?vx28) rfl (by kernel_rfl) (fun _ _ _ h => h) (by rfl) HS.out ?hyx28 ?restx28
      case hyx28 => intro w_ hSw; obtain ⟨hs1, hs2, hs3, hs4⟩ := hSw; first | (go_simp; done) | (go_simp; with_reducible rfl)
      try simp only [Act.put, List.setIfInBounds_toArray, List.set_cons_zero, List.set_cons_succ]
      refine wpAnyP_take 4 (oi := _) (v := ?vx29) rfl (by kernel_rfl) (fun _ _ _ h => h) (by rfl) HS.out ?hyx29 ?restx29
      case hyx29 => intro w_ hSw; obtain ⟨hs1, hs2, hs3, hs4⟩ := hSw; first | (go_simp; done) | (go_simp; with_reducible rfl)
      try simp only [Act.put, List.setIfInBounds_toArray, List.set_cons_zero, List.set_cons_succ]
      refine wpAnyP_take 7 (oi := _) (v := ?vx30) rfl (by kernel_rfl) (fun _ _ _ h => h) (by rfl) HS.out ?hyx30 ?restx30
      case hyx30 => intro w_ hSw; obtain ⟨hs1, hs2, hs3, hs4⟩ := hSw; first | (go_simp; done) | (go_simp; with_reducible rfl)
      try simp only [Act.put, List.setIfInBounds_toArray, List.set_cons_zero, List.set_cons_succ]
      refine wpAnyP_take 8 (oi := _) (v := ?vx31) rfl (by kernel_rfl) (fun _ _ _ h => h) (by rfl) HS.out ?hyx31 ?restx31
      case hyx31 => intro w_ hSw; obtain ⟨hs1, hs2, hs3, hs4⟩ := hSw; first | (go_simp; done) | (go_simp; with_reducible rfl)
      try simp only [Act.put, List.setIfInBounds_toArray, List.set_cons_zero, List.set_cons_succ]
      refine wpAnyP_take 9 (oi := _) (v := ?vx32) rfl (by kernel_rfl) (fun _ _ _ h => h) (by rfl) HS.out ?hyx32 ?restx32
      case hyx32 => intro w_ hSw; obtain ⟨hs1, hs2, hs3, hs4⟩ := hSw; first | (go_simp; done) | (go_simp; with_reducible rfl)
      try simp only [Act.put, List.setIfInBounds_toArray, List.set_cons_zero, List.set_cons_succ]
      refine wpAnyP_take 10 (oi := _) (v := ?vx33) rfl (by kernel_rfl) (fun _ _ _ h => h) (by rfl) HS.out ?hyx33 ?restx33
      case hyx33 => intro w_ hSw; obtain ⟨hs1, hs2, hs3, hs4⟩ := hSw; first | (go_simp; done) | (go_simp; with_reducible rfl)
      try simp only [Act.put, List.setIfInBounds_toArray, List.set_cons_zero, List.set_cons_succ]
      refine wpAnyP_take 11 (oi := _) (v := ?vx34) rfl (by kernel_rfl) (fun _ _ _ h => h) (by rfl) HS.out ?hyx34 ?restx34
      case hyx34 => intro w_ hSw; obtain ⟨hs1, hs2, hs3, hs4⟩ := hSw; first | (go_simp; done) | (go_simp; with_reducible rfl)
      try simp only [Act.put, List.setIfInBounds_toArray, List.set_cons_zero, List.set_cons_succ]
      refine wpAnyP_two 5 12 rfl rfl (by kernel_rfl) (by rfl) (by rfl) (fun K hK => ?_) (fun K hK => ?_)
      · skip
        have HK := Aside0.mk hK
        clear hK
        refine oper_make 1 (cs := #[.string a1]) (t := 9) (by first | (go_simp; done) | (go_simp; rfl)) (fun g5 hg wx35 hbox hb => ?_)
        have BA1 := BA.below hb
        have BB1 := BB.below hb
        have BR1 := BR.below hb
        have HB1 := Aside0.mk (below_step HB.out hb)
        clear BA BB BR HB HS
        have BA := BA1; have BB := BB1; have BR := BR1; have HB := HB1
        clear BA1 BB1 BR1 HB1
        have HS := Aside0.mk (And.intro BA.cells.2.1 (And.intro BB.cells.2.1 (And.intro BA.cells.2.2.1 BB.cells.2.2.1)))
        have G5 := Aside0.mk hbox
        clear hbox hb hg
        refine HK.out _ _ (fun _ => HS.out) ?_
        clear HK K
        try simp only [Act.put, List.setIfInBounds_toArray, List.set_cons_zero, List.set_cons_succ]
        refine wpAnyP_two 6 12 rfl rfl (by kernel_rfl) (by rfl) (by rfl) (fun K hK => ?_) (fun K hK => ?_)
        · skip
          have HK := Aside0.mk hK
          clear hK
          go_simp
          go_at_call 48
          refine (laid1 A0_1 c0_1 l0_1 p p a1 (Kd.C_below H1.out HB.out) hc0_1 G5.out hq1 hp1 hl1).mono ?_
          rintro e wx36 ⟨E1, n1, e1, rfl, ho, hb⟩
          have HV1 := Aside0.mk (Kd.R_lower ho (below_size HB.out))
          clear ho
          have BA1 := BA.below hb
          have BB1 := BB.below hb
          have BR1 := BR.below hb
          have G5' := Aside0.mk (blk_below G5.out hb)
          have HB1 := Aside0.mk (below_step HB.out hb)
          clear BA BB BR HB HS G5
          have BA := BA1; have BB := BB1; have BR := BR1; have HB := HB1; have G5 := G5'
          clear BA1 BB1 BR1 HB1 G5'
          have HS := Aside0.mk (And.intro BA.cells.2.1 (And.intro BB.cells.2.1 (And.intro BA.cells.2.2.1 BB.cells.2.2.1)))
          clear hb
          refine HK.out _ _ (fun _ => HS.out) ?_
          clear HK K
          try simp only [Act.put, List.setIfInBounds_toArray, List.set_cons_zero, List.set_cons_succ]
          refine wpAnyP_one 12 rfl (by kernel_rfl) (by rfl) (fun K hK => ?_)
          have HK := Aside0.mk hK
          clear hK
          refine oper_make 1 (cs := #[.string a2]) (t := 9) (by first | (go_simp; done) | (go_simp; rfl)) (fun g12 hg wx37 hbox hb => ?_)
          have BA1 := BA.below hb
          have BB1 := BB.below hb
          have BR1 := BR.below hb
          have G5' := Aside0.mk (blk_below G5.out hb)
          have HV1' := Aside0.mk (Kd.R_below HV1.out hb)
          have HB1 := Aside0.mk (below_step HB.out hb)
          clear BA BB BR HB HS G5 HV1
          have BA := BA1; have BB := BB1; have BR := BR1; have HB := HB1; have G5 := G5'; have HV1 := HV1'
          clear BA1 BB1 BR1 HB1 G5' HV1'
          have HS := Aside0.mk (And.intro BA.cells.2.1 (And.intro BB.cells.2.1 (And.intro BA.cells.2.2.1 BB.cells.2.2.1)))
          have G12 := Aside0.mk hbox
          clear hbox hb hg
          refine HK.out _ _ (fun _ => HS.out) ?_
          clear HK K
          try simp only [Act.put, List.setIfInBounds_toArray, List.set_cons_zero, List.set_cons_succ]
          refine wpAnyP_one 13 rfl (by kernel_rfl) (by rfl) (fun K hK => ?_)
          have HK := Aside0.mk hK
          clear hK
          go_simp
          go_at_call 48
          refine (laid1 A0_2 c0_2 l0_2 p p a2 (Kd.C_below H2.out HB.out) hc0_2 G12.out hq2 hp2 hl2).mono ?_
          rintro e wx38 ⟨E2, n2, e2, rfl, ho, hb⟩
          have HV2 := Aside0.mk (Kd.R_lower ho (below_size HB.out))
          clear ho
          have BA1 := BA.below hb
          have BB1 := BB.below hb
          have BR1 := BR.below hb
          have G5' := Aside0.mk (blk_below G5.out hb)
          have G12' := Aside0.mk (blk_below G12.out hb)
          have HV1' := Aside0.mk (Kd.R_below HV1.out hb)
          have HB1 := Aside0.mk (below_step HB.out hb)
          clear BA BB BR HB HS G5 G12 HV1
          have BA := BA1; have BB := BB1; have BR := BR1; have HB := HB1; have G5 := G5'; have G12 := G12'; have HV1 := HV1'
          clear BA1 BB1 BR1 HB1 G5' G12' HV1'
          have HS := Aside0.mk (And.intro BA.cells.2.1 (And.intro BB.cells.2.1 (And.intro BA.cells.2.2.1 BB.cells.2.2.1)))
          clear hb
          refine HK.out _ _ (fun _ => HS.out) ?_
          clear HK K
          try simp only [Act.put, List.setIfInBounds_toArray, List.set_cons_zero, List.set_cons_succ]
          obtain ⟨hz0, hz1, hz2, hz3⟩ := BR.cells
          have hf0 := blk_frozen BR.out 0
          have hf1 := blk_frozen BR.out 1
          have hf2 := blk_frozen BR.out 2
          have hf3 := blk_frozen BR.out 3
          refine wpAnyP_take 14 (oi := _) (v := ?vx39) rfl (by kernel_rfl) (fun _ _ _ h => h) (by rfl) HS.out ?hyx39 ?restx39
          case hyx39 => intro w_ hSw; obtain ⟨hs1, hs2, hs3, hs4⟩ := hSw; first | (go_simp; done) | (go_simp; with_reducible rfl)
          try simp only [Act.put, List.setIfInBounds_toArray, List.set_cons_zero, List.set_cons_succ]
          refine wpAnyP_one 15 rfl (by kernel_rfl) (by rfl) (fun K hK => ?_)
          have HK := Aside0.mk hK
          clear hK
          go_simp
          refine HK.out _ _ (fun h_ => absurd h_ (by decide)) ?_
          clear HK K
          try simp only [Act.put, List.setIfInBounds_toArray, List.set_cons_zero, List.set_cons_succ]
          refine wpAnyP_done (by kernel_rfl) ?_ _
          clear HS hz0 hz1 hz2 hz3 hf0 hf1 hf2 hf3
          go_wp2
          refine bodyPost_ret (results_single rfl (.cell gr 25 #[.bool true, .slice E1 n1 e1, .slice E2 n2 e2, .slice none 0 0] (0, 0) _ rfl (NBox.put4 BR).out Try.underlying25 rfl (by kernel_rfl) .nil)) rfl ?_
          have HL1 := HV1.out
          have HL2 := HV2.out
          exact ⟨_, _, _, rfl, R_toV (R_put4 HL1 BR (by decide)), R_toV (R_put4 HL2 BR (by decide)), Kd.V_nil _ _ _ _ _, below_put4 HB.out GR.out⟩
        · skip
          have HK := Aside0.mk hK
          clear hK
          refine oper_make 1 (cs := #[.string a2]) (t := 9) (by first | (go_simp; done) | (go_simp; rfl)) (fun g12 hg wx40 hbox hb => ?_)
          have BA1 := BA.below hb
          have BB1 := BB.below hb
          have BR1 := BR.below hb
          have G5' := Aside0.mk (blk_below G5.out hb)
          have HB1 := Aside0.mk (below_step HB.out hb)
          clear BA BB BR HB HS G5
          have BA := BA1; have BB := BB1; have BR := BR1; have HB := HB1; have G5 := G5'
          clear BA1 BB1 BR1 HB1 G5'
          have HS := Aside0.mk (And.intro BA.cells.2.1 (And.intro BB.cells.2.1 (And.intro BA.cells.2.2.1 BB.cells.2.2.1)))
          have G12 := Aside0.mk hbox
          clear hbox hb hg
          refine HK.out _ _ (fun _ => HS.out) ?_
          clear HK K
          try simp only [Act.put, List.setIfInBounds_toArray, List.set_cons_zero, List.set_cons_succ]
          refine wpAnyP_one 6 rfl (by kernel_rfl) (by rfl) (fun K hK => ?_)
          have HK := Aside0.mk hK
          clear hK
          go_simp
          go_at_call 48
          refine (laid1 A0_1 c0_1 l0_1 p p a1 (Kd.C_below H1.out HB.out) hc0_1 G5.out hq1 hp1 hl1).mono ?_
          rintro e wx41 ⟨E1, n1, e1, rfl, ho, hb⟩
          have HV1 := Aside0.mk (Kd.R_lower ho (below_size HB.out))
          clear ho
          have BA1 := BA.below hb
          have BB1 := BB.below hb
          have BR1 := BR.below hb
          have G5' := Aside0.mk (blk_below G5.out hb)
          have G12' := Aside0.mk (blk_below G12.out hb)
          have HB1 := Aside0.mk (below_step HB.out hb)
          clear BA BB BR HB HS G5 G12
          have BA := BA1; have BB := BB1; have BR := BR1; have HB := HB1; have G5 := G5'; have G12 := G12'
          clear BA1 BB1 BR1 HB1 G5' G12'
          have HS := Aside0.mk (And.intro BA.cells.2.1 (And.intro BB.cells.2.1 (And.intro BA.cells.2.2.1 BB.cells.2.2.1)))
          clear hb
          refine HK.out _ _ (fun _ => HS.out) ?_
          clear HK K
          try simp only [Act.put, List.setIfInBounds_toArray, List.set_cons_zero, List.set_cons_succ]
          refine wpAnyP_one 13 rfl (by kernel_rfl) (by rfl) (fun K hK => ?_)
          have HK := Aside0.mk hK
          clear hK
          go_simp
          go_at_call 48
          refine (laid1 A0_2 c0_2 l0_2 p p a2 (Kd.C_below H2.out HB.out) hc0_2 G12.out hq2 hp2 hl2).mono ?_
          rintro e wx42 ⟨E2, n2, e2, rfl, ho, hb⟩
          have HV2 := Aside0.mk (Kd.R_lower ho (below_size HB.out))
          clear ho
          have BA1 := BA.below hb
          have BB1 := BB.below hb
          have BR1 := BR.below hb
          have G5' := Aside0.mk (blk_below G5.out hb)
          have G12' := Aside0.mk (blk_below G12.out hb)
          have HV1' := Aside0.mk (Kd.R_below HV1.out hb)
          have HB1 := Aside0.mk (below_step HB.out hb)
          clear BA BB BR HB HS G5 G12 HV1
          have BA := BA1; have BB := BB1; have BR := BR1; have HB := HB1; have G5 := G5'; have G12 := G12'; have HV1 := HV1'
          clear BA1 BB1 BR1 HB1 G5' G12' HV1'
          have HS := Aside0.mk (And.intro BA.cells.2.1 (And.intro BB.cells.2.1 (And.intro BA.cells.2.2.1 BB.cells.2.2.1)))
          clear hb
          refine HK.out _ _ (fun _ => HS.out) ?_
          clear HK K
          try simp only [Act.put, List.setIfInBounds_toArray, List.set_cons_zero, List.set_cons_succ]
          obtain ⟨hz0, hz1, hz2, hz3⟩ := BR.cells
          have hf0 := blk_frozen BR.out 0
          have hf1 := blk_frozen BR.out 1
          have hf2 := blk_frozen BR.out 2
          have hf3 := blk_frozen BR.out 3
          refine wpAnyP_take 14 (oi := _) (v := ?vx43) rfl (by kernel_rfl) (fun _ _ _ h => h) (by rfl) HS.out ?hyx43 ?restx43
          case hyx43 => intro w_ hSw; obtain ⟨hs1, hs2, hs3, hs4⟩ := hSw; first | (go_simp; done) | (go_simp; with_reducible rfl)
          try simp only [Act.put, List.setIfInBounds_toArray, List.set_cons_zero, List.set_cons_succ]
          refine wpAnyP_one 15 rfl (by kernel_rfl) (by rfl) (fun K hK => ?_)
          have HK := Aside0.mk hK
          clear hK
          go_simp
          refine HK.out _ _ (fun h_ => absurd h_ (by decide)) ?_
          clear HK K
          try simp only [Act.put, List.setIfInBounds_toArray, List.set_cons_zero, List.set_cons_succ]
          refine wpAnyP_done (by kernel_rfl) ?_ _
          clear HS hz0 hz1 hz2 hz3 hf0 hf1 hf2 hf3
          go_wp2
          refine bodyPost_ret (results_single rfl (.cell gr 25 #[.bool true, .slice E1 n1 e1, .slice E2 n2 e2, .slice none 0 0] (0, 0) _ rfl (NBox.put4 BR).out Try.underlying25 rfl (by kernel_rfl) .nil)) rfl ?_
          have HL1 := HV1.out
          have HL2 := HV2.out
          exact ⟨_, _, _, rfl, R_toV (R_put4 HL1 BR (by decide)), R_toV (R_put4 HL2 BR (by decide)), Kd.V_nil _ _ _ _ _, below_put4 HB.out GR.out⟩
      · skip
        have HK := Aside0.mk hK
        clear hK
        refine oper_make 1 (cs := #[.string a2]) (t := 9) (by first | (go_simp; done) | (go_simp; rfl)) (fun g12 hg wx44 hbox hb => ?_)
        have BA1 := BA.below hb
        have BB1 := BB.below hb
        have BR1 := BR.below hb
        have HB1 := Aside0.mk (below_step HB.out hb)
        clear BA BB BR HB HS
        have BA := BA1; have BB := BB1; have BR := BR1; have HB := HB1
        clear BA1 BB1 BR1 HB1
        have HS := Aside0.mk (And.intro BA.cells.2.1 (And.intro BB.cells.2.1 (And.intro BA.cells.2.2.1 BB.cells.2.2.1)))
        have G12 := Aside0.mk hbox
        clear hbox hb hg
        refine HK.out _ _ (fun _ => HS.out) ?_
        clear HK K
        try simp only [Act.put, List.setIfInBounds_toArray, List.set_cons_zero, List.set_cons_succ]
        refine wpAnyP_one 5 rfl (by kernel_rfl) (by rfl) (fun K hK => ?_)
        have HK := Aside0.mk hK
        clear hK
        refine oper_make 1 (cs := #[.string a1]) (t := 9) (by first | (go_simp; done) | (go_simp; rfl)) (fun g5 hg wx45 hbox hb => ?_)
        have BA1 := BA.below hb
        have BB1 := BB.below hb
        have BR1 := BR.below hb
        have G12' := Aside0.mk (blk_below G12.out hb)
        have HB1 := Aside0.mk (below_step HB.out hb)
        clear BA BB BR HB HS G12
        have BA := BA1; have BB := BB1; have BR := BR1; have HB := HB1; have G12 := G12'
        clear BA1 BB1 BR1 HB1 G12'
        have HS := Aside0.mk (And.intro BA.cells.2.1 (And.intro BB.cells.2.1 (And.intro BA.cells.2.2.1 BB.cells.2.2.1)))
        have G5 := Aside0.mk hbox
        clear hbox hb hg
        refine HK.out _ _ (fun _ => HS.out) ?_
        clear HK K
        try simp only [Act.put, List.setIfInBounds_toArray, List.set_cons_zero, List.set_cons_succ]
        refine wpAnyP_one 6 rfl (by kernel_rfl) (by rfl) (fun K hK => ?_)
        have HK := Aside0.mk hK
        clear hK
        go_simp
        go_at_call 48
        refine (laid1 A0_1 c0_1 l0_1 p p a1 (Kd.C_below H1.out HB.out) hc0_1 G5.out hq1 hp1 hl1).mono ?_
        rintro e wx46 ⟨E1, n1, e1, rfl, ho, hb⟩
        have HV1 := Aside0.mk (Kd.R_lower ho (below_size HB.out))
        clear ho
        have BA1 := BA.below hb
        have BB1 := BB.below hb
        have BR1 := BR.below hb
        have G12' := Aside0.mk (blk_below G12.out hb)
        have G5' := Aside0.mk (blk_below G5.out hb)
        have HB1 := Aside0.mk (below_step HB.out hb)
        clear BA BB BR HB HS G12 G5
        have BA := BA1; have BB := BB1; have BR := BR1; have HB := HB1; have G12 := G12'; have G5 := G5'
        clear BA1 BB1 BR1 HB1 G12' G5'
        have HS := Aside0.mk (And.intro BA.cells.2.1 (And.intro BB.cells.2.1 (And.intro BA.cells.2.2.1 BB.cells.2.2.1)))
        clear hb
        refine HK.out _ _ (fun _ => HS.out) ?_
        clear HK K
        try simp only [Act.put, List.setIfInBounds_toArray, List.set_cons_zero, List.set_cons_succ]
        refine wpAnyP_one 13 rfl (by kernel_rfl) (by rfl) (fun K hK => ?_)
        have HK := Aside0.mk hK
        clear hK
        go_simp
        go_at_call 48
        refine (laid1 A0_2 c0_2 l0_2 p p a2 (Kd.C_below H2.out HB.out) hc0_2 G12.out hq2 hp2 hl2).mono ?_
        rintro e wx47 ⟨E2, n2, e2, rfl, ho, hb⟩
        have HV2 := Aside0.mk (Kd.R_lower ho (below_size HB.out))
        clear ho
        have BA1 := BA.below hb
        have BB1 := BB.below hb
        have BR1 := BR.below hb
        have G12' := Aside0.mk (blk_below G12.out hb)
        have G5' := Aside0.mk (blk_below G5.out hb)
        have HV1' := Aside0.mk (Kd.R_below HV1.out hb)
        have HB1 := Aside0.mk (below_step HB.out hb)
        clear BA BB BR HB HS G12 G5 HV1
        have BA := BA1; have BB := BB1; have BR := BR1; have HB := HB1; have G12 := G12'; have G5 := G5'; have HV1 := HV1'
        clear BA1 BB1 BR1 HB1 G12' G5' HV1'
        have HS := Aside0.mk (And.intro BA.cells.2.1 (And.intro BB.cells.2.1 (And.intro BA.cells.2.2.1 BB.cells.2.2.1)))
        clear hb
        refine HK.out _ _ (fun _ => HS.out) ?_
        clear HK K
        try simp only [Act.put, List.setIfInBounds_toArray, List.set_cons_zero, List.set_cons_succ]
        obtain ⟨hz0, hz1, hz2, hz3⟩ := BR.cells
        have hf0 := blk_frozen BR.out 0
        have hf1 := blk_frozen BR.out 1
        have hf2 := blk_frozen BR.out 2
        have hf3 := blk_frozen BR.out 3
        refine wpAnyP_take 14 (oi := _) (v := ?vx48) rfl (by kernel_rfl) (fun _ _ _ h => h) (by rfl) HS.out ?hyx48 ?restx48
        case hyx48 => intro w_ hSw; obtain ⟨hs1, hs2, hs3, hs4⟩ := hSw; first | (go_simp; done) | (go_simp; with_reducible rfl)
        try simp only [Act.put, List.setIfInBounds_toArray, List.set_cons_zero, List.set_cons_succ]
        refine wpAnyP_one 15 rfl (by kernel_rfl) (by rfl) (fun K hK => ?_)
        have HK := Aside0.mk hK
        clear hK
        go_simp
        refine HK.out _ _ (fun h_ => absurd h_ (by decide)) ?_
        clear HK K
        try simp only [Act.put, List.setIfInBounds_toArray, List.set_cons_zero, List.set_cons_succ]
        refine wpAnyP_done (by kernel_rfl) ?_ _
        clear HS hz0 hz1 hz2 hz3 hf0 hf1 hf2 hf3
        go_wp2
        refine bodyPost_ret (results_single rfl (.cell gr 25 #[.bool true, .slice E1 n1 e1, .slice E2 n2 e2, .slice none 0 0] (0, 0) _ rfl (NBox.put4 BR).out Try.underlying25 rfl (by kernel_rfl) .nil)) rfl ?_
        have HL1 := HV1.out
        have HL2 := HV2.out
        exact ⟨_, _, _, rfl, R_toV (R_put4 HL1 BR (by decide)), R_toV (R_put4 HL2 BR (by decide)), Kd.V_nil _ _ _ _ _, below_put4 HB.out GR.out⟩

end Go.Proofs.Ytpdlbebiapimoaa.PN
