/- node.Drop -/
import Derived.Test.YtpdlbebiapimoaaHRegion2
import Derived.Test.YtpdlbebiapimoaaHLaid
import Derived.Test.YtpdlbebiapimoaaHClone
import Derived.Test.YtpdlbebiapimoaaHFind
import Derived.Test.YtpdlbebiapimoaaPurePl
namespace Go.Proofs.Ytpdlbebiapimoaa.PN
open Go.RowKit Go.Proofs.YtpdlbebiapimoaaW.PrintWords Go.Proofs.YtpdlbebiapimoaaW.PrintLast Go.Proofs.YtpdlbebiapimoaaW.PrintMore
set_option linter.unusedVariables false
set_option linter.unusedSimpArgs false
theorem laid0 {W : World} (A : Option Addr) (c : Nat) (l : List ByteArray) (q p : Nat) (h : Kd.string.C W A l.length l) (hc : l.length ≤ c) (hq : q ≤ l.length) (hp : p ≤ l.length) (hl : l.length ≤ 100000) :
    Calls Try.prog 48 #[.slice A l.length c, .int .i64 q, .int .i64 p, .slice none 0 0] W fun e W' => ∃ E n e1, e = .returned (.slice E n e1) ∧ Kd.R Kd.string 9 W' W.heap.size (fun _ => True) (.slice E n e1) (l.take q ++ l.drop p) ∧ Below W.heap.size W W' := by
  refine (node_laid_string.calls A c l q p none 0 [] (l.take q ++ l.drop p) W h hc (Kd.C_nil _ _) (Nat.le_refl 0) ?_).mono ?_
  · unfold node_laid_string.f
    rw [if_pos ⟨hl, by simp, by omega, by omega, by omega, by omega⟩]
    simp
  · rintro e W' ⟨v, rfl, ho, hb⟩
    obtain ⟨E, e1, rfl⟩ := Kd.R_slice ho
    exact ⟨E, _, e1, rfl, ho, hb⟩
set_option maxHeartbeats 8000000 in
set_option maxRecDepth 100000 in
theorem node_Drop.calls (a0_0 : Bool) (A0_1 : Option Addr) (c0_1 : Nat) (l0_1 : List ByteArray) (A0_2 : Option Addr) (c0_2 : Nat) (l0_2 : List ByteArray) (A0_3 : Option Addr) (c0_3 : Nat) (l0_3 : List Int) (a1 : ByteArray) (r1 : Bool) (r2 : List ByteArray) (r3 : List ByteArray) (r4 : List Int) (w : World) (hr0_1 : Kd.C Kd.string w A0_1 l0_1.length l0_1) (hc0_1 : l0_1.length ≤ c0_1) (hr0_2 : Kd.C Kd.string w A0_2 l0_2.length l0_2) (hc0_2 : l0_2.length ≤ c0_2) (hr0_3 : Kd.C (Kd.int .i64) w A0_3 l0_3.length l0_3) (hc0_3 : l0_3.length ≤ c0_3) (h : node_Drop.f a0_0 l0_1 l0_2 l0_3 a1 = some (r1, r2, r3, r4)) :
    Calls Try.prog 31 #[.agg #[.bool a0_0, .slice A0_1 l0_1.length c0_1, .slice A0_2 l0_2.length c0_2, .slice A0_3 l0_3.length c0_3], .string a1] w fun e w' => ∃ v1_ v2_ v3_ : Value, e = .returned (.agg #[.bool r1, v1_, v2_, v3_]) ∧ Kd.V Kd.string 9 w' w.heap.size (fun k_ => (w.heap.size ≤ k_)) v1_ r2 ∧ Kd.V Kd.string 9 w' w.heap.size (fun k_ => (w.heap.size ≤ k_)) v2_ r3 ∧ Kd.V (Kd.int .i64) 3 w' w.heap.size (fun k_ => (w.heap.size ≤ k_)) v3_ r4 ∧ Below w.heap.size w w' := by
  unfold node_Drop.f at h
  split at h
  case isFalse => cases h
  rename_i hsz
  obtain ⟨⟨hl1, hl2, hl3⟩, hr⟩ := hsz
  have H := Aside0.mk h
  clear h
  have H1 := Aside0.mk hr0_1
  have H2 := Aside0.mk hr0_2
  have H3 := Aside0.mk hr0_3
  clear hr0_1 hr0_2 hr0_3
  have hu25 := Try.underlying25
  have HFI := Aside0.mk (find_eq a0_0 l0_1 l0_2 l0_3 a1 hr hl1)
  have HLT := Aside0.mk (isin_lt hr a1)
  have hql := below_le l0_1 a1
  have HQ : Aside0 (a0_0 = true → (if (isin l0_1 a1 && !a0_0) = true then (below l0_1 a1 : Int) + 1 else (below l0_1 a1 : Int)) = (below l0_1 a1 : Int)) := ⟨fun e => by rw [e]; simp⟩
  obtain ⟨at_, hat_⟩ : ∃ at_, at_ = (if (isin l0_1 a1 && !a0_0) = true then (below l0_1 a1 : Int) + 1 else (below l0_1 a1 : Int)) := ⟨_, rfl⟩
  rw [← hat_] at HFI HQ
  obtain ⟨q, hqd⟩ : ∃ q, q = below l0_1 a1 := ⟨_, rfl⟩
  rw [← hqd] at HLT HQ hql
  have HQD := Aside0.mk hqd
  clear hat_ hqd hr
  go_enter Try.func31, Try.ntmps31
  go_wp2_with (first | ((with_reducible refine gate_dst (N := 2) rfl ?_); refine box_event ?hg (N := 2) ?hd (cs := #[.bool a0_0, .slice A0_1 l0_1.length c0_1, .slice A0_2 l0_2.length c0_2, .slice A0_3 l0_3.length c0_3]) (t := 25) ?hr ?_; (case hd => rfl); (case hg => rfl); (case hr => first | (go_simp; done) | (go_simp; rfl)); intro ga hg w2 hbox hb; have HB := Aside0.mk hb; have BA := NBox.mk hbox; clear hg hbox hb) | ((with_reducible refine gate_dst (N := 4) rfl ?_); refine box_event ?hg (N := 4) ?hd (cs := #[.bool false, .slice none 0 0, .slice none 0 0, .slice none 0 0]) (t := 25) ?hr ?_; (case hd => rfl); (case hg => rfl); (case hr => first | (go_simp; done) | (go_simp; rfl)); intro gr hg w4 hbox hb; have NE := Aside0.mk (show ga < gr by have := blk_lt BA.out; omega); replace BA := BA.below hb; have GR := Aside0.mk (Nat.le_trans (below_size HB.out) (Nat.le_of_eq hg.symm)); replace HB := Aside0.mk (below_step HB.out hb); have BR := NBox.mk hbox; clear hg hbox hb; obtain ⟨hx0, hx1, hx2, hx3⟩ := BA.cells))
  refine (node_Find.calls a0_0 A0_1 c0_1 l0_1 A0_2 c0_2 l0_2 A0_3 c0_3 l0_3 a1 at_ (isin l0_1 a1) w4 (Kd.C_below H1.out HB.out) hc0_1 (Kd.C_below H2.out HB.out) hc0_2 (Kd.C_below H3.out HB.out) hc0_3 HFI.out).mono ?_
  rintro e w5 ⟨rfl, hb⟩
  replace BA := BA.below hb
  replace BR := BR.below hb
  replace HB := Aside0.mk (below_step HB.out hb)
  clear hb hx0 hx1 hx2 hx3
  obtain ⟨hx0, hx1, hx2, hx3⟩ := BA.cells
  obtain ⟨hz0, hz1, hz2, hz3⟩ := BR.cells
  have er1 : gr ≠ ga := by have := NE.out; omega
  have er1' := Ne.symm er1
  cases a0_0 with
  | false =>
    have HT := H.out
    rw [if_neg (by simp)] at HT
    simp only [Option.some.injEq, Prod.mk.injEq] at HT
    obtain ⟨rfl, rfl, rfl, rfl⟩ := HT
    clear H HQ
    go_wp2_with fail
    refine (node_cloned.calls false A0_1 c0_1 l0_1 A0_2 c0_2 l0_2 A0_3 c0_3 l0_3 false l0_1 l0_2 l0_3 w5 (Kd.C_below H1.out HB.out) hc0_1 (Kd.C_below H2.out HB.out) hc0_2 (Kd.C_below H3.out HB.out) hc0_3 (by unfold node_cloned.f; rw [if_pos ⟨hl1, hl2, hl3⟩])).mono ?_
    rintro e w6 ⟨v1, v2, v3, rfl, ho1, ho2, ho3, hb⟩
    obtain ⟨B1, d1, e1⟩ := Kd.V_slice ho1
    obtain ⟨B2, d2, e2⟩ := Kd.V_slice ho2
    obtain ⟨B3, d3, e3⟩ := Kd.V_slice ho3
    subst e1 e2 e3
    have NW : Aside0 (w.heap.size ≤ w5.heap.size ∧ gr < w5.heap.size) := ⟨below_size HB.out, blk_lt BR.out⟩
    have HV1 := Aside0.mk ho1
    have HV2 := Aside0.mk ho2
    have HV3 := Aside0.mk ho3
    have BR5 := BR.below hb
    have HB5 := Aside0.mk (below_step HB.out hb)
    clear ho1 ho2 ho3 hb hx0 hx1 hx2 hx3 hz0 hz1 hz2 hz3 BA BR HB
    obtain ⟨hz0, hz1, hz2, hz3⟩ := BR5.cells
    have hf0 := blk_frozen BR5.out 0
    have hf1 := blk_frozen BR5.out 1
    have hf2 := blk_frozen BR5.out 2
    have hf3 := blk_frozen BR5.out 3
    go_wp2
    refine bodyPost_ret (results_single rfl (.cell gr 25 #[.bool false, .slice B1 l0_1.length d1, .slice B2 l0_2.length d2, .slice B3 l0_3.length d3] (0, 0) _ rfl (NBox.put4 BR5).out Try.underlying25 rfl (by kernel_rfl) .nil)) rfl ?_
    have kr : ∀ k, w5.heap.size ≤ k → k ≠ gr := fun k hk => by have := NW.out; omega
    have kw : ∀ k, w5.heap.size ≤ k → w.heap.size ≤ k := fun k hk => by have := NW.out; omega
    exact ⟨_, _, _, rfl, Kd.V_mono (V_put4 HV1.out kr) kw, Kd.V_mono (V_put4 HV2.out kr) kw, Kd.V_mono (V_put4 HV3.out kr) kw, below_put4 HB5.out GR.out⟩
  | true =>
    obtain rfl := HQ.out rfl
    cases hi : isin l0_1 a1 with
    | false =>
      have HT := H.out
      rw [hi, if_neg (by decide)] at HT
      simp only [Option.some.injEq, Prod.mk.injEq] at HT
      obtain ⟨rfl, rfl, rfl, rfl⟩ := HT
      clear H HQ hi
      go_wp2_with fail
      refine (node_cloned.calls true A0_1 c0_1 l0_1 A0_2 c0_2 l0_2 A0_3 c0_3 l0_3 true l0_1 l0_2 l0_3 w5 (Kd.C_below H1.out HB.out) hc0_1 (Kd.C_below H2.out HB.out) hc0_2 (Kd.C_below H3.out HB.out) hc0_3 (by unfold node_cloned.f; rw [if_pos ⟨hl1, hl2, hl3⟩])).mono ?_
      rintro e w6 ⟨v1, v2, v3, rfl, ho1, ho2, ho3, hb⟩
      obtain ⟨B1, d1, e1⟩ := Kd.V_slice ho1
      obtain ⟨B2, d2, e2⟩ := Kd.V_slice ho2
      obtain ⟨B3, d3, e3⟩ := Kd.V_slice ho3
      subst e1 e2 e3
      have NW : Aside0 (w.heap.size ≤ w5.heap.size ∧ gr < w5.heap.size) := ⟨below_size HB.out, blk_lt BR.out⟩
      have HV1 := Aside0.mk ho1
      have HV2 := Aside0.mk ho2
      have HV3 := Aside0.mk ho3
      have BR5 := BR.below hb
      have HB5 := Aside0.mk (below_step HB.out hb)
      clear ho1 ho2 ho3 hb hx0 hx1 hx2 hx3 hz0 hz1 hz2 hz3 BA BR HB
      obtain ⟨hz0, hz1, hz2, hz3⟩ := BR5.cells
      have hf0 := blk_frozen BR5.out 0
      have hf1 := blk_frozen BR5.out 1
      have hf2 := blk_frozen BR5.out 2
      have hf3 := blk_frozen BR5.out 3
      go_wp2
      refine bodyPost_ret (results_single rfl (.cell gr 25 #[.bool true, .slice B1 l0_1.length d1, .slice B2 l0_2.length d2, .slice B3 l0_3.length d3] (0, 0) _ rfl (NBox.put4 BR5).out Try.underlying25 rfl (by kernel_rfl) .nil)) rfl ?_
      have kr : ∀ k, w5.heap.size ≤ k → k ≠ gr := fun k hk => by have := NW.out; omega
      have kw : ∀ k, w5.heap.size ≤ k → w.heap.size ≤ k := fun k hk => by have := NW.out; omega
      exact ⟨_, _, _, rfl, Kd.V_mono (V_put4 HV1.out kr) kw, Kd.V_mono (V_put4 HV2.out kr) kw, Kd.V_mono (V_put4 HV3.out kr) kw, below_put4 HB5.out GR.out⟩
    | true =>
      have HT := H.out
      rw [hi, if_pos (by decide)] at HT
      split at HT
      case isFalse => cases HT
      rename_i hl21
      rw [← HQD.out] at HT
      obtain ⟨p, hp⟩ : ∃ p, p = q + 1 := ⟨_, rfl⟩
      rw [← hp] at HT
      simp only [Option.some.injEq, Prod.mk.injEq] at HT
      obtain ⟨rfl, rfl, rfl, rfl⟩ := HT
      have hqlt := HLT.out hi
      have hw1 : IntKind.i64.wrap ((q : Int) + 1) = (p : Int) := by rw [i64_w]; unfold Go.RowKit.wrap64; omega
      have hq1 : q ≤ l0_1.length := hql
      have hp1 : p ≤ l0_1.length := by omega
      have hq2 : q ≤ l0_2.length := by omega
      have hp2 : p ≤ l0_2.length := by omega
      clear H HQ hi hl21 hp
      go_upto_region 4 with (fail)
      have BB := BA
      have BA1 : NBox w5.drew ga _ _ _ _ _ _ _ _ _ _ := ⟨blk_drew BA.out⟩
      have BB1 : NBox w5.drew ga _ _ _ _ _ _ _ _ _ _ := ⟨blk_drew BB.out⟩
      have BR1 : NBox w5.drew gr _ _ _ _ _ _ _ _ _ _ := ⟨blk_drew BR.out⟩
      have HB1 := Aside0.mk (below_drew1 HB.out)
      clear BA BB BR HB hx0 hx1 hx2 hx3 hz0 hz1 hz2 hz3
      have BA := BA1; have BB := BB1; have BR := BR1; have HB := HB1
      clear BA1 BB1 BR1 HB1
      have HS := Aside0.mk (And.intro BA.cells.2.1 (And.intro BB.cells.2.1 (And.intro BA.cells.2.2.1 BB.cells.2.2.1)))
      refine wp_region_P (fun w' => w'.cell? ⟨ga, 1, none⟩ = some (.slice A0_1 l0_1.length c0_1) ∧ w'.cell? ⟨ga, 1, none⟩ = some (.slice A0_1 l0_1.length c0_1) ∧ w'.cell? ⟨ga, 2, none⟩ = some (.slice A0_2 l0_2.length c0_2) ∧ w'.cell? ⟨ga, 2, none⟩ = some (.slice A0_2 l0_2.length c0_2)) 13 (by kernel_rfl) ?_
      generalize w5.drew = w6 at *
      refine wpAnyP_take 0 (oi := _) (v := ?vx1) rfl (by kernel_rfl) (fun _ _ _ h => h) (by rfl) HS.out ?hyx1 ?restx1
      case hyx1 => intro w_ hSw; obtain ⟨hs1, hs2, hs3, hs4⟩ := hSw; first | (go_simp; done) | (go_simp; with_reducible rfl)
      try simp only [Act.put, List.setIfInBounds_toArray, List.set_cons_zero, List.set_cons_succ]
      refine wpAnyP_take 1 (oi := _) (v := ?vx2) rfl (by kernel_rfl) (fun _ _ _ h => h) (by rfl) HS.out ?hyx2 ?restx2
      case hyx2 => intro w_ hSw; obtain ⟨hs1, hs2, hs3, hs4⟩ := hSw; first | (go_simp; done) | (go_simp; with_reducible rfl)
      try simp only [Act.put, List.setIfInBounds_toArray, List.set_cons_zero, List.set_cons_succ]
      refine wpAnyP_take 2 (oi := _) (v := ?vx3) rfl (by kernel_rfl) (fun _ _ _ h => h) (by rfl) HS.out ?hyx3 ?restx3
      case hyx3 => intro w_ hSw; obtain ⟨hs1, hs2, hs3, hs4⟩ := hSw; first | (go_simp; done) | (go_simp; with_reducible rfl)
      try simp only [Act.put, List.setIfInBounds_toArray, List.set_cons_zero, List.set_cons_succ]
      refine wpAnyP_take 3 (oi := _) (v := ?vx4) rfl (by kernel_rfl) (fun _ _ _ h => h) (by rfl) HS.out ?hyx4 ?restx4
      case hyx4 => intro w_ hSw; obtain ⟨hs1, hs2, hs3, hs4⟩ := hSw; first | (go_simp; done) | (go_simp; with_reducible rfl)
      try simp only [Act.put, List.setIfInBounds_toArray, List.set_cons_zero, List.set_cons_succ]
      refine wpAnyP_take 4 (oi := _) (v := ?vx5) rfl (by kernel_rfl) (fun _ _ _ h => h) (by rfl) HS.out ?hyx5 ?restx5
      case hyx5 => intro w_ hSw; obtain ⟨hs1, hs2, hs3, hs4⟩ := hSw; first | (go_simp; done) | (go_simp; with_reducible rfl)
      try simp only [Act.put, List.setIfInBounds_toArray, List.set_cons_zero, List.set_cons_succ]
      refine wpAnyP_take 6 (oi := _) (v := ?vx6) rfl (by kernel_rfl) (fun _ _ _ h => h) (by rfl) HS.out ?hyx6 ?restx6
      case hyx6 => intro w_ hSw; obtain ⟨hs1, hs2, hs3, hs4⟩ := hSw; first | (go_simp; done) | (go_simp; with_reducible rfl)
      try simp only [Act.put, List.setIfInBounds_toArray, List.set_cons_zero, List.set_cons_succ]
      refine wpAnyP_take 7 (oi := _) (v := ?vx7) rfl (by kernel_rfl) (fun _ _ _ h => h) (by rfl) HS.out ?hyx7 ?restx7
      case hyx7 => intro w_ hSw; obtain ⟨hs1, hs2, hs3, hs4⟩ := hSw; first | (go_simp; done) | (go_simp; with_reducible rfl)
      try simp only [Act.put, List.setIfInBounds_toArray, List.set_cons_zero, List.set_cons_succ]
      refine wpAnyP_take 8 (oi := _) (v := ?vx8) rfl (by kernel_rfl) (fun _ _ _ h => h) (by rfl) HS.out ?hyx8 ?restx8
      case hyx8 => intro w_ hSw; obtain ⟨hs1, hs2, hs3, hs4⟩ := hSw; first | (go_simp; done) | (go_simp; with_reducible rfl)
      try simp only [Act.put, List.setIfInBounds_toArray, List.set_cons_zero, List.set_cons_succ]
      refine wpAnyP_take 9 (oi := _) (v := ?vx9) rfl (by kernel_rfl) (fun _ _ _ h => h) (by rfl) HS.out ?hyx9 ?restx9
      case hyx9 => intro w_ hSw; obtain ⟨hs1, hs2, hs3, hs4⟩ := hSw; first | (go_simp; done) | (go_simp; with_reducible rfl)
      try simp only [Act.put, List.setIfInBounds_toArray, List.set_cons_zero, List.set_cons_succ]
      refine wpAnyP_take 10 (oi := _) (v := ?vx10) rfl (by kernel_rfl) (fun _ _ _ h => h) (by rfl) HS.out ?hyx10 ?restx10
      case hyx10 => intro w_ hSw; obtain ⟨hs1, hs2, hs3, hs4⟩ := hSw; first | (go_simp; done) | (go_simp; with_reducible rfl)
      try simp only [Act.put, List.setIfInBounds_toArray, List.set_cons_zero, List.set_cons_succ]
      refine wpAnyP_one 5 rfl (by kernel_rfl) (by rfl) (fun K hK => ?_)
      have HK := Aside0.mk hK
      clear hK
      go_simp
      go_at_call 48
      refine (laid0 A0_1 c0_1 l0_1 q p (Kd.C_below H1.out HB.out) hc0_1 hq1 hp1 hl1).mono ?_
      rintro e wx11 ⟨E1, n1, e1, rfl, ho, hb⟩
      have HV1 := Aside0.mk (Kd.R_lower ho (below_size HB.out))
      clear ho
      have BA1 := BA.below hb
      have BB1 := BB.below hb
      have BR1 := BR.below hb
      have HB1 := Aside0.mk (below_step HB.out hb)
      clear BA BB BR HB HS
      have BA := BA1; have BB := BB1; have BR := BR1; have HB := HB1
      clear BA1 BB1 BR1 HB1
      have HS := Aside0.mk (And.intro BA.cells.2.1 (And.intro BB.cells.2.1 (And.intro BA.cells.2.2.1 BB.cells.2.2.1)))
      clear hb
      refine HK.out _ _ (fun _ => HS.out) ?_
      clear HK K
      try simp only [Act.put, List.setIfInBounds_toArray, List.set_cons_zero, List.set_cons_succ]
      refine wpAnyP_one 11 rfl (by kernel_rfl) (by rfl) (fun K hK => ?_)
      have HK := Aside0.mk hK
      clear hK
      go_simp
      go_at_call 48
      refine (laid0 A0_2 c0_2 l0_2 q p (Kd.C_below H2.out HB.out) hc0_2 hq2 hp2 hl2).mono ?_
      rintro e wx12 ⟨E2, n2, e2, rfl, ho, hb⟩
      have HV2 := Aside0.mk (Kd.R_lower ho (below_size HB.out))
      clear ho
      have BA1 := BA.below hb
      have BB1 := BB.below hb
      have BR1 := BR.below hb
      have HV1' := Aside0.mk (Kd.R_below HV1.out hb)
      have HB1 := Aside0.mk (below_step HB.out hb)
      clear BA BB BR HB HS HV1
      have BA := BA1; have BB := BB1; have BR := BR1; have HB := HB1; have HV1 := HV1'
      clear BA1 BB1 BR1 HB1 HV1'
      have HS := Aside0.mk (And.intro BA.cells.2.1 (And.intro BB.cells.2.1 (And.intro BA.cells.2.2.1 BB.cells.2.2.1)))
      clear hb
      refine HK.out _ _ (fun _ => HS.out) ?_
      clear HK K
      try simp only [Act.put, List.setIfInBounds_toArray, List.set_cons_zero, List.set_cons_succ]
      obtain ⟨hz0, hz1, hz2, hz3⟩ := BR.cells
      have hf0 := blk_frozen BR.out 0
      have hf1 := blk_frozen BR.out 1
      have hf2 := blk_frozen BR.out 2
      have hf3 := blk_frozen BR.out 3
      refine wpAnyP_take 12 (oi := _) (v := ?vx13) rfl (by kernel_rfl) (fun _ _ _ h => h) (by rfl) HS.out ?hyx13 ?restx13
      case hyx13 => intro w_ hSw; obtain ⟨hs1, hs2, hs3, hs4⟩ := hSw; first | (go_simp; done) | (go_simp; with_reducible rfl)
      try simp only [Act.put, List.setIfInBounds_toArray, List.set_cons_zero, List.set_cons_succ]
      refine wpAnyP_one 13 rfl (by kernel_rfl) (by rfl) (fun K hK => ?_)
      have HK := Aside0.mk hK
      clear hK
      go_simp
      refine HK.out _ _ (fun h_ => absurd h_ (by decide)) ?_
      clear HK K
      try simp only [Act.put, List.setIfInBounds_toArray, List.set_cons_zero, List.set_cons_succ]
      refine wpAnyP_done (by kernel_rfl) ?_ _
      clear HS hz0 hz1 hz2 hz3 hf0 hf1 hf2 hf3
      go_wp2
      refine bodyPost_ret (results_single rfl (.cell gr 25 #[.bool true, .slice E1 n1 e1, .slice E2 n2 e2, .slice none 0 0] (0, 0) _ rfl (NBox.put4 BR).out Try.underlying25 rfl (by kernel_rfl) .nil)) rfl ?_
      have HL1 := HV1.out
      have HL2 := HV2.out
      exact ⟨_, _, _, rfl, R_toV (R_put4 HL1 BR (by decide)), R_toV (R_put4 HL2 BR (by decide)), Kd.V_nil _ _ _ _ _, below_put4 HB.out GR.out⟩

end Go.Proofs.Ytpdlbebiapimoaa.PN
