/- free.Cover -/
import Derived.Test.YtmplcceghjofhaaHCov0
import Derived.Test.YtmplcceghjofhaaHTake
namespace Go.Proofs.Ytmplcceghjofhaa.PF
open Go.RowKit Go.Maps Go.Proofs.YtmplcceghjofhaaW.PrintWords Go.Proofs.YtmplcceghjofhaaW.PrintLast Go.Proofs.YtmplcceghjofhaaW.PrintMore
set_option linter.unusedVariables false
set_option linter.unusedSimpArgs false
attribute [local go_sem] max2_int min2_int max_two min_two
set_option maxHeartbeats 4000000 in
set_option maxRecDepth 100000 in
theorem free_Cover.calls (A0 : Option Addr) (c0 : Nat) (l0 : List (S25)) (A1 : Option Addr) (c1 : Nat) (l1 : List Int) (a2 : Int) (r : Bool) (w : World) (hr0 : Kd.C k25 w A0 l0.length l0) (hc0 : l0.length ≤ c0) (hr1 : Kd.C (Kd.int .i64) w A1 l1.length l1) (hc1 : l1.length ≤ c1) (h : free_Cover.f l0 l1 a2 = some r) :
    Calls Try.prog 23 #[.slice A0 l0.length c0, .slice A1 l1.length c1, .int .i64 a2] w fun e w' => e = .returned (.bool r) ∧ Below w.heap.size w w' := by
  unfold free_Cover.f at h
  split at h
  case isFalse => cases h
  rename_i hl
  obtain ⟨hl0, hl1, hw0, hw1⟩ := hl
  have HR := Aside0.mk (Option.some.inj h)
  have H0 := Aside0.mk hr0
  have H1 := Aside0.mk hr1
  have HW0 := Aside0.mk hw0
  have HW1 := Aside0.mk hw1
  clear h hr0 hr1 hw0 hw1
  have hmm := @run_makeMap Try.prog
  go_enter Try.func23, Try.ntmps23
  go_wp2_with fail
  have HM := Aside0.mk (World.ownsMap_made w Try.prog 3 (plainElem (H := Unit) Try.prog 3))
  have HB := Aside0.mk (below_alloc (Below.refl _ w) (.map #[] 0))
  obtain ⟨gm, hgm⟩ : ∃ z, w.heap.size = z := ⟨_, rfl⟩
  have GM : Aside0 (w.heap.size ≤ gm) := ⟨by omega⟩
  rw [hgm] at HM
  rw [hgm]
  have HGM := Aside0.mk hgm
  clear hgm
  generalize w.alloc (.map #[] 0) = w2 at *
  go_loopw [17] (fun s17 wr => ∃ (k : Nat) (D : DataW Unit), k ≤ l0.length ∧ s17 = .int .i64 k ∧ Aside0 (wr.ownsMap Try.prog 3 (plainElem Try.prog 3) gm k D) ∧ Aside0 (Cnt D (pgs (l0.take k))) ∧ Aside0 (Below w.heap.size w wr)) (fun s17 wr => l0.length - (intOf s17).toNat)
  case atStart => exact ⟨0, .map [], Nat.zero_le _, rfl, HM, ⟨cnt_nil⟩, HB⟩
  case round =>
    clear HM HB
    obtain ⟨k, D, hk, rfl, HM, HC, HB⟩ := hrel
    by_cases hkl : k < l0.length
    · obtain ⟨ad, x, rfl, hs, hx0, hx1⟩ := fr_at (Kd.C_below H0.out HB.out) k hkl
      have hk1 : (k : Int) < (l0.length : Int) := by omega
      have hk0 : (0 : Int) ≤ (k : Int) := by omega
      have hd : decide ((k : Int) < (l0.length : Int)) = true := by simp; omega
      have HX := Aside0.mk (wf_i64 (List.all_eq_true.1 HW0.out x (by obtain ⟨h_, e_⟩ := List.getElem?_eq_some_iff.1 hs.out; rw [← e_]; exact List.getElem_mem h_)))
      have hkm : k < maxLen := by unfold maxLen; omega
      have hle := @count_le (pgs (l0.take k)) x.f0 200000 (by rw [pgs_len, List.length_take]; omega)
      have HLE := Aside0.mk hle
      clear hle
      go_wp2_with (first
        | (at_lookup; refine wpList_lookup_own_int _ rfl _ _ 60 rfl 3 3 .i64 law3 Try.underlying60 Try.underlying3 (zero3 _) gm k _ rfl (HM.out.alloc _) _ _ rfl (keyOf_int_mk Try.underlying3 HX.out) ?_; intro c hat hwc; have EC := Aside0.mk (cnt_c HC.out hat); have hcl : c ≤ 200000 := by { rw [EC.out]; exact HLE.out }; have hc0 : 0 ≤ c := by { rw [EC.out]; exact Int.natCast_nonneg _ }; clear hat hwc)
        | (at_mapUpdate; refine wpList_mapUpdate_own _ rfl _ _ _ 60 rfl 3 3 law3 Try.underlying60 _ gm k _ rfl (HM.out.alloc _) hkm _ _ _ rfl rfl (keyOf_int_mk Try.underlying3 HX.out) _ [] (plainElem_int Try.underlying3 (by simp only [Lit.wf, Bool.and_eq_true, decide_eq_true_eq]; exact ⟨Int.le_trans (by decide) (show (0 : Int) ≤ c + 1 by omega), Int.le_trans (show c + 1 ≤ 200001 by omega) (by decide)⟩)) ?_; intro w1 hown1 hgrow1))
      go_roundw
      case rel => exact ⟨k + 1, _, by omega, by go_num, ⟨hown1⟩, ⟨by rw [pgs_snoc _ _ _ hs.out, EC.out]; exact cnt_put HC.out _⟩, ⟨(below_alloc HB.out _).grown hgrow1 (below_alloc HB.out _).size (fun j hj => by cases hj; exact GM.out)⟩⟩
      case measure => simp [intOf]; omega
    · obtain rfl : k = l0.length := by omega
      have hd : decide ((l0.length : Int) < (l0.length : Int)) = false := by simp
      rw [List.take_length] at HC
      go_wp2_with fail
      go_loopw [29] (fun s29 wr => ∃ (k : Nat) (D : DataW Unit), k ≤ l1.length ∧ s29 = .int .i64 k ∧ Aside0 (wr.ownsMap Try.prog 3 (plainElem Try.prog 3) gm (l0.length + k) D) ∧ Aside0 (Cnt D (pgs l0 ++ l1.take k)) ∧ Aside0 (Below w.heap.size w wr)) (fun s29 wr => l1.length - (intOf s29).toNat)
      case atStart => exact ⟨0, D, Nat.zero_le _, rfl, HM, ⟨by rw [List.take_zero, List.append_nil]; exact HC.out⟩, HB⟩
      case round =>
        clear HM HC HB
        obtain ⟨k, D, hk, rfl, HM, HC, HB⟩ := hrel
        by_cases hkl : k < l1.length
        · obtain ⟨ad, x, rfl, hs, hx0⟩ := int_at (Kd.C_below H1.out HB.out) k hkl
          have hk1 : (k : Int) < (l1.length : Int) := by omega
          have hk0 : (0 : Int) ≤ (k : Int) := by omega
          have hd : decide ((k : Int) < (l1.length : Int)) = true := by simp; omega
          have HX := Aside0.mk (wf_i64 (List.all_eq_true.1 HW1.out x (by obtain ⟨h_, e_⟩ := List.getElem?_eq_some_iff.1 hs.out; rw [← e_]; exact List.getElem_mem h_)))
          have hkm : l0.length + k < maxLen := by unfold maxLen; omega
          have hle := @count_le (pgs l0 ++ l1.take k) x 200000 (by rw [List.length_append, pgs_len, List.length_take]; omega)
          have HLE := Aside0.mk hle
          clear hle
          go_wp2_with (first
            | (at_lookup; refine wpList_lookup_own_int _ rfl _ _ 60 rfl 3 3 .i64 law3 Try.underlying60 Try.underlying3 (zero3 _) gm (l0.length + k) _ rfl HM.out _ _ rfl (keyOf_int_mk Try.underlying3 HX.out) ?_; intro c hat hwc; have EC := Aside0.mk (cnt_c HC.out hat); have hcl : c ≤ 200000 := by { rw [EC.out]; exact HLE.out }; have hc0 : 0 ≤ c := by { rw [EC.out]; exact Int.natCast_nonneg _ }; clear hat hwc)
            | (at_mapUpdate; refine wpList_mapUpdate_own _ rfl _ _ _ 60 rfl 3 3 law3 Try.underlying60 _ gm (l0.length + k) _ rfl HM.out hkm _ _ _ rfl rfl (keyOf_int_mk Try.underlying3 HX.out) _ [] (plainElem_int Try.underlying3 (by simp only [Lit.wf, Bool.and_eq_true, decide_eq_true_eq]; exact ⟨Int.le_trans (by decide) (show (0 : Int) ≤ c + 1 by omega), Int.le_trans (show c + 1 ≤ 200001 by omega) (by decide)⟩)) ?_; intro w1 hown1 hgrow1))
          go_roundw
          case rel => exact ⟨k + 1, _, by omega, by go_num, ⟨hown1⟩, ⟨by rw [app_snoc _ _ _ _ hs.out, EC.out]; exact cnt_put HC.out _⟩, ⟨HB.out.grown hgrow1 HB.out.size (fun j hj => by cases hj; exact GM.out)⟩⟩
          case measure => simp [intOf]; omega
        · obtain rfl : k = l1.length := by omega
          have hd : decide ((l1.length : Int) < (l1.length : Int)) = false := by simp
          rw [List.take_length] at HC
          have GR := Aside0.mk (show w.heap.size ≤ wr.heap.size from HB.out.size)
          go_wp2_with (at_range; refine wpList_range_own _ rfl _ 60 rfl 3 3 law3 Try.underlying60 _ gm (l0.length + l1.length) _ rfl HM.out ?_; intro w0 hrg0 hg0 hs0)
          go_frame
          obtain ⟨gr, hgr⟩ : ∃ z, wr.heap.size = z := ⟨_, rfl⟩
          rw [hgr] at hrg0 GR
          rw [hgr]
          clear hgr hs0
          have HRG := Aside0.mk hrg0
          have HB0 := Aside0.mk (HB.out.grown hg0 HB.out.size (fun j hj => by cases hj))
          clear hrg0 hg0
          go_loopw [12] (fun _ wr => ∃ (left : Lit → Bool) (cnt : Nat), Aside0 (wr.ranges Try.prog 3 (plainElem Try.prog 3) gm gr (l0.length + l1.length) D left cnt) ∧ Aside0 (∀ p ∈ pgs l0 ++ l1, left (.int .i64 p) = false → okP (pgs l0 ++ l1) a2 p) ∧ Aside0 (Below w.heap.size w wr)) (fun _ wr => wr.rangeLeft gm gr)
          case atStart => exact ⟨_, _, HRG, ⟨fun p hp hn => by rw [HC.out.here, decide_eq_false_iff_not] at hn; exact absurd hp hn⟩, HB0⟩
          case round =>
            clear HM HB HRG HB0
            obtain ⟨left, cnt, HRG, HOK, HB⟩ := hrel
            go_wp2_with (at_next; refine wpList_next_ranges_ii _ rfl _ rfl 3 3 .i64 .i64 law3 Try.underlying3 Try.underlying3 gm gr (l0.length + l1.length) _ _ _ rfl HRG.out ?_ ?_)
            · intro _ hl0
              have HY := Aside0.mk (cover_yes l0 l1 a2 (fun p hp => HOK.out p hp (hl0 _)))
              have HSZ := Aside0.mk (HC.out.size HY.out.1)
              clear hl0
              by_cases hmx : wrap64 (a2 - 2) < 0
              · have EM := Aside0.mk (show mx (wrap64 (a2 - 2)) 0 = 0 by unfold mx; rw [if_pos hmx])
                go_wp2_with (at_len; refine wpList_len_own _ rfl _ 60 rfl 3 3 Try.underlying60 _ gm (l0.length + l1.length) D rfl HRG.out.owns ?_)
                go_ret
                exact ⟨ret_bool (by rw [← HR.out, HY.out.2, EM.out, show (l0.map (·.f0) ++ l1).length = Maps.size D from HSZ.out.symm]; rfl), HB.out⟩
              · have EM := Aside0.mk (show mx (wrap64 (a2 - 2)) 0 = wrap64 (a2 - 2) by unfold mx; rw [if_neg hmx])
                go_wp2_with (at_len; refine wpList_len_own _ rfl _ 60 rfl 3 3 Try.underlying60 _ gm (l0.length + l1.length) D rfl HRG.out.owns ?_)
                go_ret
                exact ⟨ret_bool (by rw [← HR.out, HY.out.2, EM.out, show (l0.map (·.f0) ++ l1).length = Maps.size D from HSZ.out.symm]; rfl), HB.out⟩
            · intro x c w1 cnt1 hwx hwc hlx hat hrg1 hlt hg1 hs1 hen
              have EC := Aside0.mk (cnt_c HC.out (hat _))
              have HIN := Aside0.mk (cnt_in HC.out hat)
              have HLE : Aside0 (w1.rangeLeft gm gr < wr.rangeLeft gm gr) := ⟨by rw [hrg1.left_eq, HRG.out.left_eq]; exact hlt⟩
              have HRG1 := Aside0.mk hrg1
              have HB1 := Aside0.mk (HB.out.grown hg1 HB.out.size (fun j hj => by cases hj; exact GR.out))
              clear hrg1 hlt hg1 hs1 hat hlx hwx hwc HB HRG
              by_cases h1 : c = 1
              · have b1 : (c != 1) = false := bne_eq_false_iff_eq.2 h1
                have b1' : (c == 1) = true := beq_iff_eq.2 h1
                have E1 := Aside0.mk h1
                clear h1
                by_cases h2 : x < 2
                · have HN := Aside0.mk (cover_no l0 l1 a2 x HIN.out (fun h_ => by have := h_.2.1; omega))
                  have b2 : decide (x < 2) = true := by simp; omega
                  go_wp2_with fail
                  go_ret
                  exact ⟨ret_bool (by rw [← HR.out, HN.out]), HB1.out⟩
                · have b2 : decide (x < 2) = false := by simp; omega
                  by_cases h3 : a2 ≤ x
                  · have HN := Aside0.mk (cover_no l0 l1 a2 x HIN.out (fun h_ => by have := h_.2.2; omega))
                    have b3 : decide (a2 ≤ x) = true := by simp; omega
                    go_wp2_with fail
                    go_ret
                    exact ⟨ret_bool (by rw [← HR.out, HN.out]), HB1.out⟩
                  · have b3 : decide (a2 ≤ x) = false := by simp; omega
                    have HO1 : Aside0 (∀ p ∈ pgs l0 ++ l1, (left (.int .i64 p) && !(Lit.int .i64 p).sameKey (.int .i64 x)) = false → okP (pgs l0 ++ l1) a2 p) := ⟨fun p hp hf => by
                      by_cases e : p = x
                      · subst e
                        exact ⟨by have := EC.out; have := E1.out; omega, by omega, by omega⟩
                      · rw [sameKey_ne (litI_ne e), Bool.not_false, Bool.and_true] at hf
                        exact HOK.out p hp hf⟩
                    go_wp2_with fail
                    go_roundw
                    case rel => exact ⟨_, _, HRG1, HO1, HB1⟩
                    case measure => exact HLE.out
              · have HN := Aside0.mk (cover_no l0 l1 a2 x HIN.out (fun h_ => h1 (by rw [EC.out]; have := h_.1; exact congrArg Int.ofNat this)))
                have b1 : (c != 1) = true := bne_iff_ne.2 h1
                have b1' : (c == 1) = false := beq_eq_false_iff_ne.2 h1
                clear h1
                go_wp2_with fail
                go_ret
                exact ⟨ret_bool (by rw [← HR.out, HN.out]), HB1.out⟩
end Go.Proofs.Ytmplcceghjofhaa.PF
