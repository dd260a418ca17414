/- FreeOf: whatever the input: true -/
import Derived.Test.YtmplcceghjofhaaHLast0
namespace Go.Proofs.Ytmplcceghjofhaa.PF
open Go.RowKit Go.Proofs.YtmplcceghjofhaaW.PrintWords Go.Proofs.YtmplcceghjofhaaW.PrintLast Go.Proofs.YtmplcceghjofhaaW.PrintMore
set_option linter.unusedVariables false
set_option linter.unusedSimpArgs false
set_option maxHeartbeats 8000000 in
set_option maxRecDepth 100000 in
theorem FreeOf_walk (A : Option Addr) (c : Nat) (cs : List (List ByteArray)) (w : World) (hr : (Kd.slice 9 Kd.string).C w A cs.length cs) (hc : cs.length ≤ c) :
    Calls Try.prog 5 #[.slice A cs.length c] w fun e w' => e = .returned (.bool true) ∧ Below w.heap.size w w' := by
  obtain ⟨n, hn⟩ : ∃ z, cs.length = z := ⟨_, rfl⟩
  rw [hn] at hr hc
  rw [hn]
  have HN := Aside0.mk hn
  have HC := Aside0.mk hr
  clear hr hn
  have hu22 := Try.underlying22
  have hu33 := Try.underlying33
  have hu39 := Try.underlying39
  by_cases hbig : 20 < n
  · have hd : decide ((20 : Int) < (n : Int)) = true := by simp; omega
    have hd' : decide (20 < n) = true := by simp; omega
    go_enter Try.func5, Try.ntmps5
    go_wp2_with fail
    refine (lunettelaw06_awake.calls true _ rfl).mono ?_
    rintro e w1 ⟨rfl, hb⟩
    go_wp2_with fail
    go_ret
    exact ⟨rfl, hb⟩
  · have hd : decide ((20 : Int) < (n : Int)) = false := by simp; omega
    have hd' : decide (20 < n) = false := by simp; omega
    have hn20 : n ≤ 20 := by omega
    clear hbig
    go_enter Try.func5, Try.ntmps5
    go_wp2_with fail
    go_loop [3] (fun s3 => ∃ i : Nat, i ≤ n ∧ s3 = .int .i64 i ∧ Aside0 (∀ j x, j < i → cs[j]? = some x → x.length ≤ 50)) (fun s3 => n - (intOf s3).toNat)
    case atStart => exact ⟨0, Nat.zero_le _, rfl, ⟨fun j x h => absurd h (by omega)⟩⟩
    case round =>
      obtain ⟨i, hi, rfl, HS⟩ := hrel
      by_cases hil : i < n
      · obtain ⟨ad, A1, c1, x, q, EA, hs, HQ, hcell, hq1, HX⟩ := row_atn HC.out i hil
        subst EA
        have hi0 : (0 : Int) ≤ (i : Int) := by omega
        have hi1 : (i : Int) < (n : Int) := by omega
        have hd1 : decide ((i : Int) < (n : Int)) = true := by simp; omega
        have hd1' : decide (i < n) = true := by simp; omega
        by_cases hq : 50 < q
        · have he : decide ((50 : Int) < (q : Int)) = true := by simp; omega
          have he' : decide (50 < q) = true := by simp; omega
          clear hq
          go_wp2_with fail
          refine (lunettelaw06_awake.calls true _ rfl).mono ?_
          rintro e w1 ⟨rfl, hb⟩
          go_wp2_with fail
          go_ret
          exact ⟨rfl, hb⟩
        · have he : decide ((50 : Int) < (q : Int)) = false := by simp; omega
          have he' : decide (50 < q) = false := by simp; omega
          have HQ50 : Aside0 (q ≤ 50) := ⟨by omega⟩
          clear hq
          go_wp2
          go_round
          case rel => exact ⟨i + 1, by omega, by go_num, ⟨fun j y hj hy => by
            by_cases hji : j = i
            · subst hji
              have := hs.out
              rw [hy] at this
              cases this
              rw [HQ.out]
              exact HQ50.out
            · exact HS.out j y (by omega) hy⟩⟩
          case measure => simp [intOf]; omega
      · obtain rfl : n = i := by omega
        have hd1 : decide ((n : Int) < (n : Int)) = false := by simp
        have HROW : Aside0 (∀ x ∈ cs, x.length ≤ 1000) := ⟨fun x hx => by
          obtain ⟨j, hj, e_⟩ := List.mem_iff_getElem.1 hx
          have := HS.out j x (by rw [← HN.out]; exact hj) (by rw [← e_]; exact List.getElem?_eq_getElem hj)
          omega⟩
        have HB := Aside0.mk (Below.refl w.heap.size w)
        clear HS
        obtain ⟨b, hk⟩ : ∃ b, (shapeF cs && chkF (cs.flatten.map ofCell)) = b := ⟨_, rfl⟩
        cases b with
        | false =>
          have HK := Aside0.mk hk
          clear hk
          go_wp2_with fail
          refine (fc_of_no A n c cs HN.out (by omega) HROW.out hc _ HC.out HK.out).mono ?_
          rintro e w2 ⟨A2, c2, rfl, HBn⟩
          replace HB := Aside0.mk (below_step HB.out HBn.out)
          clear HBn
          go_wp2_with fail
          refine (lunettelaw06_awake.calls true _ rfl).mono ?_
          rintro e w3 ⟨rfl, hbn⟩
          have HBn := Aside0.mk hbn
          clear hbn
          replace HB := Aside0.mk (below_step HB.out HBn.out)
          clear HBn
          go_wp2_with fail
          go_ret
          exact ⟨rfl, HB.out⟩
        | true =>
          rw [Bool.and_eq_true] at hk
          obtain ⟨l, hl⟩ : ∃ z, cs.flatten.map ofCell = z := ⟨_, rfl⟩
          rw [hl] at hk
          have HE := Aside0.mk hl
          have HSH := Aside0.mk hk.1
          have HK := Aside0.mk hk.2
          obtain ⟨m, hm⟩ : ∃ z, l.length = z := ⟨_, rfl⟩
          have HM := Aside0.mk hm
          have hback := of_back cs hk.1
          rw [hl] at hback
          have HBK := Aside0.mk hback
          have hm1000 : m ≤ 1000 := by
            have h1 := cells_len l
            rw [hback, HN.out, hm] at h1
            omega
          have HCL : Aside0 ((cellsF l).length = n) := ⟨by rw [HBK.out]; exact HN.out⟩
          have HROW2 := HROW
          replace HROW : Aside0 (∀ x ∈ cs, x.length ≤ 100000) := ⟨fun x hx => by have := HROW2.out x hx; omega⟩
          clear hk hl hm hback
          go_wp2_with fail
          refine (fc_of_yes A n c m cs l HN.out (by omega) HROW2.out hc _ HC.out HSH.out HE.out HK.out HM.out).mono ?_
          rintro e w2 ⟨A2, c2, rfl, hm2, HL, HBn⟩
          replace HC := Aside0.mk (Kd.C_below HC.out HBn.out)
          replace HB := Aside0.mk (below_step HB.out HBn.out)
          clear HBn
          go_wp2_with fail
          refine (fc_rcells A2 m c2 n l HM.out (by omega) _ HL.out HK.out HCL.out).mono ?_
          rintro e w4 ⟨A5, c5, rfl, hm5, HW, HBn⟩
          replace HL := Aside0.mk (Kd.C_below HL.out HBn.out)
          replace HC := Aside0.mk (Kd.C_below HC.out HBn.out)
          replace HB := Aside0.mk (below_step HB.out HBn.out)
          clear HBn
          go_wp2_with fail
          rw [HBK.out] at HW
          refine (lunettelaw06_awake.calls true _ rfl).mono ?_
          rintro e w5 ⟨rfl, hbn⟩
          have HBn := Aside0.mk hbn
          clear hbn
          replace HL := Aside0.mk (Kd.C_below HL.out HBn.out)
          replace HC := Aside0.mk (Kd.C_below HC.out HBn.out)
          replace HW := Aside0.mk (Kd.C_below HW.out HBn.out)
          replace HB := Aside0.mk (below_step HB.out HBn.out)
          clear HBn
          go_wp2_with fail
          refine (fc_rcheck A2 m c2 l HM.out (by omega) hm2 true HK.out _ HL.out).mono ?_
          rintro e w6 ⟨rfl, HBn⟩
          replace HC := Aside0.mk (Kd.C_below HC.out HBn.out)
          replace HW := Aside0.mk (Kd.C_below HW.out HBn.out)
          replace HB := Aside0.mk (below_step HB.out HBn.out)
          clear HBn
          go_wp2_with fail
          have HCa := HC; have HWa := HW; have HBa := HB
          go_loopw [7] (fun s_ wr => ∃ i : Nat, i ≤ n ∧ s_ = .int .i64 i ∧ Aside0 ((Kd.slice 9 Kd.string).C wr A n cs) ∧ Aside0 ((Kd.slice 9 Kd.string).C wr A5 n cs) ∧ Aside0 (Below w.heap.size w wr)) (fun s_ wr => n - (intOf s_).toNat)
          case atStart => exact ⟨0, Nat.zero_le _, rfl, HCa, HWa, HBa⟩
          case round =>
            clear HC HW HB HCa HWa HBa
            obtain ⟨i, hi, rfl, HC, HW, HB⟩ := hrel
            by_cases hil : i < n
            · obtain ⟨ad, A1, c1, x, q, EA, hs, HQ, hcell, hq1, HX⟩ := row_atn HC.out i hil
              obtain ⟨bd, A2, c2, y, q2, EB, hs2, HQ2, hcell2, hq2, HY⟩ := row_atn HW.out i hil
              subst EA EB
              obtain rfl : x = y := Option.some.inj (hs.out.symm.trans hs2.out)
              obtain rfl : q = q2 := HQ.out.symm.trans HQ2.out
              have hq : q ≤ 100000 := by rw [← HQ.out]; exact HROW.out x (by obtain ⟨h_, e_⟩ := List.getElem?_eq_some_iff.1 hs.out; rw [← e_]; exact List.getElem_mem h_)
              have hi0 : (0 : Int) ≤ (i : Int) := by omega
              have hi1 : (i : Int) < (n : Int) := by omega
              have hd : decide ((i : Int) < (n : Int)) = true := by simp; omega
              have hd' : decide (i < n) = true := by simp; omega
              go_wp2_with fail
              go_quiet ((go_at_call 21; exact Calls.quiet_of (same_calls A1 c1 A2 c2 q x hq _ (Kd.C_drewN HX.out _) (Kd.C_drewN HY.out _))))
              replace HC := Aside0.mk (Kd.C_drewN HC.out nq)
              replace HW := Aside0.mk (Kd.C_drewN HW.out nq)
              replace HB := Aside0.mk (pw_below_drewN HB.out nq)
              go_wp2
              go_roundw
              case rel => exact ⟨i + 1, by omega, by go_num, HC, HW, HB⟩
              case measure => simp [intOf]; omega
            · obtain rfl : n = i := by omega
              have hd : decide ((n : Int) < (n : Int)) = false := by simp
              go_wp2_with fail
              go_ret
              exact ⟨rfl, HB.out⟩
end Go.Proofs.Ytmplcceghjofhaa.PF
