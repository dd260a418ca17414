/- FreeCells: whatever the input: true -/
import Derived.Test.YtmplcceghjofhaaHLast0
namespace Go.Proofs.Ytmplcceghjofhaa.PF
open Go.RowKit Go.Proofs.YtmplcceghjofhaaW.PrintWords Go.Proofs.YtmplcceghjofhaaW.PrintLast Go.Proofs.YtmplcceghjofhaaW.PrintMore
set_option linter.unusedVariables false
set_option linter.unusedSimpArgs false
set_option maxHeartbeats 8000000 in
set_option maxRecDepth 100000 in
theorem FreeCells_walk (A : Option Addr) (c : Nat) (l : List S25) (w : World) (hr : k25.C w A l.length l) (hc : l.length ≤ c) :
    Calls Try.prog 4 #[.slice A l.length c] w fun e w' => e = .returned (.bool true) ∧ Below w.heap.size w w' := by
  obtain ⟨n, hn⟩ : ∃ z, l.length = z := ⟨_, rfl⟩
  rw [hn] at hr hc
  rw [hn]
  have HN := Aside0.mk hn
  have HL := Aside0.mk hr
  clear hr hn
  have hu22 := Try.underlying22
  have hu33 := Try.underlying33
  have hu39 := Try.underlying39
  have HB := Aside0.mk (Below.refl w.heap.size w)
  by_cases hbig : 300 < n
  · have hd : decide ((300 : Int) < (n : Int)) = true := by simp; omega
    have hd' : decide (300 < n) = true := by simp; omega
    go_enter Try.func4, Try.ntmps4
    go_wp2_with fail
    refine (lunettelaw06_awake.calls true _ rfl).mono ?_
    rintro e w1 ⟨rfl, hb⟩
    go_wp2_with fail
    go_ret
    exact ⟨rfl, hb⟩
  · have hd : decide ((300 : Int) < (n : Int)) = false := by simp; omega
    have hd' : decide (300 < n) = false := by simp; omega
    have hn300 : n ≤ 300 := by omega
    clear hbig
    go_enter Try.func4, Try.ntmps4
    go_wp2_with (at_builtin; refine Kd.R_append_rows k25 (w0 := w) w.heap.size rfl (.tmp 14) (.tmp 15) 22 25 (.agg #[.int .i64 0, .int .i64 0]) 16 rfl Try.underlying22 info25 rfl (by decide) (by omega) (.slice (some ⟨w.heap.size, 0, none⟩) 0 0) [] l A n c (fun _ => True) (fun _ => False) rfl rfl (R_made0 w) (Kd.C_alloc HL.out _) (fun _ _ h => h) (fun _ h => h.elim) (fun _ _ => trivial) (below_alloc (Below.refl _ w) _) (by simp) (by simp <;> omega) ?_)
    intro v1 w1 ho hb1 hg hat
    obtain ⟨E, e1, eq1⟩ := Kd.R_slice ho
    rw [HN.out] at eq1
    subst eq1
    obtain ⟨hne, hE⟩ := R_lit' ho HN.out
    have HE := Aside0.mk hE
    replace HL := Aside0.mk (Kd.C_below HL.out hb1)
    replace HB := Aside0.mk hb1
    clear ho hb1 hg hat hE
    go_wp2_with fail
    cases hk : chkF l with
    | false =>
      have HK := Aside0.mk hk
      clear hk
      refine (fc_cells_no E n e1 l HN.out (by omega) hne _ HE.out HK.out).mono ?_
      rintro e w2 ⟨A2, c2, rfl, HBn⟩
      replace HL := Aside0.mk (Kd.C_below HL.out HBn.out)
      replace HB := Aside0.mk (below_step HB.out HBn.out)
      clear HBn
      go_wp2_with fail
      refine (fc_rcheck A n c l HN.out (by omega) hc false HK.out _ HL.out).mono ?_
      rintro e w3 ⟨rfl, HBn⟩
      replace HL := Aside0.mk (Kd.C_below HL.out HBn.out)
      replace HB := Aside0.mk (below_step HB.out HBn.out)
      clear HBn
      go_wp2_with fail
      refine (lunettelaw06_awake.calls true _ rfl).mono ?_
      rintro e w4 ⟨rfl, hbn⟩
      have HBn := Aside0.mk hbn
      clear hbn
      replace HL := Aside0.mk (Kd.C_below HL.out HBn.out)
      replace HB := Aside0.mk (below_step HB.out HBn.out)
      clear HBn
      go_wp2_with fail
      refine (fc_check A n c l HN.out (by omega) hc false HK.out _ HL.out).mono ?_
      rintro e w5 ⟨rfl, HBn⟩
      replace HL := Aside0.mk (Kd.C_below HL.out HBn.out)
      replace HB := Aside0.mk (below_step HB.out HBn.out)
      clear HBn
      go_wp2_with fail
      go_ret
      exact ⟨rfl, HB.out⟩
    | true =>
      have HK := Aside0.mk hk
      obtain ⟨m, hm⟩ : ∃ z, (cellsF l).length = z := ⟨_, rfl⟩
      have HM := Aside0.mk hm
      have hm100 : m ≤ 100 := by rw [← hm, cells_len, HN.out]; omega
      have HROW : Aside0 (∀ x ∈ cellsF l, x.length ≤ 100000) := ⟨fun x hx => by have := cells_row hx; omega⟩
      clear hk hm
      refine (fc_cells_yes E n e1 m l HN.out (by omega) hne _ HE.out HK.out HM.out).mono ?_
      rintro e w2 ⟨A2, c2, rfl, hm2, HC, HBn⟩
      replace HL := Aside0.mk (Kd.C_below HL.out HBn.out)
      replace HB := Aside0.mk (below_step HB.out HBn.out)
      clear HBn
      go_wp2_with fail
      refine (fc_rcheck A n c l HN.out (by omega) hc true HK.out _ HL.out).mono ?_
      rintro e w3 ⟨rfl, HBn⟩
      replace HL := Aside0.mk (Kd.C_below HL.out HBn.out)
      replace HC := Aside0.mk (Kd.C_below HC.out HBn.out)
      replace HB := Aside0.mk (below_step HB.out HBn.out)
      clear HBn
      go_wp2_with fail
      refine (fc_rcells A n c m l HN.out (by omega) _ HL.out HK.out HM.out).mono ?_
      rintro e w4 ⟨A5, c5, rfl, hm5, HW, HBn⟩
      replace HL := Aside0.mk (Kd.C_below HL.out HBn.out)
      replace HC := Aside0.mk (Kd.C_below HC.out HBn.out)
      replace HB := Aside0.mk (below_step HB.out HBn.out)
      clear HBn
      go_wp2_with fail
      refine (lunettelaw06_awake.calls true _ rfl).mono ?_
      rintro e w5 ⟨rfl, hbn⟩
      have HBn := Aside0.mk hbn
      clear hbn
      replace HL := Aside0.mk (Kd.C_below HL.out HBn.out)
      replace HC := Aside0.mk (Kd.C_below HC.out HBn.out)
      replace HW := Aside0.mk (Kd.C_below HW.out HBn.out)
      replace HB := Aside0.mk (below_step HB.out HBn.out)
      clear HBn
      go_wp2_with fail
      refine (fc_check A n c l HN.out (by omega) hc true HK.out _ HL.out).mono ?_
      rintro e w6 ⟨rfl, HBn⟩
      replace HL := Aside0.mk (Kd.C_below HL.out HBn.out)
      replace HC := Aside0.mk (Kd.C_below HC.out HBn.out)
      replace HW := Aside0.mk (Kd.C_below HW.out HBn.out)
      replace HB := Aside0.mk (below_step HB.out HBn.out)
      clear HBn
      go_wp2_with fail
      have HCa := HC; have HWa := HW; have HBa := HB
      have HLa := HL
      go_loopw [6] (fun s_ wr => ∃ i : Nat, i ≤ m ∧ s_ = .int .i64 i ∧ Aside0 (k25.C wr A n l) ∧ Aside0 ((Kd.slice 9 Kd.string).C wr A2 m (cellsF l)) ∧ Aside0 ((Kd.slice 9 Kd.string).C wr A5 m (cellsF l)) ∧ Aside0 (Below w.heap.size w wr)) (fun s_ wr => m - (intOf s_).toNat)
      case atStart => exact ⟨0, Nat.zero_le _, rfl, HLa, HCa, HWa, HBa⟩
      case round =>
        clear HC HW HB HCa HWa HBa HL HLa
        obtain ⟨i, hi, rfl, HL, HC, HW, HB⟩ := hrel
        by_cases hil : i < m
        · obtain ⟨ad, A1, c1, x, q, EA, hs, HQ, hcell, hq1, HX⟩ := row_atn HC.out i hil
          obtain ⟨bd, A2, c2, y, q2, EB, hs2, HQ2, hcell2, hq2, HY⟩ := row_atn HW.out i hil
          subst EA EB
          obtain rfl : x = y := Option.some.inj (hs.out.symm.trans hs2.out)
          obtain rfl : q = q2 := HQ.out.symm.trans HQ2.out
          have hq : q ≤ 100000 := by rw [← HQ.out]; exact HROW.out x (by obtain ⟨h_, e_⟩ := List.getElem?_eq_some_iff.1 hs.out; rw [← e_]; exact List.getElem_mem h_)
          have hi0 : (0 : Int) ≤ (i : Int) := by omega
          have hi1 : (i : Int) < (m : Int) := by omega
          have hd : decide ((i : Int) < (m : Int)) = true := by simp; omega
          have hd' : decide (i < m) = true := by simp; omega
          go_wp2_with fail
          go_quiet ((go_at_call 21; exact Calls.quiet_of (same_calls A1 c1 A2 c2 q x hq _ (Kd.C_drewN HX.out _) (Kd.C_drewN HY.out _))))
          replace HC := Aside0.mk (Kd.C_drewN HC.out nq)
          replace HW := Aside0.mk (Kd.C_drewN HW.out nq)
          replace HL := Aside0.mk (Kd.C_drewN HL.out nq)
          replace HB := Aside0.mk (pw_below_drewN HB.out nq)
          go_wp2
          go_roundw
          case rel => exact ⟨i + 1, by omega, by go_num, HL, HC, HW, HB⟩
          case measure => simp [intOf]; omega
        · obtain rfl : m = i := by omega
          have hd : decide ((m : Int) < (m : Int)) = false := by simp
          go_wp2_with fail
          refine (fc_of_yes _ m c2 n (cellsF l) l HM.out (by omega) (fun x hx => by have := cells_row hx; omega) hm2 _ HC.out (cells_back HK.out).1 (cells_back HK.out).2 HK.out HN.out).mono ?_
          rintro e w7 ⟨A7, c7, rfl, hm7, HO, HBn⟩
          replace HL := Aside0.mk (Kd.C_below HL.out HBn.out)
          replace HB := Aside0.mk (below_step HB.out HBn.out)
          clear HBn
          go_wp2_with fail
          refine (fc_same A n c A7 c7 l HN.out (by omega) hc hm7 _ HL.out HO.out).mono ?_
          rintro e w8 ⟨rfl, HBn⟩
          replace HB := Aside0.mk (below_step HB.out HBn.out)
          clear HBn
          go_wp2_with fail
          go_ret
          exact ⟨rfl, HB.out⟩
end Go.Proofs.Ytmplcceghjofhaa.PF
