/- awake: the chapter's example holds -/
import Derived.Test.YtmplcceghjofhaaHAwake0
namespace Go.Proofs.Ytmplcceghjofhaa.PF
open Go.RowKit Go.Proofs.YtmplcceghjofhaaW.PrintWords Go.Proofs.YtmplcceghjofhaaW.PrintLast Go.Proofs.YtmplcceghjofhaaW.PrintMore
set_option linter.unusedVariables false
set_option linter.unusedSimpArgs false
set_option maxHeartbeats 4000000 in
set_option maxRecDepth 100000 in
theorem lunettelaw06_awake.calls (r : Bool) (w : World) (h : lunettelaw06_awake.f = some r) :
    Calls Try.prog 11 #[] w fun e w' => e = .returned (.bool r) ∧ Below w.heap.size w w' := by
  obtain rfl : true = r := Option.some.inj h
  clear h
  have hu39 := Try.underlying39
  have hu33 := Try.underlying33
  have hu22 := Try.underlying22
  have hu47 := Try.underlying47
  go_enter Try.func11, Try.ntmps11
  go_wp2_with (go_at_call 13; (with_reducible refine (aw_put1 _).mono ?_); rintro e w1 ⟨A1, c1, rfl, hc1, HC1, HB1⟩)
  refine (aw_put2 A1 c1 hc1 w1 HC1.out).mono ?_
  rintro e w2 ⟨A, c, rfl, hc, HL, HB2⟩
  have HB := Aside0.mk (below_step HB1.out HB2.out)
  clear HB1 HB2 HC1 hc1
  go_wp2_with fail
  refine (aw_take1 A c hc w2 HL.out).mono ?_
  rintro e w3 ⟨A3, c3, rfl, HB3⟩
  have HL3 := Aside0.mk (Kd.C_below HL.out HB3.out)
  have HBa := Aside0.mk (below_step HB.out HB3.out)
  clear HB HB3 HL
  go_wp2_with fail
  refine (aw_take2 A c hc w3 HL3.out).mono ?_
  rintro e w4 ⟨A4, c4, rfl, HB4⟩
  have HL4 := Aside0.mk (Kd.C_below HL3.out HB4.out)
  have HBb := Aside0.mk (below_step HBa.out HB4.out)
  clear HBa HB4 HL3
  go_wp2_with fail
  refine (aw_cells A c hc w4 HL4.out).mono ?_
  rintro e w5 ⟨A5, c5, rfl, hc5, HC5, HB5⟩
  have HL5 := Aside0.mk (Kd.C_below HL4.out HB5.out)
  have HBc := Aside0.mk (below_step HBb.out HB5.out)
  clear HBb HB5 HL4
  go_wp2_with fail
  refine (aw_of A5 c5 hc5 w5 HC5.out).mono ?_
  rintro e w6 ⟨A6, c6, rfl, hc6, HD6, HB6⟩
  have HL6 := Aside0.mk (Kd.C_below HL5.out HB6.out)
  have HC6 := Aside0.mk (Kd.C_below HC5.out HB6.out)
  have HBd := Aside0.mk (below_step HBc.out HB6.out)
  clear HBc HB6 HL5 HC5
  obtain ⟨ad, Ax, cx, hAd, hcell⟩ : ∃ ad Ax cx, A5 = some ad ∧ w6.cell? ad = some (.slice Ax 2 cx) := by
    obtain ⟨ad, Ax, cx, x, rfl, hx, hc, _⟩ := row_at HC6.out 0 (by decide)
    have hx := hx.out
    simp [awC] at hx
    subst hx
    exact ⟨ad, Ax, cx, rfl, by simpa [Addr.add] using hc⟩
  subst hAd
  clear HC6
  go_wp2_with fail
  refine (aw_same A c hc A6 c6 hc6 w6 HL6.out HD6.out).mono ?_
  rintro e w7 ⟨rfl, HB7⟩
  have HL7 := Aside0.mk (Kd.C_below HL6.out HB7.out)
  have HBe := Aside0.mk (below_step HBd.out HB7.out)
  clear HBd HB7 HL6 HD6 hcell
  go_wp2_with fail
  refine (aw_check A c hc w7 HL7.out).mono ?_
  rintro e w8 ⟨rfl, HB8⟩
  have HL8 := Aside0.mk (Kd.C_below HL7.out HB8.out)
  have HBf := Aside0.mk (below_step HBe.out HB8.out)
  clear HBe HB8 HL7
  go_wp2_with fail
  refine (aw_usable A c hc w8 HL8.out).mono ?_
  rintro e w9 ⟨rfl, HB9⟩
  have HL9 := Aside0.mk (Kd.C_below HL8.out HB9.out)
  have HBg := Aside0.mk (below_step HBf.out HB9.out)
  clear HBf HB9 HL8
  go_wp2_with fail
  refine (aw_cover A c hc w9 HL9.out).mono ?_
  rintro e w10 ⟨rfl, HB10⟩
  have HBh := Aside0.mk (below_step HBg.out HB10.out)
  clear HBg HB10 HL9
  go_wp2_with fail
  go_ret
  exact ⟨rfl, HBh.out⟩
end Go.Proofs.Ytmplcceghjofhaa.PF
