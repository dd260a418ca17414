/- FreeMoves: pages taken and put back; whatever the input: true -/
import Derived.Test.YtmplcceghjofhaaHAwake
import Derived.Test.YtmplcceghjofhaaPureMv
namespace Go.Proofs.Ytmplcceghjofhaa.PF
open Go.RowKit Go.Proofs.YtmplcceghjofhaaW.PrintWords Go.Proofs.YtmplcceghjofhaaW.PrintLast Go.Proofs.YtmplcceghjofhaaW.PrintMore
set_option linter.unusedVariables false
set_option linter.unusedSimpArgs false
theorem info3 : (Try.prog.info? 3).map (fun i => (i.zero, i.size, i.bytes)) = some (some (.int .i64 0), 1, 8) := by kernel_rfl
theorem R_madeI (w : World) : (Kd.int .i64).R 3 (w.alloc (.cells #[] 3 (0, 0))) w.heap.size (fun _ => True) (.slice (some ⟨w.heap.size, 0, none⟩) 0 0) [] :=
  ⟨fun _ _ => trivial, [], World.ownsRow_made w #[] 0 (Nat.le_refl _) (Nat.zero_le _) rfl, ⟨rfl, fun j p hj => by simp at hj⟩⟩
theorem R_C {α : Type} {d : Kd α} {e base n c : Nat} {ok : Nat → Prop} {W : World} {A : Option Addr} {xs : List α} (h : d.R e W base ok (.slice A n c) xs) : xs.length = n ∧ n ≤ c ∧ d.C W A n xs := by
  obtain ⟨h1, h2, h3⟩ := Kd.R_reads' h
  subst h1
  exact ⟨rfl, h2, h3⟩
theorem bool_at {w : World} {A : Option Addr} {n : Nat} {bs : List Bool} (h : Kd.bool.C w A n bs) (k : Nat) (hk : k < n) : ∃ ad b, A = some ad ∧ w.cell? (ad.add k) = some (.bool b) := by
  obtain ⟨ad, e, hx⟩ := ReadsOf.at_ (Kd.reads_of_C (enc := Value.bool) (d := false) (h1 := fun _ => rfl) h) (k : Int) (by omega) (by omega)
  rw [Int.toNat_natCast] at hx
  exact ⟨ad, _, e, hx⟩
theorem int_at0 {w : World} {A : Option Addr} {n : Nat} {u : Int} {ut : List Int} (h : (Kd.int .i64).C w A n (u :: ut)) (hn : 0 < n) : ∃ ad, A = some ad ∧ w.cell? ad = some (.int .i64 u) := by
  obtain ⟨ad, e, hx⟩ := Kd.at_int h (0 : Int) (by omega) (by omega)
  refine ⟨ad, e, ?_⟩
  simpa [Addr.add, rd] using hx
theorem take_none (A : Option Addr) (n c : Nat) (hn : ([] : List S25).length = n) (hc : n ≤ c) (w : World) (h : k25.C w A n []) : Calls Try.prog 14 #[.slice A n c, .int .i64 5] w fun e w' => ∃ A' c', e = .returned (.tuple #[.int .i64 0, .slice A' 0 c', .bool false]) ∧ Aside0 (Below w.heap.size w w') := by
  subst hn
  refine (free_Take.calls A c [] 5 0 [] false w h hc rfl).mono ?_
  rintro e w' ⟨v, rfl, hv, hb⟩
  obtain ⟨A, c, rfl, h1, h2⟩ := V_lit hv 0 rfl
  exact ⟨A, c, rfl, ⟨hb⟩⟩
theorem take_some (A : Option Addr) (n c m : Nat) (x : S25) (r : List S25) (hn : (x :: r).length = n) (hm : r.length = m) (hl : n ≤ 100000) (hx : x.f1 ≤ 4) (hc : n ≤ c) (w : World) (h : k25.C w A n (x :: r)) : Calls Try.prog 14 #[.slice A n c, .int .i64 5] w fun e w' => ∃ A' c', e = .returned (.tuple #[.int .i64 x.f0, .slice A' m c', .bool true]) ∧ m ≤ c' ∧ Aside0 (k25.C w' A' m r) ∧ Aside0 (Below w.heap.size w w') := by
  subst hn
  refine (free_Take.calls A c (x :: r) 5 x.f0 r true w h hc (by unfold free_Take.f; rw [if_pos hl, mv_takeF hx])).mono ?_
  rintro e w' ⟨v, rfl, hv, hb⟩
  obtain ⟨A, c, rfl, h1, h2⟩ := V_lit hv m hm
  exact ⟨A, c, rfl, h1, ⟨h2⟩, ⟨hb⟩⟩
theorem put_some (A : Option Addr) (n c m : Nat) (l : List S25) (u e : Int) (hn : l.length = n) (hm : (putF u e l).length = m) (hl : n ≤ 100000) (hc : n ≤ c) (w : World) (h : k25.C w A n l) : Calls Try.prog 13 #[.slice A n c, .int .i64 u, .int .i64 e] w fun e' w' => ∃ A' c', e' = .returned (.slice A' m c') ∧ m ≤ c' ∧ Aside0 (k25.C w' A' m (putF u e l)) ∧ Aside0 (Below w.heap.size w w') := by
  subst hn
  refine (free_Put.calls A c l u e (putF u e l) w h hc (by unfold free_Put.f; rw [if_pos hl])).mono ?_
  rintro e w' ⟨v, rfl, hv, hb⟩
  obtain ⟨A, c, rfl, h1, h2⟩ := V_lit hv m hm
  exact ⟨A, c, rfl, h1, ⟨h2⟩, ⟨hb⟩⟩
theorem cover_one (A : Option Addr) (n c : Nat) (l : List S25) (hn : l.length = n) (hc : n ≤ c) (A' : Option Addr) (n' c' : Nat) (us : List Int) (hn' : us.length = n') (hc' : n' ≤ c') (q : Int) (b : Bool) (hq : free_Cover.f l us q = some b) (w : World) (h : k25.C w A n l) (h' : (Kd.int .i64).C w A' n' us) :
    Calls Try.prog 23 #[.slice A n c, .slice A' n' c', .int .i64 q] w fun e w' => e = .returned (.bool b) ∧ Aside0 (Below w.heap.size w w') := by
  subst hn hn'
  refine (free_Cover.calls A c l A' c' us q b w h hc h' hc' hq).mono ?_
  rintro e w' ⟨rfl, hb⟩
  exact ⟨rfl, ⟨hb⟩⟩
theorem cutI (A : Option Addr) (n c : Nat) (us : List Int) (u : Int) (hn : (u :: us).length = n) (hc : n ≤ c) (w : World) (h : (Kd.int .i64).C w A n (u :: us)) : ∃ A' m, us.length = m ∧ Aside0 ((Kd.int .i64).C w A' m us) ∧ m ≤ c - 1 ∧ ∀ W, (Instr.slice 47 (.slice A n c) (some (.int .i64 1)) none none).run Try.prog W = .ok (.slice A' m (c - 1)) W := by
  have hm : us.length = n - 1 := by simp at hn; omega
  refine ⟨(if c = 1 then A else A.map (·.add 1)), n - 1, hm, ?_, by omega, fun W => ?_⟩
  · subst hn
    have := Kd.C_drop (m := 1) h (by simp) hc
    rw [show (1 * (Kd.int .i64).sz) = 1 from rfl] at this
    exact ⟨this⟩
  · obtain ⟨i0, hi0, hzz⟩ := Option.map_eq_some_iff.1 info3
    simp only [Prod.mk.injEq] at hzz
    obtain ⟨hz0, hz1, hz2⟩ := hzz
    have hu := Try.underlying47
    have hel : Try.prog.elem 47 = 3 := by simp [Program.elem, hu]
    have h1 : 1 ≤ n := by simp at hn; omega
    rw [run_slice_l W 47 A n c (by rw [hel]; exact hu) .i64 1 (by omega) (by omega), hel]
    simp [sizeOf, typeInfo, hi0, hz1, sliced, Result.andThen]
set_option maxHeartbeats 8000000 in
set_option maxRecDepth 100000 in
theorem moves_calls (p : Int) (hp0 : 0 ≤ p) (hp1 : p ≤ 255) (A : Option Addr) (c : Nat) (bs : List Bool) (w : World) (hb : Kd.bool.C w A bs.length bs) (hc : bs.length ≤ c) :
    Calls Try.prog 9 #[.int .u8 p, .slice A bs.length c] w fun e w' => e = .returned (.bool true) ∧ Below w.heap.size w w' := by
  have HT := Aside0.mk hb
  clear hb
  obtain ⟨nb, hnb⟩ : ∃ z, bs.length = z := ⟨_, rfl⟩
  rw [hnb] at HT hc
  rw [hnb]
  clear hnb
  have hu22 := Try.underlying22
  have hu47 := Try.underlying47
  go_enter Try.func9, Try.ntmps9
  go_wp2_with fail
  obtain ⟨N, hN⟩ : ∃ N : Nat, 2 + p % 60 = (N : Int) := ⟨(2 + p % 60).toNat, by omega⟩
  rw [hN]
  have hN2 : 2 ≤ N := by omega
  have hN61 : N ≤ 61 := by omega
  clear hN
  have HO := Aside0.mk (R_madeI w)
  have HB := Aside0.mk (below_alloc (Below.refl _ w) (.cells #[] 3 (0, 0)))
  go_loopw [6, 7] (fun s6 s7 wr => ∃ (q : Nat) (E : Option Addr) (n e : Nat), 2 ≤ q ∧ q ≤ N ∧ s7 = .int .i64 q ∧ s6 = .slice E n e ∧ Aside0 ((Kd.int .i64).R 3 wr w.heap.size (fun _ => True) (.slice E n e) (rng q)) ∧ Aside0 (Below w.heap.size w wr)) (fun s6 s7 wr => N - (intOf s7).toNat)
  case atStart => exact ⟨2, _, 0, 0, Nat.le_refl _, hN2, rfl, rfl, HO, HB⟩
  case round =>
    clear HO HB
    obtain ⟨q, E, n, e, hq2, hqN, rfl, rfl, HO, HB⟩ := hrel
    by_cases hlt : q < N
    · have hlt1 : (q : Int) < (N : Int) := by omega
      have hd : decide ((q : Int) < (N : Int)) = true := by simp; omega
      have hd' : decide (q < N) = true := by simp; omega
      have hq0 : (0 : Int) ≤ (q : Int) := by omega
      have hq61 : (q : Int) ≤ 61 := by omega
      have HQ2 := Aside0.mk hq2
      go_wp2_with (at_builtin; refine Kd.R_append (Kd.int .i64) (w0 := w) w.heap.size rfl (.tmp 23) (.tmp 25) 47 3 (.int .i64 0) 8 rfl Try.underlying47 info3 rfl (by decide) (by omega) (.slice E n e) (rng q) (q : Int) [.int .i64 q] (fun _ => True) (fun _ => False) rfl rfl rfl (fun _ hk => hk.elim) (fun _ _ => trivial) HO.out HB.out HB.out.size (by rw [rng_len]; omega) ?_)
      intro v1 w1 ho hb1 hg hat
      obtain ⟨E1, n1, e1⟩ := Kd.R_slice ho
      obtain ⟨N1, hN1⟩ : ∃ z, (rng q ++ [(q : Int)]).length = z := ⟨_, rfl⟩
      rw [hN1] at e1
      clear hN1
      subst e1
      have HO2 := Aside0.mk ho
      have HB2 := Aside0.mk hb1
      clear ho hb1 hg hat HO HB
      go_wp2
      go_roundw
      case rel => exact ⟨q + 1, E1, N1, n1, by omega, by omega, by go_num, rfl, ⟨by rw [rng_succ _ HQ2.out]; exact HO2.out⟩, HB2⟩
      case measure => simp [intOf]; omega
    · obtain rfl : q = N := by omega
      have hd : decide ((q : Int) < (q : Int)) = false := by simp
      have HQ2 := Aside0.mk hN2
      obtain ⟨hu1, hu2, hu3⟩ := R_C HO.out
      have HU := Aside0.mk hu3
      have HUN := Aside0.mk hu1
      clear hu1 hu3 HO
      go_wp2_with fail
      have HL := Aside0.mk (R_C (R_made0 wr)).2.2
      have HB1 := Aside0.mk (below_alloc HB.out (.cells #[] 25 (0, 0)))
      have HU1 := Aside0.mk (Kd.C_alloc HU.out (.cells #[] 25 (0, 0)))
      clear HB HU
      go_loopw [6, 8, 9] (fun s6 s8 s9 wr => ∃ (i : Nat) (l : List S25) (us : List Int) (Al : Option Addr) (nl cl : Nat) (Au : Option Addr) (nu cu : Nat), i ≤ nb ∧ i ≤ 60 ∧ s9 = .int .i64 i ∧ s8 = .slice Al nl cl ∧ s6 = .slice Au nu cu ∧ nl ≤ cl ∧ nu ≤ cu ∧ Aside0 (l.length = nl) ∧ Aside0 (us.length = nu) ∧ Aside0 (k25.C wr Al nl l) ∧ Aside0 ((Kd.int .i64).C wr Au nu us) ∧ Aside0 (Below w.heap.size w wr) ∧ Aside0 (Mv q l us)) (fun s6 s8 s9 wr => 60 - (intOf s9).toNat)
      case atStart => exact ⟨0, [], rng q, _, 0, 0, _, _, _, Nat.zero_le _, Nat.zero_le _, rfl, rfl, rfl, Nat.le_refl _, hu2, ⟨rfl⟩, HUN, HL, HU1, HB1, ⟨mv_start q⟩⟩
      case round =>
        clear HL HB1 HU1 HUN hu2 hd
        obtain ⟨i, l, us, Al, nl, cl, Au, nu, cu, hi1, hi2, rfl, rfl, rfl, hlc, huc, HLN, HUN, HL, HU, HB, HM⟩ := hrel
        have hln : nl + nu ≤ 60 := by have := mv_len HM.out; rw [HLN.out, HUN.out] at this; omega
        by_cases hend : nb ≤ i ∨ 60 ≤ i
        · have HD : Aside0 (i = nb ∨ i = 60) := ⟨by omega⟩
          by_cases h1 : i = nb
          · subst h1
            have hd : decide ((i : Int) < (i : Int)) = false := by simp
            clear hend
            go_wp2_with (go_at_call 11; (with_reducible refine (lunettelaw06_awake.calls true _ rfl).mono ?_); rintro e w9 ⟨rfl, hb9⟩)
            go_ret
            exact ⟨rfl, below_step HB.out hb9⟩
          · have hd : decide ((i : Int) < (nb : Int)) = true := by simp; omega
            have hd' : decide (i < nb) = true := by simp; omega
            have he : decide ((i : Int) < 60) = false := by simp; omega
            have he' : decide (i < 60) = false := by simp; omega
            clear hend h1
            go_wp2_with (go_at_call 11; (with_reducible refine (lunettelaw06_awake.calls true _ rfl).mono ?_); rintro e w9 ⟨rfl, hb9⟩)
            go_ret
            exact ⟨rfl, below_step HB.out hb9⟩
        · have hil : i < nb := by omega
          have hi60 : i < 60 := by omega
          obtain ⟨ad, b, rfl, hcell⟩ := bool_at (Kd.C_below HT.out HB.out) i hil
          have hd : decide ((i : Int) < (nb : Int)) = true := by simp; omega
          have hd' : decide (i < nb) = true := by simp; omega
          have he : decide ((i : Int) < 60) = true := by simp; omega
          have he' : decide (i < 60) = true := by simp; omega
          have hi0 : (0 : Int) ≤ (i : Int) := by omega
          have hib : (i : Int) ≤ 60 := by omega
          have hi1 : (i : Int) < (nb : Int) := by omega
          clear hend hi1 hi2
          cases b with
          | true =>
            rcases l with _ | ⟨x, r⟩
            · obtain rfl : 0 = nl := HLN.out
              go_wp2_with fail
              refine (take_none Al 0 cl rfl (by omega) _ HL.out).mono ?_
              rintro e w4 ⟨A4, c4, rfl, HB4⟩
              have HM := Aside0.mk (And.intro HQ2.out HM.out)
              replace HL := Aside0.mk (Kd.C_below HL.out HB4.out)
              replace HU := Aside0.mk (Kd.C_below HU.out HB4.out)
              replace HB := Aside0.mk (below_step HB.out HB4.out)
              clear HB4 hcell
              go_wp2_with ((with_reducible refine gate_builtin (b := .append) (xs := #[.tmp 76, .tmp 77]) rfl ?_); (try (refine gate_guard (by rfl) ?_; dsimp only)); at_builtin; refine Kd.R_append_row (Value.int .i64) (0 : Int) (h1 := fun _ => rfl) (w0 := w4) w4.heap.size rfl (.tmp 76) (.tmp 77) 47 3 (.int .i64 0) 8 rfl Try.underlying47 info3 rfl (by omega) (.slice (some ⟨w4.heap.size, 0, none⟩) 0 0) [] us Au nu cu (fun _ => True) rfl rfl (fun _ _ => trivial) (R_madeI w4) (Kd.C_alloc HU.out _) (below_alloc (Below.refl _ w4) _) (by simp) (by simp <;> omega) ?_)
              intro v1 w5 ho hb1 hg hat
              obtain ⟨E5, e5, eq5⟩ := Kd.R_slice ho
              obtain ⟨n5, hn5⟩ : ∃ z, (us).length = z := ⟨_, rfl⟩
              rw [hn5] at eq5
              subst eq5
              have HN5 := Aside0.mk hn5
              have HR5 := Aside0.mk ho
              have HK5 := Aside0.mk hb1
              clear hn5 ho hb1 hg hat
              have hc5 : n5 ≤ e5 := (R_C HR5.out).2.1
              have HC5 := Aside0.mk (R_C HR5.out).2.2
              have HL5 := Aside0.mk (Kd.C_below HL.out HK5.out)
              have HU5 := Aside0.mk (Kd.C_below HU.out HK5.out)
              have HB5 := Aside0.mk (below_step HB.out HK5.out)
              clear HL HU HB HK5 HR5
              have HCV := Aside0.mk (mv_cover HM.out.1 (by omega : q ≤ 1000) HM.out.2)
              go_wp2_with fail
              refine (cover_one Al 0 cl [] HLN.out (by omega) E5 n5 e5 (us) HN5.out hc5 (q : Int) true HCV.out.1 w5 HL5.out HC5.out).mono ?_
              rintro e w6 ⟨rfl, HB6⟩
              have HL6 := Aside0.mk (Kd.C_below HL5.out HB6.out)
              have HU6 := Aside0.mk (Kd.C_below HU5.out HB6.out)
              have HBB6 := Aside0.mk (below_step HB5.out HB6.out)
              clear HL5 HU5 HB5 HB6 HC5
              go_wp2_with ((with_reducible refine gate_builtin (b := .append) (xs := #[.tmp 84, .tmp 85]) rfl ?_); (try (refine gate_guard (by rfl) ?_; dsimp only)); at_builtin; refine Kd.R_append_row (Value.int .i64) (0 : Int) (h1 := fun _ => rfl) (w0 := w6) w6.heap.size rfl (.tmp 84) (.tmp 85) 47 3 (.int .i64 0) 8 rfl Try.underlying47 info3 rfl (by omega) (.slice (some ⟨w6.heap.size, 0, none⟩) 0 0) [] us Au nu cu (fun _ => True) rfl rfl (fun _ _ => trivial) (R_madeI w6) (Kd.C_alloc HU6.out _) (below_alloc (Below.refl _ w6) _) (by simp) (by simp <;> omega) ?_)
              intro v1 w7 ho hb1 hg hat
              obtain ⟨E7, e7, eq7⟩ := Kd.R_slice ho
              obtain ⟨n7, hn7⟩ : ∃ z, (us).length = z := ⟨_, rfl⟩
              rw [hn7] at eq7
              subst eq7
              have HN7 := Aside0.mk hn7
              have HR7 := Aside0.mk ho
              have HK7 := Aside0.mk hb1
              clear hn7 ho hb1 hg hat
              have hc7 : n7 ≤ e7 := (R_C HR7.out).2.1
              have HC7 := Aside0.mk (R_C HR7.out).2.2
              have HL7 := Aside0.mk (Kd.C_below HL6.out HK7.out)
              have HU7 := Aside0.mk (Kd.C_below HU6.out HK7.out)
              have HB7 := Aside0.mk (below_step HBB6.out HK7.out)
              clear HL6 HU6 HBB6 HK7 HR7
              go_wp2_with fail
              refine (cover_one Al 0 cl [] HLN.out (by omega) E7 n7 e7 (us) HN7.out hc7 ((q : Int) + 1) false HCV.out.2 w7 HL7.out HC7.out).mono ?_
              rintro e w8 ⟨rfl, HB8⟩
              have HL8 := Aside0.mk (Kd.C_below HL7.out HB8.out)
              have HU8 := Aside0.mk (Kd.C_below HU7.out HB8.out)
              have HBB8 := Aside0.mk (below_step HB7.out HB8.out)
              clear HL7 HU7 HB7 HB8 HC7
              go_wp2_with fail
              go_roundw
              case rel => exact ⟨i + 1, [], us, Al, 0, cl, Au, nu, cu, by omega, by omega, by go_num, rfl, rfl, by omega, by omega, HLN, HUN, HL8, HU8, HBB8, ⟨HM.out.2⟩⟩
              case measure => simp [intOf]; omega
            · obtain ⟨m, hm⟩ : ∃ z, r.length = z := ⟨_, rfl⟩
              have HMN := Aside0.mk hm
              have hnm : nl = m + 1 := by have := HLN.out; simp at this; omega
              have hnl : 0 < nl := by omega
              have hnl1 : (0 : Int) < (nl : Int) := by omega
              have hnb : decide ((0 : Int) < (nl : Int)) = true := by simp; omega
              have hnb' : decide (0 < nl) = true := by simp; omega
              have hmu : m + nu + 1 ≤ 60 := by omega
              clear hm hnm
              go_wp2_with fail
              refine (take_some Al nl cl m x r HLN.out HMN.out (by omega) (HM.out.ep x (List.mem_cons_self ..)) (by omega) _ HL.out).mono ?_
              rintro e w4 ⟨A4, c4, rfl, hmc, HL4, HB4⟩
              have HM := Aside0.mk (And.intro HQ2.out (mv_take HM.out))
              replace HLN := HMN
              clear HL
              replace HL := HL4
              replace HU := Aside0.mk (Kd.C_below HU.out HB4.out)
              replace HB := Aside0.mk (below_step HB.out HB4.out)
              clear HB4 hcell HL4 HMN
              go_wp2_with (first | ((with_reducible refine gate_builtin (b := .append) (xs := #[.tmp 55, .tmp 56]) rfl ?_); (try (refine gate_guard (by rfl) ?_; dsimp only)); at_builtin; refine Kd.R_append_row (Value.int .i64) (0 : Int) (h1 := fun _ => rfl) (w0 := w4) w4.heap.size rfl (.tmp 55) (.tmp 56) 47 3 (.int .i64 0) 8 rfl Try.underlying47 info3 rfl (by omega) (.slice (some ⟨w4.heap.size, 0, none⟩) 0 0) [] us Au nu cu (fun _ => True) rfl rfl (fun _ _ => trivial) (R_madeI w4) (Kd.C_alloc HU.out _) (below_alloc (Below.refl _ w4) _) (by simp) (by simp <;> omega) ?_; intro v1 w1 ho hb1 hg hat; rw [List.nil_append] at ho; obtain ⟨E1, e1, eq1⟩ := Kd.R_slice ho; obtain ⟨n1, hn1⟩ : ∃ z, (us).length = z := ⟨_, rfl⟩; rw [hn1] at eq1; subst eq1; have HN1 := Aside0.mk hn1; have HR1 := Aside0.mk ho; have HK1 := Aside0.mk hb1; clear hn1 ho hb1 hg hat) | (at_builtin; refine Kd.R_append (Kd.int .i64) (w0 := w4) w4.heap.size rfl (.tmp 57) (.tmp 59) 47 3 (.int .i64 0) 8 rfl Try.underlying47 info3 rfl (by decide) (by omega) (.slice E1 n1 e1) us x.f0 [.int .i64 x.f0] (fun _ => True) (fun _ => False) rfl rfl rfl (fun _ hk => hk.elim) (fun _ _ => trivial) HR1.out HK1.out HK1.out.size (by have := HUN.out; omega) ?_))
              intro v1 w2 ho hb1 hg hat
              obtain ⟨E2, e2, eq2⟩ := Kd.R_slice ho
              obtain ⟨n2, hn2⟩ : ∃ z, (us ++ [x.f0]).length = z := ⟨_, rfl⟩
              rw [hn2] at eq2
              subst eq2
              have HN2 := Aside0.mk hn2
              have HR2 := Aside0.mk ho
              have HK2 := Aside0.mk hb1
              clear hn2 ho hb1 hg hat
              have hc2 : n2 ≤ e2 := (R_C HR2.out).2.1
              have HUS := HUN
              replace HUN := HN2
              replace HL := Aside0.mk (Kd.C_below HL.out HK2.out)
              replace HB := Aside0.mk (below_step HB.out HK2.out)
              have HU2 := Aside0.mk (R_C HR2.out).2.2
              clear HU
              have HU := HU2
              have hn2 : n2 ≤ 60 := by have h_ := HN2.out; rw [List.length_append, HUS.out] at h_; simp at h_; omega
              clear HU2 HR1 HK1 HN1 HR2 HK2 HN2
              go_wp2_with ((with_reducible refine gate_builtin (b := .append) (xs := #[.tmp 76, .tmp 77]) rfl ?_); (try (refine gate_guard (by rfl) ?_; dsimp only)); at_builtin; refine Kd.R_append_row (Value.int .i64) (0 : Int) (h1 := fun _ => rfl) (w0 := w2) w2.heap.size rfl (.tmp 76) (.tmp 77) 47 3 (.int .i64 0) 8 rfl Try.underlying47 info3 rfl (by omega) (.slice (some ⟨w2.heap.size, 0, none⟩) 0 0) [] (us ++ [x.f0]) E2 n2 e2 (fun _ => True) rfl rfl (fun _ _ => trivial) (R_madeI w2) (Kd.C_alloc HU.out _) (below_alloc (Below.refl _ w2) _) (by simp) (by simp <;> omega) ?_)
              intro v1 w5 ho hb1 hg hat
              obtain ⟨E5, e5, eq5⟩ := Kd.R_slice ho
              obtain ⟨n5, hn5⟩ : ∃ z, ((us ++ [x.f0])).length = z := ⟨_, rfl⟩
              rw [hn5] at eq5
              subst eq5
              have HN5 := Aside0.mk hn5
              have HR5 := Aside0.mk ho
              have HK5 := Aside0.mk hb1
              clear hn5 ho hb1 hg hat
              have hc5 : n5 ≤ e5 := (R_C HR5.out).2.1
              have HC5 := Aside0.mk (R_C HR5.out).2.2
              have HL5 := Aside0.mk (Kd.C_below HL.out HK5.out)
              have HU5 := Aside0.mk (Kd.C_below HU.out HK5.out)
              have HB5 := Aside0.mk (below_step HB.out HK5.out)
              clear HL HU HB HK5 HR5
              have HCV := Aside0.mk (mv_cover HM.out.1 (by omega : q ≤ 1000) HM.out.2)
              go_wp2_with fail
              refine (cover_one A4 m c4 r HLN.out (by omega) E5 n5 e5 ((us ++ [x.f0])) HN5.out hc5 (q : Int) true HCV.out.1 w5 HL5.out HC5.out).mono ?_
              rintro e w6 ⟨rfl, HB6⟩
              have HL6 := Aside0.mk (Kd.C_below HL5.out HB6.out)
              have HU6 := Aside0.mk (Kd.C_below HU5.out HB6.out)
              have HBB6 := Aside0.mk (below_step HB5.out HB6.out)
              clear HL5 HU5 HB5 HB6 HC5
              go_wp2_with ((with_reducible refine gate_builtin (b := .append) (xs := #[.tmp 84, .tmp 85]) rfl ?_); (try (refine gate_guard (by rfl) ?_; dsimp only)); at_builtin; refine Kd.R_append_row (Value.int .i64) (0 : Int) (h1 := fun _ => rfl) (w0 := w6) w6.heap.size rfl (.tmp 84) (.tmp 85) 47 3 (.int .i64 0) 8 rfl Try.underlying47 info3 rfl (by omega) (.slice (some ⟨w6.heap.size, 0, none⟩) 0 0) [] (us ++ [x.f0]) E2 n2 e2 (fun _ => True) rfl rfl (fun _ _ => trivial) (R_madeI w6) (Kd.C_alloc HU6.out _) (below_alloc (Below.refl _ w6) _) (by simp) (by simp <;> omega) ?_)
              intro v1 w7 ho hb1 hg hat
              obtain ⟨E7, e7, eq7⟩ := Kd.R_slice ho
              obtain ⟨n7, hn7⟩ : ∃ z, ((us ++ [x.f0])).length = z := ⟨_, rfl⟩
              rw [hn7] at eq7
              subst eq7
              have HN7 := Aside0.mk hn7
              have HR7 := Aside0.mk ho
              have HK7 := Aside0.mk hb1
              clear hn7 ho hb1 hg hat
              have hc7 : n7 ≤ e7 := (R_C HR7.out).2.1
              have HC7 := Aside0.mk (R_C HR7.out).2.2
              have HL7 := Aside0.mk (Kd.C_below HL6.out HK7.out)
              have HU7 := Aside0.mk (Kd.C_below HU6.out HK7.out)
              have HB7 := Aside0.mk (below_step HBB6.out HK7.out)
              clear HL6 HU6 HBB6 HK7 HR7
              go_wp2_with fail
              refine (cover_one A4 m c4 r HLN.out (by omega) E7 n7 e7 ((us ++ [x.f0])) HN7.out hc7 ((q : Int) + 1) false HCV.out.2 w7 HL7.out HC7.out).mono ?_
              rintro e w8 ⟨rfl, HB8⟩
              have HL8 := Aside0.mk (Kd.C_below HL7.out HB8.out)
              have HU8 := Aside0.mk (Kd.C_below HU7.out HB8.out)
              have HBB8 := Aside0.mk (below_step HB7.out HB8.out)
              clear HL7 HU7 HB7 HB8 HC7
              go_wp2_with fail
              go_roundw
              case rel => exact ⟨i + 1, r, (us ++ [x.f0]), A4, m, c4, E2, n2, e2, by omega, by omega, by go_num, rfl, rfl, by omega, by omega, HLN, HUN, HL8, HU8, HBB8, ⟨HM.out.2⟩⟩
              case measure => simp [intOf]; omega
          | false =>
            rcases us with _ | ⟨u, ut⟩
            · obtain rfl : 0 = nu := HUN.out
              have HM := Aside0.mk (And.intro HQ2.out HM.out)
              go_wp2_with ((with_reducible refine gate_builtin (b := .append) (xs := #[.tmp 76, .tmp 77]) rfl ?_); (try (refine gate_guard (by rfl) ?_; dsimp only)); at_builtin; refine Kd.R_append_row (Value.int .i64) (0 : Int) (h1 := fun _ => rfl) (w0 := wr) wr.heap.size rfl (.tmp 76) (.tmp 77) 47 3 (.int .i64 0) 8 rfl Try.underlying47 info3 rfl (by omega) (.slice (some ⟨wr.heap.size, 0, none⟩) 0 0) [] [] Au 0 cu (fun _ => True) rfl rfl (fun _ _ => trivial) (R_madeI wr) (Kd.C_alloc HU.out _) (below_alloc (Below.refl _ wr) _) (by simp) (by simp <;> omega) ?_)
              intro v1 w5 ho hb1 hg hat
              obtain ⟨E5, e5, eq5⟩ := Kd.R_slice ho
              obtain ⟨n5, hn5⟩ : ∃ z, ([]).length = z := ⟨_, rfl⟩
              rw [hn5] at eq5
              subst eq5
              have HN5 := Aside0.mk hn5
              have HR5 := Aside0.mk ho
              have HK5 := Aside0.mk hb1
              clear hn5 ho hb1 hg hat
              have hc5 : n5 ≤ e5 := (R_C HR5.out).2.1
              have HC5 := Aside0.mk (R_C HR5.out).2.2
              have HL5 := Aside0.mk (Kd.C_below HL.out HK5.out)
              have HU5 := Aside0.mk (Kd.C_below HU.out HK5.out)
              have HB5 := Aside0.mk (below_step HB.out HK5.out)
              clear HL HU HB HK5 HR5
              have HCV := Aside0.mk (mv_cover HM.out.1 (by omega : q ≤ 1000) HM.out.2)
              go_wp2_with fail
              refine (cover_one Al nl cl l HLN.out (by omega) E5 n5 e5 ([]) HN5.out hc5 (q : Int) true HCV.out.1 w5 HL5.out HC5.out).mono ?_
              rintro e w6 ⟨rfl, HB6⟩
              have HL6 := Aside0.mk (Kd.C_below HL5.out HB6.out)
              have HU6 := Aside0.mk (Kd.C_below HU5.out HB6.out)
              have HBB6 := Aside0.mk (below_step HB5.out HB6.out)
              clear HL5 HU5 HB5 HB6 HC5
              go_wp2_with ((with_reducible refine gate_builtin (b := .append) (xs := #[.tmp 84, .tmp 85]) rfl ?_); (try (refine gate_guard (by rfl) ?_; dsimp only)); at_builtin; refine Kd.R_append_row (Value.int .i64) (0 : Int) (h1 := fun _ => rfl) (w0 := w6) w6.heap.size rfl (.tmp 84) (.tmp 85) 47 3 (.int .i64 0) 8 rfl Try.underlying47 info3 rfl (by omega) (.slice (some ⟨w6.heap.size, 0, none⟩) 0 0) [] [] Au 0 cu (fun _ => True) rfl rfl (fun _ _ => trivial) (R_madeI w6) (Kd.C_alloc HU6.out _) (below_alloc (Below.refl _ w6) _) (by simp) (by simp <;> omega) ?_)
              intro v1 w7 ho hb1 hg hat
              obtain ⟨E7, e7, eq7⟩ := Kd.R_slice ho
              obtain ⟨n7, hn7⟩ : ∃ z, ([]).length = z := ⟨_, rfl⟩
              rw [hn7] at eq7
              subst eq7
              have HN7 := Aside0.mk hn7
              have HR7 := Aside0.mk ho
              have HK7 := Aside0.mk hb1
              clear hn7 ho hb1 hg hat
              have hc7 : n7 ≤ e7 := (R_C HR7.out).2.1
              have HC7 := Aside0.mk (R_C HR7.out).2.2
              have HL7 := Aside0.mk (Kd.C_below HL6.out HK7.out)
              have HU7 := Aside0.mk (Kd.C_below HU6.out HK7.out)
              have HB7 := Aside0.mk (below_step HBB6.out HK7.out)
              clear HL6 HU6 HBB6 HK7 HR7
              go_wp2_with fail
              refine (cover_one Al nl cl l HLN.out (by omega) E7 n7 e7 ([]) HN7.out hc7 ((q : Int) + 1) false HCV.out.2 w7 HL7.out HC7.out).mono ?_
              rintro e w8 ⟨rfl, HB8⟩
              have HL8 := Aside0.mk (Kd.C_below HL7.out HB8.out)
              have HU8 := Aside0.mk (Kd.C_below HU7.out HB8.out)
              have HBB8 := Aside0.mk (below_step HB7.out HB8.out)
              clear HL7 HU7 HB7 HB8 HC7
              go_wp2_with fail
              go_roundw
              case rel => exact ⟨i + 1, l, [], Al, nl, cl, Au, 0, cu, by omega, by omega, by go_num, rfl, rfl, by omega, by omega, HLN, HUN, HL8, HU8, HBB8, ⟨HM.out.2⟩⟩
              case measure => simp [intOf]; omega
            · have hnu : 0 < nu := by have := HUN.out; simp at this; omega
              have hnu1 : (0 : Int) < (nu : Int) := by omega
              have hnb : decide ((0 : Int) < (nu : Int)) = true := by simp; omega
              have hnb' : decide (0 < nu) = true := by simp; omega
              obtain ⟨au, rfl, hcu⟩ := int_at0 HU.out hnu
              have hm5 : (i : Int) % 5 ≤ 4 := by omega
              have hm50 : 0 ≤ (i : Int) % 5 := by omega
              have hl1 : (putF u ((i : Int) % 5) l).length = nl + 1 := by
                have h1 := mv_len HM.out
                have h2 := mv_len (mv_put (by omega) HM.out hm50 hm5)
                have := HLN.out
                simp at h1
                omega
              obtain ⟨m, hm⟩ : ∃ z, nl + 1 = z := ⟨_, rfl⟩
              rw [hm] at hl1
              have HMN := Aside0.mk hl1
              have hmm : m ≤ 60 := by omega
              clear hm hl1
              go_wp2_with fail
              refine (put_some Al nl cl m l u _ HLN.out HMN.out (by omega) (by omega) _ HL.out).mono ?_
              rintro e w4 ⟨A4, c4, rfl, hmc, HL4, HB4⟩
              have HM := Aside0.mk (And.intro HQ2.out (mv_put (by omega) HM.out hm50 hm5))
              replace HLN := HMN
              clear HL
              replace HL := HL4
              replace HU := Aside0.mk (Kd.C_below HU.out HB4.out)
              replace HB := Aside0.mk (below_step HB.out HB4.out)
              clear HB4 hcell HL4 HMN hcu
              obtain ⟨Ac, mc, hmc1, HUC, hmc2, hcut⟩ := cutI (some au) nu cu ut u HUN.out (by omega) w4 HU.out
              have HMC := Aside0.mk hmc1
              have hmc3 : mc ≤ 60 := by have := HUN.out; simp at this; omega
              clear hmc1
              go_wp2_with ((with_reducible refine gate_builtin (b := .append) (xs := #[.tmp 71, .tmp 73]) rfl ?_); (try (refine gate_guard (by rfl) ?_; dsimp only)); at_builtin; refine Kd.R_append_row (Value.int .i64) (0 : Int) (h1 := fun _ => rfl) (w0 := w4) w4.heap.size rfl (.tmp 71) (.tmp 73) 47 3 (.int .i64 0) 8 rfl Try.underlying47 info3 rfl (by omega) (.slice (some ⟨w4.heap.size, 0, none⟩) 0 0) [] ut Ac mc (cu - 1) (fun _ => True) rfl rfl (fun _ _ => trivial) (R_madeI w4) (Kd.C_alloc HUC.out _) (below_alloc (Below.refl _ w4) _) (by simp) (by simp <;> omega) ?_)
              intro v1 w2 ho hb1 hg hat
              obtain ⟨E2, e2, eq2⟩ := Kd.R_slice ho
              obtain ⟨n2, hn2⟩ : ∃ z, (ut).length = z := ⟨_, rfl⟩
              rw [hn2] at eq2
              subst eq2
              have HN2 := Aside0.mk hn2
              have HR2 := Aside0.mk ho
              have HK2 := Aside0.mk hb1
              clear hn2 ho hb1 hg hat
              have hc2 : n2 ≤ e2 := (R_C HR2.out).2.1
              replace HUN := HN2
              replace HL := Aside0.mk (Kd.C_below HL.out HK2.out)
              replace HB := Aside0.mk (below_step HB.out HK2.out)
              have HU2 := Aside0.mk (R_C HR2.out).2.2
              clear HU
              have HU := HU2
              have hn2 : n2 ≤ 60 := by have := HN2.out; have := HMC.out; omega
              clear HU2 HR2 HK2 HN2 HUC HMC hcut
              go_wp2_with ((with_reducible refine gate_builtin (b := .append) (xs := #[.tmp 76, .tmp 77]) rfl ?_); (try (refine gate_guard (by rfl) ?_; dsimp only)); at_builtin; refine Kd.R_append_row (Value.int .i64) (0 : Int) (h1 := fun _ => rfl) (w0 := w2) w2.heap.size rfl (.tmp 76) (.tmp 77) 47 3 (.int .i64 0) 8 rfl Try.underlying47 info3 rfl (by omega) (.slice (some ⟨w2.heap.size, 0, none⟩) 0 0) [] ut E2 n2 e2 (fun _ => True) rfl rfl (fun _ _ => trivial) (R_madeI w2) (Kd.C_alloc HU.out _) (below_alloc (Below.refl _ w2) _) (by simp) (by simp <;> omega) ?_)
              intro v1 w5 ho hb1 hg hat
              obtain ⟨E5, e5, eq5⟩ := Kd.R_slice ho
              obtain ⟨n5, hn5⟩ : ∃ z, (ut).length = z := ⟨_, rfl⟩
              rw [hn5] at eq5
              subst eq5
              have HN5 := Aside0.mk hn5
              have HR5 := Aside0.mk ho
              have HK5 := Aside0.mk hb1
              clear hn5 ho hb1 hg hat
              have hc5 : n5 ≤ e5 := (R_C HR5.out).2.1
              have HC5 := Aside0.mk (R_C HR5.out).2.2
              have HL5 := Aside0.mk (Kd.C_below HL.out HK5.out)
              have HU5 := Aside0.mk (Kd.C_below HU.out HK5.out)
              have HB5 := Aside0.mk (below_step HB.out HK5.out)
              clear HL HU HB HK5 HR5
              have HCV := Aside0.mk (mv_cover HM.out.1 (by omega : q ≤ 1000) HM.out.2)
              go_wp2_with fail
              refine (cover_one A4 m c4 (putF u ((i : Int) % 5) l) HLN.out (by omega) E5 n5 e5 (ut) HN5.out hc5 (q : Int) true HCV.out.1 w5 HL5.out HC5.out).mono ?_
              rintro e w6 ⟨rfl, HB6⟩
              have HL6 := Aside0.mk (Kd.C_below HL5.out HB6.out)
              have HU6 := Aside0.mk (Kd.C_below HU5.out HB6.out)
              have HBB6 := Aside0.mk (below_step HB5.out HB6.out)
              clear HL5 HU5 HB5 HB6 HC5
              go_wp2_with ((with_reducible refine gate_builtin (b := .append) (xs := #[.tmp 84, .tmp 85]) rfl ?_); (try (refine gate_guard (by rfl) ?_; dsimp only)); at_builtin; refine Kd.R_append_row (Value.int .i64) (0 : Int) (h1 := fun _ => rfl) (w0 := w6) w6.heap.size rfl (.tmp 84) (.tmp 85) 47 3 (.int .i64 0) 8 rfl Try.underlying47 info3 rfl (by omega) (.slice (some ⟨w6.heap.size, 0, none⟩) 0 0) [] ut E2 n2 e2 (fun _ => True) rfl rfl (fun _ _ => trivial) (R_madeI w6) (Kd.C_alloc HU6.out _) (below_alloc (Below.refl _ w6) _) (by simp) (by simp <;> omega) ?_)
              intro v1 w7 ho hb1 hg hat
              obtain ⟨E7, e7, eq7⟩ := Kd.R_slice ho
              obtain ⟨n7, hn7⟩ : ∃ z, (ut).length = z := ⟨_, rfl⟩
              rw [hn7] at eq7
              subst eq7
              have HN7 := Aside0.mk hn7
              have HR7 := Aside0.mk ho
              have HK7 := Aside0.mk hb1
              clear hn7 ho hb1 hg hat
              have hc7 : n7 ≤ e7 := (R_C HR7.out).2.1
              have HC7 := Aside0.mk (R_C HR7.out).2.2
              have HL7 := Aside0.mk (Kd.C_below HL6.out HK7.out)
              have HU7 := Aside0.mk (Kd.C_below HU6.out HK7.out)
              have HB7 := Aside0.mk (below_step HBB6.out HK7.out)
              clear HL6 HU6 HBB6 HK7 HR7
              go_wp2_with fail
              refine (cover_one A4 m c4 (putF u ((i : Int) % 5) l) HLN.out (by omega) E7 n7 e7 (ut) HN7.out hc7 ((q : Int) + 1) false HCV.out.2 w7 HL7.out HC7.out).mono ?_
              rintro e w8 ⟨rfl, HB8⟩
              have HL8 := Aside0.mk (Kd.C_below HL7.out HB8.out)
              have HU8 := Aside0.mk (Kd.C_below HU7.out HB8.out)
              have HBB8 := Aside0.mk (below_step HB7.out HB8.out)
              clear HL7 HU7 HB7 HB8 HC7
              go_wp2_with fail
              go_roundw
              case rel => exact ⟨i + 1, (putF u ((i : Int) % 5) l), ut, A4, m, c4, E2, n2, e2, by omega, by omega, by go_num, rfl, rfl, by omega, by omega, HLN, HUN, HL8, HU8, HBB8, ⟨HM.out.2⟩⟩
              case measure => simp [intOf]; omega
theorem FreeMoves_walk (a0 : Int) (w0 : (Lit.int .u8 a0).wf = true) (A : Option Addr) (c : Nat) (bs : List Bool) (w : World) (hb : Kd.bool.C w A bs.length bs) (hc : bs.length ≤ c) :
    Calls Try.prog 9 #[.int .u8 a0, .slice A bs.length c] w fun e w' => e = .returned (.bool true) ∧ Below w.heap.size w w' := by
  simp only [Lit.wf, Bool.and_eq_true, decide_eq_true_eq] at w0
  exact moves_calls a0 w0.1 w0.2 A c bs w hb hc
end Go.Proofs.Ytmplcceghjofhaa.PF
