/- node.Check answers what chk says of the node -/
import Derived.Test.YtpdlbebiapimoaaHKit
namespace Go.Proofs.Ytpdlbebiapimoaa.PN
open Go.RowKit Go.Proofs.YtpdlbebiapimoaaW.PrintWords Go.Proofs.YtpdlbebiapimoaaW.PrintLast Go.Proofs.YtpdlbebiapimoaaW.PrintMore
set_option linter.unusedVariables false
set_option linter.unusedSimpArgs false
theorem longer37 (s : ByteArray) (c : Int) (B : Nat) (W : World) (hc : W.cell? ⟨B, 0, none⟩ = some (.int .i64 c)) :
    Calls Try.prog 37 #[.string s, .pointer (some ⟨B, 0, none⟩)] W fun e W' => e = .returned (.bool (decide (c < (s.size : Int)))) ∧ W = W' := by
  go_enter Try.func37, Try.ntmps37
  go_wp2
  go_ret
  exact ⟨rfl, rfl⟩
theorem index49 (p : ByteArray → Bool) (B : Nat) (A : Option Addr) (c : Nat) (l : List ByteArray) (W : World)
    (hp : ∀ s : ByteArray, Calls Try.prog 37 #[.string s, .pointer (some ⟨B, 0, none⟩)] W fun e W' => e = .returned (.bool (p s)) ∧ W = W')
    (hr : Kd.C Kd.string W A l.length l) (hl : l.length ≤ 9223372036854775807) :
    Calls Try.prog 49 #[.slice A l.length c, .func (.func 37) #[] #[.pointer (some ⟨B, 0, none⟩)]] W fun e W' => e = .returned (.int .i64 (idxF p l)) ∧ W = W' := by
  have HP := Aside0.mk hp
  clear hp
  have HR := Aside0.mk hr
  clear hr
  go_enter Try.func49, Try.ntmps49
  go_wp2
  go_loop [4, 5, 8] (fun _ _ i => ∃ k : Nat, k ≤ l.length ∧ i = .int .i64 k ∧ Aside0 ((l.take k).any p = false)) (fun _ _ i => l.length - (intOf i).toNat)
  case atStart => exact ⟨0, Nat.zero_le _, rfl, ⟨rfl⟩⟩
  case round =>
    obtain ⟨k, hk, rfl, HN⟩ := hrel
    by_cases hlt : k < l.length
    · obtain ⟨ad, s, rfl, hs, hx⟩ := str_at HR.out k hlt
      go_wp2_with fail
      refine (HP.out s).mono ?_
      rintro e w' ⟨rfl, rfl⟩
      by_cases hps : p s = true
      · have hq := Aside0.mk (idx_hit p l k s HN.out hs.out hps)
        go_wp2
        go_ret
        exact ⟨ret_int hq.out.symm, rfl⟩
      · replace hps := Bool.eq_false_iff.mpr hps
        have hq := Aside0.mk (any_snoc l p k s hs.out)
        have hq2 : Aside0 ((l.take (k + 1)).any p = false) := ⟨by rw [hq.out, HN.out, hps]; rfl⟩
        go_wp2
        go_round
        case rel => exact ⟨k + 1, by omega, by go_num, hq2⟩
        case measure => simp [intOf]; omega
    · have hq := Aside0.mk (idx_miss p l (by have h := HN.out; rwa [List.take_of_length_le (by omega)] at h))
      go_wp2
      go_ret
      exact ⟨ret_int hq.out.symm, rfl⟩
theorem contains36 (p : ByteArray → Bool) (B : Nat) (A : Option Addr) (c : Nat) (l : List ByteArray) (W : World)
    (hp : ∀ s : ByteArray, Calls Try.prog 37 #[.string s, .pointer (some ⟨B, 0, none⟩)] W fun e W' => e = .returned (.bool (p s)) ∧ W = W')
    (hr : Kd.C Kd.string W A l.length l) (hl : l.length ≤ 9223372036854775807) :
    Calls Try.prog 36 #[.slice A l.length c, .func (.func 37) #[] #[.pointer (some ⟨B, 0, none⟩)]] W fun e W' => e = .returned (.bool (l.any p)) ∧ W = W' := by
  have HP := Aside0.mk hp
  clear hp
  have HR := Aside0.mk hr
  clear hr
  have hq := Aside0.mk (idx_ge p l)
  go_enter Try.func36, Try.ntmps36
  go_wp2_with fail
  refine (index49 p B A c l W HP.out HR.out hl).mono ?_
  rintro e w' ⟨rfl, rfl⟩
  generalize idxF p l = q at hq ⊢
  go_wp2
  go_ret
  exact ⟨ret_bool hq.out, rfl⟩
theorem long35 (m : Int) (A : Option Addr) (c : Nat) (l : List ByteArray) (w : World) (hr : Kd.C Kd.string w A l.length l) (hl : l.length ≤ 9223372036854775807) :
    Calls Try.prog 35 #[.slice A l.length c, .int .i64 m] w fun e w' => e = .returned (.bool (long m l)) ∧ Below w.heap.size w w' := by
  have HR := Aside0.mk hr
  clear hr
  go_enter Try.func35, Try.ntmps35
  go_wp2_with fail
  refine (contains36 (fun s => decide (m < (s.size : Int))) _ A c l _ (fun s => longer37 s m _ _ (by simp)) (Kd.C_below HR.out (below_alloc (Below.refl _ _) _)) hl).mono ?_
  rintro e w' ⟨rfl, rfl⟩
  have hq : Aside0 ((l.any fun s => decide (m < (s.size : Int))) = long m l) := ⟨rfl⟩
  generalize (l.any fun s => decide (m < (s.size : Int))) = r at hq ⊢
  go_wp2
  go_ret
  exact ⟨ret_bool hq.out, below_alloc (Below.refl _ _) _⟩
def wrongKid (k : Int) : Bool := !decide (1 ≤ k ∧ k ≤ 4294967295)
theorem wrong38 (k : Int) (W : World) : Calls Try.prog 38 #[.int .i64 k] W fun e W' => e = .returned (.bool (wrongKid k)) ∧ W = W' := by
  by_cases h1 : k < 1
  · have hq : Aside0 (wrongKid k = true) := ⟨by simp [wrongKid]; omega⟩
    go_enter Try.func38, Try.ntmps38
    go_wp2
    go_ret
    exact ⟨ret_bool hq.out.symm, rfl⟩
  · by_cases h2 : 4294967295 < k
    · have hq : Aside0 (wrongKid k = true) := ⟨by simp [wrongKid]; omega⟩
      go_enter Try.func38, Try.ntmps38
      go_wp2
      go_ret
      exact ⟨ret_bool hq.out.symm, rfl⟩
    · have hq : Aside0 (wrongKid k = false) := ⟨by simp [wrongKid]; omega⟩
      go_enter Try.func38, Try.ntmps38
      go_wp2
      go_ret
      exact ⟨ret_bool hq.out.symm, rfl⟩
theorem index50 (p : Int → Bool) (A : Option Addr) (c : Nat) (l : List Int) (W : World)
    (hp : ∀ s : Int, Calls Try.prog 38 #[.int .i64 s] W fun e W' => e = .returned (.bool (p s)) ∧ W = W')
    (hr : Kd.C (Kd.int .i64) W A l.length l) (hl : l.length ≤ 9223372036854775807) :
    Calls Try.prog 50 #[.slice A l.length c, .func (.func 38) #[] #[]] W fun e W' => e = .returned (.int .i64 (idxF p l)) ∧ W = W' := by
  have HP := Aside0.mk hp
  clear hp
  have HR := Aside0.mk hr
  clear hr
  go_enter Try.func50, Try.ntmps50
  go_wp2
  go_loop [4, 5, 8] (fun _ _ i => ∃ k : Nat, k ≤ l.length ∧ i = .int .i64 k ∧ Aside0 ((l.take k).any p = false)) (fun _ _ i => l.length - (intOf i).toNat)
  case atStart => exact ⟨0, Nat.zero_le _, rfl, ⟨rfl⟩⟩
  case round =>
    obtain ⟨k, hk, rfl, HN⟩ := hrel
    by_cases hlt : k < l.length
    · obtain ⟨ad, s, rfl, hs, hx⟩ := int_at HR.out k hlt
      go_wp2_with fail
      refine (HP.out s).mono ?_
      rintro e w' ⟨rfl, rfl⟩
      by_cases hps : p s = true
      · have hq := Aside0.mk (idx_hit p l k s HN.out hs.out hps)
        go_wp2
        go_ret
        exact ⟨ret_int hq.out.symm, rfl⟩
      · replace hps := Bool.eq_false_iff.mpr hps
        have hq := Aside0.mk (any_snoc l p k s hs.out)
        have hq2 : Aside0 ((l.take (k + 1)).any p = false) := ⟨by rw [hq.out, HN.out, hps]; rfl⟩
        go_wp2
        go_round
        case rel => exact ⟨k + 1, by omega, by go_num, hq2⟩
        case measure => simp [intOf]; omega
    · have hq := Aside0.mk (idx_miss p l (by have h := HN.out; rwa [List.take_of_length_le (by omega)] at h))
      go_wp2
      go_ret
      exact ⟨ret_int hq.out.symm, rfl⟩
theorem contains39 (p : Int → Bool) (A : Option Addr) (c : Nat) (l : List Int) (W : World)
    (hp : ∀ s : Int, Calls Try.prog 38 #[.int .i64 s] W fun e W' => e = .returned (.bool (p s)) ∧ W = W')
    (hr : Kd.C (Kd.int .i64) W A l.length l) (hl : l.length ≤ 9223372036854775807) :
    Calls Try.prog 39 #[.slice A l.length c, .func (.func 38) #[] #[]] W fun e W' => e = .returned (.bool (l.any p)) ∧ W = W' := by
  have HP := Aside0.mk hp
  clear hp
  have HR := Aside0.mk hr
  clear hr
  have hq := Aside0.mk (idx_ge p l)
  go_enter Try.func39, Try.ntmps39
  go_wp2_with fail
  refine (index50 p A c l W HP.out HR.out hl).mono ?_
  rintro e w' ⟨rfl, rfl⟩
  generalize idxF p l = q at hq ⊢
  go_wp2
  go_ret
  exact ⟨ret_bool hq.out, rfl⟩
set_option maxHeartbeats 2000000 in
set_option maxRecDepth 100000 in
theorem node_Check.calls (a0_0 : Bool) (A0_1 : Option Addr) (c0_1 : Nat) (l0_1 : List ByteArray) (A0_2 : Option Addr) (c0_2 : Nat) (l0_2 : List ByteArray) (A0_3 : Option Addr) (c0_3 : Nat) (l0_3 : List Int) (r : Int) (w : World) (hr0_1 : Kd.C Kd.string w A0_1 l0_1.length l0_1) (hc0_1 : l0_1.length ≤ c0_1) (hr0_2 : Kd.C Kd.string w A0_2 l0_2.length l0_2) (hc0_2 : l0_2.length ≤ c0_2) (hr0_3 : Kd.C (Kd.int .i64) w A0_3 l0_3.length l0_3) (hc0_3 : l0_3.length ≤ c0_3) (h : node_Check.f a0_0 l0_1 l0_2 l0_3 = some r) :
    Calls Try.prog 17 #[.agg #[.bool a0_0, .slice A0_1 l0_1.length c0_1, .slice A0_2 l0_2.length c0_2, .slice A0_3 l0_3.length c0_3]] w fun e w' => e = .returned (.int .i64 r) ∧ Below w.heap.size w w' := by
  unfold node_Check.f at h
  split at h
  case isFalse => cases h
  rename_i hsz
  have HC := Aside0.mk (Option.some.inj h)
  clear h
  obtain ⟨hs1, hs2, hs3⟩ := hsz
  have H1 := Aside0.mk hr0_1
  have H2 := Aside0.mk hr0_2
  have H3 := Aside0.mk hr0_3
  clear hr0_1 hr0_2 hr0_3
  have hu25 := Try.underlying25
  go_enter Try.func17, Try.ntmps17
  go_wp2_with ((with_reducible refine gate_dst (N := 1) rfl ?_); refine box_event ?hg (N := 1) ?hd (cs := #[.bool a0_0, .slice A0_1 l0_1.length c0_1, .slice A0_2 l0_2.length c0_2, .slice A0_3 l0_3.length c0_3]) (t := 25) ?hr ?_; (case hd => rfl); (case hg => rfl); (case hr => first | (go_simp; done) | (go_simp; rfl)); intro gb hg w2 hbox hb; have HB := Aside0.mk hb; have BK := NBox.mk hbox; clear hg hbox hb; obtain ⟨hx0, hx1, hx2, hx3⟩ := BK.cells)
  refine (long35 100 _ _ l0_1 _ (Kd.C_below H1.out HB.out) (by omega)).mono ?_
  rintro e w3 ⟨rfl, hb3⟩
  clear hx0 hx1 hx2 hx3
  replace BK := BK.below hb3
  replace HB := Aside0.mk (below_step HB.out hb3)
  clear hb3
  obtain ⟨hx0, hx1, hx2, hx3⟩ := BK.cells
  by_cases hl1 : long 100 l0_1 = true
  · have HR : Aside0 (r = 51) := ⟨by rw [← HC.out]; unfold chk; rw [hl1]; rfl⟩
    rw [hl1]
    clear hl1
    go_wp2
    go_ret
    exact ⟨ret_int HR.out.symm, HB.out⟩
  have hl1' := Bool.eq_false_iff.mpr hl1
  clear hl1
  rw [hl1']
  have HL1 := Aside0.mk hl1'
  clear hl1'
  go_wp2_with fail
  refine (long35 100 _ _ l0_2 _ (Kd.C_below H2.out HB.out) (by omega)).mono ?_
  rintro e w4 ⟨rfl, hb4⟩
  clear hx0 hx1 hx2 hx3
  replace BK := BK.below hb4
  replace HB := Aside0.mk (below_step HB.out hb4)
  clear hb4
  obtain ⟨hx0, hx1, hx2, hx3⟩ := BK.cells
  by_cases hl2 : long 100 l0_2 = true
  · have HR : Aside0 (r = 51) := ⟨by rw [← HC.out]; unfold chk; rw [hl2, Bool.or_true]; rfl⟩
    rw [hl2]
    clear hl2
    go_wp2
    go_ret
    exact ⟨ret_int HR.out.symm, HB.out⟩
  have hl2' := Bool.eq_false_iff.mpr hl2
  clear hl2
  rw [hl2']
  have HL2 := Aside0.mk hl2'
  clear hl2'
  go_wp2_with fail
  clear hx0 hx1 hx2 hx3
  go_loopw [4] (fun i wr => ∃ j : Nat, (j < l0_1.length ∨ j = 0) ∧ i = .int .i64 ((j : Int) + 1) ∧ Aside0 (rising (l0_1.take (j + 1)) = true) ∧ NBox wr gb a0_0 A0_1 l0_1.length c0_1 A0_2 l0_2.length c0_2 A0_3 l0_3.length c0_3 ∧ Aside0 (Below w.heap.size w wr)) (fun i wr => l0_1.length + 1 - (intOf i).toNat)
  case atStart => exact ⟨0, .inr rfl, rfl, ⟨rising_one _⟩, BK, HB⟩
  case round =>
    clear BK HB
    obtain ⟨j, hj, rfl, HN, BK, HB⟩ := hrel
    obtain ⟨hx0, hx1, hx2, hx3⟩ := BK.cells
    by_cases hlt : j + 1 < l0_1.length
    · obtain ⟨ad, s, hA, hs, hx⟩ := str_at (Kd.C_below H1.out HB.out) j (by omega)
      subst hA
      obtain ⟨ad', s', hA', hs', hx'⟩ := str_at (Kd.C_below H1.out HB.out) (j + 1) hlt
      cases hA'
      have hi1 : (0 : Int) ≤ (j : Int) + 1 := by omega
      have hb1 : (j : Int) < (l0_1.length : Int) := by omega
      have hb2 : (j : Int) + 1 < (l0_1.length : Int) := by omega
      have hw1 : IntKind.i64.wrap (j : Int) = (j : Int) := by rw [IntKind.wrap_i64]; omega
      have hw2 : ((j : Int) + 1).toNat = j + 1 := by omega
      have hx'' : wr.cell? ⟨ad.block, ad.off + (j + 1), none⟩ = some (.string s') := by rw [← hx']; simp [Addr.add]
      have HQ := Aside0.mk (rising_snoc l0_1 j s s' hs.out hs'.out)
      by_cases hlt2 : slt s s' = true
      · have hbl : Op.bytesLess s.toList s'.toList = true := hlt2
        have HN2 : Aside0 (rising (l0_1.take (j + 1 + 1)) = true) := ⟨by rw [HQ.out, HN.out, hlt2]; rfl⟩
        clear hlt2
        go_wp2
        go_quiet (fail)
        go_wp2
        go_roundw
        case rel => exact ⟨j + 1, by omega, by go_num, HN2, BK.drewN _, ⟨by have h := HB.out; exact pw_below_drewN h _⟩⟩
        case measure => simp [intOf]; omega
      · have hbl : Op.bytesLess s.toList s'.toList = false := Bool.eq_false_iff.mpr hlt2
        have HR : Aside0 (r = 50) := ⟨by
          have h : rising (l0_1.take (j + 2)) = false := by rw [HQ.out, HN.out, show slt s s' = false from hbl]; rfl
          rw [← HC.out]; unfold chk; rw [HL1.out, HL2.out, rising_not _ _ h]; rfl⟩
        clear hlt2
        go_wp2
        go_quiet (fail)
        go_wp2
        go_ret
        exact ⟨ret_int HR.out.symm, pw_below_drewN HB.out _⟩
    · have HR1 : Aside0 (rising l0_1 = true) := ⟨by have h := HN.out; rwa [List.take_of_length_le (by omega)] at h⟩
      have hge : (l0_1.length : Int) ≤ (j : Int) + 1 := by omega
      have HCH : Aside0 (chk a0_0 l0_1 l0_2 l0_3 = if a0_0 then (if l0_2.length = l0_1.length ∧ l0_3.length = 0 then 0 else 50)
          else if l0_3.length = l0_1.length + 1 ∧ l0_2.length = 0 ∧ l0_3.all (fun k => decide (1 ≤ k ∧ k ≤ 4294967295)) = true then 0 else 50) := ⟨by unfold chk; rw [HL1.out, HL2.out, HR1.out]; rfl⟩
      clear hj hlt
      cases a0_0 with
      | true =>
        by_cases hv : l0_2.length = l0_1.length
        · by_cases hk : l0_3.length = 0
          · have HR : Aside0 (r = 0) := ⟨by rw [← HC.out, HCH.out, if_pos rfl, if_pos ⟨hv, hk⟩]⟩
            have f1 : ((l0_2.length : Int) == (l0_1.length : Int)) = true := beq_iff_eq.2 (by omega)
            have f1' : ((l0_2.length : Int) != (l0_1.length : Int)) = false := bne_eq_false_iff_eq.2 (by omega)
            have f2 : decide (0 < l0_3.length) = false := by simp [hk]
            clear hv hk
            go_wp2
            go_ret
            exact ⟨ret_int HR.out.symm, HB.out⟩
          · have HR : Aside0 (r = 50) := ⟨by rw [← HC.out, HCH.out, if_pos rfl, if_neg (fun h => hk h.2)]⟩
            have f1 : ((l0_2.length : Int) == (l0_1.length : Int)) = true := beq_iff_eq.2 (by omega)
            have f1' : ((l0_2.length : Int) != (l0_1.length : Int)) = false := bne_eq_false_iff_eq.2 (by omega)
            have f2 : decide (0 < l0_3.length) = true := by simp; omega
            clear hv hk
            go_wp2
            go_ret
            exact ⟨ret_int HR.out.symm, HB.out⟩
        · have HR : Aside0 (r = 50) := ⟨by rw [← HC.out, HCH.out, if_pos rfl, if_neg (fun h => hv h.1)]⟩
          have f1 : ((l0_2.length : Int) == (l0_1.length : Int)) = false := beq_eq_false_iff_ne.2 (by omega)
          have f1' : ((l0_2.length : Int) != (l0_1.length : Int)) = true := bne_iff_ne.2 (by omega)
          clear hv
          go_wp2
          go_ret
          exact ⟨ret_int HR.out.symm, HB.out⟩
      | false =>
        by_cases hk : l0_3.length = l0_1.length + 1
        · by_cases hv : l0_2.length = 0
          · have f1 : ((l0_3.length : Int) == (l0_1.length : Int) + 1) = true := beq_iff_eq.2 (by omega)
            have f1' : ((l0_3.length : Int) != (l0_1.length : Int) + 1) = false := bne_eq_false_iff_eq.2 (by omega)
            have f2 : decide (0 < l0_2.length) = false := by simp [hv]
            have HA : Aside0 (l0_3.any wrongKid = !l0_3.all (fun k => decide (1 ≤ k ∧ k ≤ 4294967295))) := ⟨by rw [List.not_all_eq_any_not]; rfl⟩
            have HCH2 : Aside0 (r = if l0_3.all (fun k => decide (1 ≤ k ∧ k ≤ 4294967295)) = true then 0 else 50) := ⟨by
              rw [← HC.out, HCH.out, if_neg (by decide)]; simp [hk, hv]⟩
            clear hv hk
            go_wp2_with fail
            refine (contains39 wrongKid _ _ l0_3 _ (fun s => wrong38 s _) (Kd.C_below H3.out HB.out) (by omega)).mono ?_
            rintro e w' ⟨rfl, rfl⟩
            generalize l0_3.all (fun k => decide (1 ≤ k ∧ k ≤ 4294967295)) = q at HA HCH2
            rw [HA.out]
            cases q with
            | true =>
              simp only [Bool.not_true]
              go_wp2
              go_ret
              exact ⟨ret_int HCH2.out.symm, HB.out⟩
            | false =>
              simp only [Bool.not_false]
              go_wp2
              go_ret
              exact ⟨ret_int HCH2.out.symm, HB.out⟩
          · have HR : Aside0 (r = 50) := ⟨by rw [← HC.out, HCH.out, if_neg (by decide), if_neg (fun h => hv h.2.1)]⟩
            have f1 : ((l0_3.length : Int) == (l0_1.length : Int) + 1) = true := beq_iff_eq.2 (by omega)
            have f1' : ((l0_3.length : Int) != (l0_1.length : Int) + 1) = false := bne_eq_false_iff_eq.2 (by omega)
            have f2 : decide (0 < l0_2.length) = true := by simp; omega
            clear hv hk
            go_wp2
            go_ret
            exact ⟨ret_int HR.out.symm, HB.out⟩
        · have HR : Aside0 (r = 50) := ⟨by rw [← HC.out, HCH.out, if_neg (by decide), if_neg (fun h => hk h.1)]⟩
          have f1 : ((l0_3.length : Int) == (l0_1.length : Int) + 1) = false := beq_eq_false_iff_ne.2 (by omega)
          have f1' : ((l0_3.length : Int) != (l0_1.length : Int) + 1) = true := bne_iff_ne.2 (by omega)
          clear hk
          go_wp2
          go_ret
          exact ⟨ret_int HR.out.symm, HB.out⟩

end Go.Proofs.Ytpdlbebiapimoaa.PN
