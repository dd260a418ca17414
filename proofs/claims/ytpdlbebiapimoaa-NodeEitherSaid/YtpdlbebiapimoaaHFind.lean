/- node.Find tells how many keys are below a key, and whether it is there -/
import Derived.Test.YtpdlbebiapimoaaHKit
import Derived.Test.YtpdlbebiapimoaaHOrd
namespace Go.Proofs.Ytpdlbebiapimoaa.PN
open Go.RowKit Go.Proofs.YtpdlbebiapimoaaW.PrintWords Go.Proofs.YtpdlbebiapimoaaW.PrintLast Go.Proofs.YtpdlbebiapimoaaW.PrintMore
set_option linter.unusedVariables false
set_option linter.unusedSimpArgs false
set_option maxHeartbeats 1000000 in
theorem pred43 (q : Nat) (key s : ByteArray) (i : Nat) (gb gk : Nat) (b : Bool) (ad : Addr) (n1 c1 : Nat) (A2 : Option Addr) (n2 c2 : Nat) (A3 : Option Addr) (n3 c3 : Nat) (W : World) (hi : i < n1)
    (BK : NBox W gb b (some ad) n1 c1 A2 n2 c2 A3 n3 c3) (hk : W.cell? ⟨gk, 0, none⟩ = some (.string key)) (hc : W.cell? (ad.add i) = some (.string s)) (hs : Aside0 (slt s key = decide (i < q))) :
    Calls Try.prog 43 #[.int .i64 i, .pointer (some ⟨gb, 0, none⟩), .pointer (some ⟨gk, 0, none⟩)] W fun e W' => e = .returned (.bool (decide (q ≤ i))) ∧ ∃ m, W' = W.drewN m := by
  have hu25 := Try.underlying25
  obtain ⟨hx0, hx1, hx2, hx3⟩ := BK.cells
  have hi2 : (i : Int) < (n1 : Int) := by omega
  have hq : Aside0 ((!Op.bytesLess s.toList key.toList) = decide (q ≤ i)) := ⟨by
    have h : slt s key = decide (i < q) := hs.out
    unfold slt at h; rw [h]; by_cases h2 : i < q <;> simp [h2] <;> omega⟩
  go_enter Try.func43, Try.ntmps43
  go_wp2
  go_quiet (fail)
  go_wp2
  go_ret
  exact ⟨ret_bool hq.out, _, rfl⟩
set_option maxHeartbeats 2000000 in
set_option maxRecDepth 100000 in
theorem search42 (q n : Nat) (gb gk : Nat) (w : World) (hq : q ≤ n) (hn : n ≤ 100000)
    (hp : ∀ (m i : Nat), i < n → Calls Try.prog 43 #[.int .i64 i, .pointer (some ⟨gb, 0, none⟩), .pointer (some ⟨gk, 0, none⟩)] (w.drewN m) fun e W' => e = .returned (.bool (decide (q ≤ i))) ∧ ∃ m', W' = (w.drewN m).drewN m') :
    Calls Try.prog 42 #[.int .i64 n, .func (.func 43) #[] #[.pointer (some ⟨gb, 0, none⟩), .pointer (some ⟨gk, 0, none⟩)]] w fun e w' => e = .returned (.int .i64 q) ∧ ∃ m, w' = w.drewN m := by
  have HP := Aside0.mk hp
  clear hp
  have HQ := Aside0.mk hq
  clear hq
  go_enter Try.func42, Try.ntmps42
  go_wp2
  go_loopg [5, 6] n (fun kx s5 s6 wr => ∃ (lo hi m : Nat), s5 = .int .i64 lo ∧ s6 = .int .i64 hi ∧ hi ≤ n ∧ hi - lo ≤ kx ∧ wr = w.drewN m ∧ Aside0 (lo ≤ q) ∧ Aside0 (q ≤ hi))
  case atStart => exact ⟨0, n, 0, rfl, rfl, Nat.le_refl _, by omega, rfl, ⟨Nat.zero_le _⟩, HQ⟩
  case round =>
    obtain ⟨lo, hi, m, rfl, rfl, hin, hg, rfl, I1, I2⟩ := hrel
    by_cases hlt : lo < hi
    · have hc := HP.out m ((lo + hi) / 2) (by omega)
      rw [show (((lo + hi) / 2 : Nat) : Int) = ((lo : Int) + (hi : Int)) / 2 by omega] at hc
      by_cases hpq : q ≤ (lo + hi) / 2
      · rw [decide_eq_true hpq] at hc
        have HPQ := Aside0.mk hpq
        have HC := Aside0.mk hc
        clear hpq hc
        go_wp2_with fail
        refine HC.out.mono ?_
        rintro e w' ⟨rfl, m', rfl⟩
        clear HC
        go_wp2
        go_roundg (hi - lo - 1)
        case measure => have := I1.out; have := I2.out; omega
        case rel => exact ⟨lo, (lo + hi) / 2, m + m', rfl, by rw [show ((lo : Int) + (hi : Int)) / 2 = (((lo + hi) / 2 : Nat) : Int) by omega], by omega, by omega, rfl, I1, HPQ⟩
      · rw [decide_eq_false hpq] at hc
        have HPQ : Aside0 ((lo + hi) / 2 + 1 ≤ q) := ⟨by omega⟩
        have HC := Aside0.mk hc
        clear hpq hc
        go_wp2_with fail
        refine HC.out.mono ?_
        rintro e w' ⟨rfl, m', rfl⟩
        clear HC
        go_wp2
        go_roundg (hi - lo - 1)
        case measure => have := I1.out; have := I2.out; omega
        case rel => exact ⟨(lo + hi) / 2 + 1, hi, m + m', by rw [show ((lo : Int) + (hi : Int)) / 2 + 1 = (((lo + hi) / 2 + 1 : Nat) : Int) by omega], rfl, by omega, by omega, rfl, HPQ, I2⟩
    · have HE : Aside0 (lo = q) := ⟨by have := I1.out; have := I2.out; omega⟩
      go_wp2
      go_ret
      exact ⟨ret_int (by rw [HE.out]), m, rfl⟩
theorem ret_find {a b : Int} {c d : Bool} (h : a = b) (h2 : c = d) : Ending.returned (.tuple #[.int .i64 a, .bool c]) = .returned (.tuple #[.int .i64 b, .bool d]) := by rw [h, h2]
set_option maxHeartbeats 2000000 in
set_option maxRecDepth 100000 in
theorem node_Find.calls (a0_0 : Bool) (A0_1 : Option Addr) (c0_1 : Nat) (l0_1 : List ByteArray) (A0_2 : Option Addr) (c0_2 : Nat) (l0_2 : List ByteArray) (A0_3 : Option Addr) (c0_3 : Nat) (l0_3 : List Int) (a1 : ByteArray) (r1 : Int) (r2 : Bool) (w : World) (hr0_1 : Kd.C Kd.string w A0_1 l0_1.length l0_1) (hc0_1 : l0_1.length ≤ c0_1) (hr0_2 : Kd.C Kd.string w A0_2 l0_2.length l0_2) (hc0_2 : l0_2.length ≤ c0_2) (hr0_3 : Kd.C (Kd.int .i64) w A0_3 l0_3.length l0_3) (hc0_3 : l0_3.length ≤ c0_3) (h : node_Find.f a0_0 l0_1 l0_2 l0_3 a1 = some (r1, r2)) :
    Calls Try.prog 24 #[.agg #[.bool a0_0, .slice A0_1 l0_1.length c0_1, .slice A0_2 l0_2.length c0_2, .slice A0_3 l0_3.length c0_3], .string a1] w fun e w' => e = .returned (.tuple #[.int .i64 r1, .bool r2]) ∧ Below w.heap.size w w' := by
  unfold node_Find.f at h
  split at h
  case isFalse => cases h
  rename_i hsz
  obtain ⟨hri, hlen⟩ := hsz
  have HRI := Aside0.mk hri
  have HR1 := Aside0.mk (Prod.mk.inj (Option.some.inj h)).1
  have HR2 := Aside0.mk (Prod.mk.inj (Option.some.inj h)).2
  clear h hri
  have H1 := Aside0.mk hr0_1
  clear hr0_1 hr0_2 hr0_3
  have hu25 := Try.underlying25
  go_enter Try.func24, Try.ntmps24
  go_wp2_with (first | ((with_reducible refine gate_dst (N := 2) rfl ?_); refine box_event ?hg (N := 2) ?hd (cs := #[.bool a0_0, .slice A0_1 l0_1.length c0_1, .slice A0_2 l0_2.length c0_2, .slice A0_3 l0_3.length c0_3]) (t := 25) ?hr ?_; (case hd => rfl); (case hg => rfl); (case hr => first | (go_simp; done) | (go_simp; rfl)); intro gb hg w2 hbox hb; have HB := Aside0.mk hb; have BK := NBox.mk hbox; clear hg hbox hb) | ((with_reducible refine gate_dst (N := 3) rfl ?_); refine box_event ?hg (N := 3) ?hd (cs := #[.string a1]) (t := 9) ?hr ?_; (case hd => rfl); (case hg => rfl); (case hr => first | (go_simp; done) | (go_simp; rfl)); intro gk hg w3 hbox hb; replace BK := BK.below hb; replace HB := Aside0.mk (below_step HB.out hb); have HK : w3.cell? ⟨gk, 0, none⟩ = some (.string a1) := (blk_cell hbox 0).trans rfl; clear hg hbox hb; obtain ⟨hx0, hx1, hx2, hx3⟩ := BK.cells))
  refine (search42 (below l0_1 a1) l0_1.length gb gk _ (below_le _ _) hlen (fun m i hi => ?_)).mono ?_
  · obtain ⟨ad, s, hA, hs, hx⟩ := str_at (Kd.C_below H1.out HB.out) i hi
    subst hA
    exact pred43 (below l0_1 a1) a1 s i gb gk _ _ _ _ _ _ _ _ _ _ _ hi (BK.drewN m) HK hx ⟨below_iff HRI.out a1 i s hs.out⟩
  rintro e w' ⟨rfl, m, rfl⟩
  by_cases hb : below l0_1 a1 < l0_1.length
  · obtain ⟨ad, s, hA, hs, hx⟩ := str_at (Kd.C_below H1.out HB.out) (below l0_1 a1) hb
    subst hA
    have hi2 : (below l0_1 a1 : Int) < (l0_1.length : Int) := by omega
    have HI := Aside0.mk (isin_at HRI.out a1 s hs.out)
    have HQ2 : below l0_1 a1 ≤ 100000 := by omega
    generalize below l0_1 a1 = q at *
    by_cases he : s.toList = a1.toList
    · have hbe : (s.toList == a1.toList) = true := beq_iff_eq.2 he
      have HR : Aside0 (isin l0_1 a1 = true) := ⟨by rw [HI.out]; simpa using he⟩
      rw [HR.out] at HR1 HR2
      clear he hb
      go_wp2_with fail
      go_quiet (fail)
      cases a0_0 with
      | true =>
        go_wp2
        go_ret2
        exact ⟨ret_find (by simpa using HR1.out) HR2.out, pw_below_drewN HB.out _⟩
      | false =>
        go_wp2
        go_ret2
        exact ⟨ret_find (by simpa using HR1.out) HR2.out, pw_below_drewN HB.out _⟩
    · have hbe : (s.toList == a1.toList) = false := beq_eq_false_iff_ne.2 he
      have HR : Aside0 (isin l0_1 a1 = false) := ⟨by rw [HI.out]; simpa using he⟩
      rw [HR.out] at HR1 HR2
      clear he hb
      go_wp2_with fail
      go_quiet (fail)
      go_wp2
      go_ret2
      exact ⟨ret_find (by simpa using HR1.out) HR2.out, pw_below_drewN HB.out _⟩
  · have HR : Aside0 (isin l0_1 a1 = false) := ⟨isin_end HRI.out a1 (by omega)⟩
    rw [HR.out] at HR1 HR2
    have hge : decide ((below l0_1 a1 : Int) < (l0_1.length : Int)) = false := by simp; omega
    have hge2 : decide (below l0_1 a1 < l0_1.length) = false := by simp; omega
    have HQ2 : below l0_1 a1 ≤ 100000 := by have := below_le l0_1 a1; omega
    generalize below l0_1 a1 = q at *
    clear hb
    go_wp2_with fail
    go_quiet (fail)
    go_wp2
    go_ret2
    exact ⟨ret_find (by simpa using HR1.out) HR2.out, pw_below_drewN HB.out _⟩

end Go.Proofs.Ytpdlbebiapimoaa.PN
