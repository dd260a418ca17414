/- Plain laws: Below and the document's Check -/
import Derived.Test.YtpdlbebiapimoaaPureA
import Derived.Test.YtpdlbebiapimoaaPN14
import Derived.Test.YtpdlbebiapimoaaPN15
namespace Go.Proofs.Ytpdlbebiapimoaa.PN
open Go.RowKit Go.Proofs.YtpdlbebiapimoaaW.PrintWords Go.Proofs.YtpdlbebiapimoaaW.PrintLast Go.Proofs.YtpdlbebiapimoaaW.PrintMore
set_option linter.unusedVariables false
set_option linter.unusedSimpArgs false
theorem below_l0 (a b : ByteArray) (ha : a.size ≤ 1000000000) : ∀ i, i ≤ a.size → Ev (fun k => lunetteref01_below.l0 k a b (i : Int)) (Op.bytesLess (a.data.toList.drop i) (b.data.toList.drop i)) := by
  refine down (fun i hi ih => ?_) ?_
  · have hA : a.data.toList.drop i = (a.data.toList[i]'(by simpa using hi)) :: a.data.toList.drop (i + 1) := List.drop_eq_getElem_cons _
    by_cases hb : i < b.size
    · have hB : b.data.toList.drop i = (b.data.toList[i]'(by simpa using hb)) :: b.data.toList.drop (i + 1) := List.drop_eq_getElem_cons _
      refine Ev.step (f := fun k => lunetteref01_below.j1 k a b (i : Int) true) (fun k => ?_) ?_
      · simp only [lunetteref01_below.l0]
        rw [if_pos (by omega)]
        congr 1
        simp; omega
      refine Ev.step (f := fun k => if (bt a (i : Int)) = (bt b (i : Int)) then lunetteref01_below.l0 k a b ((i + 1 : Nat) : Int) else some (decide ((bt a (i : Int)) < (bt b (i : Int))))) (fun k => ?_) ?_
      · simp only [lunetteref01_below.j1]
        rw [if_pos trivial, if_pos (by omega), if_pos (by omega), if_pos (by omega), w1 (by omega)]
      rw [hA, hB]
      simp only [Op.bytesLess]
      rw [bt_lt hi, bt_lt hb]
      refine ev_if (fun h => ev_eq ih ?_) (fun h => ev_some ?_)
      · have e : (a.data.toList[i]'(by simpa using hi)) = (b.data.toList[i]'(by simpa using hb)) := UInt8.toNat_inj.1 (by omega)
        rw [e]
        simp
      · have e : (a.data.toList[i]'(by simpa using hi)) ≠ (b.data.toList[i]'(by simpa using hb)) := fun e => h (by rw [e])
        have e2 : ((a.data.toList[i]'(by simpa using hi)) == (b.data.toList[i]'(by simpa using hb))) = false := by simpa using e
        rw [e2, Bool.false_and, Bool.or_false, decide_eq_decide, UInt8.lt_iff_toNat_lt]
        omega
    · have hB : b.data.toList.drop i = [] := List.drop_eq_nil_of_le (by simp; omega)
      refine Ev.step (f := fun k => lunetteref01_below.j1 k a b (i : Int) false) (fun k => ?_) ?_
      · simp only [lunetteref01_below.l0]
        rw [if_pos (by omega)]
        congr 1
        simp; omega
      refine Ev.step (f := fun k => some (decide ((a.size : Int) < (b.size : Int)))) (fun k => ?_) (ev_some ?_)
      · simp only [lunetteref01_below.j1]
        rw [if_neg (by decide)]
      · rw [hA, hB]
        simp [Op.bytesLess]; omega
  · refine Ev.step (f := fun k => lunetteref01_below.j1 k a b (a.size : Int) false) (fun k => ?_) ?_
    · simp only [lunetteref01_below.l0]
      rw [if_neg (by omega)]
    refine Ev.step (f := fun k => some (decide ((a.size : Int) < (b.size : Int)))) (fun k => ?_) (ev_some ?_)
    · simp only [lunetteref01_below.j1]
      rw [if_neg (by decide)]
    · have hA : a.data.toList.drop a.size = [] := List.drop_eq_nil_of_le (by simp)
      rw [hA]
      cases h : b.data.toList.drop a.size with
      | nil =>
        have := List.drop_eq_nil_iff.1 h
        simp [Op.bytesLess] at this ⊢; omega
      | cons x y =>
        have : (b.data.toList.drop a.size).length = y.length + 1 := by rw [h]; rfl
        simp [Op.bytesLess] at this ⊢; omega
theorem Below_ev (a b : ByteArray) (ha : a.size ≤ 1000000000) : Ev (fun k => lunetteref01_Below.f k a b) (slt a b) := by
  unfold lunetteref01_Below.f lunetteref01_below.f
  refine Ev.bind (f := fun _ t => some t) (ev_eq (below_l0 a b ha 0 (Nat.zero_le _)) ?_) (Ev.now _)
  unfold slt
  rw [toList_eq, toList_eq, List.drop_zero, List.drop_zero]
/-- the document's Check -/
theorem any_drop_cons {l : List ByteArray} {p : ByteArray → Bool} {i : Nat} (h : i < l.length) : (l.drop i).any p = (p l[i] || (l.drop (i + 1)).any p) := by rw [List.drop_eq_getElem_cons h, List.any_cons]
theorem check_l3 (b : Bool) (ks vs : List ByteArray) (cs : List Int) (hc : cs.length ≤ 100000) : ∀ i, i ≤ cs.length → ∀ x : Bool, Ev (fun k => lunetteref05_Check.l3 k x (i : Int) b ks vs cs) (if x && (cs.drop i).all (fun k => decide (1 ≤ k ∧ k ≤ 4294967295)) then 0 else 50) := by
  refine down (fun i hi ih x => ?_) (fun x => ?_)
  · rw [List.drop_eq_getElem_cons hi, List.all_cons]
    cases x with
    | false =>
      refine Ev.step (f := fun k => lunetteref05_Check.l3 k false ((i + 1 : Nat) : Int) b ks vs cs) (fun k => ?_) (ev_eq (ih false) (by simp))
      simp only [lunetteref05_Check.l3]
      rw [if_pos (by omega), if_neg (by decide), w1 (by omega)]
    | true =>
      refine Ev.step (f := fun k => if (cs[i] ≥ 1) then lunetteref05_Check.l3 k (decide (cs[i] ≤ 4294967295)) ((i + 1 : Nat) : Int) b ks vs cs else lunetteref05_Check.l3 k false ((i + 1 : Nat) : Int) b ks vs cs) (fun k => ?_) (ev_if (fun h => ev_eq (ih _) ?_) (fun h => ev_eq (ih _) ?_))
      · simp only [lunetteref05_Check.l3]
        rw [if_pos (by omega), if_pos trivial, if_pos (by omega), rd_at hi, w1 (by omega)]
      · have : (1 : Int) ≤ cs[i] := h
        by_cases h2 : cs[i] ≤ 4294967295 <;> simp [this, h2]
      · have : ¬ (1 : Int) ≤ cs[i] := h
        simp [this]
  · refine Ev.step (f := fun k => if x = true then some 0 else some 50) (fun k => ?_) (ev_if (fun h => ev_some ?_) (fun h => ev_some ?_))
    · simp only [lunetteref05_Check.l3]
      rw [if_neg (by omega)]
    · simp [h]
    · simp [h]
theorem check_l2 (b : Bool) (ks vs : List ByteArray) (cs : List Int) (hk : ks.length ≤ 100000) (hc : cs.length ≤ 100000) (hs : ∀ s ∈ ks, s.size ≤ 1000000000) : ∀ i, i + 1 ≤ ks.length + 1 → ∀ x : Bool, x = rising (ks.take (i + 1)) →
    Ev (fun k => lunetteref05_Check.l2 k x ((i + 1 : Nat) : Int) b ks vs cs) (if rising ks && (if b then decide (vs.length = ks.length) && decide (cs.length = 0) else decide (cs.length = ks.length + 1) && decide (vs.length = 0)) && cs.all (fun k => decide (1 ≤ k ∧ k ≤ 4294967295)) then 0 else 50) := by
  have hj : ∀ x : Bool, Ev (fun k => lunetteref05_Check.j3 k x b ks vs cs) (if x && cs.all (fun k => decide (1 ≤ k ∧ k ≤ 4294967295)) then 0 else 50) := fun x =>
    Ev.step (f := fun k => lunetteref05_Check.l3 k x ((0 : Nat) : Int) b ks vs cs) (fun k => by simp only [lunetteref05_Check.j3]; rfl) (ev_eq (check_l3 b ks vs cs hc 0 (Nat.zero_le _) x) (by rw [List.drop_zero]))
  have hend : ∀ i, ks.length ≤ i + 1 → i ≤ 100000 → Ev (fun k => lunetteref05_Check.l2 k (rising ks) ((i + 1 : Nat) : Int) b ks vs cs) (if rising ks && (if b then decide (vs.length = ks.length) && decide (cs.length = 0) else decide (cs.length = ks.length + 1) && decide (vs.length = 0)) && cs.all (fun k => decide (1 ≤ k ∧ k ≤ 4294967295)) then 0 else 50) := by
    intro i hi hi2
    have hw : wrap64 ((ks.length : Int) + 1) = (ks.length : Int) + 1 := by unfold wrap64; omega
    cases hr : rising ks with
    | false =>
      refine Ev.step (f := fun k => lunetteref05_Check.j3 k false b ks vs cs) (fun k => ?_) (ev_eq (hj false) (by simp))
      simp only [lunetteref05_Check.l2]
      rw [if_neg (by omega)]
      cases b <;> simp
    | true =>
      cases b with
      | true =>
        by_cases h1 : vs.length = ks.length
        · refine Ev.step (f := fun k => lunetteref05_Check.j3 k ((cs.length : Int) == 0) true ks vs cs) (fun k => ?_) (ev_eq (hj _) ?_)
          · simp only [lunetteref05_Check.l2]
            rw [if_neg (by omega), if_pos trivial, if_pos trivial, if_pos (by omega)]
          · by_cases h2 : cs.length = 0
            · have : ((cs.length : Int) == 0) = true := beq_iff_eq.2 (by omega)
              simp [this, h1, h2]
            · have : ((cs.length : Int) == 0) = false := beq_eq_false_iff_ne.2 (by omega)
              rw [this]
              simp [h2]
        · refine Ev.step (f := fun k => lunetteref05_Check.j3 k false true ks vs cs) (fun k => ?_) (ev_eq (hj _) (by simp [h1]))
          simp only [lunetteref05_Check.l2]
          rw [if_neg (by omega), if_pos trivial, if_pos trivial, if_neg (by omega)]
      | false =>
        by_cases h1 : cs.length = ks.length + 1
        · refine Ev.step (f := fun k => lunetteref05_Check.j3 k ((vs.length : Int) == 0) false ks vs cs) (fun k => ?_) (ev_eq (hj _) ?_)
          · simp only [lunetteref05_Check.l2]
            rw [if_neg (by omega), if_neg (by decide), if_pos trivial, hw, if_pos (by omega)]
          · by_cases h2 : vs.length = 0
            · have : ((vs.length : Int) == 0) = true := beq_iff_eq.2 (by omega)
              simp [this, h1, h2]
            · have : ((vs.length : Int) == 0) = false := beq_eq_false_iff_ne.2 (by omega)
              rw [this]
              simp [h2]
        · refine Ev.step (f := fun k => lunetteref05_Check.j3 k false false ks vs cs) (fun k => ?_) (ev_eq (hj _) (by simp [h1]))
          simp only [lunetteref05_Check.l2]
          rw [if_neg (by omega), if_neg (by decide), if_pos trivial, hw, if_neg (by omega)]
  intro i hi
  refine down (P := fun i => ∀ x : Bool, x = rising (ks.take (i + 1)) → Ev (fun k => lunetteref05_Check.l2 k x ((i + 1 : Nat) : Int) b ks vs cs) (if rising ks && (if b then decide (vs.length = ks.length) && decide (cs.length = 0) else decide (cs.length = ks.length + 1) && decide (vs.length = 0)) && cs.all (fun k => decide (1 ≤ k ∧ k ≤ 4294967295)) then 0 else 50)) (n := ks.length) (fun i hi ih x hx => ?_) (fun x hx => ?_) i (by omega)
  · by_cases h1 : i + 1 < ks.length
    · cases x with
      | false =>
        refine Ev.step (f := fun k => lunetteref05_Check.l2 k false ((i + 1 + 1 : Nat) : Int) b ks vs cs) (fun k => ?_) (ih false ?_)
        · simp only [lunetteref05_Check.l2]
          rw [if_pos (by omega), if_neg (by decide), w1 (by omega)]
        · rw [rising_snoc ks i _ _ (List.getElem?_eq_getElem (by omega)) (List.getElem?_eq_getElem h1), ← hx]; rfl
      | true =>
        have hb := Below_ev (ks[i]'(by omega)) (ks[i + 1]'h1) (hs _ (List.getElem_mem _))
        refine Ev.step (f := fun k => (lunetteref01_Below.f k (ks[i]'(by omega)) (ks[i + 1]'h1)).bind fun t => lunetteref05_Check.l2 k t ((i + 1 + 1 : Nat) : Int) b ks vs cs) (fun k => ?_) (Ev.bind hb (ih _ ?_))
        · have e : wrap64 (((i + 1 : Nat) : Int) - 1) = (i : Int) := by unfold wrap64; omega
          simp only [lunetteref05_Check.l2]
          rw [if_pos (by omega), if_pos trivial, e, if_pos (by omega), if_pos (by omega), if_pos (by omega), rdS_at (by omega), rdS_at h1, w1 (by omega)]
        · rw [rising_snoc ks i _ _ (List.getElem?_eq_getElem (by omega)) (List.getElem?_eq_getElem h1), ← hx, Bool.true_and]
    · rw [List.take_of_length_le (by omega)] at hx
      rw [hx]
      exact hend i (by omega) (by omega)
  · rw [List.take_of_length_le (by omega)] at hx
    rw [hx]
    exact hend _ (by omega) (by omega)
theorem long_drop (l : List ByteArray) : long 100 l = (l.drop 0).any fun s => decide ((100 : Int) < (s.size : Int)) := by rw [List.drop_zero]; rfl
theorem check_l1 (b : Bool) (ks vs : List ByteArray) (cs : List Int) (r : Int) (hv : vs.length ≤ 100000) (h2 : Ev (fun k => lunetteref05_Check.l2 k true 1 b ks vs cs) r) : ∀ i, i ≤ vs.length → Ev (fun k => lunetteref05_Check.l1 k (i : Int) b ks vs cs) (if (vs.drop i).any (fun s => decide ((100 : Int) < (s.size : Int))) then 51 else r) := by
  refine down (fun i hi ih => ?_) ?_
  · refine Ev.step (f := fun k => if ((vs[i].size : Int) > 100) then some 51 else lunetteref05_Check.l1 k ((i + 1 : Nat) : Int) b ks vs cs) (fun k => ?_) ?_
    · simp only [lunetteref05_Check.l1]
      rw [if_pos (by omega), if_pos (by omega), rdS_at hi, w1 (by omega)]
    · rw [any_drop_cons hi]
      refine ev_if (fun h => ev_some ?_) (fun h => ev_eq ih ?_)
      · have : decide ((100 : Int) < (vs[i].size : Int)) = true := by simp; omega
        rw [this]; rfl
      · have : decide ((100 : Int) < (vs[i].size : Int)) = false := by simp; omega
        rw [this]; rfl
  · refine Ev.step (f := fun k => lunetteref05_Check.l2 k true 1 b ks vs cs) (fun k => ?_) (ev_eq h2 (by simp))
    simp only [lunetteref05_Check.l1]
    rw [if_neg (by omega)]
theorem check_l0 (b : Bool) (ks vs : List ByteArray) (cs : List Int) (r : Int) (hk : ks.length ≤ 100000) (h2 : Ev (fun k => lunetteref05_Check.l1 k 0 b ks vs cs) r) : ∀ i, i ≤ ks.length → Ev (fun k => lunetteref05_Check.l0 k (i : Int) b ks vs cs) (if (ks.drop i).any (fun s => decide ((100 : Int) < (s.size : Int))) then 51 else r) := by
  refine down (fun i hi ih => ?_) ?_
  · refine Ev.step (f := fun k => if ((ks[i].size : Int) > 100) then some 51 else lunetteref05_Check.l0 k ((i + 1 : Nat) : Int) b ks vs cs) (fun k => ?_) ?_
    · simp only [lunetteref05_Check.l0]
      rw [if_pos (by omega), if_pos (by omega), rdS_at hi, w1 (by omega)]
    · rw [any_drop_cons hi]
      refine ev_if (fun h => ev_some ?_) (fun h => ev_eq ih ?_)
      · have : decide ((100 : Int) < (ks[i].size : Int)) = true := by simp; omega
        rw [this]; rfl
      · have : decide ((100 : Int) < (ks[i].size : Int)) = false := by simp; omega
        rw [this]; rfl
  · refine Ev.step (f := fun k => lunetteref05_Check.l1 k 0 b ks vs cs) (fun k => ?_) (ev_eq h2 (by simp))
    simp only [lunetteref05_Check.l0]
    rw [if_neg (by omega)]
theorem Check_ev (b : Bool) (ks vs : List ByteArray) (cs : List Int) (hk : ks.length ≤ 100000) (hv : vs.length ≤ 100000) (hc : cs.length ≤ 100000) (hs : ∀ s ∈ ks, s.size ≤ 1000000000) : Ev (fun k => lunetteref05_Check.f k b ks vs cs) (chk b ks vs cs) := by
  unfold lunetteref05_Check.f
  have h2 := check_l2 b ks vs cs hk hc hs 0 (by omega) true (rising_one ks).symm
  have h1 := check_l1 b ks vs cs _ hv h2 0 (Nat.zero_le _)
  have h0 := check_l0 b ks vs cs _ hk h1 0 (Nat.zero_le _)
  refine ev_eq h0 ?_
  unfold chk
  rw [← long_drop, ← long_drop]
  cases long 100 ks <;> cases long 100 vs <;> simp only [Bool.or_self, Bool.or_true, Bool.true_or, Bool.or_false, Bool.false_or, if_true, Bool.false_eq_true, if_false]
  cases rising ks <;> simp only [Bool.not_true, Bool.not_false, Bool.false_eq_true, if_false, if_true, Bool.false_and, Bool.true_and]
  cases b with
  | true =>
    simp only [if_true]
    by_cases e1 : vs.length = ks.length
    · by_cases e2 : cs.length = 0
      · have e3 : cs = [] := List.eq_nil_of_length_eq_zero e2
        subst e3
        simp [e1]
      · simp [e1, e2]
    · simp [e1]
  | false =>
    simp only [Bool.false_eq_true, if_false]
    by_cases e1 : cs.length = ks.length + 1
    · by_cases e2 : vs.length = 0
      · simp [e1, e2]
      · simp [e1, e2]
    · simp [e1]

end Go.Proofs.Ytpdlbebiapimoaa.PN
