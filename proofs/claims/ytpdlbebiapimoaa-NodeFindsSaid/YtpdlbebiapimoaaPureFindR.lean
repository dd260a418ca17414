/- The document's Find against the program's -/
import Derived.Test.YtpdlbebiapimoaaPureC
import Derived.Test.YtpdlbebiapimoaaPurePD
import Derived.Test.YtpdlbebiapimoaaPN16
namespace Go.Proofs.Ytpdlbebiapimoaa.PN
open Go.RowKit Go.Proofs.YtpdlbebiapimoaaW.PrintWords Go.Proofs.YtpdlbebiapimoaaW.PrintLast Go.Proofs.YtpdlbebiapimoaaW.PrintMore
set_option linter.unusedVariables false
set_option linter.unusedSimpArgs false
/-- How many keys are below a key, or are it (in a branch). -/
def fcnt (b : Bool) (key : ByteArray) (l : List ByteArray) : Nat := l.countP fun x => slt x key || (!b && decide (x.toList = key.toList))
theorem isin_drop_cons {l : List ByteArray} {key : ByteArray} {i : Nat} (h : i < l.length) : isin (l.drop i) key = (decide (l[i].toList = key.toList) || isin (l.drop (i + 1)) key) := by unfold isin; rw [List.drop_eq_getElem_cons h, List.any_cons]
theorem fcnt_drop_cons {b : Bool} {l : List ByteArray} {key : ByteArray} {i : Nat} (h : i < l.length) : fcnt b key (l.drop i) = (if slt l[i] key || (!b && decide (l[i].toList = key.toList)) then 1 else 0) + fcnt b key (l.drop (i + 1)) := by unfold fcnt; rw [List.drop_eq_getElem_cons h, List.countP_cons]; omega
theorem refFind_l0 (b : Bool) (ks vs : List ByteArray) (cs : List Int) (key : ByteArray) (hk : ks.length ≤ 100000) (hs : ∀ s ∈ ks, s.size ≤ 1000000000) : ∀ i, i ≤ ks.length → ∀ (at_ : Nat) (has : Bool), at_ ≤ i →
    Ev (fun k => lunetteref05_Find.l0 k key (at_ : Int) has (i : Int) b ks vs cs) (((at_ + fcnt b key (ks.drop i) : Nat) : Int), has || isin (ks.drop i) key) := by
  refine down (fun i hi ih at_ has ha => ?_) (fun at_ has ha => ?_)
  · have hb := Below_ev ks[i] key (hs _ (List.getElem_mem _))
    have hg : ∀ h2 : Bool, Ev (fun k => if slt ks[i] key = true then lunetteref05_Find.l0 k key ((at_ + 1 : Nat) : Int) h2 ((i + 1 : Nat) : Int) b ks vs cs else if b = true then lunetteref05_Find.l0 k key (at_ : Int) h2 ((i + 1 : Nat) : Int) b ks vs cs else if ks[i].toList = key.toList then lunetteref05_Find.l0 k key ((at_ + 1 : Nat) : Int) h2 ((i + 1 : Nat) : Int) b ks vs cs else lunetteref05_Find.l0 k key (at_ : Int) h2 ((i + 1 : Nat) : Int) b ks vs cs)
        (((at_ + fcnt b key (ks.drop i) : Nat) : Int), h2 || isin (ks.drop (i + 1)) key) := fun h2 => by
      rw [fcnt_drop_cons hi]
      refine ev_if (fun h => ev_eq (ih (at_ + 1) h2 (by omega)) ?_) (fun h => ev_if (fun hb => ev_eq (ih at_ h2 (by omega)) ?_) (fun hb => ev_if (fun he => ev_eq (ih (at_ + 1) h2 (by omega)) ?_) (fun he => ev_eq (ih at_ h2 (by omega)) ?_)))
      · simp [h]; omega
      · simp [h, hb]
      · simp [hb, he]; omega
      · simp [h, he]
    cases has with
    | true =>
      refine Ev.step (f := fun k => (lunetteref01_Below.f k ks[i] key).bind fun t => if t = true then lunetteref05_Find.l0 k key ((at_ + 1 : Nat) : Int) true ((i + 1 : Nat) : Int) b ks vs cs else if b = true then lunetteref05_Find.l0 k key (at_ : Int) true ((i + 1 : Nat) : Int) b ks vs cs else if ks[i].toList = key.toList then lunetteref05_Find.l0 k key ((at_ + 1 : Nat) : Int) true ((i + 1 : Nat) : Int) b ks vs cs else lunetteref05_Find.l0 k key (at_ : Int) true ((i + 1 : Nat) : Int) b ks vs cs) (fun k => ?_) (Ev.bind (f := fun k t => if t = true then lunetteref05_Find.l0 k key ((at_ + 1 : Nat) : Int) true ((i + 1 : Nat) : Int) b ks vs cs else if b = true then lunetteref05_Find.l0 k key (at_ : Int) true ((i + 1 : Nat) : Int) b ks vs cs else if ks[i].toList = key.toList then lunetteref05_Find.l0 k key ((at_ + 1 : Nat) : Int) true ((i + 1 : Nat) : Int) b ks vs cs else lunetteref05_Find.l0 k key (at_ : Int) true ((i + 1 : Nat) : Int) b ks vs cs) hb (ev_eq (hg true) (by simp)))
      simp only [lunetteref05_Find.l0]
      rw [if_pos (by omega), if_pos trivial, if_pos (by omega), rdS_at hi, w1 (by omega), w1 (by omega)]
    | false =>
      refine Ev.step (f := fun k => (lunetteref01_Below.f k ks[i] key).bind fun t => if t = true then lunetteref05_Find.l0 k key ((at_ + 1 : Nat) : Int) (ks[i].toList == key.toList) ((i + 1 : Nat) : Int) b ks vs cs else if b = true then lunetteref05_Find.l0 k key (at_ : Int) (ks[i].toList == key.toList) ((i + 1 : Nat) : Int) b ks vs cs else if ks[i].toList = key.toList then lunetteref05_Find.l0 k key ((at_ + 1 : Nat) : Int) (ks[i].toList == key.toList) ((i + 1 : Nat) : Int) b ks vs cs else lunetteref05_Find.l0 k key (at_ : Int) (ks[i].toList == key.toList) ((i + 1 : Nat) : Int) b ks vs cs) (fun k => ?_) (Ev.bind (f := fun k t => if t = true then lunetteref05_Find.l0 k key ((at_ + 1 : Nat) : Int) (ks[i].toList == key.toList) ((i + 1 : Nat) : Int) b ks vs cs else if b = true then lunetteref05_Find.l0 k key (at_ : Int) (ks[i].toList == key.toList) ((i + 1 : Nat) : Int) b ks vs cs else if ks[i].toList = key.toList then lunetteref05_Find.l0 k key ((at_ + 1 : Nat) : Int) (ks[i].toList == key.toList) ((i + 1 : Nat) : Int) b ks vs cs else lunetteref05_Find.l0 k key (at_ : Int) (ks[i].toList == key.toList) ((i + 1 : Nat) : Int) b ks vs cs) hb (ev_eq (hg (ks[i].toList == key.toList)) (by rw [isin_drop_cons hi, Bool.false_or, show (ks[i].toList == key.toList) = decide (ks[i].toList = key.toList) by rw [Bool.eq_iff_iff]; simp])))
      simp only [lunetteref05_Find.l0]
      rw [if_pos (by omega), if_neg (by decide), if_pos (by omega), rdS_at hi, w1 (by omega), w1 (by omega)]
  · refine Ev.step (f := fun _ => some ((at_ : Int), has)) (fun k => ?_) (ev_some ?_)
    · simp only [lunetteref05_Find.l0]
      rw [if_neg (by omega)]
    · simp [fcnt, isin]
theorem fcnt_true (key : ByteArray) (l : List ByteArray) : fcnt true key l = below l key := by unfold fcnt below; simp
theorem fcnt_false {l : List ByteArray} (h : rising l = true) (key : ByteArray) : fcnt false key l = below l key + if isin l key then 1 else 0 := by
  induction l with
  | nil => rfl
  | cons a r ih =>
    have ih := ih (rising_tail h)
    have hh := rising_head h
    unfold fcnt below isin at ih ⊢
    by_cases he : a.toList = key.toList
    · have e1 : slt a key = false := by rw [slt_congr he, slt_irrefl]
      have e2 : (r.countP fun x => slt x key || (!false && decide (x.toList = key.toList))) = 0 := by
        rw [List.countP_eq_zero]
        intro x hx
        have h1 := hh x hx
        rw [slt_congr he] at h1
        have h3 : ¬ x.toList = key.toList := fun e => slt_ne h1 e.symm
        simp [slt_asymm h1, h3]
      have e3 : (r.countP fun x => slt x key) = 0 := by
        rw [List.countP_eq_zero]
        intro x hx
        have h1 := hh x hx
        rw [slt_congr he] at h1
        simp [slt_asymm h1]
      rw [List.countP_cons, List.countP_cons, e2, e3]
      simp [he, e1]
    · rw [List.countP_cons, List.countP_cons, ih]
      simp only [List.any_cons, he, decide_false, Bool.false_or, Bool.and_false, Bool.or_false, Bool.not_false, Bool.true_and]
      omega
theorem refFind_ev (b : Bool) (ks vs : List ByteArray) (cs : List Int) (key : ByteArray) (hr : rising ks = true) (hk : ks.length ≤ 100000) (hs : ∀ s ∈ ks, s.size ≤ 1000000000) :
    Ev (fun k => lunetteref05_Find.f k b ks vs cs key) ((if isin ks key && !b then (below ks key : Int) + 1 else (below ks key : Int)), isin ks key) := by
  unfold lunetteref05_Find.f
  refine ev_eq (refFind_l0 b ks vs cs key hk hs 0 (Nat.zero_le _) 0 false (Nat.le_refl _)) ?_
  rw [List.drop_zero, Bool.false_or]
  cases b with
  | true => rw [fcnt_true]; simp
  | false => rw [fcnt_false hr]; cases isin ks key <;> simp
end Go.Proofs.Ytpdlbebiapimoaa.PN
