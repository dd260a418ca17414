/- Lists of free pages: what the document's functions and the program's answer -/
import Derived.Test.YtmplcceghjofhaaPureChk
import Derived.Test.YtmplcceghjofhaaPF3
namespace Go.Proofs.Ytmplcceghjofhaa.PF
open Go.RowKit Go.Proofs.YtmplcceghjofhaaW.PrintWords Go.Proofs.YtmplcceghjofhaaW.PrintLast Go.Proofs.YtmplcceghjofhaaW.PrintMore
set_option linter.unusedVariables false
set_option linter.unusedSimpArgs false
/-- Pages rise. -/
abbrev up (l : List S25) : Prop := l.Pairwise (fun a b => a.f0 < b.f0)
theorem chkF_pw (l : List S25) : chkF l = true ↔ (∀ x ∈ l, fit x = true) ∧ up l := by
  induction l with
  | nil => simp [chkF, up]
  | cons x r ih =>
    cases r with
    | nil => simp [chkF, up, fit]
    | cons y r =>
      have e : chkF (x :: y :: r) = (fit x && decide (x.f0 < y.f0) && chkF (y :: r)) := rfl
      rw [e, Bool.and_eq_true, Bool.and_eq_true, ih, decide_eq_true_iff]
      constructor
      · rintro ⟨⟨h1, h2⟩, h3, h4⟩
        refine ⟨fun z hz => ?_, ?_⟩
        · rcases List.mem_cons.1 hz with rfl | hz
          · exact h1
          · exact h3 z hz
        · refine List.pairwise_cons.2 ⟨fun z hz => ?_, h4⟩
          rcases List.mem_cons.1 hz with rfl | hz
          · exact h2
          · have := (List.pairwise_cons.1 h4).1 z hz
            omega
      · rintro ⟨h1, h2⟩
        obtain ⟨h3, h4⟩ := List.pairwise_cons.1 h2
        exact ⟨⟨h1 x (by simp), h3 y (by simp)⟩, fun z hz => h1 z (List.mem_cons_of_mem _ hz), h4⟩
theorem rd_eta {l : List S25} {i : Nat} (h : i < l.length) : (⟨(rd_T25 l (i : Int)).f0, (rd_T25 l (i : Int)).f1⟩ : S25) = l[i] := by rw [rd_at h]
/-! the document's Check -/
theorem rcheck_l1 (l : List S25) (hl : l.length ≤ 1000000) (i : Nat) (hi : i < l.length) (r : Bool) (h0 : Ev (fun k => lunetteref06_Check.l0 k l ((i + 1 : Nat) : Int)) r) : ∀ j, j ≤ i → Ev (fun k => lunetteref06_Check.l1 k l (i : Int) (j : Int)) (((l.take i).drop j).all (fun x => decide (x.f0 < l[i].f0)) && r) := by
  refine down (fun j hj ih => ?_) ?_
  · have hjl : j < l.length := by omega
    have hg : (l.take i).drop j = l[j] :: (l.take i).drop (j + 1) := by
      rw [List.drop_eq_getElem_cons (by rw [List.length_take]; omega), List.getElem_take]
    rw [hg, List.all_cons]
    refine Ev.step (f := fun k => if l[j].f0 ≥ l[i].f0 then some false else lunetteref06_Check.l1 k l (i : Int) ((j + 1 : Nat) : Int)) (fun k => ?_) (ev_if (fun h => ev_some ?_) (fun h => ev_eq ih ?_))
    · simp only [lunetteref06_Check.l1]
      rw [if_pos (by omega), if_pos (by omega), if_pos (by omega), if_pos (by omega), if_pos (by omega), rd_at hjl, rd_at hi, w1 (by omega)]
    · rw [decide_eq_false (by omega)]; rfl
    · rw [decide_eq_true (by omega), Bool.true_and]
  · rw [List.drop_eq_nil_of_le (by rw [List.length_take]; omega)]
    refine Ev.step (f := fun k => lunetteref06_Check.l0 k l ((i + 1 : Nat) : Int)) (fun k => ?_) (ev_eq h0 (by simp))
    simp only [lunetteref06_Check.l1]
    rw [if_neg (by omega), w1 (by omega)]
def okR (l : List S25) (i : Nat) : Bool := fit (l.getD i z25) && (l.take i).all (fun x => decide (x.f0 < (l.getD i z25).f0))
theorem rcheck_l0 (l : List S25) (hl : l.length ≤ 1000000) : ∀ i, i ≤ l.length → Ev (fun k => lunetteref06_Check.l0 k l (i : Int)) (((List.range l.length).drop i).all (okR l)) := by
  refine down (fun i hi ih => ?_) ?_
  · have hg : (List.range l.length).drop i = i :: (List.range l.length).drop (i + 1) := by
      rw [List.drop_eq_getElem_cons (by simpa using hi)]
      simp
    rw [hg, List.all_cons]
    have hr := rd_at hi
    have hgd : l.getD i z25 = l[i] := by simp [hi]
    have h1 := rcheck_l1 l hl i hi _ ih 0 (Nat.zero_le _)
    rw [List.drop_zero] at h1
    have hj : Ev (fun k => lunetteref06_Check.j1 k l (i : Int) false) ((l.take i).all (fun x => decide (x.f0 < l[i].f0)) && ((List.range l.length).drop (i + 1)).all (okR l)) :=
      Ev.step (f := fun k => lunetteref06_Check.l1 k l (i : Int) ((0 : Nat) : Int)) (fun k => by simp only [lunetteref06_Check.j1]; rw [if_neg (by decide)]; rfl) h1
    have hno : Ev (fun k => lunetteref06_Check.j1 k l (i : Int) true) false := Ev.step (f := fun _ => some false) (fun k => by simp only [lunetteref06_Check.j1]; rw [if_pos trivial]) (Ev.now _)
    have hf : ∀ b : Bool, fit l[i] = b → okR l i = (b && (l.take i).all (fun x => decide (x.f0 < l[i].f0))) := fun b hb => by unfold okR; rw [hgd, hb]
    refine Ev.step (f := fun k => if l[i].f0 < 2 then lunetteref06_Check.j1 k l (i : Int) true else if l[i].f0 > 4294967295 then lunetteref06_Check.j1 k l (i : Int) true else if l[i].f1 < 0 then lunetteref06_Check.j1 k l (i : Int) true else lunetteref06_Check.j1 k l (i : Int) (decide (l[i].f1 > 4294967295))) (fun k => ?_) ?_
    · simp only [lunetteref06_Check.l0]
      rw [if_pos (by omega), if_pos (by omega), hr]
    · refine ev_if (fun h1 => ev_eq hno ?_) (fun h1 => ev_if (fun h2 => ev_eq hno ?_) (fun h2 => ev_if (fun h3 => ev_eq hno ?_) (fun h3 => ?_)))
      · rw [hf false (by unfold fit; simp; omega)]; rfl
      · rw [hf false (by unfold fit; simp; omega)]; rfl
      · rw [hf false (by unfold fit; simp; omega)]; rfl
      · by_cases h4 : l[i].f1 > 4294967295
        · rw [decide_eq_true h4, hf false (by unfold fit; simp; omega)]
          exact hno
        · rw [decide_eq_false h4, hf true (by unfold fit; simp; omega), Bool.true_and]
          exact hj
  · refine Ev.step (f := fun _ => some true) (fun k => ?_) (ev_some (by rw [List.drop_eq_nil_of_le (by simp)]; rfl))
    simp only [lunetteref06_Check.l0]
    rw [if_neg (by omega)]
theorem okR_all (l : List S25) : (List.range l.length).all (okR l) = chkF l := by
  rw [Bool.eq_iff_iff, List.all_eq_true, chkF_pw]
  constructor
  · intro h
    have h' : ∀ i (hi : i < l.length), fit l[i] = true ∧ ∀ j (hj : j < i), l[j].f0 < l[i].f0 := fun i hi => by
      have := h i (by simpa using hi)
      unfold okR at this
      rw [show l.getD i z25 = l[i] by simp [hi], Bool.and_eq_true, List.all_eq_true] at this
      refine ⟨this.1, fun j hj => ?_⟩
      simpa using this.2 l[j] (List.mem_take_iff_getElem.2 ⟨j, by omega, rfl⟩)
    refine ⟨fun x hx => ?_, List.pairwise_iff_getElem.2 (fun i j hi hj hij => (h' j hj).2 i hij)⟩
    obtain ⟨i, hi, rfl⟩ := List.mem_iff_getElem.1 hx
    exact (h' i hi).1
  · rintro ⟨h1, h2⟩ i hi
    have hi : i < l.length := by simpa using hi
    unfold okR
    rw [show l.getD i z25 = l[i] by simp [hi], Bool.and_eq_true, List.all_eq_true]
    refine ⟨h1 _ (List.getElem_mem _), fun x hx => ?_⟩
    obtain ⟨j, hj, rfl⟩ := List.mem_take_iff_getElem.1 hx
    simpa using List.pairwise_iff_getElem.1 h2 j i (by omega) hi (by omega)
theorem rcheck_ev (l : List S25) (hl : l.length ≤ 1000000) : Ev (fun k => lunetteref06_Check.f k l) (chkF l) := by
  unfold lunetteref06_Check.f
  rw [← okR_all]
  exact ev_eq (rcheck_l0 l hl 0 (Nat.zero_le _)) (by rw [List.drop_zero])
/-! Same -/
theorem s25_eq {a b : S25} : a = b ↔ a.f0 = b.f0 ∧ a.f1 = b.f1 := by
  cases a; cases b; simp
instance : DecidableEq S25 := fun a b => decidable_of_iff _ s25_eq.symm
theorem same_l0 (a b : List S25) (hl : a.length = b.length) (ha : a.length ≤ 1000000) : ∀ i, i ≤ a.length → Ev (fun k => lunetteref06_Same.l0 k a b (i : Int)) (decide (a.drop i = b.drop i)) := by
  refine down (fun i hi ih => ?_) ?_
  · have hb : i < b.length := by omega
    rw [List.drop_eq_getElem_cons hi, List.drop_eq_getElem_cons hb]
    refine Ev.step (f := fun k => if (!(a[i].f0 == b[i].f0) || (!(a[i].f1 == b[i].f1))) = true then some false else lunetteref06_Same.l0 k a b ((i + 1 : Nat) : Int)) (fun k => ?_) (ev_if (fun h => ev_some ?_) (fun h => ev_eq ih ?_))
    · simp only [lunetteref06_Same.l0]
      rw [if_pos (by omega), if_pos (by omega), if_pos (by omega), rd_at hi, rd_at hb, w1 (by omega)]
    · have : a[i] ≠ b[i] := fun e => by rw [e] at h; simp at h
      exact (decide_eq_false (fun e => this (List.cons.inj e).1)).symm
    · have : a[i] = b[i] := by rw [s25_eq]; simpa using h
      rw [this]
      exact decide_eq_decide.2 ⟨fun e => by rw [e], fun e => (List.cons.inj e).2⟩
  · rw [List.drop_length, hl, List.drop_length]
    refine Ev.step (f := fun _ => some true) (fun k => ?_) (ev_some (by simp))
    simp only [lunetteref06_Same.l0]
    rw [if_neg (by omega)]
theorem same_ev (a b : List S25) (ha : a.length ≤ 1000000) : Ev (fun k => lunetteref06_Same.f k a b) (decide (a = b)) := by
  unfold lunetteref06_Same.f
  refine ev_if (fun h => ev_eq (same_l0 a b (by omega) ha 0 (Nat.zero_le _)) (by rw [List.drop_zero, List.drop_zero])) (fun h => ev_some ?_)
  have : a ≠ b := fun e => h (by rw [e])
  simp [this]
/-! Usable -/
def cnt (o : Int) (l : List S25) : Nat := l.countP fun x => decide (x.f1 ≤ o)
theorem cnt_cons (o : Int) {l : List S25} {i : Nat} (h : i < l.length) : cnt o (l.drop i) = (if l[i].f1 ≤ o then 1 else 0) + cnt o (l.drop (i + 1)) := by
  unfold cnt
  rw [List.drop_eq_getElem_cons h, List.countP_cons]
  simp only [decide_eq_true_eq]
  omega
theorem usable_l0 (l : List S25) (o : Int) (hl : l.length ≤ 1000000) : ∀ i, i ≤ l.length → ∀ n : Nat, n ≤ i → Ev (fun k => free_Usable.l0 k o (n : Int) l (l.length : Int) (i : Int)) ((n + cnt o (l.drop i) : Nat) : Int) := by
  refine down (fun i hi ih n hn => ?_) (fun n hn => ?_)
  · rw [cnt_cons o hi]
    have hA := ih (n + 1) (by omega)
    have hB := ih n (by omega)
    refine Ev.step (f := fun k => if l[i].f1 ≤ o then free_Usable.l0 k o ((n + 1 : Nat) : Int) l (l.length : Int) ((i + 1 : Nat) : Int) else free_Usable.l0 k o (n : Int) l (l.length : Int) ((i + 1 : Nat) : Int)) (fun k => ?_) (ev_if (fun h => ev_eq hA ?_) (fun h => ev_eq hB ?_))
    · simp only [free_Usable.l0]
      rw [if_pos (by omega), if_pos (by omega), if_pos (by omega), rd_at hi, w1 (by omega), w1 (by omega)]
    · rw [if_pos h]; omega
    · rw [if_neg h]; omega
  · rw [List.drop_length]
    refine Ev.step (f := fun _ => some (n : Int)) (fun k => ?_) (ev_some (by simp [cnt]))
    simp only [free_Usable.l0]
    rw [if_neg (by omega)]
theorem usable_ev (l : List S25) (o : Int) (hl : l.length ≤ 1000000) : Ev (fun k => free_Usable.f k l o) ((cnt o l : Nat) : Int) := by
  unfold free_Usable.f
  exact ev_eq (usable_l0 l o hl 0 (Nat.zero_le _) 0 (Nat.le_refl _)) (by rw [List.drop_zero, Nat.zero_add])
/-! Take -/
theorem rtake_done (l : List S25) (o : Int) (hl : l.length ≤ 1000000) (p : Int) : ∀ i, i ≤ l.length → ∀ x : List S25, x.length ≤ i → Ev (fun k => lunetteref06_Take.l0 k l o x p true (i : Int)) (p, x ++ l.drop i, true) := by
  refine down (fun i hi ih x hx => ?_) (fun x hx => ?_)
  · have hA := ih (x ++ [l[i]]) (by rw [List.length_append]; exact Nat.succ_le_succ hx)
    refine Ev.step (f := fun k => lunetteref06_Take.l0 k l o (x ++ [l[i]]) p true ((i + 1 : Nat) : Int)) (fun k => ?_) (ev_eq hA ?_)
    · simp only [lunetteref06_Take.l0]
      rw [if_pos (by omega), if_pos trivial, if_pos (by omega), if_pos (by omega), rd_eta hi, w1 (by omega)]
    · rw [List.append_assoc, List.singleton_append, ← List.drop_eq_getElem_cons hi]
  · rw [List.drop_length, List.append_nil]
    refine Ev.step (f := fun _ => some (p, x, true)) (fun k => ?_) (Ev.now _)
    simp only [lunetteref06_Take.l0]
    rw [if_neg (by omega)]
theorem rtake_l0 (l : List S25) (o : Int) (hl : l.length ≤ 1000000) : ∀ i, i ≤ l.length → ∀ x : List S25, x.length ≤ i → Ev (fun k => lunetteref06_Take.l0 k l o x 0 false (i : Int)) ((takeF o (l.drop i)).1, x ++ (takeF o (l.drop i)).2.1, (takeF o (l.drop i)).2.2) := by
  refine down (fun i hi ih x hx => ?_) (fun x hx => ?_)
  · rw [List.drop_eq_getElem_cons hi]
    have hA := rtake_done l o hl l[i].f0 (i + 1) (by omega) x (by omega)
    have hB := ih (x ++ [l[i]]) (by rw [List.length_append]; exact Nat.succ_le_succ hx)
    refine Ev.step (f := fun k => if l[i].f1 ≤ o then lunetteref06_Take.l0 k l o x l[i].f0 true ((i + 1 : Nat) : Int) else lunetteref06_Take.l0 k l o (x ++ [l[i]]) 0 false ((i + 1 : Nat) : Int)) (fun k => ?_) (ev_if (fun h => ev_eq hA ?_) (fun h => ev_eq hB ?_))
    · simp only [lunetteref06_Take.l0]
      rw [if_pos (by omega), if_neg (by decide), if_pos (by omega), rd_at hi, w1 (by omega)]
      by_cases h : l[i].f1 ≤ o
      · rw [if_pos h, if_pos h]
      · rw [if_neg h, if_neg h, if_pos (by omega)]
    · unfold takeF; rw [if_pos h]
    · rw [takeF, if_neg h]; simp
  · rw [List.drop_length]
    refine Ev.step (f := fun _ => some ((0 : Int), x, false)) (fun k => ?_) (ev_some (by simp [takeF]))
    simp only [lunetteref06_Take.l0]
    rw [if_neg (by omega)]
theorem rtake_ev (l : List S25) (o : Int) (hl : l.length ≤ 1000000) : Ev (fun k => lunetteref06_Take.f k l o) (takeF o l) := by
  unfold lunetteref06_Take.f
  exact ev_eq (rtake_l0 l o hl 0 (Nat.zero_le _) [] (by simp)) (by rw [List.drop_zero, List.nil_append])
/-! Put -/
theorem putF_fresh (p e : Int) : ∀ (l : List S25), (∀ x ∈ l, p < x.f0) → putF p e l = ⟨p, e⟩ :: l
  | [], _ => rfl
  | x :: r, h => by
    have := h x (by simp)
    unfold putF
    rw [if_neg (by omega), if_neg (by omega)]
theorem rput_done (l : List S25) (p e : Int) (hl : l.length ≤ 1000000) : ∀ i, i ≤ l.length → (∀ j (hj : j < l.length), i ≤ j → l[j].f0 ≠ p) → ∀ x : List S25, x.length ≤ i + 1 → Ev (fun k => lunetteref06_Put.l0 k l p e x true (i : Int)) (x ++ l.drop i) := by
  refine down (fun i hi ih hne x hx => ?_) (fun hne x hx => ?_)
  · have hA := ih (fun j hj hij => hne j hj (by omega)) (x ++ [l[i]]) (by rw [List.length_append]; exact Nat.succ_le_succ hx)
    have hj : Ev (fun k => lunetteref06_Put.j1 k l p e x true (i : Int) false) (x ++ l.drop i) := by
      refine Ev.step (f := fun k => lunetteref06_Put.l0 k l p e (x ++ [l[i]]) true ((i + 1 : Nat) : Int)) (fun k => ?_) (ev_eq hA ?_)
      · simp only [lunetteref06_Put.j1]
        have := hne i hi (Nat.le_refl _)
        rw [if_neg (by decide), if_pos (by omega), if_pos (by omega), if_neg (by rw [rd_at hi]; exact this), if_pos (by omega), rd_eta hi, w1 (by omega)]
      · rw [List.append_assoc, List.singleton_append, ← List.drop_eq_getElem_cons hi]
    refine Ev.step (f := fun k => lunetteref06_Put.j1 k l p e x true (i : Int) false) (fun k => ?_) hj
    simp only [lunetteref06_Put.l0]
    rw [if_pos (by omega), if_pos trivial]
  · rw [List.drop_length, List.append_nil]
    refine Ev.step (f := fun _ => some x) (fun k => ?_) (Ev.now _)
    simp only [lunetteref06_Put.l0]
    rw [if_neg (by omega), if_pos trivial]
theorem rput_l0 (l : List S25) (p e : Int) (hl : l.length ≤ 1000000) (hu : up l) : ∀ i, i ≤ l.length → ∀ x : List S25, x.length ≤ i → Ev (fun k => lunetteref06_Put.l0 k l p e x false (i : Int)) (x ++ putF p e (l.drop i)) := by
  have hlt : ∀ i (hi : i < l.length) j (hj : j < l.length), i < j → l[i].f0 < l[j].f0 := fun i hi j hj hij => List.pairwise_iff_getElem.1 hu i j hi hj hij
  refine down (fun i hi ih x hx => ?_) (fun x hx => ?_)
  · rw [List.drop_eq_getElem_cons hi]
    have hA := ih (x ++ [l[i]]) (by rw [List.length_append]; exact Nat.succ_le_succ hx)
    have hj : Ev (fun k => lunetteref06_Put.j1 k l p e x false (i : Int) (decide (l[i].f0 ≥ p))) (x ++ putF p e (l[i] :: l.drop (i + 1))) := by
      by_cases hge : l[i].f0 ≥ p
      · rw [decide_eq_true hge]
        have hD : ∀ y : List S25, y.length ≤ i + 2 → Ev (fun k => lunetteref06_Put.l0 k l p e y true ((i + 1 : Nat) : Int)) (y ++ l.drop (i + 1)) := fun y hy =>
          rput_done l p e hl (i + 1) (by omega) (fun j hj hij => by have := hlt i hi j hj (by omega); omega) y hy
        by_cases heq : l[i].f0 = p
        · refine Ev.step (f := fun k => lunetteref06_Put.l0 k l p e (x ++ [⟨p, e⟩]) true ((i + 1 : Nat) : Int)) (fun k => ?_) (ev_eq (hD (x ++ [⟨p, e⟩]) (by rw [List.length_append, List.length_singleton]; omega)) ?_)
          · simp only [lunetteref06_Put.j1]
            rw [if_pos trivial, if_pos (by omega)]
            simp only [Option.bind_some]
            rw [if_pos (by omega), if_pos (by omega), if_pos (by rw [rd_at hi]; exact heq), w1 (by omega)]
          · unfold putF
            rw [if_neg (by omega), if_pos heq]
            simp
        · refine Ev.step (f := fun k => lunetteref06_Put.l0 k l p e (x ++ [⟨p, e⟩] ++ [l[i]]) true ((i + 1 : Nat) : Int)) (fun k => ?_) (ev_eq (hD (x ++ [⟨p, e⟩] ++ [l[i]]) (by rw [List.length_append, List.length_append, List.length_singleton, List.length_singleton]; omega)) ?_)
          · simp only [lunetteref06_Put.j1]
            rw [if_pos trivial, if_pos (by omega)]
            simp only [Option.bind_some]
            rw [if_pos (by omega), if_pos (by omega), if_neg (by rw [rd_at hi]; exact heq), if_pos (by rw [List.length_append]; simp; omega), rd_eta hi, w1 (by omega)]
          · unfold putF
            rw [if_neg (by omega), if_neg heq]
            simp
      · rw [decide_eq_false hge]
        refine Ev.step (f := fun k => lunetteref06_Put.l0 k l p e (x ++ [l[i]]) false ((i + 1 : Nat) : Int)) (fun k => ?_) (ev_eq hA ?_)
        · simp only [lunetteref06_Put.j1]
          rw [if_neg (by decide), if_pos (by omega), if_pos (by omega), if_neg (by rw [rd_at hi]; omega), if_pos (by omega), rd_eta hi, w1 (by omega)]
        · conv => rhs; unfold putF
          rw [if_pos (by omega)]
          simp
    refine Ev.step (f := fun k => lunetteref06_Put.j1 k l p e x false (i : Int) (decide (l[i].f0 ≥ p))) (fun k => ?_) hj
    simp only [lunetteref06_Put.l0]
    rw [if_pos (by omega), if_neg (by decide), if_pos (by omega), rd_at hi]
  · rw [List.drop_length]
    refine Ev.step (f := fun _ => some (x ++ [⟨p, e⟩])) (fun k => ?_) (Ev.now _)
    simp only [lunetteref06_Put.l0]
    rw [if_neg (by omega), if_neg (by decide), if_pos (by omega)]
theorem rput_ev (l : List S25) (p e : Int) (hl : l.length ≤ 1000000) (hu : up l) : Ev (fun k => lunetteref06_Put.f k l p e) (putF p e l) := by
  unfold lunetteref06_Put.f
  exact ev_eq (rput_l0 l p e hl hu 0 (Nat.zero_le _) [] (by simp)) (by rw [List.drop_zero, List.nil_append])
theorem mem_putF (p e : Int) : ∀ (l : List S25) (x : S25), x ∈ putF p e l → x = ⟨p, e⟩ ∨ x ∈ l
  | [], x, h => by simp [putF] at h; exact .inl h
  | y :: r, x, h => by
    unfold putF at h
    split at h
    · rcases List.mem_cons.1 h with rfl | h
      · exact .inr (by simp)
      · exact (mem_putF p e r x h).imp id (List.mem_cons_of_mem _)
    · split at h
      · rcases List.mem_cons.1 h with rfl | h
        · exact .inl rfl
        · exact .inr (List.mem_cons_of_mem _ h)
      · rcases List.mem_cons.1 h with rfl | h
        · exact .inl rfl
        · exact .inr h
theorem up_putF (p e : Int) : ∀ (l : List S25), up l → up (putF p e l)
  | [], _ => by simp [putF, up]
  | y :: r, h => by
    obtain ⟨h1, h2⟩ := List.pairwise_cons.1 h
    unfold putF
    split
    · rename_i hlt
      refine List.pairwise_cons.2 ⟨fun z hz => ?_, up_putF p e r h2⟩
      rcases mem_putF p e r z hz with rfl | hz
      · exact hlt
      · exact h1 z hz
    · split
      · rename_i hge heq
        exact List.pairwise_cons.2 ⟨fun z hz => by have := h1 z hz; show p < z.f0; omega, h2⟩
      · rename_i hge hne
        refine List.pairwise_cons.2 ⟨fun z hz => ?_, h⟩
        show p < z.f0
        rcases List.mem_cons.1 hz with rfl | hz
        · omega
        · have := h1 z hz
          omega
theorem chkF_putF {p e : Int} {l : List S25} (h : chkF l = true) (hp : fit ⟨p, e⟩ = true) : chkF (putF p e l) = true := by
  rw [chkF_pw] at h ⊢
  exact ⟨fun x hx => (mem_putF p e l x hx).elim (fun e => by rw [e]; exact hp) (h.1 x), up_putF p e l h.2⟩
theorem putF_len (p e : Int) : ∀ l : List S25, (putF p e l).length ≤ l.length + 1
  | [] => by simp [putF]
  | y :: r => by
    unfold putF
    have := putF_len p e r
    split
    · simp; omega
    · split <;> simp
theorem takeF_sub (o : Int) : ∀ l : List S25, (takeF o l).2.1.Sublist l
  | [] => by simp [takeF]
  | y :: r => by
    unfold takeF
    split
    · exact List.sublist_cons_self _ _
    · exact (takeF_sub o r).cons_cons _
theorem chkF_sub {l r : List S25} (h : chkF l = true) (hs : r.Sublist l) : chkF r = true := by
  rw [chkF_pw] at h ⊢
  exact ⟨fun x hx => h.1 x (hs.subset hx), h.2.sublist hs⟩
/-- Two pages may be put in either order. -/
theorem putF_comm (p e q f : Int) (hne : p ≠ q) : ∀ l : List S25, putF q f (putF p e l) = putF p e (putF q f l)
  | [] => by
    unfold putF putF
    by_cases h : p < q
    · simp [h, show ¬ q < p by omega, show ¬ q = p by omega]
    · simp [show q < p by omega, show ¬ p < q by omega, hne]
  | x :: r => by
    have ih := putF_comm p e q f hne r
    by_cases h1 : x.f0 < p <;> by_cases h2 : x.f0 < q
    · simp [putF, h1, h2, ih]
    · have h3 : q < p := by omega
      by_cases h4 : x.f0 = q
      · simp [putF, h1, h2, h4, h3]
      · simp [putF, h1, h2, h4, h3]
    · have h3 : p < q := by omega
      by_cases h4 : x.f0 = p
      · simp [putF, h1, h2, h4, h3]
      · simp [putF, h1, h2, h4, h3]
    · by_cases h3 : x.f0 = p
      · have h4 : ¬ x.f0 = q := by omega
        have h5 : q < p := by omega
        simp [putF, h1, h2, h3, h4, h5, show ¬ p < q by omega, hne]
      · by_cases h4 : x.f0 = q
        · have h5 : p < q := by omega
          simp [putF, h1, h2, h3, h4, h5, show ¬ q < p by omega, Ne.symm hne]
        · by_cases h5 : p < q
          · simp [putF, h1, h2, h3, h4, h5, show ¬ q < p by omega, Ne.symm hne]
          · simp [putF, h1, h2, h3, h4, h5, show q < p by omega, hne]
/-- A page that is put again has the new epoch alone. -/
theorem putF_again (p e f : Int) : ∀ l : List S25, putF p f (putF p e l) = putF p f l
  | [] => by simp [putF]
  | x :: r => by
    have ih := putF_again p e f r
    by_cases h1 : x.f0 < p
    · simp [putF, h1, ih]
    · by_cases h3 : x.f0 = p
      · simp [putF, h1, h3]
      · simp [putF, h1, h3]
end Go.Proofs.Ytmplcceghjofhaa.PF
