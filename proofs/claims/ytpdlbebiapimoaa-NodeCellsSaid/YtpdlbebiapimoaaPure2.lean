/- Plain laws: a node's cells, the program's and the document's -/
import Derived.Test.YtpdlbebiapimoaaPure1
namespace Go.Proofs.Ytpdlbebiapimoaa.PN
open Go.RowKit Go.Proofs.YtpdlbebiapimoaaW.PrintWords Go.Proofs.YtpdlbebiapimoaaW.PrintLast Go.Proofs.YtpdlbebiapimoaaW.PrintMore
set_option linter.unusedVariables false
set_option linter.unusedSimpArgs false
/-- a key's head: a byte that tells how long it is -/
def hdr (s : ByteArray) : ByteArray := strOfNums [(s.size : Int) % 256]
def four (n : Int) : ByteArray := strOfNums [(n / 16777216) % 256, (n / 65536) % 256, (n / 256) % 256, n % 256]
def cellN (b : Bool) (ks vs : List ByteArray) (cs : List Int) (i : Nat) : ByteArray := hdr (ks.getD i ByteArray.empty) ++ ks.getD i ByteArray.empty ++ (if b then vs.getD i ByteArray.empty else four (cs.getD (i + 1) 0))
def cellsN (b : Bool) (ks vs : List ByteArray) (cs : List Int) : List ByteArray := (if b then [] else [four (cs.getD 0 0)]) ++ (List.range' 0 ks.length).map (cellN b ks vs cs)
theorem strOfNums_size (l : List Int) : (strOfNums l).size = l.length := by
  unfold strOfNums
  show (List.map (fun n : Int => UInt8.ofNat n.toNat) l).toArray.size = _
  simp
theorem chk_zero {b : Bool} {ks vs : List ByteArray} {cs : List Int} (h : chk b ks vs cs = 0) :
    long 100 ks = false ∧ long 100 vs = false ∧ rising ks = true ∧ (if b then vs.length = ks.length ∧ cs.length = 0 else cs.length = ks.length + 1 ∧ vs.length = 0 ∧ cs.all (fun k => decide (1 ≤ k ∧ k ≤ 4294967295)) = true) := by
  unfold chk at h
  cases h1 : long 100 ks with
  | true => rw [h1] at h; simp at h
  | false =>
    cases h2 : long 100 vs with
    | true => rw [h1, h2] at h; simp at h
    | false =>
      cases h3 : rising ks with
      | false => rw [h1, h2, h3] at h; simp at h
      | true =>
        rw [h1, h2, h3] at h
        refine ⟨rfl, rfl, rfl, ?_⟩
        cases b with
        | true =>
          simp only [Bool.or_self, Bool.false_eq_true, if_false, Bool.not_true, if_true] at h ⊢
          by_cases hc : vs.length = ks.length ∧ cs.length = 0
          · exact hc
          · rw [if_neg hc] at h; cases h
        | false =>
          simp only [Bool.or_self, Bool.false_eq_true, if_false, Bool.not_true] at h ⊢
          by_cases hc : cs.length = ks.length + 1 ∧ vs.length = 0 ∧ cs.all (fun k => decide (1 ≤ k ∧ k ≤ 4294967295)) = true
          · exact hc
          · rw [if_neg hc] at h; cases h
theorem chk_mk {b : Bool} {ks vs : List ByteArray} {cs : List Int} (h1 : long 100 ks = false) (h2 : long 100 vs = false) (h3 : rising ks = true) (h4 : if b then vs.length = ks.length ∧ cs.length = 0 else cs.length = ks.length + 1 ∧ vs.length = 0 ∧ cs.all (fun k => decide (1 ≤ k ∧ k ≤ 4294967295)) = true) : chk b ks vs cs = 0 := by
  unfold chk
  rw [h1, h2, h3]
  cases b with
  | true =>
    simp only [if_true] at h4
    simp only [Bool.or_self, Bool.false_eq_true, if_false, Bool.not_true, if_true]
    rw [if_pos h4]
  | false =>
    simp only [Bool.false_eq_true, if_false] at h4
    simp only [Bool.or_self, Bool.false_eq_true, if_false, Bool.not_true]
    rw [if_pos h4]
theorem long_false {m : Nat} {l : List ByteArray} (h : long (m : Int) l = false) : ∀ s ∈ l, s.size ≤ m := by
  intro s hs
  unfold long at h
  have := List.any_eq_false.1 h s hs
  simp at this
  omega
theorem long_mk {m : Nat} {l : List ByteArray} (h : ∀ s ∈ l, s.size ≤ m) : long (m : Int) l = false := by
  unfold long
  rw [List.any_eq_false]
  intro s hs
  have := h s hs
  simp
  omega
theorem range_step {α : Type} (f : Nat → α) (x : List α) {i n : Nat} (h : i < n) : x ++ [f i] ++ (List.range' (i + 1) (n - (i + 1))).map f = x ++ (List.range' i (n - i)).map f := by
  rw [show n - i = (n - (i + 1)) + 1 from by omega, List.range'_succ, List.map_cons, List.append_assoc]
  rfl
theorem getD_S {l : List ByteArray} {i : Nat} (h : i < l.length) : l.getD i ByteArray.empty = l[i] := by simp [h]
theorem getD_I {l : List Int} {i : Nat} (h : i < l.length) : l.getD i 0 = l[i] := by simp [h]
theorem nodeCells_l0 (b : Bool) (ks vs : List ByteArray) (cs : List Int) (hk : ks.length ≤ 100000) (hs : ∀ s ∈ ks, s.size ≤ 100000) (hs2 : ∀ s ∈ vs, s.size ≤ 100000) (hv : b = true → vs.length = ks.length) (hc : b = false → cs.length = ks.length + 1) :
    ∀ i, i ≤ ks.length → ∀ x : List ByteArray, x.length ≤ i + 1 → Ev (fun k => node_Cells.l0 k x ks (ks.length : Int) (i : Int) b ks vs cs) (x ++ (List.range' i (ks.length - i)).map (cellN b ks vs cs), 0) := by
  refine down (fun i hi ih x hx => ?_) (fun x hx => ?_)
  · have hh : (strOfNums [((ks[i].size : Int)) % 256]).size = 1 := strOfNums_size _
    have hsi := hs ks[i] (List.getElem_mem _)
    rw [← range_step _ x hi]
    cases b with
    | true =>
      have hvi : i < vs.length := by rw [hv rfl]; exact hi
      have hs2i := hs2 vs[i] (List.getElem_mem _)
      refine Ev.step (f := fun k => node_Cells.l0 k (x ++ [cellN true ks vs cs i]) ks (ks.length : Int) ((i + 1 : Nat) : Int) true ks vs cs) (fun k => ?_) (ih _ (by simp; omega))
      simp only [node_Cells.l0]
      rw [if_pos (by omega), if_pos (by omega), if_pos (by omega), rdS_at hi]
      simp only [Option.bind_some]
      rw [if_pos (by omega), if_pos trivial, if_pos (by omega), rdS_at hvi, if_pos (by rw [ByteArray.size_append]; omega), if_pos (by omega), w1 (by omega)]
      unfold cellN hdr
      rw [getD_S hi, getD_S hvi]
      rfl
    | false =>
      have hci : i + 1 < cs.length := by rw [hc rfl]; omega
      refine Ev.step (f := fun k => node_Cells.l0 k (x ++ [cellN false ks vs cs i]) ks (ks.length : Int) ((i + 1 : Nat) : Int) false ks vs cs) (fun k => ?_) (ih _ (by simp; omega))
      have hf : (strOfNums [(cs[i + 1] / 16777216) % 256, (cs[i + 1] / 65536) % 256, (cs[i + 1] / 256) % 256, cs[i + 1] % 256]).size = 4 := strOfNums_size _
      simp only [node_Cells.l0]
      rw [if_pos (by omega), if_pos (by omega), if_pos (by omega), rdS_at hi]
      simp only [Option.bind_some]
      rw [if_pos (by omega), if_neg (by decide), w1 (by omega), if_pos (by omega), if_pos (by omega), rd_at hci]
      simp only [node_four.f, Option.bind_some]
      rw [if_pos (by rw [ByteArray.size_append]; omega), if_pos (by omega)]
      unfold cellN hdr four
      rw [getD_S hi, getD_I hci]
      rfl
  · refine Ev.step (f := fun k => some (x, 0)) (fun k => ?_) (ev_some (by simp))
    simp only [node_Cells.l0]
    rw [if_neg (by omega)]
theorem nodeCells_ev (b : Bool) (ks vs : List ByteArray) (cs : List Int) (hk : ks.length ≤ 100000) (hv : vs.length ≤ 100000) (hc : cs.length ≤ 100000) (hs : ∀ s ∈ ks, s.size ≤ 100000) (hs2 : ∀ s ∈ vs, s.size ≤ 100000) :
    Ev (fun k => node_Cells.f k b ks vs cs) (if chk b ks vs cs = 0 then (cellsN b ks vs cs, 0) else ([], chk b ks vs cs)) := by
  unfold node_Cells.f node_Check.f
  rw [if_pos ⟨hk, hv, hc⟩]
  simp only [Option.bind_some]
  have hj : ∀ x : List ByteArray, x.length ≤ 1 → chk b ks vs cs = 0 → Ev (fun k => node_Cells.j0 k x b ks vs cs) (x ++ (List.range' 0 ks.length).map (cellN b ks vs cs), 0) := fun x hx h0 => by
    have h := (chk_zero h0).2.2.2
    refine Ev.step (f := fun k => node_Cells.l0 k x ks (ks.length : Int) ((0 : Nat) : Int) b ks vs cs) (fun k => by simp only [node_Cells.j0]; rfl) (nodeCells_l0 b ks vs cs hk hs hs2 ?_ ?_ 0 (Nat.zero_le _) x hx)
    · rintro rfl; simp only [if_true] at h; exact h.1
    · rintro rfl; simp only [Bool.false_eq_true, if_false] at h; exact h.1
  refine ev_if (fun h0 => ?_) (fun h0 => ev_some (by rw [if_neg h0]))
  rw [if_pos h0]
  unfold cellsN
  cases b with
  | true =>
    simp only [if_true]
    exact hj [] (by simp) h0
  | false =>
    have h := (chk_zero h0).2.2.2
    simp only [Bool.false_eq_true, if_false] at h ⊢
    have hc0 : 0 < cs.length := by omega
    refine Ev.congr (f := fun k => node_Cells.j0 k ([] ++ [four (cs.getD 0 0)]) false ks vs cs) (fun k => ?_) (hj _ (by simp) h0)
    rw [if_pos (by omega)]
    simp only [node_four.f, Option.bind_some]
    rw [if_pos (by simp)]
    have := rd_at hc0
    rw [show ((0 : Nat) : Int) = 0 from rfl] at this
    rw [this, getD_I hc0]
    rfl
theorem refFour_eq (n : Int) (h0 : 0 ≤ n) (h1 : n ≤ 4294967295) : lunetteref05_four.f n = some (four n) := by
  unfold lunetteref05_four.f four
  rw [Int.tdiv_eq_ediv_of_nonneg h0, Int.tdiv_eq_ediv_of_nonneg h0, Int.tdiv_eq_ediv_of_nonneg h0, w0 (by omega) (by omega), w0 (by omega) (by omega), w0 (by omega) (by omega), Int.tmod_eq_emod_of_nonneg h0, Int.tmod_eq_emod_of_nonneg (by omega), Int.tmod_eq_emod_of_nonneg (by omega)]
  congr 2
  simp
theorem refCells_l0 (b : Bool) (ks vs : List ByteArray) (cs : List Int) (hk : ks.length ≤ 100000) (hs : ∀ s ∈ ks, s.size ≤ 100000) (hs2 : ∀ s ∈ vs, s.size ≤ 100000) (hv : b = true → vs.length = ks.length) (hc : b = false → cs.length = ks.length + 1) (hcr : ∀ c ∈ cs, 1 ≤ c ∧ c ≤ 4294967295) :
    ∀ i, i ≤ ks.length → ∀ x : List ByteArray, x.length ≤ i + 1 → Ev (fun k => lunetteref05_Cells.l0 k x (i : Int) b ks vs cs) (x ++ (List.range' i (ks.length - i)).map (cellN b ks vs cs)) := by
  refine down (fun i hi ih x hx => ?_) (fun x hx => ?_)
  · have hh : (strOfNums [((ks[i].size : Int)) % 256]).size = 1 := strOfNums_size _
    have hsi := hs ks[i] (List.getElem_mem _)
    rw [← range_step _ x hi]
    cases b with
    | true =>
      have hvi : i < vs.length := by rw [hv rfl]; exact hi
      have hs2i := hs2 vs[i] (List.getElem_mem _)
      refine Ev.step (f := fun k => lunetteref05_Cells.l0 k (x ++ [cellN true ks vs cs i]) ((i + 1 : Nat) : Int) true ks vs cs) (fun k => ?_) (ih _ (by simp; omega))
      simp only [lunetteref05_Cells.l0]
      rw [if_pos (by omega), if_pos (by omega), rdS_at hi]
      simp only [Option.bind_some]
      rw [if_pos (by omega), if_pos trivial, if_pos (by omega), rdS_at hvi, if_pos (by rw [ByteArray.size_append]; omega), if_pos (by omega), w1 (by omega)]
      unfold cellN hdr
      rw [getD_S hi, getD_S hvi]
      rfl
    | false =>
      have hci : i + 1 < cs.length := by rw [hc rfl]; omega
      have hcb := hcr cs[i + 1] (List.getElem_mem _)
      refine Ev.step (f := fun k => lunetteref05_Cells.l0 k (x ++ [cellN false ks vs cs i]) ((i + 1 : Nat) : Int) false ks vs cs) (fun k => ?_) (ih _ (by simp; omega))
      have hf : (four cs[i + 1]).size = 4 := strOfNums_size _
      simp only [lunetteref05_Cells.l0]
      rw [if_pos (by omega), if_pos (by omega), rdS_at hi]
      simp only [Option.bind_some]
      rw [if_pos (by omega), if_neg (by decide), w1 (by omega), if_pos (by omega), if_pos (by omega), rd_at hci, refFour_eq _ (by omega) (by omega)]
      simp only [Option.bind_some]
      rw [if_pos (by rw [ByteArray.size_append]; omega), if_pos (by omega)]
      unfold cellN hdr
      rw [getD_S hi, getD_I hci]
      rfl
  · refine Ev.step (f := fun k => some x) (fun k => ?_) (ev_some (by simp))
    simp only [lunetteref05_Cells.l0]
    rw [if_neg (by omega)]
theorem refCells_ev (b : Bool) (ks vs : List ByteArray) (cs : List Int) (hk : ks.length ≤ 100000) (hs : ∀ s ∈ ks, s.size ≤ 100000) (hs2 : ∀ s ∈ vs, s.size ≤ 100000) (h0 : chk b ks vs cs = 0) :
    Ev (fun k => lunetteref05_Cells.f k b ks vs cs) (cellsN b ks vs cs) := by
  unfold lunetteref05_Cells.f
  have h := (chk_zero h0).2.2.2
  have hcr : ∀ c ∈ cs, 1 ≤ c ∧ c ≤ 4294967295 := by
    intro c hc
    cases b with
    | true => simp only [if_true] at h; rw [List.eq_nil_of_length_eq_zero h.2] at hc; cases hc
    | false => simp only [Bool.false_eq_true, if_false] at h; simpa using List.all_eq_true.1 h.2.2 c hc
  have hj : ∀ x : List ByteArray, x.length ≤ 1 → Ev (fun k => lunetteref05_Cells.j0 k x b ks vs cs) (x ++ (List.range' 0 ks.length).map (cellN b ks vs cs)) := fun x hx => by
    refine Ev.step (f := fun k => lunetteref05_Cells.l0 k x ((0 : Nat) : Int) b ks vs cs) (fun k => by simp only [lunetteref05_Cells.j0]; rfl) (refCells_l0 b ks vs cs hk hs hs2 ?_ ?_ hcr 0 (Nat.zero_le _) x hx)
    · rintro rfl; simp only [if_true] at h; exact h.1
    · rintro rfl; simp only [Bool.false_eq_true, if_false] at h; exact h.1
  simp only [Option.bind_some]
  unfold cellsN
  cases b with
  | true =>
    simp only [if_true]
    exact hj [] (by simp)
  | false =>
    simp only [Bool.false_eq_true, if_false] at h ⊢
    have hc0 : 0 < cs.length := by omega
    have hcb := hcr cs[0] (List.getElem_mem _)
    refine Ev.congr (f := fun k => lunetteref05_Cells.j0 k ([] ++ [four (cs.getD 0 0)]) false ks vs cs) (fun k => ?_) (hj _ (by simp))
    have := rd_at hc0
    rw [show ((0 : Nat) : Int) = 0 from rfl] at this
    rw [if_pos (by omega), this, refFour_eq _ (by omega) (by omega)]
    simp only [Option.bind_some]
    rw [if_pos (by simp), getD_I hc0]

end Go.Proofs.Ytpdlbebiapimoaa.PN
