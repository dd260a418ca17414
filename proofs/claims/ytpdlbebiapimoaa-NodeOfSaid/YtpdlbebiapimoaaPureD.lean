/- Plain laws: the document's Cells and Room -/
import Derived.Test.YtpdlbebiapimoaaPureA
import Derived.Test.YtpdlbebiapimoaaPN16
import Derived.Test.YtpdlbebiapimoaaPN18
namespace Go.Proofs.Ytpdlbebiapimoaa.PN
open Go.RowKit Go.Proofs.YtpdlbebiapimoaaW.PrintWords Go.Proofs.YtpdlbebiapimoaaW.PrintLast Go.Proofs.YtpdlbebiapimoaaW.PrintMore
set_option linter.unusedVariables false
set_option linter.unusedSimpArgs false
theorem refFour_eq (n : Int) (h0 : 0 ≤ n) (h1 : n ≤ 4294967295) : lunetteref05_four.f n = some (four n) := by
  unfold lunetteref05_four.f four
  rw [Int.tdiv_eq_ediv_of_nonneg h0, Int.tdiv_eq_ediv_of_nonneg h0, Int.tdiv_eq_ediv_of_nonneg h0, w0 (by omega) (by omega), w0 (by omega) (by omega), w0 (by omega) (by omega), Int.tmod_eq_emod_of_nonneg h0, Int.tmod_eq_emod_of_nonneg (by omega), Int.tmod_eq_emod_of_nonneg (by omega)]
  congr 2
  simp
theorem refCells_l0 (b : Bool) (ks vs : List ByteArray) (cs : List Int) (hk : ks.length ≤ 100000) (hs : ∀ s ∈ ks, s.size ≤ 100000) (hs2 : ∀ s ∈ vs, s.size ≤ 100000) (hv : b = true → vs.length = ks.length) (hc : b = false → cs.length = ks.length + 1) (hcr : ∀ c ∈ cs, 1 ≤ c ∧ c ≤ 4294967295) :
    ∀ i, i ≤ ks.length → ∀ x : List ByteArray, x.length ≤ i + 1 → Ev (fun k => lunetteref05_Cells.l0 k x (i : Int) b ks vs cs) (x ++ (List.range' i (ks.length - i)).map (cellN b ks vs cs)) := by
  refine down (fun i hi ih x hx => ?_) (fun x hx => ?_)
  · have hh : (strOfNums [((ks[i].size : Int)) % 256]).size = 1 := strOfNums_size _
    have hsi := hs ks[i] (List.getElem_mem _)
    rw [← range_step _ x hi]
    cases b with
    | true =>
      have hvi : i < vs.length := by rw [hv rfl]; exact hi
      have hs2i := hs2 vs[i] (List.getElem_mem _)
      refine Ev.step (f := fun k => lunetteref05_Cells.l0 k (x ++ [cellN true ks vs cs i]) ((i + 1 : Nat) : Int) true ks vs cs) (fun k => ?_) (ih _ (by simp; omega))
      simp only [lunetteref05_Cells.l0]
      rw [if_pos (by omega), if_pos (by omega), rdS_at hi]
      simp only [Option.bind_some]
      rw [if_pos (by omega), if_pos trivial, if_pos (by omega), rdS_at hvi, if_pos (by rw [ByteArray.size_append]; omega), if_pos (by omega), w1 (by omega)]
      unfold cellN hdr
      rw [getD_S hi, getD_S hvi]
      rfl
    | false =>
      have hci : i + 1 < cs.length := by rw [hc rfl]; omega
      have hcb := hcr cs[i + 1] (List.getElem_mem _)
      refine Ev.step (f := fun k => lunetteref05_Cells.l0 k (x ++ [cellN false ks vs cs i]) ((i + 1 : Nat) : Int) false ks vs cs) (fun k => ?_) (ih _ (by simp; omega))
      have hf : (four cs[i + 1]).size = 4 := strOfNums_size _
      simp only [lunetteref05_Cells.l0]
      rw [if_pos (by omega), if_pos (by omega), rdS_at hi]
      simp only [Option.bind_some]
      rw [if_pos (by omega), if_neg (by decide), w1 (by omega), if_pos (by omega), if_pos (by omega), rd_at hci, refFour_eq _ (by omega) (by omega)]
      simp only [Option.bind_some]
      rw [if_pos (by rw [ByteArray.size_append]; omega), if_pos (by omega)]
      unfold cellN hdr
      rw [getD_S hi, getD_I hci]
      rfl
  · refine Ev.step (f := fun k => some x) (fun k => ?_) (ev_some (by simp))
    simp only [lunetteref05_Cells.l0]
    rw [if_neg (by omega)]
theorem refCells_ev (b : Bool) (ks vs : List ByteArray) (cs : List Int) (hk : ks.length ≤ 100000) (hs : ∀ s ∈ ks, s.size ≤ 100000) (hs2 : ∀ s ∈ vs, s.size ≤ 100000) (h0 : chk b ks vs cs = 0) :
    Ev (fun k => lunetteref05_Cells.f k b ks vs cs) (cellsN b ks vs cs) := by
  unfold lunetteref05_Cells.f
  have h := (chk_zero h0).2.2.2
  have hcr : ∀ c ∈ cs, 1 ≤ c ∧ c ≤ 4294967295 := by
    intro c hc
    cases b with
    | true => simp only [if_true] at h; rw [List.eq_nil_of_length_eq_zero h.2] at hc; cases hc
    | false => simp only [Bool.false_eq_true, if_false] at h; simpa using List.all_eq_true.1 h.2.2 c hc
  have hj : ∀ x : List ByteArray, x.length ≤ 1 → Ev (fun k => lunetteref05_Cells.j0 k x b ks vs cs) (x ++ (List.range' 0 ks.length).map (cellN b ks vs cs)) := fun x hx => by
    refine Ev.step (f := fun k => lunetteref05_Cells.l0 k x ((0 : Nat) : Int) b ks vs cs) (fun k => by simp only [lunetteref05_Cells.j0]; rfl) (refCells_l0 b ks vs cs hk hs hs2 ?_ ?_ hcr 0 (Nat.zero_le _) x hx)
    · rintro rfl; simp only [if_true] at h; exact h.1
    · rintro rfl; simp only [Bool.false_eq_true, if_false] at h; exact h.1
  simp only [Option.bind_some]
  unfold cellsN
  cases b with
  | true =>
    simp only [if_true]
    exact hj [] (by simp)
  | false =>
    simp only [Bool.false_eq_true, if_false] at h ⊢
    have hc0 : 0 < cs.length := by omega
    have hcb := hcr cs[0] (List.getElem_mem _)
    refine Ev.congr (f := fun k => lunetteref05_Cells.j0 k ([] ++ [four (cs.getD 0 0)]) false ks vs cs) (fun k => ?_) (hj _ (by simp))
    have := rd_at hc0
    rw [show ((0 : Nat) : Int) = 0 from rfl] at this
    rw [if_pos (by omega), this, refFour_eq _ (by omega) (by omega)]
    simp only [Option.bind_some]
    rw [if_pos (by simp), getD_I hc0]
theorem refRoom_ev (b : Bool) (ks vs : List ByteArray) (cs : List Int) (hk : ks.length ≤ 100000) (hv : vs.length ≤ 100000) : Ev (fun k => lunetteref05_Room.f k b ks vs cs) (roomS b ks vs cs) := by
  have h1 : ∀ i, i ≤ vs.length → ∀ x, Ev (fun k => lunetteref05_Room.l1 k x (i : Int) b ks vs cs) (if b then wrap64 (roomV x (vs.drop i) + wrap64 (4 * (cs.length : Int))) else wrap64 (wrap64 (roomV x (vs.drop i) + 2) + wrap64 (4 * (cs.length : Int)))) := by
    refine down (fun i hi ih x => ?_) (fun x => ?_)
    · refine Ev.step (f := fun k => lunetteref05_Room.l1 k (wrap64 (x + (vs[i].size : Int))) ((i + 1 : Nat) : Int) b ks vs cs) (fun k => ?_) (ev_eq (ih _) ?_)
      · simp only [lunetteref05_Room.l1]
        rw [if_pos (by omega), if_pos (by omega), rdS_at hi, w1 (by omega)]
      · rw [List.drop_eq_getElem_cons hi]
        rfl
    · refine Ev.step (f := fun k => if b = true then some (wrap64 (x + wrap64 (4 * (cs.length : Int)))) else some (wrap64 (wrap64 (x + 2) + wrap64 (4 * (cs.length : Int))))) (fun k => ?_) (ev_if (fun h => ev_some ?_) (fun h => ev_some ?_))
      · simp only [lunetteref05_Room.l1]
        rw [if_neg (by omega)]
      · rw [if_pos h, List.drop_length]; rfl
      · rw [if_neg h, List.drop_length]; rfl
  have h0 : ∀ i, i ≤ ks.length → ∀ x, Ev (fun k => lunetteref05_Room.l0 k x (i : Int) b ks vs cs) (if b then wrap64 (roomV (roomK x (ks.drop i)) vs + wrap64 (4 * (cs.length : Int))) else wrap64 (wrap64 (roomV (roomK x (ks.drop i)) vs + 2) + wrap64 (4 * (cs.length : Int)))) := by
    refine down (fun i hi ih x => ?_) (fun x => ?_)
    · refine Ev.step (f := fun k => lunetteref05_Room.l0 k (wrap64 (x + wrap64 (3 + (ks[i].size : Int)))) ((i + 1 : Nat) : Int) b ks vs cs) (fun k => ?_) (ev_eq (ih _) ?_)
      · simp only [lunetteref05_Room.l0]
        rw [if_pos (by omega), if_pos (by omega), rdS_at hi, w1 (by omega)]
      · rw [List.drop_eq_getElem_cons hi]
        rfl
    · refine Ev.step (f := fun k => lunetteref05_Room.l1 k x ((0 : Nat) : Int) b ks vs cs) (fun k => ?_) (ev_eq (h1 0 (Nat.zero_le _) x) ?_)
      · simp only [lunetteref05_Room.l0]
        rw [if_neg (by omega)]
        rfl
      · rw [List.drop_length, List.drop_zero]; rfl
  exact h0 0 (Nat.zero_le _) 0

end Go.Proofs.Ytpdlbebiapimoaa.PN
