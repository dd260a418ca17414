/- Concat at two rows, at three -/
import Derived.Test.YtpdlbebiapimoaaHConcat
namespace Go.Proofs.Ytpdlbebiapimoaa.PN
open Go.RowKit Go.Proofs.YtpdlbebiapimoaaW.PrintWords Go.Proofs.YtpdlbebiapimoaaW.PrintLast Go.Proofs.YtpdlbebiapimoaaW.PrintMore
set_option linter.unusedVariables false
set_option linter.unusedSimpArgs false
section
variable {α : Type} {e : Nat} {d : Kd α} {W : World} {g t : Nat}
theorem C_two {A1 A2 : Option Addr} {c1 c2 : Nat} {l1 l2 : List α} (hb : W.heap[g]? = some (.cells #[.slice A1 l1.length c1, .slice A2 l2.length c2] t (0, 0)))
    (h1 : d.C W A1 l1.length l1) (hc1 : l1.length ≤ c1) (h2 : d.C W A2 l2.length l2) (hc2 : l2.length ≤ c2) : Kd.C (Kd.slice e d) W (some ⟨g, 0, none⟩) 2 [l1, l2] := by
  refine ⟨rfl, by omega, fun _ => ⟨_, rfl, fun j p hj => ?_⟩⟩
  match j, hj with
  | 0, hj =>
    simp at hj; subst hj
    refine ⟨[.slice A1 l1.length c1], rfl, ⟨A1, c1, rfl, hc1, h1⟩, fun i u hu => ?_⟩
    match i, hu with
    | 0, hu => simp at hu; subst hu; exact (blk_cell hb 0).trans rfl
  | 1, hj =>
    simp at hj; subst hj
    refine ⟨[.slice A2 l2.length c2], rfl, ⟨A2, c2, rfl, hc2, h2⟩, fun i u hu => ?_⟩
    match i, hu with
    | 0, hu => simp at hu; subst hu; exact (blk_cell hb 1).trans rfl
theorem C_three {A1 A2 A3 : Option Addr} {c1 c2 c3 : Nat} {l1 l2 l3 : List α} (hb : W.heap[g]? = some (.cells #[.slice A1 l1.length c1, .slice A2 l2.length c2, .slice A3 l3.length c3] t (0, 0)))
    (h1 : d.C W A1 l1.length l1) (hc1 : l1.length ≤ c1) (h2 : d.C W A2 l2.length l2) (hc2 : l2.length ≤ c2) (h3 : d.C W A3 l3.length l3) (hc3 : l3.length ≤ c3) : Kd.C (Kd.slice e d) W (some ⟨g, 0, none⟩) 3 [l1, l2, l3] := by
  refine ⟨rfl, by omega, fun _ => ⟨_, rfl, fun j p hj => ?_⟩⟩
  match j, hj with
  | 0, hj =>
    simp at hj; subst hj
    refine ⟨[.slice A1 l1.length c1], rfl, ⟨A1, c1, rfl, hc1, h1⟩, fun i u hu => ?_⟩
    match i, hu with
    | 0, hu => simp at hu; subst hu; exact (blk_cell hb 0).trans rfl
  | 1, hj =>
    simp at hj; subst hj
    refine ⟨[.slice A2 l2.length c2], rfl, ⟨A2, c2, rfl, hc2, h2⟩, fun i u hu => ?_⟩
    match i, hu with
    | 0, hu => simp at hu; subst hu; exact (blk_cell hb 1).trans rfl
  | 2, hj =>
    simp at hj; subst hj
    refine ⟨[.slice A3 l3.length c3], rfl, ⟨A3, c3, rfl, hc3, h3⟩, fun i u hu => ?_⟩
    match i, hu with
    | 0, hu => simp at hu; subst hu; exact (blk_cell hb 2).trans rfl
theorem C_str1 {key : ByteArray} (hb : W.heap[g]? = some (.cells #[.string key] t (0, 0))) : Kd.C Kd.string W (some ⟨g, 0, none⟩) 1 [key] := by
  refine ⟨rfl, by omega, fun _ => ⟨_, rfl, fun j p hj => ?_⟩⟩
  match j, hj with
  | 0, hj =>
    simp at hj; subst hj
    refine ⟨[.string key], rfl, rfl, fun i u hu => ?_⟩
    match i, hu with
    | 0, hu => simp at hu; subst hu; exact (blk_cell hb 0).trans rfl
end
theorem cat2s {W : World} {g t : Nat} {A1 A2 : Option Addr} {c1 c2 : Nat} {l1 l2 : List ByteArray} (hb : W.heap[g]? = some (.cells #[.slice A1 l1.length c1, .slice A2 l2.length c2] t (0, 0)))
    (h1 : Kd.string.C W A1 l1.length l1) (hc1 : l1.length ≤ c1) (h2 : Kd.string.C W A2 l2.length l2) (hc2 : l2.length ≤ c2) (n1 : l1.length ≤ 100000) (n2 : l2.length ≤ 100000) :
    Calls Try.prog 46 #[.slice (some ⟨g, 0, none⟩) 2 2] W fun e W' => ∃ A c, e = .returned (.slice A (l1 ++ l2).length c) ∧ Kd.R Kd.string 9 W' W.heap.size (fun _ => True) (.slice A (l1 ++ l2).length c) (l1 ++ l2) ∧ Below W.heap.size W W' := by
  refine (slices_Concat_string_string.calls (some ⟨g, 0, none⟩) 2 [l1, l2] (l1 ++ l2) W (C_two hb h1 hc1 h2 hc2) (Nat.le_refl 2) ?_).mono ?_
  · unfold slices_Concat_string_string.f
    rw [if_pos ⟨by simp, by simp; exact ⟨n1, n2⟩⟩]; simp
  · rintro e W' ⟨v, rfl, ho, hb⟩
    obtain ⟨A, c, rfl⟩ := Kd.R_slice ho
    exact ⟨A, c, rfl, ho, hb⟩
theorem cat3s {W : World} {g t : Nat} {A1 A2 A3 : Option Addr} {c1 c2 c3 : Nat} {l1 l2 l3 : List ByteArray} (hb : W.heap[g]? = some (.cells #[.slice A1 l1.length c1, .slice A2 l2.length c2, .slice A3 l3.length c3] t (0, 0)))
    (h1 : Kd.string.C W A1 l1.length l1) (hc1 : l1.length ≤ c1) (h2 : Kd.string.C W A2 l2.length l2) (hc2 : l2.length ≤ c2) (h3 : Kd.string.C W A3 l3.length l3) (hc3 : l3.length ≤ c3) (n1 : l1.length ≤ 100000) (n2 : l2.length ≤ 100000) (n3 : l3.length ≤ 100000) :
    Calls Try.prog 46 #[.slice (some ⟨g, 0, none⟩) 3 3] W fun e W' => ∃ A c, e = .returned (.slice A (l1 ++ (l2 ++ l3)).length c) ∧ Kd.R Kd.string 9 W' W.heap.size (fun _ => True) (.slice A (l1 ++ (l2 ++ l3)).length c) (l1 ++ (l2 ++ l3)) ∧ Below W.heap.size W W' := by
  refine (slices_Concat_string_string.calls (some ⟨g, 0, none⟩) 3 [l1, l2, l3] (l1 ++ (l2 ++ l3)) W (C_three hb h1 hc1 h2 hc2 h3 hc3) (Nat.le_refl 3) ?_).mono ?_
  · unfold slices_Concat_string_string.f
    rw [if_pos ⟨by simp, by simp; exact ⟨n1, n2, n3⟩⟩]; simp
  · rintro e W' ⟨v, rfl, ho, hb⟩
    obtain ⟨A, c, rfl⟩ := Kd.R_slice ho
    exact ⟨A, c, rfl, ho, hb⟩
theorem cat2i {W : World} {g t : Nat} {A1 A2 : Option Addr} {c1 c2 : Nat} {l1 l2 : List Int} (hb : W.heap[g]? = some (.cells #[.slice A1 l1.length c1, .slice A2 l2.length c2] t (0, 0)))
    (h1 : (Kd.int .i64).C W A1 l1.length l1) (hc1 : l1.length ≤ c1) (h2 : (Kd.int .i64).C W A2 l2.length l2) (hc2 : l2.length ≤ c2) (n1 : l1.length ≤ 100000) (n2 : l2.length ≤ 100000) :
    Calls Try.prog 47 #[.slice (some ⟨g, 0, none⟩) 2 2] W fun e W' => ∃ A c, e = .returned (.slice A (l1 ++ l2).length c) ∧ Kd.R (Kd.int .i64) 3 W' W.heap.size (fun _ => True) (.slice A (l1 ++ l2).length c) (l1 ++ l2) ∧ Below W.heap.size W W' := by
  refine (slices_Concat_int_int.calls (some ⟨g, 0, none⟩) 2 [l1, l2] (l1 ++ l2) W (C_two hb h1 hc1 h2 hc2) (Nat.le_refl 2) ?_).mono ?_
  · unfold slices_Concat_int_int.f
    rw [if_pos ⟨by simp, by simp; exact ⟨n1, n2⟩⟩]; simp
  · rintro e W' ⟨v, rfl, ho, hb⟩
    obtain ⟨A, c, rfl⟩ := Kd.R_slice ho
    exact ⟨A, c, rfl, ho, hb⟩

end Go.Proofs.Ytpdlbebiapimoaa.PN
