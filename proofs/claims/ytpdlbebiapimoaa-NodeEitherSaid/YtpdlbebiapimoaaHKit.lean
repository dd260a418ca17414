/- Small lemmas: rows that are read, a node in a block of the call's own -/
import Derived.Test.YtpdlbebiapimoaaHDefs
import Derived.WalkLawsBesides
namespace Go.Proofs.Ytpdlbebiapimoaa.PN
open Go.RowKit Go.Proofs.YtpdlbebiapimoaaW.PrintWords Go.Proofs.YtpdlbebiapimoaaW.PrintLast Go.Proofs.YtpdlbebiapimoaaW.PrintMore
set_option linter.unusedVariables false
set_option linter.unusedSimpArgs false
theorem str_at {w : World} {A : Option Addr} {l : List ByteArray} (h : Kd.C Kd.string w A l.length l) (k : Nat) (hk : k < l.length) :
    ∃ ad s, A = some ad ∧ Aside0 (l[k]? = some s) ∧ w.cell? (ad.add k) = some (.string s) := by
  obtain ⟨ad, e, hx⟩ := Kd.at_string h (k : Int) (by omega) (by omega)
  refine ⟨ad, l[k], e, ⟨List.getElem?_eq_getElem hk⟩, ?_⟩
  rw [Int.toNat_natCast] at hx
  rw [hx]
  simp [rdOf, hk]
theorem int_at {w : World} {A : Option Addr} {l : List Int} (h : Kd.C (Kd.int .i64) w A l.length l) (k : Nat) (hk : k < l.length) :
    ∃ ad s, A = some ad ∧ Aside0 (l[k]? = some s) ∧ w.cell? (ad.add k) = some (.int .i64 s) := by
  obtain ⟨ad, e, hx⟩ := Kd.at_int h (k : Int) (by omega) (by omega)
  refine ⟨ad, l[k], e, ⟨List.getElem?_eq_getElem hk⟩, ?_⟩
  rw [Int.toNat_natCast] at hx
  rw [hx]
  simp [rd, hk]
theorem any_snoc {α : Type} (l : List α) (p : α → Bool) (k : Nat) (x : α) (h : l[k]? = some x) : (l.take (k + 1)).any p = ((l.take k).any p || p x) := by
  rw [List.take_add_one, h]; simp
/-- The first place at which p holds, or -1. -/
def idxF {α : Type} (p : α → Bool) (l : List α) : Int := if l.any p then (l.findIdx p : Int) else -1
theorem idx_hit {α : Type} (p : α → Bool) (l : List α) (k : Nat) (x : α) (hn : (l.take k).any p = false) (h : l[k]? = some x) (hp : p x = true) : idxF p l = k := by
  obtain ⟨hk, hx⟩ := List.getElem?_eq_some_iff.1 h
  have ha : l.any p = true := List.any_eq_true.2 ⟨x, by rw [← hx]; exact List.getElem_mem hk, hp⟩
  have hf : l.findIdx p = k := by
    rw [List.findIdx_eq hk]
    refine ⟨by rw [hx]; exact hp, fun j hj => ?_⟩
    have := List.any_eq_false.1 hn (l[j]'(by omega)) (by rw [List.mem_take_iff_getElem]; exact ⟨j, by omega, rfl⟩)
    simpa using this
  unfold idxF
  rw [if_pos ha, hf]
theorem idx_miss {α : Type} (p : α → Bool) (l : List α) (hn : l.any p = false) : idxF p l = -1 := by
  unfold idxF
  rw [hn]
  rfl
theorem idx_ge {α : Type} (p : α → Bool) (l : List α) : (decide (0 ≤ idxF p l)) = l.any p := by
  unfold idxF
  cases l.any p <;> simp
theorem ret_int {k : IntKind} {a b : Int} (h : a = b) : Ending.returned (.int k a) = .returned (.int k b) := by rw [h]
theorem ret_bool {a b : Bool} (h : a = b) : Ending.returned (.bool a) = .returned (.bool b) := by rw [h]
theorem rising_snoc (l : List ByteArray) (j : Nat) (x y : ByteArray) (hx : l[j]? = some x) (hy : l[j + 1]? = some y) : rising (l.take (j + 2)) = (rising (l.take (j + 1)) && slt x y) := by
  induction j generalizing l with
  | zero =>
    match l, hx, hy with
    | a :: b :: r, hx, hy =>
      simp at hx hy
      subst hx hy
      simp [rising]
  | succ j ih =>
    match l, hx, hy with
    | a :: b :: r, hx, hy =>
      have h := ih (b :: r) (by simpa using hx) (by simpa using hy)
      simp only [List.take_succ_cons] at h ⊢
      simp only [rising]
      rw [h, Bool.and_assoc]
theorem rising_one (l : List ByteArray) : rising (l.take 1) = true := by
  match l with
  | [] => rfl
  | [_] => rfl
  | _ :: _ :: _ => rfl
theorem rising_not (l : List ByteArray) (k : Nat) (h : rising (l.take k) = false) : rising l = false := by
  induction k generalizing l with
  | zero => simp [rising] at h
  | succ k ih =>
    match l, h with
    | [], h => simpa using h
    | [a], h => simp [rising] at h
    | a :: b :: r, h =>
      cases k with
      | zero => simp [rising] at h
      | succ k =>
        have h2 := ih (b :: r)
        simp only [List.take_succ_cons, rising, Bool.and_eq_false_iff] at h h2 ⊢
        rcases h with h | h
        · exact .inl h
        · exact .inr (h2 h)
/-- A node that lies in a block of the call's own. -/
structure NBox (w : World) (g : Nat) (b : Bool) (A1 : Option Addr) (n1 c1 : Nat) (A2 : Option Addr) (n2 c2 : Nat) (A3 : Option Addr) (n3 c3 : Nat) : Prop where
  out : w.heap[g]? = some (.cells #[.bool b, .slice A1 n1 c1, .slice A2 n2 c2, .slice A3 n3 c3] 25 (0, 0))
theorem NBox.cells {w : World} {g : Nat} {b : Bool} {A1 : Option Addr} {n1 c1 : Nat} {A2 : Option Addr} {n2 c2 : Nat} {A3 : Option Addr} {n3 c3 : Nat} (h : NBox w g b A1 n1 c1 A2 n2 c2 A3 n3 c3) :
    w.cell? ⟨g, 0, none⟩ = some (.bool b) ∧ w.cell? ⟨g, 1, none⟩ = some (.slice A1 n1 c1) ∧ w.cell? ⟨g, 2, none⟩ = some (.slice A2 n2 c2) ∧ w.cell? ⟨g, 3, none⟩ = some (.slice A3 n3 c3) :=
  ⟨(blk_cell h.out 0).trans rfl, (blk_cell h.out 1).trans rfl, (blk_cell h.out 2).trans rfl, (blk_cell h.out 3).trans rfl⟩
theorem NBox.below {w w' : World} {g : Nat} {b : Bool} {A1 : Option Addr} {n1 c1 : Nat} {A2 : Option Addr} {n2 c2 : Nat} {A3 : Option Addr} {n3 c3 : Nat} (h : NBox w g b A1 n1 c1 A2 n2 c2 A3 n3 c3) (hb : Below w.heap.size w w') : NBox w' g b A1 n1 c1 A2 n2 c2 A3 n3 c3 :=
  ⟨(hb.block g (blk_lt h.out)).trans h.out⟩
theorem NBox.drewN {w : World} {g : Nat} {b : Bool} {A1 : Option Addr} {n1 c1 : Nat} {A2 : Option Addr} {n2 c2 : Nat} {A3 : Option Addr} {n3 c3 : Nat} (h : NBox w g b A1 n1 c1 A2 n2 c2 A3 n3 c3) (m : Nat) : NBox (w.drewN m) g b A1 n1 c1 A2 n2 c2 A3 n3 c3 := ⟨h.out⟩
theorem below_step2 {w w1 w2 : World} (h : Below w.heap.size w w1) (h2 : Below w1.heap.size w1 w2) : Below w.heap.size w w2 := below_step h h2

end Go.Proofs.Ytpdlbebiapimoaa.PN
