/- Cuts of slices -/
import Derived.Test.YtpdlbebiapimoaaHRegion
namespace Go.Proofs.Ytpdlbebiapimoaa.PN
open Go.RowKit Go.Proofs.YtpdlbebiapimoaaW.PrintWords Go.Proofs.YtpdlbebiapimoaaW.PrintLast Go.Proofs.YtpdlbebiapimoaaW.PrintMore
set_option linter.unusedVariables false
set_option linter.unusedSimpArgs false
open Go in
theorem cutHM (t e : TypeId) (z : Value) (by_ : Nat) (ht : Try.prog.underlying t = some (.slice e)) (hi : (Try.prog.info? e).map (fun i => (i.zero, i.size, i.bytes)) = some (some z, 1, by_)) (A : Option Addr) (n c q : Nat) (h : q ≤ c) (W : World) :
    (Instr.slice t (.slice A n c) none (some (.int .i64 q)) (some (.int .i64 q))).run Try.prog W = .ok (.slice A q q) W := by
  obtain ⟨i0, hi0, hzz⟩ := Option.map_eq_some_iff.1 hi
  simp only [Prod.mk.injEq] at hzz
  obtain ⟨hz0, hz1, hz2⟩ := hzz
  have hel : Try.prog.elem t = e := by simp [Program.elem, ht]
  rw [run_slice_hm W t A n c (by rw [hel]; exact ht) .i64 .i64 q q (by omega) (by omega) (by omega), hel]
  cases A <;> simp [sliced, Result.andThen, Addr.add, sizeOf, typeInfo, hi0, hz1]
open Go in
theorem cutL (t e : TypeId) (z : Value) (by_ : Nat) (ht : Try.prog.underlying t = some (.slice e)) (hi : (Try.prog.info? e).map (fun i => (i.zero, i.size, i.bytes)) = some (some z, 1, by_)) (A : Option Addr) (n c q : Nat) (h : q ≤ n) :
    ∃ A', A' = (if c = q then A else A.map (·.add q)) ∧ ∀ W, (Instr.slice t (.slice A n c) (some (.int .i64 q)) none none).run Try.prog W = .ok (.slice A' (n - q) (c - q)) W :=
  ⟨_, rfl, fun W => by
    obtain ⟨i0, hi0, hzz⟩ := Option.map_eq_some_iff.1 hi
    simp only [Prod.mk.injEq] at hzz
    obtain ⟨hz0, hz1, hz2⟩ := hzz
    have hel : Try.prog.elem t = e := by simp [Program.elem, ht]
    rw [run_slice_l W t A n c (by rw [hel]; exact ht) .i64 q (by omega) (by omega), hel]
    simp [sliced, Result.andThen, sizeOf, typeInfo, hi0, hz1]⟩
theorem V_take {α : Type} {d : Kd α} {e : Nat} {W : World} {base q c c' : Nat} {ok : Nat → Prop} {A : Option Addr} {xs : List α} (h : Kd.V d e W base ok (.slice A xs.length c) xs) (hq : q ≤ xs.length) (hc : q ≤ c') : Kd.V d e W base ok (.slice A q c') (xs.take q) := by
  have hl : (xs.take q).length = q := by rw [List.length_take]; omega
  have h2 := Kd.V_mk (e := e) (base := base) (c := c') (by rw [hl]; exact hc) (Kd.F_take (m := q) (Kd.V_F h) hq)
  rw [hl] at h2
  exact h2
theorem V_drop {α : Type} {d : Kd α} {e : Nat} {W : World} {base q c : Nat} {ok : Nat → Prop} {A A' : Option Addr} {xs : List α} (h : Kd.V d e W base ok (.slice A xs.length c) xs) (hs : d.sz = 1) (hq : q ≤ xs.length) (hA : A' = (if c = q then A else A.map (·.add q))) : Kd.V d e W base ok (.slice A' (xs.length - q) (c - q)) (xs.drop q) := by
  have hl : (xs.drop q).length = xs.length - q := List.length_drop
  have hc := (Kd.V_at h).2.1
  have h2 := Kd.V_mk (e := e) (base := base) (c := c - q) (by rw [hl]; omega) (Kd.F_imp (Kd.V_F h) (fun _ hC => Kd.C_drop hC hq hc))
  rw [hl, hs, Nat.mul_one] at h2
  rw [hA]
  exact h2

end Go.Proofs.Ytpdlbebiapimoaa.PN
