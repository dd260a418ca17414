/- A region that draws its order, in a round of a range over a function: from the walk outside of rounds -/
import Derived.Test.YtmplcceghjofhaaHRegion
import Derived.OrdersIn
import Derived.RangeFuncCalls
import Derived.TacticsIn
namespace Go.Proofs.Ytmplcceghjofhaa.PF
open Go.RowKit Go.Proofs.YtmplcceghjofhaaW.PrintWords Go.Proofs.YtmplcceghjofhaaW.PrintLast Go.Proofs.YtmplcceghjofhaaW.PrintMore
set_option linter.unusedVariables false
set_option linter.unusedSimpArgs false
section
variable {P : Program} {ops : Array Oper} {Q : Exit → Act → World → Prop} {md : Region.Mode} {S : World → Prop}
/-- Operations that can neither defer nor call. -/
def plainOp (o : Oper) : Bool := match o.op with
  | .move _ | .assign _ | .alloc _ | .build _ _ | .buildSlice _ _ _ | .load _ _ | .store _ _ _ | .binOp _ _ _ _ _ | .unOp _ _ _ | .convert _ _ _ | .makeSlice _ _ _ | .slice _ _ _ _ _ | .fieldAddr _ _ _ | .indexAddr _ _ _ | .index _ _ _ => true
  | _ => false
theorem plain_row {o : Oper} (h : plainOp o = true) (ρ : Operand → Value) (w : World) (row : String) (args : Array Value) (w' : World) : (execOp ρ o).run P w ≠ .ok (.row row args) w' := by
  have hv : ∀ s : Sem Value, ((do pure (Next.value (← s)) : Sem Next)).run P w ≠ .ok (.row row args) w' := fun s => by
    simp only [Sem.run_bind, Sem.run_pure]
    cases s.run P w <;> simp [Result.andThen]
  have hu : ∀ s : Sem Unit, ((do s; pure Next.skip : Sem Next)).run P w ≠ .ok (.row row args) w' := fun s => by
    simp only [Sem.run_bind, Sem.run_pure]
    cases s.run P w <;> simp [Result.andThen]
  unfold plainOp at h
  unfold execOp
  split at h <;> rename_i ho <;> simp only [ho] <;> first
    | exact hv _
    | exact hu _
    | (simp [Sem.run_pure]; done)
    | cases h
theorem plain_defer {o : Oper} (h : plainOp o = true) : ∀ c, o.op ≠ .defer c := fun c e => by
  unfold plainOp at h
  rw [e] at h
  cases h
theorem oper_in {l n : Nat} {o : Oper} {a : Act} {w : World} {K : Act → World → Prop} (hp : ∀ c, o.op ≠ .defer c) (hr : ∀ row args w', (execOp a.eval o).run P w ≠ .ok (.row row args) w') (h : o.wp P a w K Q) :
    o.wpIn (Fence.wide.inRound l) n P a w K Q := by
  refine ⟨fun f _ => trivial, ?_⟩
  rw [show (Fence.wide.inRound l).round = some l from rfl, Oper.semAt_some l _ _ hp]
  unfold Oper.wp at h
  revert h hr
  generalize (execOp a.eval o).run P w = r
  intro hr h
  cases r with
  | ok x w' =>
    cases x <;> simp only [Oper.upon, Oper.uponIn] at h ⊢ <;> first
      | exact h
      | exact ⟨fun hh => (by simp [Fence.wide, Fence.inRound] at hh), (callsIn_wide.2 h : CallsIn Fence.wide _ P _ _ _ _)⟩
      | exact absurd rfl (hr _ _ _)
  | halt x w' => cases x <;> simp only [Oper.upon, Oper.uponIn] at h ⊢ <;> exact h
theorem wpOp_in {l n : Nat} (hL : ¬ LetsOut Q) (hp : ops.all plainOp = true) {i : Nat} {a : Act} {w : World} {K : Act → World → Prop} (h : wpOp P ops Q i K a w) : wpOpIn (Fence.wide.inRound l) n P ops Q i K a w := by
  unfold wpOp at h
  unfold wpOpIn
  split
  · rename_i ho
    rw [ho] at h
    exact h
  · rename_i o ho
    simp only [ho] at h
    have hpo : plainOp o = true := by
      rw [Array.all_eq_true] at hp
      obtain ⟨hi, e⟩ := Array.getElem?_eq_some_iff.1 ho
      rw [← e]
      exact hp i hi
    split
    · rename_i hw
      rw [if_pos hw] at h
      rcases h with h | h
      · exact oper_in (plain_defer hpo) (fun row args w' => plain_row hpo _ _ row args w') h
      · exact absurd h.2 hL
    · rename_i hw
      rw [if_neg hw] at h
      exact ⟨fun f _ => trivial, h⟩
theorem wpAny_in {l n : Nat} (hL : ¬ LetsOut Q) (hp : ops.all plainOp = true) : ∀ (fuel : Nat) (listed : Array Bool) (a : Act) (w : World), wpAny P md ops Q fuel listed a w → wpAnyIn (Fence.wide.inRound l) n P md ops Q fuel listed a w
  | 0, _, _, _, h => h
  | fuel + 1, _, _, _, h => ⟨h.1, fun i hi => wpOpIn_mono (fun a' w' h' => wpAny_in hL hp fuel _ a' w' h') (wpOp_in hL hp (h.2 i hi))⟩
/-- Plain, or a call of append or len. -/
def plainB (o : Oper) : Bool := plainOp o || match o.op with
  | .call c => match c.callee with
    | .builtin .append => true
    | .builtin .len => true
    | _ => false
  | _ => false
theorem plainB_row {o : Oper} (h : plainB o = true) (ρ : Operand → Value) (w : World) (row : String) (args : Array Value) (w' : World) : (execOp ρ o).run P w ≠ .ok (.row row args) w' := by
  unfold plainB at h
  rw [Bool.or_eq_true] at h
  rcases h with h | h
  · exact plain_row h ρ w row args w'
  have hv : ∀ s : Sem Value, ((do pure (Next.value (← s)) : Sem Next)).run P w ≠ .ok (.row row args) w' := fun s => by
    simp only [Sem.run_bind, Sem.run_pure]
    cases s.run P w <;> simp [Result.andThen]
  split at h
  · rename_i c hc
    unfold execOp
    simp only [hc, resolve]
    split at h <;> rename_i hb <;> first
      | (simp only [hb, Sem.run_bind, Sem.run_pure, Result.andThen, invoke]; exact hv _)
      | cases h
  · cases h
theorem plainB_defer {o : Oper} (h : plainB o = true) : ∀ c, o.op ≠ .defer c := fun c e => by
  unfold plainB plainOp at h
  rw [e] at h
  cases h
/-- A list of such operations in a round: as outside of it. -/
theorem wpList_in {l n : Nat} (hL : ¬ LetsOut Q) : ∀ (os : List Oper) (hp : os.all plainB = true) (a : Act) (w : World), wpList P ops Q os a w → wpListIn (Fence.wide.inRound l) n P ops Q os a w
  | [], _, _, _, h => h
  | o :: rest, hp, a, w, h => by
    rw [List.all_cons, Bool.and_eq_true] at hp
    unfold wpList at h
    unfold wpListIn
    split
    · rename_i hw
      rw [if_pos hw] at h
      rcases h with h | h
      · exact Oper.wpIn_mono (fun a w h => wpList_in hL rest hp.2 a w h) (oper_in (plainB_defer hp.1) (fun row args w' => plainB_row hp.1 _ _ row args w') h)
      · exact absurd h.2 hL
    · rename_i hw
      rw [if_neg hw] at h
      exact ⟨fun f _ => trivial, wpList_in hL rest hp.2 _ _ h⟩
/-- A region in the order of its text, in a round. -/
theorem wp_region_LIn {l n : Nat} {id : Nat} {a : Act} {w : World} (hL : ¬ LetsOut Q) (hp : ops.toList.all plainB = true) (h : wpList P ops Q ops.toList a w) : (Code.region id ops false).wpIn (Fence.wide.inRound l) n P Q a w :=
  wpIn_region_list (wpList_in hL _ hp a w h)
/-- A region that draws its order, of plain operations, in a round: walked as outside of it. -/
theorem wp_region_PIn {l n : Nat} {id : Nat} {a : Act} {w : World} (S : World → Prop) (m : Nat) (hm : P.follows .mixedOrders = true) (hL : ¬ LetsOut Q) (hp : ops.all plainOp = true)
    (h : wpAnyP P .any ops Q S m ops.size (Array.replicate ops.size false) a w.drew) : (Code.region id ops true).wpIn (Fence.wide.inRound l) n P Q a w :=
  wpIn_region_any hm (wpAny_in hL hp _ _ _ _ (wpAny_of_P _ _ _ _ h))
end
end Go.Proofs.Ytmplcceghjofhaa.PF
