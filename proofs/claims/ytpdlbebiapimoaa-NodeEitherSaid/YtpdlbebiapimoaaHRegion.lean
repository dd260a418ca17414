/- A region that draws its order: loads first, as long as their cells stand; a node stored whole -/
import Derived.Test.YtpdlbebiapimoaaHCopy
import Derived.Deep.RegionHeld3
namespace Go.Proofs.Ytpdlbebiapimoaa.PN
open Go.RowKit Go.Proofs.YtpdlbebiapimoaaW.PrintWords Go.Proofs.YtpdlbebiapimoaaW.PrintLast Go.Proofs.YtpdlbebiapimoaaW.PrintMore
set_option linter.unusedVariables false
set_option linter.unusedSimpArgs false
section
variable {P : Program} {ops : Array Oper} {Q : Exit → Act → World → Prop} {md : Region.Mode} {S : World → Prop}
/-- Whatever order is picked from here on; S holds behind every operation till number m has come up. -/
def wpAnyP (P : Program) (md : Region.Mode) (ops : Array Oper) (Q : Exit → Act → World → Prop) (S : World → Prop) (m : Nat) : Nat → Array Bool → Act → World → Prop
  | 0, listed, a, w => Region.ready md ops listed = [] ∧ Q .normal a w
  | fuel + 1, listed, a, w =>
    (Region.ready md ops listed = [] → Q .normal a w) ∧
    ∀ i ∈ Region.ready md ops listed, wpOp P ops Q i (fun a' w' => ((listed.setIfInBounds i true).getD m true = false → S w') ∧ wpAnyP P md ops Q S m fuel (listed.setIfInBounds i true) a' w') a w
theorem wpAny_of_P {m : Nat} : ∀ (fuel : Nat) (listed : Array Bool) (a : Act) (w : World), wpAnyP P md ops Q S m fuel listed a w → wpAny P md ops Q fuel listed a w
  | 0, _, _, _, h => h
  | fuel + 1, _, _, _, h => ⟨h.1, fun i hi => wpOp_mono (fun a' w' h' => wpAny_of_P fuel _ a' w' h'.2) (h.2 i hi)⟩
theorem wpAnyP_first {m : Nat} {i : Nat} {oi : Oper} {v : Value} (hi : ops[i]? = some oi) (hsel : ∀ (j : Nat) (o : Oper) cs b, ops[j]? = some o → o.op ≠ .select cs b)
    (hQ : ∀ c a w, Q (.panic c) (a.put oi.dst v) w → Q (.panic c) a w) (hmi : m ≠ i)
    (hm : ∀ om, ops[m]? = some om → ∃ e ∈ om.after, Region.binds md e = true ∧ e.on = i) :
    ∀ (fuel : Nat) (listed : Array Bool) (a : Act) (w : World), listed.getD m true = false →
      (∀ j oj, ops[j]? = some oj → j ≠ i → listed.getD j true = false → (∀ e ∈ oj.after, Region.binds md e = true → e.on ≠ i) → oi.apart ops oj = true) →
      i ∈ Region.ready md ops listed → YieldsIf P ops S oi v a → S w →
      wpAnyP P md ops Q S m fuel (listed.setIfInBounds i true) (a.put oi.dst v) w → wpAnyP P md ops Q S m (fuel + 1) listed a w := by
  intro fuel
  induction fuel with
  | zero =>
    intro listed a w _ _ hr hy hS H
    refine ⟨fun h => (by rw [h] at hr; cases hr), fun j hj => ?_⟩
    by_cases hji : j = i
    · subst hji; exact hy.wpOp hi hS ⟨fun _ => hS, H⟩
    · have := ready_mono hj hji
      rw [H.1] at this
      cases this
  | succ fuel ih =>
    intro listed a w hlm hfree hr hy hS H
    refine ⟨fun h => (by rw [h] at hr; cases hr), fun j hj => ?_⟩
    by_cases hji : j = i
    · subst hji; exact hy.wpOp hi hS ⟨fun _ => hS, H⟩
    · have h1 := H.2 j (ready_mono hj hji)
      obtain ⟨hjun, oj, hoj, hall⟩ := mem_ready.1 hj
      have hnot : ∀ e ∈ oj.after, Region.binds md e = true → e.on ≠ i := fun e he hb heq => by
        have h1 := hall e he hb
        have h0 := (mem_ready.1 hr).1
        rw [heq] at h1
        rcases Nat.lt_or_ge i listed.size with h' | h'
        · simp [h'] at h0 h1; rw [h0] at h1; cases h1
        · simp [Array.getElem?_eq_none h'] at h1
      have hjm : j ≠ m := fun e => by
        subst e
        obtain ⟨x, hx, hb, ho⟩ := hm oj hoj
        exact hnot x hx hb ho
      have h2 := wpOp_putIf hoj (hfree j oj hoj hji hjun hnot) (fun cs b => hsel i oi cs b hi) (fun cs b => hsel j oj cs b hoj) hQ hy h1
      have hfree' : ∀ k ok, ops[k]? = some ok → k ≠ i → (listed.setIfInBounds j true).getD k true = false →
          (∀ e ∈ ok.after, Region.binds md e = true → e.on ≠ i) → oi.apart ops ok = true := fun k ok hk hki hun hno => by
        refine hfree k ok hk hki ?_ hno
        by_cases hjk : j = k
        · subst hjk; exact hjun
        · rw [getD_set_ne true hjk] at hun; exact hun
      have hlm' : (listed.setIfInBounds j true).getD m true = false := by rw [getD_set_ne true hjm]; exact hlm
      have hlm2 : ((listed.setIfInBounds i true).setIfInBounds j true).getD m true = false := by rw [getD_set_ne true hjm, getD_set_ne true (Ne.symm hmi)]; exact hlm
      refine wpOp_mono (fun a' w' h3 => ⟨fun _ => h3.2.1 hlm2, ih (listed.setIfInBounds j true) a' w' hlm' hfree' (ready_mono hr (Ne.symm hji)) h3.1 (h3.2.1 hlm2) ?_⟩) h2
      rw [Array.setIfInBounds_comm _ _ hji]
      exact h3.2.2
def waitsB (md : Region.Mode) (ops : Array Oper) (m i : Nat) : Bool := match ops[m]? with
  | none => true
  | some om => om.after.any fun e => Region.binds md e && decide (e.on = i)
theorem waitsB_spec {m i : Nat} (h : waitsB md ops m i = true) : ∀ om, ops[m]? = some om → ∃ e ∈ om.after, Region.binds md e = true ∧ e.on = i := fun om ho => by
  unfold waitsB at h
  rw [ho] at h
  simp only [Array.any_eq_true] at h
  obtain ⟨k, hk, hb⟩ := h
  rw [Bool.and_eq_true, decide_eq_true_iff] at hb
  exact ⟨om.after[k], Array.getElem_mem hk, hb.1, hb.2⟩
theorem wpAnyP_take {m : Nat} (i : Nat) {oi : Oper} {v : Value} {fuel : Nat} {listed : Array Bool} {a : Act} {w : World} (hi : ops[i]? = some oi)
    (hs : (Region.noSelect ops && Region.free md ops listed i && (Region.ready md ops listed).contains i && decide (m ≠ i) && waitsB md ops m i && !(listed.getD m true)) = true)
    (hQ : ∀ c a w, Q (.panic c) (a.put oi.dst v) w → Q (.panic c) a w) (hw : Region.wanted oi (yielded ops a.tmps) = true) (hS : S w)
    (hy : ∀ w, S w → (execOp a.eval oi).run P w = .ok (.value v) w)
    (h : wpAnyP P md ops Q S m fuel (listed.setIfInBounds i true) (a.put oi.dst v) w) : wpAnyP P md ops Q S m (fuel + 1) listed a w := by
  simp only [Bool.and_eq_true, decide_eq_true_iff, Bool.not_eq_true'] at hs
  obtain ⟨⟨⟨⟨⟨h1, h2⟩, h3⟩, h4⟩, h5⟩, h6⟩ := hs
  exact wpAnyP_first hi (Region.noSelect_spec h1) hQ h4 (waitsB_spec h5) fuel listed a w h6 (Region.free_spec hi h2) (by simpa using h3) (.inl ⟨hw, hy⟩) hS h
/-- The one that may come up comes up. -/
theorem wpAnyP_one {m : Nat} (i : Nat) {o : Oper} {fuel : Nat} {listed : Array Bool} {a : Act} {w : World} (hi : ops[i]? = some o) (hr : Region.ready md ops listed = [i]) (hw : Region.wanted o (yielded ops a.tmps) = true)
    (h : ∀ K : Act → World → Prop, (∀ a w, ((listed.setIfInBounds i true).getD m true = false → S w) → wpAnyP P md ops Q S m fuel (listed.setIfInBounds i true) a w → K a w) → Oper.wp P o a w K Q) :
    wpAnyP P md ops Q S m (fuel + 1) listed a w := by
  refine ⟨fun h0 => absurd (hr ▸ h0) (by simp), fun j hj => ?_⟩
  rw [hr] at hj
  obtain rfl : j = i := by simpa using hj
  refine wpOp_step hi (fun K' hK => ?_)
  rw [if_pos hw]
  exact h K' (fun a w h1 h2 => hK a w ⟨h1, h2⟩)
theorem wpAnyP_done {m : Nat} {listed : Array Bool} {a : Act} {w : World} (hr : Region.ready md ops listed = []) (h : Q .normal a w) : ∀ fuel, wpAnyP P md ops Q S m fuel listed a w
  | 0 => ⟨hr, h⟩
  | _ + 1 => ⟨fun _ => h, by rw [hr]; simp⟩
theorem wp_region_P {id : Nat} {a : Act} {w : World} (S : World → Prop) (m : Nat) (hm : P.follows .mixedOrders = true) (h : wpAnyP P .any ops Q S m ops.size (Array.replicate ops.size false) a w.drew) : (Code.region id ops true).wp P Q a w :=
  wp_region_any hm (wpAny_of_P _ _ _ _ h)
end
section
variable {W w : World} {g : Nat} {b b' : Bool} {A1 A2 A3 B1 B2 B3 : Option Addr} {n1 c1 n2 c2 n3 c3 m1 d1 m2 d2 m3 d3 : Nat}
theorem NBox.put4 (h : NBox W g b A1 n1 c1 A2 n2 c2 A3 n3 c3) :
    NBox ((((W.setCell ⟨g, 0, none⟩ (.bool b')).setCell ⟨g, 1, none⟩ (.slice B1 m1 d1)).setCell ⟨g, 2, none⟩ (.slice B2 m2 d2)).setCell ⟨g, 3, none⟩ (.slice B3 m3 d3)) g b' B1 m1 d1 B2 m2 d2 B3 m3 d3 :=
  ⟨blk_put (cs := #[.bool b', .slice B1 m1 d1, .slice B2 m2 d2, .slice A3 n3 c3]) (blk_put (cs := #[.bool b', .slice B1 m1 d1, .slice A2 n2 c2, .slice A3 n3 c3]) (blk_put (cs := #[.bool b', .slice A1 n1 c1, .slice A2 n2 c2, .slice A3 n3 c3]) (blk_put h.out 0 _ rfl) 1 _ rfl) 2 _ rfl) 3 _ rfl⟩
theorem NBox.far4 {q : Nat} {x0 x1 x2 x3 : Value} (h : NBox W g b A1 n1 c1 A2 n2 c2 A3 n3 c3) (hne : g ≠ q) :
    NBox ((((W.setCell ⟨q, 0, none⟩ x0).setCell ⟨q, 1, none⟩ x1).setCell ⟨q, 2, none⟩ x2).setCell ⟨q, 3, none⟩ x3) g b A1 n1 c1 A2 n2 c2 A3 n3 c3 :=
  ⟨blk_far (blk_far (blk_far (blk_far h.out hne _) hne _) hne _) hne _⟩
theorem R_put4 {α : Type} {d : Kd α} {e base : Nat} {ok : Nat → Prop} {v : Value} {xs : List α} {x0 x1 x2 x3 : Value} (h : d.R e W base ok v xs) (hb : NBox W g b A1 n1 c1 A2 n2 c2 A3 n3 c3) (ht : ∀ q, q ∈ e :: d.E → q ≠ 25) :
    d.R e ((((W.setCell ⟨g, 0, none⟩ x0).setCell ⟨g, 1, none⟩ x1).setCell ⟨g, 2, none⟩ x2).setCell ⟨g, 3, none⟩ x3) base (fun k => ok k ∧ k ≠ g) v xs :=
  Kd.R_far (Kd.R_far (Kd.R_far (Kd.R_far (Kd.R_types h hb.out ht) (fun _ h => h.2) _) (fun _ h => h.2) _) (fun _ h => h.2) _) (fun _ h => h.2) _
theorem V_put4 {α : Type} {d : Kd α} {e base : Nat} {ok : Nat → Prop} {v : Value} {xs : List α} {x0 x1 x2 x3 : Value} (h : Kd.V d e W base ok v xs) (hne : ∀ k, ok k → k ≠ g) :
    Kd.V d e ((((W.setCell ⟨g, 0, none⟩ x0).setCell ⟨g, 1, none⟩ x1).setCell ⟨g, 2, none⟩ x2).setCell ⟨g, 3, none⟩ x3) base ok v xs :=
  Kd.V_far (Kd.V_far (Kd.V_far (Kd.V_far h (fun _ h => hne _ h) _) (fun _ h => hne _ h) _) (fun _ h => hne _ h) _) (fun _ h => hne _ h) _
theorem below_put4 {x0 x1 x2 x3 : Value} (h : Below w.heap.size w W) (hg : w.heap.size ≤ g) : Below w.heap.size w ((((W.setCell ⟨g, 0, none⟩ x0).setCell ⟨g, 1, none⟩ x1).setCell ⟨g, 2, none⟩ x2).setCell ⟨g, 3, none⟩ x3) :=
  below_set (below_set (below_set (below_set h hg) hg) hg) hg
theorem R_toV {α : Type} {d : Kd α} {e base : Nat} {ok : Nat → Prop} {v : Value} {xs : List α} (h : d.R e W base ok v xs) : Kd.V d e W base (fun k_ => base ≤ k_) v xs := Kd.R_V (Kd.R_mono (Kd.R_bound h) (fun _ hk => hk.2.1))
end

end Go.Proofs.Ytpdlbebiapimoaa.PN
