/- slices.Clone copies; A region that draws its order: loads first, as long as their cells stand; a node stored whole; A region that draws its order: two may come up; a block is made; chains of waiting; node.cloned copies a node -/
import Derived.Test.YtpdlbebiapimoaaHSort
import Derived.Shelf.Slices.Clone
import Derived.Deep.RegionHeld3
namespace Go.Proofs.Ytpdlbebiapimoaa.PN
open Go.RowKit Go.Proofs.YtpdlbebiapimoaaW.PrintWords Go.Proofs.YtpdlbebiapimoaaW.PrintLast Go.Proofs.YtpdlbebiapimoaaW.PrintMore
set_option linter.unusedVariables false
set_option linter.unusedSimpArgs false
open Go.Lib in
set_option maxHeartbeats 2000000 in
set_option maxRecDepth 100000 in
theorem clone51 (A : Option Addr) (c : Nat) (l : List ByteArray) (w : World) (hr : Kd.C Kd.string w A l.length l) (hl : l.length ≤ 1000000) :
    Calls Try.prog 51 #[.slice A l.length c] w fun e w' => ∃ v, e = .returned v ∧ Kd.R Kd.string 9 w' w.heap.size (fun _ => True) v l ∧ Below w.heap.size w w' := by
  have q22 : ∀ (w : World) (a : Option Addr) (n c n' c' : Nat), (binOp .eql 22 (.slice a n c) (.slice none n' c')).run Try.prog w = .ok (.bool a.isNone) w := fun w a n c n' c' => Lib.run_eql_slice_nil w _ _ a n c n' c' Try.underlying22
  have HR := Aside0.mk hr
  clear hr
  rcases A with _ | ad
  · have hn : l = [] := by
      have := HR.out.2.2
      rcases l with _ | ⟨x, r⟩
      · rfl
      · obtain ⟨ad, h, _⟩ := this (by simp); cases h
    subst hn
    go_enter Try.func51, Try.ntmps51
    go_wp2
    go_ret
    exact ⟨_, rfl, Kd.R_nil _ _ _ _ _, Below.refl _ _⟩
  · go_enter Try.func51, Try.ntmps51
    go_wp2_with (at_builtin; refine Kd.R_append_rows Kd.string (w0 := w) w.heap.size rfl (.tmp 5) (.tmp 6) 22 9 (.string ⟨#[]⟩) 16 rfl Try.underlying22 info9 rfl (by decide) (by omega) (.slice (some ⟨w.heap.size, 0, none⟩) 0 0) [] l _ _ _ (fun _ => True) (fun _ => False) rfl rfl (Kd.R_of_own (xs := []) (World.ownsRow_made w #[] 0 (Nat.le_refl _) (Nat.zero_le _) rfl) (fun _ _ => trivial)) (Kd.C_alloc HR.out _) (fun _ _ h => h) (fun _ h => h.elim) (fun _ _ => trivial) (below_alloc (Below.refl _ _) _) (by simp) (by simp; omega) ?_)
    intro v1 w1 ho hb hg hat
    go_wp2
    go_ret
    exact ⟨_, rfl, ho, hb⟩
open Go.Lib in
set_option maxHeartbeats 2000000 in
set_option maxRecDepth 100000 in
theorem clone52 (A : Option Addr) (c : Nat) (l : List Int) (w : World) (hr : Kd.C (Kd.int .i64) w A l.length l) (hl : l.length ≤ 1000000) :
    Calls Try.prog 52 #[.slice A l.length c] w fun e w' => ∃ v, e = .returned v ∧ Kd.R (Kd.int .i64) 3 w' w.heap.size (fun _ => True) v l ∧ Below w.heap.size w w' := by
  have q22 : ∀ (w : World) (a : Option Addr) (n c n' c' : Nat), (binOp .eql 23 (.slice a n c) (.slice none n' c')).run Try.prog w = .ok (.bool a.isNone) w := fun w a n c n' c' => Lib.run_eql_slice_nil w _ _ a n c n' c' Try.underlying23
  have HR := Aside0.mk hr
  clear hr
  rcases A with _ | ad
  · have hn : l = [] := by
      have := HR.out.2.2
      rcases l with _ | ⟨x, r⟩
      · rfl
      · obtain ⟨ad, h, _⟩ := this (by simp); cases h
    subst hn
    go_enter Try.func52, Try.ntmps52
    go_wp2
    go_ret
    exact ⟨_, rfl, Kd.R_nil _ _ _ _ _, Below.refl _ _⟩
  · go_enter Try.func52, Try.ntmps52
    go_wp2_with (at_builtin; refine Kd.R_append_rows (Kd.int .i64) (w0 := w) w.heap.size rfl (.tmp 5) (.tmp 6) 23 3 (.int .i64 0) 8 rfl Try.underlying23 info3 rfl (by decide) (by omega) (.slice (some ⟨w.heap.size, 0, none⟩) 0 0) [] l _ _ _ (fun _ => True) (fun _ => False) rfl rfl (Kd.R_of_own (xs := []) (World.ownsRow_made w #[] 0 (Nat.le_refl _) (Nat.zero_le _) rfl) (fun _ _ => trivial)) (Kd.C_alloc HR.out _) (fun _ _ h => h) (fun _ h => h.elim) (fun _ _ => trivial) (below_alloc (Below.refl _ _) _) (by simp) (by simp; omega) ?_)
    intro v1 w1 ho hb hg hat
    go_wp2
    go_ret
    exact ⟨_, rfl, ho, hb⟩

end Go.Proofs.Ytpdlbebiapimoaa.PN
namespace Go.Proofs.Ytpdlbebiapimoaa.PN
open Go.RowKit Go.Proofs.YtpdlbebiapimoaaW.PrintWords Go.Proofs.YtpdlbebiapimoaaW.PrintLast Go.Proofs.YtpdlbebiapimoaaW.PrintMore
set_option linter.unusedVariables false
set_option linter.unusedSimpArgs false
section
variable {P : Program} {ops : Array Oper} {Q : Exit → Act → World → Prop} {md : Region.Mode} {S : World → Prop}
/-- Whatever order is picked from here on; S holds behind every operation till number m has come up. -/
def wpAnyP (P : Program) (md : Region.Mode) (ops : Array Oper) (Q : Exit → Act → World → Prop) (S : World → Prop) (m : Nat) : Nat → Array Bool → Act → World → Prop
  | 0, listed, a, w => Region.ready md ops listed = [] ∧ Q .normal a w
  | fuel + 1, listed, a, w =>
    (Region.ready md ops listed = [] → Q .normal a w) ∧
    ∀ i ∈ Region.ready md ops listed, wpOp P ops Q i (fun a' w' => ((listed.setIfInBounds i true).getD m true = false → S w') ∧ wpAnyP P md ops Q S m fuel (listed.setIfInBounds i true) a' w') a w
theorem wpAny_of_P {m : Nat} : ∀ (fuel : Nat) (listed : Array Bool) (a : Act) (w : World), wpAnyP P md ops Q S m fuel listed a w → wpAny P md ops Q fuel listed a w
  | 0, _, _, _, h => h
  | fuel + 1, _, _, _, h => ⟨h.1, fun i hi => wpOp_mono (fun a' w' h' => wpAny_of_P fuel _ a' w' h'.2) (h.2 i hi)⟩
theorem wpAnyP_first {m : Nat} {i : Nat} {oi : Oper} {v : Value} (hi : ops[i]? = some oi) (hsel : ∀ (j : Nat) (o : Oper) cs b, ops[j]? = some o → o.op ≠ .select cs b)
    (hQ : ∀ c a w, Q (.panic c) (a.put oi.dst v) w → Q (.panic c) a w) (hmi : m ≠ i)
    (hm : ∀ om, ops[m]? = some om → ∃ e ∈ om.after, Region.binds md e = true ∧ e.on = i) :
    ∀ (fuel : Nat) (listed : Array Bool) (a : Act) (w : World), listed.getD m true = false →
      (∀ j oj, ops[j]? = some oj → j ≠ i → listed.getD j true = false → (∀ e ∈ oj.after, Region.binds md e = true → e.on ≠ i) → oi.apart ops oj = true) →
      i ∈ Region.ready md ops listed → YieldsIf P ops S oi v a → S w →
      wpAnyP P md ops Q S m fuel (listed.setIfInBounds i true) (a.put oi.dst v) w → wpAnyP P md ops Q S m (fuel + 1) listed a w := by
  intro fuel
  induction fuel with
  | zero =>
    intro listed a w _ _ hr hy hS H
    refine ⟨fun h => (by rw [h] at hr; cases hr), fun j hj => ?_⟩
    by_cases hji : j = i
    · subst hji; exact hy.wpOp hi hS ⟨fun _ => hS, H⟩
    · have := ready_mono hj hji
      rw [H.1] at this
      cases this
  | succ fuel ih =>
    intro listed a w hlm hfree hr hy hS H
    refine ⟨fun h => (by rw [h] at hr; cases hr), fun j hj => ?_⟩
    by_cases hji : j = i
    · subst hji; exact hy.wpOp hi hS ⟨fun _ => hS, H⟩
    · have h1 := H.2 j (ready_mono hj hji)
      obtain ⟨hjun, oj, hoj, hall⟩ := mem_ready.1 hj
      have hnot : ∀ e ∈ oj.after, Region.binds md e = true → e.on ≠ i := fun e he hb heq => by
        have h1 := hall e he hb
        have h0 := (mem_ready.1 hr).1
        rw [heq] at h1
        rcases Nat.lt_or_ge i listed.size with h' | h'
        · simp [h'] at h0 h1; rw [h0] at h1; cases h1
        · simp [Array.getElem?_eq_none h'] at h1
      have hjm : j ≠ m := fun e => by
        subst e
        obtain ⟨x, hx, hb, ho⟩ := hm oj hoj
        exact hnot x hx hb ho
      have h2 := wpOp_putIf hoj (hfree j oj hoj hji hjun hnot) (fun cs b => hsel i oi cs b hi) (fun cs b => hsel j oj cs b hoj) hQ hy h1
      have hfree' : ∀ k ok, ops[k]? = some ok → k ≠ i → (listed.setIfInBounds j true).getD k true = false →
          (∀ e ∈ ok.after, Region.binds md e = true → e.on ≠ i) → oi.apart ops ok = true := fun k ok hk hki hun hno => by
        refine hfree k ok hk hki ?_ hno
        by_cases hjk : j = k
        · subst hjk; exact hjun
        · rw [getD_set_ne true hjk] at hun; exact hun
      have hlm' : (listed.setIfInBounds j true).getD m true = false := by rw [getD_set_ne true hjm]; exact hlm
      have hlm2 : ((listed.setIfInBounds i true).setIfInBounds j true).getD m true = false := by rw [getD_set_ne true hjm, getD_set_ne true (Ne.symm hmi)]; exact hlm
      refine wpOp_mono (fun a' w' h3 => ⟨fun _ => h3.2.1 hlm2, ih (listed.setIfInBounds j true) a' w' hlm' hfree' (ready_mono hr (Ne.symm hji)) h3.1 (h3.2.1 hlm2) ?_⟩) h2
      rw [Array.setIfInBounds_comm _ _ hji]
      exact h3.2.2
def waitsB (md : Region.Mode) (ops : Array Oper) (m i : Nat) : Bool := match ops[m]? with
  | none => true
  | some om => om.after.any fun e => Region.binds md e && decide (e.on = i)
theorem waitsB_spec {m i : Nat} (h : waitsB md ops m i = true) : ∀ om, ops[m]? = some om → ∃ e ∈ om.after, Region.binds md e = true ∧ e.on = i := fun om ho => by
  unfold waitsB at h
  rw [ho] at h
  simp only [Array.any_eq_true] at h
  obtain ⟨k, hk, hb⟩ := h
  rw [Bool.and_eq_true, decide_eq_true_iff] at hb
  exact ⟨om.after[k], Array.getElem_mem hk, hb.1, hb.2⟩
theorem wpAnyP_take {m : Nat} (i : Nat) {oi : Oper} {v : Value} {fuel : Nat} {listed : Array Bool} {a : Act} {w : World} (hi : ops[i]? = some oi)
    (hs : (Region.noSelect ops && Region.free md ops listed i && (Region.ready md ops listed).contains i && decide (m ≠ i) && waitsB md ops m i && !(listed.getD m true)) = true)
    (hQ : ∀ c a w, Q (.panic c) (a.put oi.dst v) w → Q (.panic c) a w) (hw : Region.wanted oi (yielded ops a.tmps) = true) (hS : S w)
    (hy : ∀ w, S w → (execOp a.eval oi).run P w = .ok (.value v) w)
    (h : wpAnyP P md ops Q S m fuel (listed.setIfInBounds i true) (a.put oi.dst v) w) : wpAnyP P md ops Q S m (fuel + 1) listed a w := by
  simp only [Bool.and_eq_true, decide_eq_true_iff, Bool.not_eq_true'] at hs
  obtain ⟨⟨⟨⟨⟨h1, h2⟩, h3⟩, h4⟩, h5⟩, h6⟩ := hs
  exact wpAnyP_first hi (Region.noSelect_spec h1) hQ h4 (waitsB_spec h5) fuel listed a w h6 (Region.free_spec hi h2) (by simpa using h3) (.inl ⟨hw, hy⟩) hS h
/-- The one that may come up comes up. -/
theorem wpAnyP_one {m : Nat} (i : Nat) {o : Oper} {fuel : Nat} {listed : Array Bool} {a : Act} {w : World} (hi : ops[i]? = some o) (hr : Region.ready md ops listed = [i]) (hw : Region.wanted o (yielded ops a.tmps) = true)
    (h : ∀ K : Act → World → Prop, (∀ a w, ((listed.setIfInBounds i true).getD m true = false → S w) → wpAnyP P md ops Q S m fuel (listed.setIfInBounds i true) a w → K a w) → Oper.wp P o a w K Q) :
    wpAnyP P md ops Q S m (fuel + 1) listed a w := by
  refine ⟨fun h0 => absurd (hr ▸ h0) (by simp), fun j hj => ?_⟩
  rw [hr] at hj
  obtain rfl : j = i := by simpa using hj
  refine wpOp_step hi (fun K' hK => ?_)
  rw [if_pos hw]
  exact h K' (fun a w h1 h2 => hK a w ⟨h1, h2⟩)
theorem wpAnyP_done {m : Nat} {listed : Array Bool} {a : Act} {w : World} (hr : Region.ready md ops listed = []) (h : Q .normal a w) : ∀ fuel, wpAnyP P md ops Q S m fuel listed a w
  | 0 => ⟨hr, h⟩
  | _ + 1 => ⟨fun _ => h, by rw [hr]; simp⟩
theorem wp_region_P {id : Nat} {a : Act} {w : World} (S : World → Prop) (m : Nat) (hm : P.follows .mixedOrders = true) (h : wpAnyP P .any ops Q S m ops.size (Array.replicate ops.size false) a w.drew) : (Code.region id ops true).wp P Q a w :=
  wp_region_any hm (wpAny_of_P _ _ _ _ h)
end
section
variable {W w : World} {g : Nat} {b b' : Bool} {A1 A2 A3 B1 B2 B3 : Option Addr} {n1 c1 n2 c2 n3 c3 m1 d1 m2 d2 m3 d3 : Nat}
theorem NBox.put4 (h : NBox W g b A1 n1 c1 A2 n2 c2 A3 n3 c3) :
    NBox ((((W.setCell ⟨g, 0, none⟩ (.bool b')).setCell ⟨g, 1, none⟩ (.slice B1 m1 d1)).setCell ⟨g, 2, none⟩ (.slice B2 m2 d2)).setCell ⟨g, 3, none⟩ (.slice B3 m3 d3)) g b' B1 m1 d1 B2 m2 d2 B3 m3 d3 :=
  ⟨blk_put (cs := #[.bool b', .slice B1 m1 d1, .slice B2 m2 d2, .slice A3 n3 c3]) (blk_put (cs := #[.bool b', .slice B1 m1 d1, .slice A2 n2 c2, .slice A3 n3 c3]) (blk_put (cs := #[.bool b', .slice A1 n1 c1, .slice A2 n2 c2, .slice A3 n3 c3]) (blk_put h.out 0 _ rfl) 1 _ rfl) 2 _ rfl) 3 _ rfl⟩
theorem NBox.far4 {q : Nat} {x0 x1 x2 x3 : Value} (h : NBox W g b A1 n1 c1 A2 n2 c2 A3 n3 c3) (hne : g ≠ q) :
    NBox ((((W.setCell ⟨q, 0, none⟩ x0).setCell ⟨q, 1, none⟩ x1).setCell ⟨q, 2, none⟩ x2).setCell ⟨q, 3, none⟩ x3) g b A1 n1 c1 A2 n2 c2 A3 n3 c3 :=
  ⟨blk_far (blk_far (blk_far (blk_far h.out hne _) hne _) hne _) hne _⟩
theorem R_put4 {α : Type} {d : Kd α} {e base : Nat} {ok : Nat → Prop} {v : Value} {xs : List α} {x0 x1 x2 x3 : Value} (h : d.R e W base ok v xs) (hb : NBox W g b A1 n1 c1 A2 n2 c2 A3 n3 c3) (ht : ∀ q, q ∈ e :: d.E → q ≠ 25) :
    d.R e ((((W.setCell ⟨g, 0, none⟩ x0).setCell ⟨g, 1, none⟩ x1).setCell ⟨g, 2, none⟩ x2).setCell ⟨g, 3, none⟩ x3) base (fun k => ok k ∧ k ≠ g) v xs :=
  Kd.R_far (Kd.R_far (Kd.R_far (Kd.R_far (Kd.R_types h hb.out ht) (fun _ h => h.2) _) (fun _ h => h.2) _) (fun _ h => h.2) _) (fun _ h => h.2) _
theorem V_put4 {α : Type} {d : Kd α} {e base : Nat} {ok : Nat → Prop} {v : Value} {xs : List α} {x0 x1 x2 x3 : Value} (h : Kd.V d e W base ok v xs) (hne : ∀ k, ok k → k ≠ g) :
    Kd.V d e ((((W.setCell ⟨g, 0, none⟩ x0).setCell ⟨g, 1, none⟩ x1).setCell ⟨g, 2, none⟩ x2).setCell ⟨g, 3, none⟩ x3) base ok v xs :=
  Kd.V_far (Kd.V_far (Kd.V_far (Kd.V_far h (fun _ h => hne _ h) _) (fun _ h => hne _ h) _) (fun _ h => hne _ h) _) (fun _ h => hne _ h) _
theorem below_put4 {x0 x1 x2 x3 : Value} (h : Below w.heap.size w W) (hg : w.heap.size ≤ g) : Below w.heap.size w ((((W.setCell ⟨g, 0, none⟩ x0).setCell ⟨g, 1, none⟩ x1).setCell ⟨g, 2, none⟩ x2).setCell ⟨g, 3, none⟩ x3) :=
  below_set (below_set (below_set (below_set h hg) hg) hg) hg
theorem R_toV {α : Type} {d : Kd α} {e base : Nat} {ok : Nat → Prop} {v : Value} {xs : List α} (h : d.R e W base ok v xs) : Kd.V d e W base (fun k_ => base ≤ k_) v xs := Kd.R_V (Kd.R_mono (Kd.R_bound h) (fun _ hk => hk.2.1))
end

end Go.Proofs.Ytpdlbebiapimoaa.PN
namespace Go.Proofs.Ytpdlbebiapimoaa.PN
open Go.RowKit Go.Proofs.YtpdlbebiapimoaaW.PrintWords Go.Proofs.YtpdlbebiapimoaaW.PrintLast Go.Proofs.YtpdlbebiapimoaaW.PrintMore
set_option linter.unusedVariables false
set_option linter.unusedSimpArgs false
section
variable {P : Program} {ops : Array Oper} {Q : Exit → Act → World → Prop} {md : Region.Mode} {S : World → Prop}
/-- Two may come up. -/
theorem wpAnyP_two {m : Nat} (i j : Nat) {oi oj : Oper} {fuel : Nat} {listed : Array Bool} {a : Act} {w : World} (hi : ops[i]? = some oi) (hj : ops[j]? = some oj) (hr : Region.ready md ops listed = [i, j])
    (hw : Region.wanted oi (yielded ops a.tmps) = true) (hw2 : Region.wanted oj (yielded ops a.tmps) = true)
    (h : ∀ K : Act → World → Prop, (∀ a w, ((listed.setIfInBounds i true).getD m true = false → S w) → wpAnyP P md ops Q S m fuel (listed.setIfInBounds i true) a w → K a w) → Oper.wp P oi a w K Q)
    (h2 : ∀ K : Act → World → Prop, (∀ a w, ((listed.setIfInBounds j true).getD m true = false → S w) → wpAnyP P md ops Q S m fuel (listed.setIfInBounds j true) a w → K a w) → Oper.wp P oj a w K Q) :
    wpAnyP P md ops Q S m (fuel + 1) listed a w := by
  refine ⟨fun h0 => absurd (hr ▸ h0) (by simp), fun k hk => ?_⟩
  rw [hr] at hk
  rcases List.mem_cons.1 hk with rfl | hk
  · refine wpOp_step hi (fun K' hK => ?_)
    rw [if_pos hw]
    exact h K' (fun a w h1 h2 => hK a w ⟨h1, h2⟩)
  · obtain rfl : k = j := by simpa using hk
    refine wpOp_step hj (fun K' hK => ?_)
    rw [if_pos hw2]
    exact h2 K' (fun a w h1 h2 => hK a w ⟨h1, h2⟩)
/-- A block is made. -/
theorem oper_make {o : Oper} {a : Act} {W : World} {K : Act → World → Prop} (n : Nat) {cs : Array Value} {t : TypeId}
    (hrun : (execOp a.eval o).run P W = .ok (.value (.slice (some ⟨W.heap.size, 0, none⟩) n n)) (W.alloc (.cells cs t (0, 0))))
    (h : ∀ g, g = W.heap.size → ∀ w1, w1.heap[g]? = some (.cells cs t (0, 0)) → Below W.heap.size W w1 → K (a.put o.dst (.slice (some ⟨g, 0, none⟩) n n)) w1) : Oper.wp P o a W K Q := by
  unfold Oper.wp
  rw [hrun]
  exact h _ rfl _ (blk_new W _) (below_alloc (Below.refl _ _) _)
end
section
variable {P : Program} {ops : Array Oper} {Q : Exit → Act → World → Prop} {md : Region.Mode} {S : World → Prop}
/-- Does p wait for i, the next of the list for p, and so on? -/
def chainB (md : Region.Mode) (ops : Array Oper) : Nat → List Nat → Bool
  | _, [] => true
  | i, p :: r => waitsB md ops p i && chainB md ops p r
theorem chain_no {j : Nat} {oj : Oper} (hoj : ops[j]? = some oj) (listed : Array Bool) (hall : ∀ e ∈ oj.after, Region.binds md e = true → listed.getD e.on true = true) :
    ∀ (ps : List Nat) (i : Nat), chainB md ops i ps = true → listed.getD i true = false → (∀ p ∈ ps, listed.getD p true = false) → j ∉ ps := by
  intro ps
  induction ps with
  | nil => intro i _ _ _ h; cases h
  | cons p r ih =>
    intro i hc hi hp hj
    simp only [chainB, Bool.and_eq_true] at hc
    rcases List.mem_cons.1 hj with rfl | hj
    · obtain ⟨e, he, hb, ho⟩ := waitsB_spec hc.1 oj hoj
      have := hall e he hb
      rw [ho, hi] at this
      cases this
    · exact ih p hc.2 (hp p (by simp)) (fun q hq => hp q (by simp [hq])) hj
theorem wpAnyP_firstQ {m : Nat} {i : Nat} {oi : Oper} {v : Value} (ps : List Nat) (hi : ops[i]? = some oi) (hsel : ∀ (j : Nat) (o : Oper) cs b, ops[j]? = some o → o.op ≠ .select cs b)
    (hQ : ∀ c a w, Q (.panic c) (a.put oi.dst v) w → Q (.panic c) a w) (hmi : m ≠ i) (hmp : m ∈ ps) (hch : chainB md ops i ps = true) :
    ∀ (fuel : Nat) (listed : Array Bool) (a : Act) (w : World), (∀ p ∈ ps, listed.getD p true = false) →
      (∀ j oj, ops[j]? = some oj → j ≠ i → listed.getD j true = false → (∀ e ∈ oj.after, Region.binds md e = true → e.on ≠ i) → oi.apart ops oj = true) →
      i ∈ Region.ready md ops listed → YieldsIf P ops S oi v a → S w →
      wpAnyP P md ops Q S m fuel (listed.setIfInBounds i true) (a.put oi.dst v) w → wpAnyP P md ops Q S m (fuel + 1) listed a w := by
  intro fuel
  induction fuel with
  | zero =>
    intro listed a w _ _ hr hy hS H
    refine ⟨fun h => (by rw [h] at hr; cases hr), fun j hj => ?_⟩
    by_cases hji : j = i
    · subst hji; exact hy.wpOp hi hS ⟨fun _ => hS, H⟩
    · have := ready_mono hj hji
      rw [H.1] at this
      cases this
  | succ fuel ih =>
    intro listed a w hlp hfree hr hy hS H
    refine ⟨fun h => (by rw [h] at hr; cases hr), fun j hj => ?_⟩
    by_cases hji : j = i
    · subst hji; exact hy.wpOp hi hS ⟨fun _ => hS, H⟩
    · have h1 := H.2 j (ready_mono hj hji)
      obtain ⟨hjun, oj, hoj, hall⟩ := mem_ready.1 hj
      have hnot : ∀ e ∈ oj.after, Region.binds md e = true → e.on ≠ i := fun e he hb heq => by
        have h1 := hall e he hb
        have h0 := (mem_ready.1 hr).1
        rw [heq] at h1
        rcases Nat.lt_or_ge i listed.size with h' | h'
        · simp [h'] at h0 h1; rw [h0] at h1; cases h1
        · simp [Array.getElem?_eq_none h'] at h1
      have hjp : j ∉ ps := chain_no hoj listed (fun e he hb => by
        have := hall e he hb
        rcases Nat.lt_or_ge e.on listed.size with h' | h'
        · simp [h'] at this ⊢; exact this
        · simp [Array.getElem?_eq_none h'] at this) ps i hch (mem_ready.1 hr).1 hlp
      have h2 := wpOp_putIf hoj (hfree j oj hoj hji hjun hnot) (fun cs b => hsel i oi cs b hi) (fun cs b => hsel j oj cs b hoj) hQ hy h1
      have hfree' : ∀ k ok, ops[k]? = some ok → k ≠ i → (listed.setIfInBounds j true).getD k true = false →
          (∀ e ∈ ok.after, Region.binds md e = true → e.on ≠ i) → oi.apart ops ok = true := fun k ok hk hki hun hno => by
        refine hfree k ok hk hki ?_ hno
        by_cases hjk : j = k
        · subst hjk; exact hjun
        · rw [getD_set_ne true hjk] at hun; exact hun
      have hlp' : ∀ p ∈ ps, (listed.setIfInBounds j true).getD p true = false := fun p hp => by
        rw [getD_set_ne true (show j ≠ p from fun e => hjp (by rw [e]; exact hp))]; exact hlp p hp
      have hlm2 : ((listed.setIfInBounds i true).setIfInBounds j true).getD m true = false := by
        rw [getD_set_ne true (show j ≠ m from fun e => hjp (by rw [e]; exact hmp)), getD_set_ne true (Ne.symm hmi)]; exact hlp m hmp
      refine wpOp_mono (fun a' w' h3 => ⟨fun _ => h3.2.1 hlm2, ih (listed.setIfInBounds j true) a' w' hlp' hfree' (ready_mono hr (Ne.symm hji)) h3.1 (h3.2.1 hlm2) ?_⟩) h2
      rw [Array.setIfInBounds_comm _ _ hji]
      exact h3.2.2
/-- wpAnyP_take, but m waits for i by a chain of others: 'ps' ends at m. -/
theorem wpAnyP_takeQ {m : Nat} (i : Nat) (ps : List Nat) {oi : Oper} {v : Value} {fuel : Nat} {listed : Array Bool} {a : Act} {w : World} (hi : ops[i]? = some oi)
    (hs : (Region.noSelect ops && Region.free md ops listed i && (Region.ready md ops listed).contains i && decide (m ≠ i) && ps.contains m && chainB md ops i ps && ps.all fun p => !(listed.getD p true)) = true)
    (hQ : ∀ c a w, Q (.panic c) (a.put oi.dst v) w → Q (.panic c) a w) (hw : Region.wanted oi (yielded ops a.tmps) = true) (hS : S w)
    (hy : ∀ w, S w → (execOp a.eval oi).run P w = .ok (.value v) w)
    (h : wpAnyP P md ops Q S m fuel (listed.setIfInBounds i true) (a.put oi.dst v) w) : wpAnyP P md ops Q S m (fuel + 1) listed a w := by
  simp only [Bool.and_eq_true, decide_eq_true_iff] at hs
  obtain ⟨⟨⟨⟨⟨⟨h1, h2⟩, h3⟩, h4⟩, h5⟩, h6⟩, h7⟩ := hs
  exact wpAnyP_firstQ ps hi (Region.noSelect_spec h1) hQ h4 (by simpa using h5) h6 fuel listed a w (fun p hp => by have := List.all_eq_true.1 h7 p hp; simpa using this) (Region.free_spec hi h2) (by simpa using h3) (.inl ⟨hw, hy⟩) hS h
end

end Go.Proofs.Ytpdlbebiapimoaa.PN
namespace Go.Proofs.Ytpdlbebiapimoaa.PN
open Go.RowKit Go.Proofs.YtpdlbebiapimoaaW.PrintWords Go.Proofs.YtpdlbebiapimoaaW.PrintLast Go.Proofs.YtpdlbebiapimoaaW.PrintMore
set_option linter.unusedVariables false
set_option linter.unusedSimpArgs false
set_option maxHeartbeats 4000000 in
set_option maxRecDepth 100000 in
theorem node_cloned.calls (a0_0 : Bool) (A0_1 : Option Addr) (c0_1 : Nat) (l0_1 : List ByteArray) (A0_2 : Option Addr) (c0_2 : Nat) (l0_2 : List ByteArray) (A0_3 : Option Addr) (c0_3 : Nat) (l0_3 : List Int) (r1 : Bool) (r2 : List ByteArray) (r3 : List ByteArray) (r4 : List Int) (w : World) (hr0_1 : Kd.C Kd.string w A0_1 l0_1.length l0_1) (hc0_1 : l0_1.length ≤ c0_1) (hr0_2 : Kd.C Kd.string w A0_2 l0_2.length l0_2) (hc0_2 : l0_2.length ≤ c0_2) (hr0_3 : Kd.C (Kd.int .i64) w A0_3 l0_3.length l0_3) (hc0_3 : l0_3.length ≤ c0_3) (h : node_cloned.f a0_0 l0_1 l0_2 l0_3 = some (r1, r2, r3, r4)) :
  Calls Try.prog 45 #[.agg #[.bool a0_0, .slice A0_1 l0_1.length c0_1, .slice A0_2 l0_2.length c0_2, .slice A0_3 l0_3.length c0_3]] w fun e w' => ∃ v1_ v2_ v3_ : Value, e = .returned (.agg #[.bool r1, v1_, v2_, v3_]) ∧ Kd.V Kd.string 9 w' w.heap.size (fun k_ => (w.heap.size ≤ k_)) v1_ r2 ∧ Kd.V Kd.string 9 w' w.heap.size (fun k_ => (w.heap.size ≤ k_)) v2_ r3 ∧ Kd.V (Kd.int .i64) 3 w' w.heap.size (fun k_ => (w.heap.size ≤ k_)) v3_ r4 ∧ Below w.heap.size w w' := by
 unfold node_cloned.f at h
 split at h
 case isFalse => cases h
 rename_i hsz
 obtain ⟨hl1, hl2, hl3⟩ := hsz
 simp only [Option.some.injEq, Prod.mk.injEq] at h
 obtain ⟨rfl, rfl, rfl, rfl⟩ := h
 have H1 := Aside0.mk hr0_1
 have H2 := Aside0.mk hr0_2
 have H3 := Aside0.mk hr0_3
 clear hr0_1 hr0_2 hr0_3
 have hu25 := Try.underlying25
 go_enter Try.func45, Try.ntmps45
 go_wp2_with (first | ((with_reducible refine gate_dst (N := 1) rfl ?_); refine box_event ?hg (N := 1) ?hd (cs := #[.bool a0_0, .slice A0_1 l0_1.length c0_1, .slice A0_2 l0_2.length c0_2, .slice A0_3 l0_3.length c0_3]) (t := 25) ?hr ?_; (case hd => rfl); (case hg => rfl); (case hr => first | (go_simp; done) | (go_simp; rfl)); intro gb hg w2 hbox hb; have HB := Aside0.mk hb; have BK := NBox.mk hbox; have GE := Aside0.mk (Nat.le_of_eq hg.symm); clear hg hbox hb) | ((with_reducible refine gate_dst (N := 2) rfl ?_); refine box_event ?hg (N := 2) ?hd (cs := #[.bool false, .slice none 0 0, .slice none 0 0, .slice none 0 0]) (t := 25) ?hr ?_; (case hd => rfl); (case hg => rfl); (case hr => first | (go_simp; done) | (go_simp; rfl)); intro ga hga w3 hbox hb; have NE := Aside0.mk (show gb ≠ ga by have := blk_lt BK.out; omega); replace BK := BK.below hb; have GA := Aside0.mk (Nat.le_trans (below_size HB.out) (Nat.le_of_eq hga.symm)); replace HB := Aside0.mk (below_step HB.out hb); have BA := NBox.mk hbox; clear hga hbox hb; obtain ⟨hx0, hx1, hx2, hx3⟩ := BK.cells))
 have HS := Aside0.mk (And.intro hx1 (And.intro hx2 hx3))
 refine wp_region_P (fun w' => w'.cell? ⟨gb, 1, none⟩ = some (.slice A0_1 l0_1.length c0_1) ∧ w'.cell? ⟨gb, 2, none⟩ = some (.slice A0_2 l0_2.length c0_2) ∧ w'.cell? ⟨gb, 3, none⟩ = some (.slice A0_3 l0_3.length c0_3)) 10 (by kernel_rfl) ?_
 refine wpAnyP_take 0 (oi := _) (v := ?v0) rfl (by kernel_rfl) (fun _ _ _ h => h) (by rfl) HS.out ?hy0 ?rest0
 case hy0 => intro w_ hSw; obtain ⟨hs1, hs2, hs3⟩ := hSw; first | (go_simp; done) | (go_simp; with_reducible rfl)
 try simp only [Act.put, List.setIfInBounds_toArray, List.set_cons_zero, List.set_cons_succ]
 refine wpAnyP_take 1 (oi := _) (v := ?v1) rfl (by kernel_rfl) (fun _ _ _ h => h) (by rfl) HS.out ?hy1 ?rest1
 case hy1 => intro w_ hSw; obtain ⟨hs1, hs2, hs3⟩ := hSw; first | (go_simp; done) | (go_simp; with_reducible rfl)
 try simp only [Act.put, List.setIfInBounds_toArray, List.set_cons_zero, List.set_cons_succ]
 refine wpAnyP_take 3 (oi := _) (v := ?v3) rfl (by kernel_rfl) (fun _ _ _ h => h) (by rfl) HS.out ?hy3 ?rest3
 case hy3 => intro w_ hSw; obtain ⟨hs1, hs2, hs3⟩ := hSw; first | (go_simp; done) | (go_simp; with_reducible rfl)
 try simp only [Act.put, List.setIfInBounds_toArray, List.set_cons_zero, List.set_cons_succ]
 refine wpAnyP_take 4 (oi := _) (v := ?v4) rfl (by kernel_rfl) (fun _ _ _ h => h) (by rfl) HS.out ?hy4 ?rest4
 case hy4 => intro w_ hSw; obtain ⟨hs1, hs2, hs3⟩ := hSw; first | (go_simp; done) | (go_simp; with_reducible rfl)
 try simp only [Act.put, List.setIfInBounds_toArray, List.set_cons_zero, List.set_cons_succ]
 refine wpAnyP_take 6 (oi := _) (v := ?v6) rfl (by kernel_rfl) (fun _ _ _ h => h) (by rfl) HS.out ?hy6 ?rest6
 case hy6 => intro w_ hSw; obtain ⟨hs1, hs2, hs3⟩ := hSw; first | (go_simp; done) | (go_simp; with_reducible rfl)
 try simp only [Act.put, List.setIfInBounds_toArray, List.set_cons_zero, List.set_cons_succ]
 refine wpAnyP_take 7 (oi := _) (v := ?v7) rfl (by kernel_rfl) (fun _ _ _ h => h) (by rfl) HS.out ?hy7 ?rest7
 case hy7 => intro w_ hSw; obtain ⟨hs1, hs2, hs3⟩ := hSw; first | (go_simp; done) | (go_simp; with_reducible rfl)
 try simp only [Act.put, List.setIfInBounds_toArray, List.set_cons_zero, List.set_cons_succ]
 refine wpAnyP_one 2 rfl (by kernel_rfl) (by rfl) (fun K hK => ?_)
 have HK := Aside0.mk hK
 clear hK
 go_simp
 go_at_call 51
 refine (clone51 A0_1 c0_1 l0_1 _ (Kd.C_below H1.out (by (with_reducible repeat (first | apply pw_below_drewN | apply below_drew1)); exact HB.out)) (by omega)).mono ?_
 rintro e w1' ⟨v1, rfl, ho, hb⟩
 obtain ⟨Av1, cv1, ev1⟩ := Kd.R_slice ho
 subst ev1
 clear hx0 hx1 hx2 hx3 HS
 have BK1 := NBox.mk (blk_below (g := gb) (by (with_reducible repeat (first | refine blk_drewN ?_ _ | refine blk_drew ?_)); exact BK.out) hb)
 clear BK
 have BK := BK1
 clear BK1
 have BA1 := NBox.mk (blk_below (g := ga) (by (with_reducible repeat (first | refine blk_drewN ?_ _ | refine blk_drew ?_)); exact BA.out) hb)
 clear BA
 have BA := BA1
 clear BA1
 have HV1 := Aside0.mk (Kd.R_lower ho (below_size (by (with_reducible repeat (first | apply pw_below_drewN | apply below_drew1)); exact HB.out)))
 replace HB := Aside0.mk (below_step (by (with_reducible repeat (first | apply pw_below_drewN | apply below_drew1)); exact HB.out) hb)
 clear ho hb
 obtain ⟨hx0, hx1, hx2, hx3⟩ := BK.cells
 have HS := Aside0.mk (And.intro hx1 (And.intro hx2 hx3))
 refine HK.out _ _ (fun _ => HS.out) ?_
 clear HK K
 try simp only [Act.put, List.setIfInBounds_toArray, List.set_cons_zero, List.set_cons_succ]
 refine wpAnyP_take 9 (oi := _) (v := ?v9) rfl (by kernel_rfl) (fun _ _ _ h => h) (by rfl) HS.out ?hy9 ?rest9
 case hy9 => intro w_ hSw; obtain ⟨hs1, hs2, hs3⟩ := hSw; first | (go_simp; done) | (go_simp; with_reducible rfl)
 try simp only [Act.put, List.setIfInBounds_toArray, List.set_cons_zero, List.set_cons_succ]
 refine wpAnyP_one 5 rfl (by kernel_rfl) (by rfl) (fun K hK => ?_)
 have HK := Aside0.mk hK
 clear hK
 go_simp
 go_at_call 51
 refine (clone51 A0_2 c0_2 l0_2 _ (Kd.C_below H2.out (by (with_reducible repeat (first | apply pw_below_drewN | apply below_drew1)); exact HB.out)) (by omega)).mono ?_
 rintro e w2' ⟨v2, rfl, ho, hb⟩
 obtain ⟨Av2, cv2, ev2⟩ := Kd.R_slice ho
 subst ev2
 clear hx0 hx1 hx2 hx3 HS
 have BK1 := NBox.mk (blk_below (g := gb) (by (with_reducible repeat (first | refine blk_drewN ?_ _ | refine blk_drew ?_)); exact BK.out) hb)
 clear BK
 have BK := BK1
 clear BK1
 have BA1 := NBox.mk (blk_below (g := ga) (by (with_reducible repeat (first | refine blk_drewN ?_ _ | refine blk_drew ?_)); exact BA.out) hb)
 clear BA
 have BA := BA1
 clear BA1
 replace HV1 := Aside0.mk (Kd.R_below (by (with_reducible repeat (first | apply Kd.R_drewN | apply Kd.R_drew)); exact HV1.out) hb)
 have HV2 := Aside0.mk (Kd.R_lower ho (below_size (by (with_reducible repeat (first | apply pw_below_drewN | apply below_drew1)); exact HB.out)))
 replace HB := Aside0.mk (below_step (by (with_reducible repeat (first | apply pw_below_drewN | apply below_drew1)); exact HB.out) hb)
 clear ho hb
 obtain ⟨hx0, hx1, hx2, hx3⟩ := BK.cells
 have HS := Aside0.mk (And.intro hx1 (And.intro hx2 hx3))
 refine HK.out _ _ (fun _ => HS.out) ?_
 clear HK K
 try simp only [Act.put, List.setIfInBounds_toArray, List.set_cons_zero, List.set_cons_succ]
 refine wpAnyP_one 8 rfl (by kernel_rfl) (by rfl) (fun K hK => ?_)
 have HK := Aside0.mk hK
 clear hK
 go_simp
 go_at_call 52
 refine (clone52 A0_3 c0_3 l0_3 _ (Kd.C_below H3.out (by (with_reducible repeat (first | apply pw_below_drewN | apply below_drew1)); exact HB.out)) (by omega)).mono ?_
 rintro e w3' ⟨v3, rfl, ho, hb⟩
 obtain ⟨Av3, cv3, ev3⟩ := Kd.R_slice ho
 subst ev3
 clear hx0 hx1 hx2 hx3 HS
 have BK1 := NBox.mk (blk_below (g := gb) (by (with_reducible repeat (first | refine blk_drewN ?_ _ | refine blk_drew ?_)); exact BK.out) hb)
 clear BK
 have BK := BK1
 clear BK1
 have BA1 := NBox.mk (blk_below (g := ga) (by (with_reducible repeat (first | refine blk_drewN ?_ _ | refine blk_drew ?_)); exact BA.out) hb)
 clear BA
 have BA := BA1
 clear BA1
 replace HV1 := Aside0.mk (Kd.R_below (by (with_reducible repeat (first | apply Kd.R_drewN | apply Kd.R_drew)); exact HV1.out) hb)
 replace HV2 := Aside0.mk (Kd.R_below (by (with_reducible repeat (first | apply Kd.R_drewN | apply Kd.R_drew)); exact HV2.out) hb)
 have HV3 := Aside0.mk (Kd.R_lower ho (below_size (by (with_reducible repeat (first | apply pw_below_drewN | apply below_drew1)); exact HB.out)))
 replace HB := Aside0.mk (below_step (by (with_reducible repeat (first | apply pw_below_drewN | apply below_drew1)); exact HB.out) hb)
 clear ho hb
 obtain ⟨hx0, hx1, hx2, hx3⟩ := BK.cells
 have HS := Aside0.mk (And.intro hx1 (And.intro hx2 hx3))
 refine HK.out _ _ (fun _ => HS.out) ?_
 clear HK K
 try simp only [Act.put, List.setIfInBounds_toArray, List.set_cons_zero, List.set_cons_succ]
 have hf0 := blk_frozen BK.out 0
 have hf1 := blk_frozen BK.out 1
 have hf2 := blk_frozen BK.out 2
 have hf3 := blk_frozen BK.out 3
 refine wpAnyP_one 10 rfl (by kernel_rfl) (by rfl) (fun K hK => ?_)
 have HK := Aside0.mk hK
 clear hK
 go_simp
 refine HK.out _ _ (fun h_ => absurd h_ (by decide)) ?_
 clear HK K
 try simp only [Act.put, List.setIfInBounds_toArray, List.set_cons_zero, List.set_cons_succ]
 refine wpAnyP_one 11 rfl (by kernel_rfl) (by rfl) (fun K hK => ?_)
 have HK := Aside0.mk hK
 clear hK
 go_simp
 refine HK.out _ _ (fun h_ => absurd h_ (by decide)) ?_
 clear HK K
 try simp only [Act.put, List.setIfInBounds_toArray, List.set_cons_zero, List.set_cons_succ]
 refine wpAnyP_one 12 rfl (by kernel_rfl) (by rfl) (fun K hK => ?_)
 have HK := Aside0.mk hK
 clear hK
 go_simp
 refine HK.out _ _ (fun h_ => absurd h_ (by decide)) ?_
 clear HK K
 try simp only [Act.put, List.setIfInBounds_toArray, List.set_cons_zero, List.set_cons_succ]
 refine wpAnyP_one 13 rfl (by kernel_rfl) (by rfl) (fun K hK => ?_)
 have HK := Aside0.mk hK
 clear hK
 go_simp
 refine HK.out _ _ (fun h_ => absurd h_ (by decide)) ?_
 clear HK K
 try simp only [Act.put, List.setIfInBounds_toArray, List.set_cons_zero, List.set_cons_succ]
 refine wpAnyP_one 14 rfl (by kernel_rfl) (by rfl) (fun K hK => ?_)
 have HK := Aside0.mk hK
 clear hK
 go_simp
 refine HK.out _ _ (fun h_ => absurd h_ (by decide)) ?_
 clear HK K
 try simp only [Act.put, List.setIfInBounds_toArray, List.set_cons_zero, List.set_cons_succ]
 refine wpAnyP_done (by kernel_rfl) ?_ _
 have HW : ∃ w4 : World, w4 = (((w3'.setCell ⟨gb, 1, none⟩ (.slice Av1 l0_1.length cv1)).setCell ⟨gb, 2, none⟩ (.slice Av2 l0_2.length cv2)).setCell ⟨gb, 3, none⟩ (.slice Av3 l0_3.length cv3)) := ⟨_, rfl⟩
 obtain ⟨w4, hw4⟩ := HW
 have BK4 : NBox w4 gb a0_0 Av1 l0_1.length cv1 Av2 l0_2.length cv2 Av3 l0_3.length cv3 := ⟨by
  rw [hw4]
  exact blk_put (cs := #[.bool a0_0, .slice Av1 l0_1.length cv1, .slice Av2 l0_2.length cv2, .slice A0_3 l0_3.length c0_3]) (blk_put (cs := #[.bool a0_0, .slice Av1 l0_1.length cv1, .slice A0_2 l0_2.length c0_2, .slice A0_3 l0_3.length c0_3]) (blk_put BK.out 1 _ rfl) 2 _ rfl) 3 _ rfl⟩
 have BA4 : NBox w4 ga false none 0 0 none 0 0 none 0 0 := ⟨by
  rw [hw4]
  exact blk_far (blk_far (blk_far BA.out (Ne.symm NE.out) _) (Ne.symm NE.out) _) (Ne.symm NE.out) _⟩
 have HB4 : Aside0 (Below w.heap.size w w4) := ⟨by rw [hw4]; exact below_set (below_set (below_set HB.out GE.out) GE.out) GE.out⟩
 have HU1 : Aside0 (Kd.R Kd.string 9 w4 w.heap.size (fun k => True ∧ k ≠ gb) (.slice Av1 l0_1.length cv1) l0_1) := ⟨by
  rw [hw4]; exact Kd.R_far (Kd.R_far (Kd.R_far (Kd.R_types HV1.out BK.out (by decide)) (fun _ h => h.2) _) (fun _ h => h.2) _) (fun _ h => h.2) _⟩
 have HU2 : Aside0 (Kd.R Kd.string 9 w4 w.heap.size (fun k => True ∧ k ≠ gb) (.slice Av2 l0_2.length cv2) l0_2) := ⟨by
  rw [hw4]; exact Kd.R_far (Kd.R_far (Kd.R_far (Kd.R_types HV2.out BK.out (by decide)) (fun _ h => h.2) _) (fun _ h => h.2) _) (fun _ h => h.2) _⟩
 have HU3 : Aside0 (Kd.R (Kd.int .i64) 3 w4 w.heap.size (fun k => True ∧ k ≠ gb) (.slice Av3 l0_3.length cv3) l0_3) := ⟨by
  rw [hw4]; exact Kd.R_far (Kd.R_far (Kd.R_far (Kd.R_types HV3.out BK.out (by decide)) (fun _ h => h.2) _) (fun _ h => h.2) _) (fun _ h => h.2) _⟩
 rw [← hw4]
 clear hw4 BK BA HV1 HV2 HV3 HB HS hx0 hx1 hx2 hx3 hf0 hf1 hf2 hf3
 obtain ⟨hx0, hx1, hx2, hx3⟩ := BK4.cells
 obtain ⟨hy0, hy1, hy2, hy3⟩ := BA4.cells
 have hf0 := blk_frozen BA4.out 0
 have hf1 := blk_frozen BA4.out 1
 have hf2 := blk_frozen BA4.out 2
 have hf3 := blk_frozen BA4.out 3
 go_wp2
 refine bodyPost_ret (results_single rfl (.cell ga 25 #[.bool a0_0, .slice Av1 l0_1.length cv1, .slice Av2 l0_2.length cv2, .slice Av3 l0_3.length cv3] (0, 0) _ rfl BA4.put4.out Try.underlying25 rfl (by kernel_rfl) .nil)) rfl ?_
 exact ⟨_, _, _, rfl, R_toV (R_put4 HU1.out BA4 (by decide)), R_toV (R_put4 HU2.out BA4 (by decide)), R_toV (R_put4 HU3.out BA4 (by decide)), below_put4 HB4.out GA.out⟩

end Go.Proofs.Ytpdlbebiapimoaa.PN
