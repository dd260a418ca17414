/- Leaves that are put, dropped, compared: the calls told for a leaf -/
import Derived.Test.YtpdlbebiapimoaaPureMap2
import Derived.Test.YtpdlbebiapimoaaHPut
import Derived.Test.YtpdlbebiapimoaaHDrop
import Derived.Test.YtpdlbebiapimoaaPN9
namespace Go.Proofs.Ytpdlbebiapimoaa.PN
open Go.RowKit Go.Proofs.YtpdlbebiapimoaaW.PrintWords Go.Proofs.YtpdlbebiapimoaaW.PrintLast Go.Proofs.YtpdlbebiapimoaaW.PrintMore
set_option linter.unusedVariables false
set_option linter.unusedSimpArgs false
/-- A leaf's rows, in blocks that are ok. -/
structure LV (W : World) (ok : Nat → Prop) (A1 : Option Addr) (n1 c1 : Nat) (A2 : Option Addr) (n2 c2 : Nat) (A3 : Option Addr) (c3 : Nat) (ks vs : List ByteArray) : Prop where
  V1 : Kd.V Kd.string 9 W 0 ok (.slice A1 n1 c1) ks
  V2 : Kd.V Kd.string 9 W 0 ok (.slice A2 n2 c2) vs
  V3 : Kd.V (Kd.int .i64) 3 W 0 ok (.slice A3 0 c3) []
section
variable {W W1 : World} {ok ok' : Nat → Prop} {A1 : Option Addr} {n1 c1 : Nat} {A2 : Option Addr} {n2 c2 : Nat} {A3 : Option Addr} {c3 : Nat} {ks vs : List ByteArray}
theorem LV.below (h : LV W ok A1 n1 c1 A2 n2 c2 A3 c3 ks vs) (hb : Below W.heap.size W W1) : LV W1 ok A1 n1 c1 A2 n2 c2 A3 c3 ks vs := ⟨Kd.V_below h.V1 hb, Kd.V_below h.V2 hb, Kd.V_below h.V3 hb⟩
theorem LV.drew (h : LV W ok A1 n1 c1 A2 n2 c2 A3 c3 ks vs) : LV W.drew ok A1 n1 c1 A2 n2 c2 A3 c3 ks vs := ⟨Kd.V_drew h.V1, Kd.V_drew h.V2, Kd.V_drew h.V3⟩
theorem LV.mono (h : LV W ok A1 n1 c1 A2 n2 c2 A3 c3 ks vs) (hk : ∀ k, ok k → ok' k) : LV W ok' A1 n1 c1 A2 n2 c2 A3 c3 ks vs := ⟨Kd.V_mono h.V1 hk, Kd.V_mono h.V2 hk, Kd.V_mono h.V3 hk⟩
theorem LV.bound (h : LV W ok A1 n1 c1 A2 n2 c2 A3 c3 ks vs) : LV W (fun k => ok k ∧ k < W.heap.size) A1 n1 c1 A2 n2 c2 A3 c3 ks vs := ⟨Kd.V_bound h.V1, Kd.V_bound h.V2, Kd.V_bound h.V3⟩
theorem LV.put4 {g : Nat} {x0 x1 x2 x3 : Value} (h : LV W ok A1 n1 c1 A2 n2 c2 A3 c3 ks vs) (hne : ∀ k, ok k → k ≠ g) : LV ((((W.setCell ⟨g, 0, none⟩ x0).setCell ⟨g, 1, none⟩ x1).setCell ⟨g, 2, none⟩ x2).setCell ⟨g, 3, none⟩ x3) ok A1 n1 c1 A2 n2 c2 A3 c3 ks vs := ⟨V_put4 h.V1 hne, V_put4 h.V2 hne, V_put4 h.V3 hne⟩
theorem LV.put_calls {n : Nat} (h : LV W ok A1 n1 c1 A2 n2 c2 A3 c3 ks vs) (hl : Leaf n ks vs) (hn : n ≤ 1000) (key value : ByteArray) :
    Calls Try.prog 29 #[.agg #[.bool true, .slice A1 n1 c1, .slice A2 n2 c2, .slice A3 0 c3], .string key, .string value] W fun e W' => ∃ (B1 : Option Addr) (m1 d1 : Nat) (B2 : Option Addr) (m2 d2 : Nat) (B3 : Option Addr) (d3 : Nat),
      e = .returned (.agg #[.bool true, .slice B1 m1 d1, .slice B2 m2 d2, .slice B3 0 d3]) ∧ LV W' (fun k => W.heap.size ≤ k) B1 m1 d1 B2 m2 d2 B3 d3 (putK ks key) (putV ks vs key value) ∧ Below W.heap.size W W' := by
  obtain ⟨e1, l1, C1⟩ := Kd.V_reads' h.V1
  obtain ⟨e2, l2, C2⟩ := Kd.V_reads' h.V2
  obtain ⟨e3, l3, C3⟩ := Kd.V_reads' h.V3
  subst e1 e2
  refine (node_Put.calls true A1 c1 ks A2 c2 vs A3 c3 [] key value true _ _ [] W C1 l1 C2 l2 C3 l3 (hl.put_f hn key value)).mono ?_
  rintro e W' ⟨v1, v2, v3, rfl, ho1, ho2, ho3, hb⟩
  obtain ⟨B1, d1, rfl⟩ := Kd.V_slice ho1
  obtain ⟨B2, d2, rfl⟩ := Kd.V_slice ho2
  obtain ⟨B3, d3, rfl⟩ := Kd.V_slice ho3
  exact ⟨B1, _, d1, B2, _, d2, B3, d3, rfl, ⟨Kd.V_lower ho1 (Nat.zero_le _), Kd.V_lower ho2 (Nat.zero_le _), Kd.V_lower ho3 (Nat.zero_le _)⟩, hb⟩
theorem LV.drop_calls {n : Nat} (h : LV W ok A1 n1 c1 A2 n2 c2 A3 c3 ks vs) (hl : Leaf n ks vs) (hn : n ≤ 1000) (key : ByteArray) :
    Calls Try.prog 31 #[.agg #[.bool true, .slice A1 n1 c1, .slice A2 n2 c2, .slice A3 0 c3], .string key] W fun e W' => ∃ (B1 : Option Addr) (m1 d1 : Nat) (B2 : Option Addr) (m2 d2 : Nat) (B3 : Option Addr) (d3 : Nat),
      e = .returned (.agg #[.bool true, .slice B1 m1 d1, .slice B2 m2 d2, .slice B3 0 d3]) ∧ LV W' (fun k => W.heap.size ≤ k) B1 m1 d1 B2 m2 d2 B3 d3 (dropK ks key) (dropV ks vs key) ∧ Below W.heap.size W W' := by
  obtain ⟨e1, l1, C1⟩ := Kd.V_reads' h.V1
  obtain ⟨e2, l2, C2⟩ := Kd.V_reads' h.V2
  obtain ⟨e3, l3, C3⟩ := Kd.V_reads' h.V3
  subst e1 e2
  refine (node_Drop.calls true A1 c1 ks A2 c2 vs A3 c3 [] key true _ _ [] W C1 l1 C2 l2 C3 l3 (hl.drop_f hn key)).mono ?_
  rintro e W' ⟨v1, v2, v3, rfl, ho1, ho2, ho3, hb⟩
  obtain ⟨B1, d1, rfl⟩ := Kd.V_slice ho1
  obtain ⟨B2, d2, rfl⟩ := Kd.V_slice ho2
  obtain ⟨B3, d3, rfl⟩ := Kd.V_slice ho3
  exact ⟨B1, _, d1, B2, _, d2, B3, d3, rfl, ⟨Kd.V_lower ho1 (Nat.zero_le _), Kd.V_lower ho2 (Nat.zero_le _), Kd.V_lower ho3 (Nat.zero_le _)⟩, hb⟩
theorem LV.same_calls {n : Nat} {B1 : Option Addr} {m1 d1 : Nat} {B2 : Option Addr} {m2 d2 : Nat} {B3 : Option Addr} {d3 : Nat} (h : LV W ok A1 n1 c1 A2 n2 c2 A3 c3 ks vs) (h' : LV W ok' B1 m1 d1 B2 m2 d2 B3 d3 ks vs) (hl : Leaf n ks vs) (hn : n ≤ 1000) :
    Calls Try.prog 23 #[.agg #[.bool true, .slice A1 n1 c1, .slice A2 n2 c2, .slice A3 0 c3], .agg #[.bool true, .slice B1 m1 d1, .slice B2 m2 d2, .slice B3 0 d3]] W fun e W' => e = .returned (.bool true) ∧ Below W.heap.size W W' := by
  obtain ⟨e1, l1, C1⟩ := Kd.V_reads' h.V1
  obtain ⟨e2, l2, C2⟩ := Kd.V_reads' h.V2
  obtain ⟨e3, l3, C3⟩ := Kd.V_reads' h.V3
  obtain ⟨f1, g1, D1⟩ := Kd.V_reads' h'.V1
  obtain ⟨f2, g2, D2⟩ := Kd.V_reads' h'.V2
  obtain ⟨f3, g3, D3⟩ := Kd.V_reads' h'.V3
  have hN := hl.N
  have hL := hl.L
  obtain ⟨k, hk⟩ := (same_self true ks vs [] (by omega) (by omega) (by simp)).rounds
  subst e1 e2 f1 f2
  exact lunetteref05_Same.calls k true A1 c1 ks A2 c2 vs A3 c3 [] true B1 d1 ks B2 d2 vs B3 d3 [] true W C1 l1 C2 l2 C3 l3 D1 g1 D2 g2 D3 g3 hk
end
theorem C_LV {w : World} {A1 : Option Addr} {c1 : Nat} {A2 : Option Addr} {c2 : Nat} {A3 : Option Addr} {c3 : Nat} {ks vs : List ByteArray} (h1 : Kd.C Kd.string w A1 ks.length ks) (hc1 : ks.length ≤ c1) (h2 : Kd.C Kd.string w A2 vs.length vs) (hc2 : vs.length ≤ c2)
    (h3 : Kd.C (Kd.int .i64) w A3 ([] : List Int).length []) : LV w (fun k => k < w.heap.size) A1 ks.length c1 A2 vs.length c2 A3 c3 ks vs :=
  ⟨Kd.V_mk hc1 (Kd.C_F Kd.heap_string h1), Kd.V_mk hc2 (Kd.C_F Kd.heap_string h2), Kd.V_mk (xs := ([] : List Int)) (Nat.zero_le _) (Kd.C_F (Kd.heap_int .i64) h3)⟩
theorem either_iff {α β : Type} {a b k : α} {x y v : β} {m : Prop} (h : a ≠ b) : ((k = b ∧ v = y) ∨ (k ≠ b ∧ ((k = a ∧ v = x) ∨ (k ≠ a ∧ m)))) ↔ ((k = a ∧ v = x) ∨ (k ≠ a ∧ ((k = b ∧ v = y) ∨ (k ≠ b ∧ m)))) := by
  by_cases h1 : k = a
  · subst h1
    simp [h]
  · by_cases h2 : k = b
    · subst h2
      simp [Ne.symm h]
    · simp [h1, h2]
theorem Leaf.either {n : Nat} {ks vs : List ByteArray} (h : Leaf n ks vs) {a b x y : ByteArray} (ha : a.size ≤ 100) (hb : b.size ≤ 100) (hx : x.size ≤ 100) (hy : y.size ≤ 100) (hne : a ≠ b) :
    putK (putK ks a) b = putK (putK ks b) a ∧ putV (putK ks a) (putV ks vs a x) b y = putV (putK ks b) (putV ks vs b y) a x := by
  have h1 := h.put ha hx
  have h2 := h.put hb hy
  refine (h1.put hb hy).ext (h2.put ha hx) (fun k v => ?_)
  rw [h1.mem_put, h.mem_put, h2.mem_put, h.mem_put]
  exact either_iff hne
theorem Leaf.either_drop {n : Nat} {ks vs : List ByteArray} (h : Leaf n ks vs) (a b : ByteArray) :
    dropK (dropK ks a) b = dropK (dropK ks b) a ∧ dropV (dropK ks a) (dropV ks vs a) b = dropV (dropK ks b) (dropV ks vs b) a := by
  have h1 := h.drop a
  have h2 := h.drop b
  refine (h1.drop b).ext (h2.drop a) (fun k v => ?_)
  rw [h1.mem_drop, h.mem_drop, h2.mem_drop, h.mem_drop]
  exact ⟨fun ⟨p, q, r⟩ => ⟨q, p, r⟩, fun ⟨p, q, r⟩ => ⟨q, p, r⟩⟩
/-- At least so many blocks. -/
structure NL (N : Nat) (W : World) : Prop where
  le : N ≤ W.heap.size
theorem NL.below {N : Nat} {W W1 : World} (h : NL N W) (hb : Below W.heap.size W W1) : NL N W1 := ⟨Nat.le_trans h.le hb.size⟩
theorem NL.drew {N : Nat} {W : World} (h : NL N W) : NL N W.drew := ⟨h.le⟩
/-- What stands while x and y are made: n's box, the texts' box, n's rows. -/
structure Ei (w W : World) (ga gv : Nat) (A1 : Option Addr) (n1 c1 : Nat) (A2 : Option Addr) (n2 c2 : Nat) (A3 : Option Addr) (c3 : Nat) (ks vs : List ByteArray) (v0 v1 : ByteArray) : Prop where
  BA : NBox W ga true A1 n1 c1 A2 n2 c2 A3 0 c3
  BV : W.heap[gv]? = some (.cells #[.string v0, .string v1] 52 (0, 0))
  LA : LV W (fun k => k < w.heap.size) A1 n1 c1 A2 n2 c2 A3 c3 ks vs
  HB : Below w.heap.size w W
section
variable {w W W1 : World} {ga gv : Nat} {A1 : Option Addr} {n1 c1 : Nat} {A2 : Option Addr} {n2 c2 : Nat} {A3 : Option Addr} {c3 : Nat} {ks vs : List ByteArray} {v0 v1 : ByteArray}
theorem Ei.below (h : Ei w W ga gv A1 n1 c1 A2 n2 c2 A3 c3 ks vs v0 v1) (hb : Below W.heap.size W W1) : Ei w W1 ga gv A1 n1 c1 A2 n2 c2 A3 c3 ks vs v0 v1 := ⟨h.BA.below hb, blk_below h.BV hb, h.LA.below hb, below_step h.HB hb⟩
theorem Ei.drew (h : Ei w W ga gv A1 n1 c1 A2 n2 c2 A3 c3 ks vs v0 v1) : Ei w W.drew ga gv A1 n1 c1 A2 n2 c2 A3 c3 ks vs v0 v1 := ⟨⟨h.BA.out⟩, h.BV, h.LA.drew, below_drew1 h.HB⟩
theorem Ei.put4 {g : Nat} {x0 x1 x2 x3 : Value} (h : Ei w W ga gv A1 n1 c1 A2 n2 c2 A3 c3 ks vs v0 v1) (hg : w.heap.size ≤ g) (h1 : ga ≠ g) (h2 : gv ≠ g) : Ei w ((((W.setCell ⟨g, 0, none⟩ x0).setCell ⟨g, 1, none⟩ x1).setCell ⟨g, 2, none⟩ x2).setCell ⟨g, 3, none⟩ x3) ga gv A1 n1 c1 A2 n2 c2 A3 c3 ks vs v0 v1 :=
  ⟨h.BA.far4 h1, blk_far (blk_far (blk_far (blk_far h.BV h2 _) h2 _) h2 _) h2 _, h.LA.put4 (fun k hk => by omega), below_put4 h.HB hg⟩
theorem Ei.sees (h : Ei w W ga gv A1 n1 c1 A2 n2 c2 A3 c3 ks vs v0 v1) : W.cell? ⟨ga, 0, none⟩ = some (.bool true) ∧ W.cell? ⟨ga, 1, none⟩ = some (.slice A1 n1 c1) ∧ W.cell? ⟨ga, 2, none⟩ = some (.slice A2 n2 c2) ∧ W.cell? ⟨ga, 3, none⟩ = some (.slice A3 0 c3) ∧ W.cell? ⟨gv, 0, none⟩ = some (.string v0) ∧ W.cell? ⟨gv, 1, none⟩ = some (.string v1) :=
  ⟨h.BA.cells.1, h.BA.cells.2.1, h.BA.cells.2.2.1, h.BA.cells.2.2.2, (blk_cell h.BV 0).trans rfl, (blk_cell h.BV 1).trans rfl⟩
end
section
variable {P : Program} {Q : Exit → Act → World → Prop}
/-- A block is laid out. -/
theorem oper_alloc {o : Oper} {a : Act} {W : World} {K : Act → World → Prop} {cs : Array Value} {t : TypeId}
    (hrun : (execOp a.eval o).run P W = .ok (.value (.pointer (some ⟨W.heap.size, 0, none⟩))) (W.alloc (.cells cs t (0, 0))))
    (h : ∀ g, g = W.heap.size → ∀ w1, w1.heap[g]? = some (.cells cs t (0, 0)) → Below W.heap.size W w1 → W.heap.size < w1.heap.size → K (a.put o.dst (.pointer (some ⟨g, 0, none⟩))) w1) : Oper.wp P o a W K Q := by
  unfold Oper.wp
  rw [hrun]
  exact h _ rfl _ (blk_new W _) (below_alloc (Below.refl _ _) _) (by simp)
end
end Go.Proofs.Ytpdlbebiapimoaa.PN
