/- node.laid -/
import Derived.Test.YtpdlbebiapimoaaHCut
namespace Go.Proofs.Ytpdlbebiapimoaa.PN
open Go.RowKit Go.Proofs.YtpdlbebiapimoaaW.PrintWords Go.Proofs.YtpdlbebiapimoaaW.PrintLast Go.Proofs.YtpdlbebiapimoaaW.PrintMore
set_option linter.unusedVariables false
set_option linter.unusedSimpArgs false
theorem wpAnyP_oneI {P : Program} {ops : Array Oper} {Q : Exit → Act → World → Prop} {md : Region.Mode} {S : World → Prop} {m : Nat} (i : Nat) {o : Oper} {fuel : Nat} {listed : Array Bool} {a : Act} {w : World} (hi : ops[i]? = some o) (hr : Region.ready md ops listed = [i])
    (h : ∀ K : Act → World → Prop, (∀ a w, ((listed.setIfInBounds i true).getD m true = false → S w) → wpAnyP P md ops Q S m fuel (listed.setIfInBounds i true) a w → K a w) → if Region.wanted o (yielded ops a.tmps) = true then Oper.wp P o a w K Q else K (a.put o.dst undef) w) :
    wpAnyP P md ops Q S m (fuel + 1) listed a w := by
  refine ⟨fun h0 => absurd (hr ▸ h0) (by simp), fun j hj => ?_⟩
  rw [hr] at hj
  obtain rfl : j = i := by simpa using hj
  exact wpOp_step hi (fun K' hK => h K' (fun a w h1 h2 => hK a w ⟨h1, h2⟩))
set_option maxHeartbeats 4000000 in
set_option maxRecDepth 100000 in
theorem node_laid_string.calls (A0 : Option Addr) (c0 : Nat) (l0 : List ByteArray) (a1 : Int) (a2 : Int) (A3 : Option Addr) (c3 : Nat) (l3 : List ByteArray) (r : List ByteArray) (w : World) (hr0 : Kd.C Kd.string w A0 l0.length l0) (hc0 : l0.length ≤ c0) (hr3 : Kd.C Kd.string w A3 l3.length l3) (hc3 : l3.length ≤ c3) (h : node_laid_string.f l0 a1 a2 l3 = some r) :
    Calls Try.prog 48 #[.slice A0 l0.length c0, .int .i64 a1, .int .i64 a2, .slice A3 l3.length c3] w fun e w' => ∃ v0_ : Value, e = .returned (v0_) ∧ Kd.R Kd.string 9 w' w.heap.size (fun _ => True) v0_ r ∧ Below w.heap.size w w' := by
  unfold node_laid_string.f at h
  split at h
  case isFalse => cases h
  rename_i hsz
  obtain ⟨hl, hl3, h10, h1l, h20, h2l⟩ := hsz
  obtain rfl := Option.some.inj h
  clear h
  obtain ⟨m, rfl⟩ := Int.eq_ofNat_of_zero_le h10
  obtain ⟨p, rfl⟩ := Int.eq_ofNat_of_zero_le h20
  simp only [Int.toNat_natCast]
  have hm : m ≤ l0.length := by omega
  have hp : p ≤ l0.length := by omega
  clear h10 h1l h20 h2l
  have cut1 := fun W => cutHM 22 9 _ 16 Try.underlying22 info9 A0 l0.length c0 m (by omega) W
  obtain ⟨C1, eC1, cut2⟩ := cutL 22 9 _ 16 Try.underlying22 info9 A0 l0.length c0 p hp
  have hlt : (l0.take m).length = m := by rw [List.length_take]; omega
  have hld : (l0.drop p).length = l0.length - p := List.length_drop
  have HT : Aside0 (Kd.C Kd.string w A0 m (l0.take m)) := ⟨by have := Kd.C_take hr0 hm; rwa [hlt] at this⟩
  have HD : Aside0 (Kd.C Kd.string w C1 (l0.length - p) (l0.drop p)) := ⟨by
    have := Kd.C_drop hr0 hp hc0
    rw [hld, show Kd.string.sz = 1 from rfl, Nat.mul_one, ← eC1] at this
    exact this⟩
  have H3 := Aside0.mk hr3
  have HL := Aside0.mk (And.intro hlt hld)
  clear hr0 hr3 eC1 hlt hld
  go_enter Try.func48, Try.ntmps48
  go_wp2_with (at_builtin; refine Kd.R_append_rows Kd.string (w0 := w) w.heap.size rfl (.tmp 10) (.tmp 14) 22 9 (.string ⟨#[]⟩) 16 rfl Try.underlying22 info9 rfl (by decide) (by omega) (.slice (some ⟨w.heap.size, 0, none⟩) 0 0) [] (l0.take m) _ _ _ (fun _ => True) (fun _ => False) rfl rfl (Kd.R_of_own (xs := []) (World.ownsRow_made w #[] 0 (Nat.le_refl _) (Nat.zero_le _) rfl) (fun _ _ => trivial)) (Kd.C_alloc HT.out _) (fun _ _ h => h) (fun _ h => h.elim) (fun _ _ => trivial) (below_alloc (Below.refl _ _) _) (by simp) (by simp; omega) ?_)
  intro v1 w1 ho hb hg hat
  obtain ⟨A9, c9, e9⟩ := Kd.R_slice ho
  subst e9
  have hlt := HL.out.1
  rw [hlt] at ho
  rw [hlt]
  clear hlt
  have HO := Aside0.mk ho
  have HB := Aside0.mk hb
  clear ho hb hg hat
  go_upto_region 2 with (fail)
  refine wp_region_P (fun _ => True) 7 (by kernel_rfl) ?_
  refine wpAnyP_take 0 (oi := { dst := some 16, op := .move (.tmp 9), type := 22, pos := "node.go:124", after := #[], guard := none }) (v := ?v0) rfl (by kernel_rfl) (fun _ _ _ h => h) (by rfl) trivial ?hy0 ?rest0
  case hy0 => intro w_ hSw; first | (go_simp; done) | (go_simp; with_reducible rfl)
  try simp only [Act.put, List.setIfInBounds_toArray, List.set_cons_zero, List.set_cons_succ]
  refine wpAnyP_take 1 (oi := { dst := some 17, op := .move (.tmp 3), type := 22, pos := "node.go:124", after := #[], guard := none }) (v := ?v1) rfl (by kernel_rfl) (fun _ _ _ h => h) (by rfl) trivial ?hy1 ?rest1
  case hy1 => intro w_ hSw; first | (go_simp; done) | (go_simp; with_reducible rfl)
  try simp only [Act.put, List.setIfInBounds_toArray, List.set_cons_zero, List.set_cons_succ]
  refine wpAnyP_take 3 (oi := { dst := some 19, op := .move (.tmp 0), type := 22, pos := "node.go:124", after := #[], guard := none }) (v := ?v3) rfl (by kernel_rfl) (fun _ _ _ h => h) (by rfl) trivial ?hy3 ?rest3
  case hy3 => intro w_ hSw; first | (go_simp; done) | (go_simp; with_reducible rfl)
  try simp only [Act.put, List.setIfInBounds_toArray, List.set_cons_zero, List.set_cons_succ]
  refine wpAnyP_take 4 (oi := { dst := some 20, op := .move (.tmp 2), type := 3, pos := "node.go:124", after := #[], guard := none }) (v := ?v4) rfl (by kernel_rfl) (fun _ _ _ h => h) (by rfl) trivial ?hy4 ?rest4
  case hy4 => intro w_ hSw; first | (go_simp; done) | (go_simp; with_reducible rfl)
  try simp only [Act.put, List.setIfInBounds_toArray, List.set_cons_zero, List.set_cons_succ]
  refine wpAnyP_take 5 (oi := { dst := some 21, op := .slice 22 (.tmp 19) (some (.tmp 20)) none none, type := 22, pos := "node.go:124", after := #[{ on := 3, ground := .data }, { on := 4, ground := .data }], guard := none }) (v := ?v5) rfl (by kernel_rfl) (fun _ _ _ h => h) (by rfl) trivial ?hy5 ?rest5
  case hy5 => intro w_ hSw; first | (go_simp; done) | (go_simp; with_reducible rfl)
  try simp only [Act.put, List.setIfInBounds_toArray, List.set_cons_zero, List.set_cons_succ]
  refine wpAnyP_oneI 2 (o := { dst := some 18, op := .call { callee := .builtin .append, args := #[.tmp 16, .tmp 17], argTypes := #[22, 22] }, type := 22, pos := "node.go:124", after := #[{ on := 0, ground := .data }, { on := 1, ground := .data }], guard := none }) rfl (by kernel_rfl) (fun K hK => ?_)
  refine Kd.R_append_rows_step Kd.string (w0 := w) w.heap.size (by rfl) (.tmp 16) (.tmp 17) 22 9 (.string ⟨#[]⟩) 16 (by rfl) Try.underlying22 info9 rfl (by decide) (by omega) (.slice A9 m c9) (l0.take m) l3 _ _ _ (fun _ => True) (fun _ => False) (by rfl) (by rfl) (Kd.R_drew HO.out) (Kd.C_drew (Kd.C_below H3.out HB.out)) (fun _ _ h => h) (fun _ h => h.elim) (fun _ _ => trivial) (below_drew1 HB.out) (below_size (below_drew1 HB.out)) (by have := HL.out.1; omega) ?_
  intro v2 w2 ho hb hg hat
  obtain ⟨A8, c8, e8⟩ := Kd.R_slice ho
  subst e8
  have hlt : (l0.take m ++ l3).length = m + l3.length := by rw [List.length_append, HL.out.1]
  rw [hlt] at ho
  rw [hlt]
  clear hlt
  refine hK _ _ (fun _ => trivial) ?_
  clear hK K hg hat
  have HO2 := Aside0.mk ho
  have HB2 := Aside0.mk hb
  clear ho hb HO HB
  try simp only [Act.put, List.setIfInBounds_toArray, List.set_cons_zero, List.set_cons_succ]
  refine wpAnyP_oneI 6 (o := { dst := some 22, op := .call { callee := .builtin .append, args := #[.tmp 18, .tmp 21], argTypes := #[22, 22] }, type := 22, pos := "node.go:124", after := #[{ on := 2, ground := .data }, { on := 5, ground := .data }, { on := 2, ground := .chain }], guard := none }) rfl (by kernel_rfl) (fun K hK => ?_)
  refine Kd.R_append_rows_step Kd.string (w0 := w) w.heap.size (by rfl) (.tmp 18) (.tmp 21) 22 9 (.string ⟨#[]⟩) 16 (by rfl) Try.underlying22 info9 rfl (by decide) (by omega) (.slice A8 (m + l3.length) c8) (l0.take m ++ l3) (l0.drop p) _ _ _ (fun _ => True) (fun _ => False) (by rfl) (by rfl) HO2.out (Kd.C_below HD.out HB2.out) (fun _ _ h => h) (fun _ h => h.elim) (fun _ _ => trivial) HB2.out (below_size HB2.out) (by have := HL.out.1; rw [List.length_append]; omega) ?_
  intro v3 w3 ho hb hg hat
  refine hK _ _ (fun _ => trivial) ?_
  clear hK K hg hat
  have HO3 := Aside0.mk ho
  have HB3 := Aside0.mk hb
  clear ho hb HO2 HB2
  try simp only [Act.put, List.setIfInBounds_toArray, List.set_cons_zero, List.set_cons_succ]
  refine wpAnyP_one 7 rfl (by kernel_rfl) (by rfl) (fun K hK => ?_)
  have HK := Aside0.mk hK
  clear hK
  go_simp
  refine HK.out _ _ (fun _ => trivial) ?_
  clear HK K
  try simp only [Act.put, List.setIfInBounds_toArray, List.set_cons_zero, List.set_cons_succ]
  refine wpAnyP_done (by kernel_rfl) ?_ _
  go_wp2
  go_ret
  exact ⟨_, rfl, HO3.out, HB3.out⟩

end Go.Proofs.Ytpdlbebiapimoaa.PN
