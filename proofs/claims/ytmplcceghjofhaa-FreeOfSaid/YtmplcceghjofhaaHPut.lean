/- free.Put -/
import Derived.Test.YtmplcceghjofhaaHConcat
import Derived.Test.YtmplcceghjofhaaHIndex
import Derived.Test.YtmplcceghjofhaaHRegion
namespace Go.Proofs.Ytmplcceghjofhaa.PF
open Go.RowKit Go.Proofs.YtmplcceghjofhaaW.PrintWords Go.Proofs.YtmplcceghjofhaaW.PrintLast Go.Proofs.YtmplcceghjofhaaW.PrintMore
set_option linter.unusedVariables false
set_option linter.unusedSimpArgs false
open Go in
theorem cutH (t e : TypeId) (z : Value) (by_ : Nat) (ht : Try.prog.underlying t = some (.slice e)) (hi : (Try.prog.info? e).map (fun i => (i.zero, i.size, i.bytes)) = some (some z, 2, by_)) (A : Option Addr) (n c q : Nat) (h : q ≤ c) (W : World) :
    (Instr.slice t (.slice A n c) none (some (.int .i64 q)) none).run Try.prog W = .ok (.slice A q c) W := by
  obtain ⟨i0, hi0, hzz⟩ := Option.map_eq_some_iff.1 hi
  simp only [Prod.mk.injEq] at hzz
  obtain ⟨hz0, hz1, hz2⟩ := hzz
  have hel : Try.prog.elem t = e := by simp [Program.elem, ht]
  rw [run_slice_h W t A n c (by rw [hel]; exact ht) .i64 q (by omega) (by omega), hel]
  cases A <;> simp [sliced, Result.andThen, Addr.add, sizeOf, typeInfo, hi0, hz1]
open Go in
theorem cutL (t e : TypeId) (z : Value) (by_ : Nat) (ht : Try.prog.underlying t = some (.slice e)) (hi : (Try.prog.info? e).map (fun i => (i.zero, i.size, i.bytes)) = some (some z, 2, by_)) (A : Option Addr) (n c q : Nat) (h : q ≤ n) :
    ∃ A', A' = (if c = q then A else A.map (·.add (q * 2))) ∧ ∀ W, (Instr.slice t (.slice A n c) (some (.int .i64 q)) none none).run Try.prog W = .ok (.slice A' (n - q) (c - q)) W :=
  ⟨_, rfl, fun W => by
    obtain ⟨i0, hi0, hzz⟩ := Option.map_eq_some_iff.1 hi
    simp only [Prod.mk.injEq] at hzz
    obtain ⟨hz0, hz1, hz2⟩ := hzz
    have hel : Try.prog.elem t = e := by simp [Program.elem, ht]
    rw [run_slice_l W t A n c (by rw [hel]; exact ht) .i64 q (by omega) (by omega), hel]
    simp [sliced, Result.andThen, sizeOf, typeInfo, hi0, hz1]⟩
theorem take_C {w : World} {A : Option Addr} {c q : Nat} {l : List S25} (h : k25.C w A l.length l) (hc : l.length ≤ c) (hq : q ≤ l.length) : q = (l.take q).length ∧ q ≤ c ∧ k25.C w A q (l.take q) := by
  have e : (l.take q).length = q := by rw [List.length_take]; omega
  refine ⟨e.symm, by omega, ?_⟩
  have := Kd.C_take h hq
  rwa [e] at this
theorem drop_C {w : World} {A A' : Option Addr} {c q : Nat} {l : List S25} (h : k25.C w A l.length l) (hc : l.length ≤ c) (hq : q ≤ l.length) (hA : A' = (if c = q then A else A.map (·.add (q * 2)))) : l.length - q = (l.drop q).length ∧ l.length - q ≤ c - q ∧ k25.C w A' (l.length - q) (l.drop q) := by
  have e : (l.drop q).length = l.length - q := List.length_drop
  refine ⟨e.symm, by omega, ?_⟩
  have := Kd.C_drop h hq hc
  rw [e, show k25.sz = 2 from rfl, ← hA] at this
  exact this
theorem C_fr1 {W : World} {g : Nat} {p e : Int} (hb : W.heap[g]? = some (.cells #[.int .i64 p, .int .i64 e] 25 (0, 0))) : k25.C W (some ⟨g, 0, none⟩) 1 [(⟨p, e⟩ : S25)] := by
  refine ⟨rfl, by omega, fun _ => ⟨_, rfl, fun j x hj => ?_⟩⟩
  match j, hj with
  | 0, hj =>
    simp at hj; subst hj
    refine ⟨[.int .i64 p, .int .i64 e], rfl, k25_mk W ⟨p, e⟩, fun i u hu => ?_⟩
    match i, hu with
    | 0, hu => simp at hu; subst hu; exact (blk_cell hb 0).trans rfl
    | 1, hu => simp at hu; subst hu; exact (blk_cell hb 1).trans rfl
theorem cat3g {W : World} {g t : Nat} {A1 A2 A3 : Option Addr} {n1 n2 n3 c1 c2 c3 : Nat} {l1 l2 l3 : List S25} (hb : W.heap[g]? = some (.cells #[.slice A1 n1 c1, .slice A2 n2 c2, .slice A3 n3 c3] t (0, 0)))
    (e1 : n1 = l1.length) (hc1 : n1 ≤ c1) (h1 : k25.C W A1 n1 l1) (e2 : n2 = l2.length) (hc2 : n2 ≤ c2) (h2 : k25.C W A2 n2 l2) (e3 : n3 = l3.length) (hc3 : n3 ≤ c3) (h3 : k25.C W A3 n3 l3) (m1 : l1.length ≤ 100000) (m2 : l2.length ≤ 100000) (m3 : l3.length ≤ 100000) :
    Calls Try.prog 26 #[.slice (some ⟨g, 0, none⟩) 3 3] W fun e W' => ∃ A n c, e = .returned (.slice A n c) ∧ k25.R 25 W' W.heap.size (fun _ => True) (.slice A n c) (l1 ++ l2 ++ l3) ∧ Below W.heap.size W W' := by
  subst e1 e2 e3
  exact cat3f hb h1 hc1 h2 hc2 h3 hc3 m1 m2 m3
theorem cat2g {W : World} {g t : Nat} {A1 A2 : Option Addr} {n1 n2 c1 c2 : Nat} {l1 l2 : List S25} (hb : W.heap[g]? = some (.cells #[.slice A1 n1 c1, .slice A2 n2 c2] t (0, 0)))
    (e1 : n1 = l1.length) (hc1 : n1 ≤ c1) (h1 : k25.C W A1 n1 l1) (e2 : n2 = l2.length) (hc2 : n2 ≤ c2) (h2 : k25.C W A2 n2 l2) (m1 : l1.length ≤ 100000) (m2 : l2.length ≤ 100000) :
    Calls Try.prog 26 #[.slice (some ⟨g, 0, none⟩) 2 2] W fun e W' => ∃ A n c, e = .returned (.slice A n c) ∧ k25.R 25 W' W.heap.size (fun _ => True) (.slice A n c) (l1 ++ l2) ∧ Below W.heap.size W W' := by
  subst e1 e2
  exact cat2f hb h1 hc1 h2 hc2 m1 m2
theorem putF_miss (p e : Int) (l : List S25) (h : l.any (fun x => decide (p ≤ x.f0)) = false) : putF p e l = l.take l.length ++ [⟨p, e⟩] ++ l.drop l.length := by
  rw [List.take_length, List.drop_length, List.append_nil]
  induction l with
  | nil => rfl
  | cons x r ih =>
    simp only [List.any_cons, Bool.or_eq_false_iff, decide_eq_false_iff_not] at h
    unfold putF
    rw [if_pos (by omega), ih h.2]
    rfl
theorem putF_hit (p e : Int) (l : List S25) : ∀ (q : Nat) (x : S25), (l.take q).any (fun x => decide (p ≤ x.f0)) = false → l[q]? = some x → p ≤ x.f0 → putF p e l = l.take q ++ [⟨p, e⟩] ++ l.drop (if x.f0 = p then q + 1 else q) := by
  induction l with
  | nil => intro q x _ hx; simp at hx
  | cons y r ih =>
    intro q x hn hx hp
    cases q with
    | zero =>
      simp at hx
      subst hx
      unfold putF
      rw [if_neg (by omega)]
      by_cases h : y.f0 = p
      · rw [if_pos h, if_pos h]; rfl
      · rw [if_neg h, if_neg h]; rfl
    | succ q =>
      simp only [List.take_succ_cons, List.any_cons, Bool.or_eq_false_iff, decide_eq_false_iff_not] at hn
      unfold putF
      rw [if_pos (by omega), ih q x hn.2 (by simpa using hx) hp]
      by_cases h : x.f0 = p
      · rw [if_pos h, if_pos h]; rfl
      · rw [if_neg h, if_neg h]; rfl
theorem idx_split {α : Type} (p : α → Bool) (l : List α) : (l.any p = false ∧ idxF p l = -1) ∨ ∃ (q : Nat) (x : α), l[q]? = some x ∧ p x = true ∧ (l.take q).any p = false ∧ idxF p l = q ∧ q < l.length := by
  cases h : l.any p with
  | false => exact .inl ⟨rfl, idx_miss p l h⟩
  | true =>
    right
    have hlt : l.findIdx p < l.length := by
      obtain ⟨x, hx, hp⟩ := List.any_eq_true.1 h
      exact List.findIdx_lt_length_of_exists ⟨x, hx, hp⟩
    refine ⟨l.findIdx p, l[l.findIdx p], List.getElem?_eq_getElem hlt, List.findIdx_getElem (w := hlt), ?_, by unfold idxF; rw [if_pos h], hlt⟩
    rw [List.any_eq_false]
    intro y hy
    obtain ⟨i, hi, rfl⟩ := List.mem_take_iff_getElem.1 hy
    have := List.not_of_lt_findIdx (p := p) (xs := l) (i := i) (by omega)
    simpa using this
abbrev o13_7_0 : Oper := { dst := some 32, op := .move (.tmp 0), type := 22, pos := "free.go:37", after := #[], guard := none }
abbrev o13_7_1 : Oper := { dst := some 33, op := .move (.tmp 7), type := 3, pos := "free.go:37", after := #[], guard := none }
abbrev o13_7_2 : Oper := { dst := some 34, op := .slice 22 (.tmp 32) none (some (.tmp 33)) none, type := 22, pos := "free.go:37", after := #[{ on := 0, ground := .data }, { on := 1, ground := .data }], guard := none }
abbrev o13_7_3 : Oper := { dst := some 35, op := .load 3 (.tmp 4), type := 3, pos := "free.go:37", after := #[], guard := none }
abbrev o13_7_4 : Oper := { dst := some 36, op := .move (.tmp 2), type := 3, pos := "free.go:37", after := #[], guard := none }
abbrev o13_7_5 : Oper := { dst := some 37, op := .build 25 #[(0, .tmp 35), (1, .tmp 36)], type := 25, pos := "free.go:37", after := #[{ on := 3, ground := .data }, { on := 4, ground := .data }], guard := none }
abbrev o13_7_6 : Oper := { dst := some 38, op := .buildSlice 22 1 #[(0, .tmp 37)], type := 22, pos := "free.go:37", after := #[{ on := 5, ground := .data }], guard := none }
abbrev o13_7_7 : Oper := { dst := some 39, op := .move (.tmp 0), type := 22, pos := "free.go:37", after := #[], guard := none }
abbrev o13_7_8 : Oper := { dst := some 40, op := .move (.tmp 8), type := 3, pos := "free.go:37", after := #[], guard := none }
abbrev o13_7_9 : Oper := { dst := some 41, op := .slice 22 (.tmp 39) (some (.tmp 40)) none none, type := 22, pos := "free.go:37", after := #[{ on := 7, ground := .data }, { on := 8, ground := .data }], guard := none }
abbrev o13_7_10 : Oper := { dst := some 42, op := .buildSlice 61 3 #[(0, .tmp 34), (1, .tmp 38), (2, .tmp 41)], type := 61, pos := "free.go:37", after := #[{ on := 2, ground := .data }, { on := 6, ground := .data }, { on := 9, ground := .data }], guard := none }
abbrev o13_7_11 : Oper := { dst := some 43, op := .call { callee := .value (.func 26), args := #[.tmp 42], argTypes := #[61] }, type := 22, pos := "free.go:37", after := #[{ on := 10, ground := .data }], guard := none }
abbrev o13_7_12 : Oper := { dst := some 6, op := .assign (.tmp 43), type := 22, pos := "free.go:37", after := #[{ on := 11, ground := .data }, { on := 11, ground := .chain }, { on := 0, ground := .phase }, { on := 1, ground := .phase }, { on := 2, ground := .phase }, { on := 3, ground := .phase }, { on := 4, ground := .phase }, { on := 5, ground := .phase }, { on := 6, ground := .phase }, { on := 7, ground := .phase }, { on := 8, ground := .phase }, { on := 9, ground := .phase }, { on := 10, ground := .phase }, { on := 11, ground := .phase }], guard := none }
set_option maxHeartbeats 8000000 in
set_option maxRecDepth 100000 in
theorem free_Put.calls (A0 : Option Addr) (c0 : Nat) (l0 : List (S25)) (a1 : Int) (a2 : Int) (r : List (S25)) (w : World) (hr0 : Kd.C k25 w A0 l0.length l0) (hc0 : l0.length ≤ c0) (h : free_Put.f l0 a1 a2 = some r) :
    Calls Try.prog 13 #[.slice A0 l0.length c0, .int .i64 a1, .int .i64 a2] w fun e w' => ∃ v0_ : Value, e = .returned (v0_) ∧ Kd.V k25 25 w' w.heap.size (fun k_ => (w.heap.size ≤ k_)) v0_ r ∧ Below w.heap.size w w' := by
  unfold free_Put.f at h
  split at h
  case isFalse => cases h
  rename_i hl
  obtain rfl := Option.some.inj h
  have H0 := Aside0.mk hr0
  have hu25 := Try.underlying25
  clear h hr0
  go_enter Try.func13, Try.ntmps13
  go_wp2_with ((with_reducible refine gate_dst (N := 4) rfl ?_); refine box_event ?hg (N := 4) ?hd (cs := #[.int .i64 a1]) (t := 3) ?hr ?_; (case hd => rfl); (case hg => rfl); (case hr => first | (go_simp; done) | (go_simp; rfl)); intro gk hg w2 hbox hb; have HB := Aside0.mk hb; have BK := Aside0.mk hbox; clear hg hbox hb)
  refine (index25 (fun x => decide (a1 ≤ x.f0)) gk A0 c0 l0 _ (fun x W hb => pred25 x a1 gk W ((blk_cell (blk_below BK.out hb) 0).trans rfl)) (Kd.C_below H0.out HB.out) (by omega)).mono ?_
  rintro e w3 ⟨rfl, hb⟩
  have BK1 := Aside0.mk (blk_below BK.out hb)
  have HB1 := Aside0.mk (below_step HB.out hb)
  clear BK HB hb
  have BK := BK1; have HB := HB1; clear BK1 HB1
  have hk0 : _ = some (Value.int .i64 a1) := (blk_cell BK.out 0).trans rfl
  have hsp := idx_split (fun x : S25 => decide (a1 ≤ x.f0)) l0
  generalize idxF (fun x : S25 => decide (a1 ≤ x.f0)) l0 = z at hsp ⊢
  rcases hsp with ⟨hn, rfl⟩ | ⟨q, x, hx, hp, hn, rfl, hq⟩
  · have HE := Aside0.mk (putF_miss a1 a2 l0 hn)
    clear hn
    have hd : decide ((l0.length : Int) < (l0.length : Int)) = false := by simp
    have hd2 : decide (l0.length < l0.length) = false := by simp
    go_upto_region 5 with (fail)
    go_quiet (fail)
    generalize hW : World.drewN w3 _ = w4
    have BK1 : Aside0 (w4.heap[gk]? = some (.cells #[.int .i64 a1] 3 (0, 0))) := ⟨by rw [← hW]; exact blk_drewN BK.out _⟩
    have HB1 : Aside0 (Below w.heap.size w w4) := ⟨by rw [← hW]; exact pw_below_drewN HB.out _⟩
    clear BK HB hk0 hW
    have BK := BK1; have HB := HB1; clear BK1 HB1
    have hk0 : _ = some (Value.int .i64 a1) := (blk_cell BK.out 0).trans rfl
    go_upto_region 7 with (fail)
    have cut1 := fun W => cutH 22 25 _ 16 Try.underlying22 info25 A0 l0.length c0 l0.length (by omega) W
    obtain ⟨C1, eC1, cut2⟩ := cutL 22 25 _ 16 Try.underlying22 info25 A0 l0.length c0 l0.length (by omega)
    have HT := Aside0.mk (take_C H0.out hc0 (q := l0.length) (by omega))
    have HD := Aside0.mk (drop_C H0.out hc0 (q := l0.length) (by omega) eC1)
    have BK1 := Aside0.mk (blk_drew BK.out)
    have HB1 := Aside0.mk (below_drew1 HB.out)
    clear BK HB eC1 hk0
    have BK := BK1; have HB := HB1; clear BK1 HB1
    have HS := Aside0.mk (show _ = some (Value.int .i64 a1) from (blk_cell BK.out 0).trans rfl)
    refine wp_region_P (fun w' => w'.cell? ⟨gk, 0, none⟩ = some (.int .i64 a1)) 12 (by kernel_rfl) ?_
    generalize World.drew _ = w5 at *
    refine wpAnyP_take 0 (oi := o13_7_0) (v := ?_) rfl (by kernel_rfl) (fun _ _ _ h => h) (by rfl) HS.out ?_ ?_; rotate_left
    · intro w_ hSw; obtain hs0 := hSw; (try simp only [o13_7_0]); first | (go_simp; done) | (go_simp; with_reducible rfl)
    try simp only [Act.put, o13_7_0, List.setIfInBounds_toArray, List.set_cons_zero, List.set_cons_succ]
    refine wpAnyP_take 1 (oi := o13_7_1) (v := ?_) rfl (by kernel_rfl) (fun _ _ _ h => h) (by rfl) HS.out ?_ ?_; rotate_left
    · intro w_ hSw; obtain hs0 := hSw; (try simp only [o13_7_1]); first | (go_simp; done) | (go_simp; with_reducible rfl)
    try simp only [Act.put, o13_7_1, List.setIfInBounds_toArray, List.set_cons_zero, List.set_cons_succ]
    refine wpAnyP_take 2 (oi := o13_7_2) (v := ?_) rfl (by kernel_rfl) (fun _ _ _ h => h) (by rfl) HS.out ?_ ?_; rotate_left
    · intro w_ hSw; obtain hs0 := hSw; (try simp only [o13_7_2]); first | (go_simp; done) | (go_simp; with_reducible rfl)
    try simp only [Act.put, o13_7_2, List.setIfInBounds_toArray, List.set_cons_zero, List.set_cons_succ]
    refine wpAnyP_take 3 (oi := o13_7_3) (v := ?_) rfl (by kernel_rfl) (fun _ _ _ h => h) (by rfl) HS.out ?_ ?_; rotate_left
    · intro w_ hSw; obtain hs0 := hSw; (try simp only [o13_7_3]); first | (go_simp; done) | (go_simp; with_reducible rfl)
    try simp only [Act.put, o13_7_3, List.setIfInBounds_toArray, List.set_cons_zero, List.set_cons_succ]
    refine wpAnyP_take 4 (oi := o13_7_4) (v := ?_) rfl (by kernel_rfl) (fun _ _ _ h => h) (by rfl) HS.out ?_ ?_; rotate_left
    · intro w_ hSw; obtain hs0 := hSw; (try simp only [o13_7_4]); first | (go_simp; done) | (go_simp; with_reducible rfl)
    try simp only [Act.put, o13_7_4, List.setIfInBounds_toArray, List.set_cons_zero, List.set_cons_succ]
    refine wpAnyP_take 5 (oi := o13_7_5) (v := ?_) rfl (by kernel_rfl) (fun _ _ _ h => h) (by rfl) HS.out ?_ ?_; rotate_left
    · intro w_ hSw; obtain hs0 := hSw; (try simp only [o13_7_5]); first | (go_simp; done) | (go_simp; with_reducible rfl)
    try simp only [Act.put, o13_7_5, List.setIfInBounds_toArray, List.set_cons_zero, List.set_cons_succ]
    refine wpAnyP_take 7 (oi := o13_7_7) (v := ?_) rfl (by kernel_rfl) (fun _ _ _ h => h) (by rfl) HS.out ?_ ?_; rotate_left
    · intro w_ hSw; obtain hs0 := hSw; (try simp only [o13_7_7]); first | (go_simp; done) | (go_simp; with_reducible rfl)
    try simp only [Act.put, o13_7_7, List.setIfInBounds_toArray, List.set_cons_zero, List.set_cons_succ]
    refine wpAnyP_take 8 (oi := o13_7_8) (v := ?_) rfl (by kernel_rfl) (fun _ _ _ h => h) (by rfl) HS.out ?_ ?_; rotate_left
    · intro w_ hSw; obtain hs0 := hSw; (try simp only [o13_7_8]); first | (go_simp; done) | (go_simp; with_reducible rfl)
    try simp only [Act.put, o13_7_8, List.setIfInBounds_toArray, List.set_cons_zero, List.set_cons_succ]
    refine wpAnyP_take 9 (oi := o13_7_9) (v := ?_) rfl (by kernel_rfl) (fun _ _ _ h => h) (by rfl) HS.out ?_ ?_; rotate_left
    · intro w_ hSw; obtain hs0 := hSw; (try simp only [o13_7_9]); first | (go_simp; done) | (go_simp; with_reducible rfl)
    try simp only [Act.put, o13_7_9, List.setIfInBounds_toArray, List.set_cons_zero, List.set_cons_succ]
    refine wpAnyP_one 6 (o := o13_7_6) rfl (by kernel_rfl) (by rfl) (fun K hK => ?_)
    refine oper_make 1 (cs := #[.int .i64 a1, .int .i64 a2]) (t := 25) (by (try simp only [o13_7_6]); first | (go_simp; done) | (go_simp; rfl)) (fun g6 hg w1 hbox hb => ?_)
    have BK1 := Aside0.mk (blk_below BK.out hb)
    have HB1 := Aside0.mk (below_step HB.out hb)
    clear HS BK HB
    have BK := BK1; clear BK1
    have HB := HB1; clear HB1
    have Gg6 := Aside0.mk hbox
    clear hbox hb hg
    have HS := Aside0.mk (show _ = some (Value.int .i64 a1) from (blk_cell BK.out 0).trans rfl)
    refine hK _ _ (fun _ => HS.out) ?_
    clear hK K
    try simp only [Act.put, o13_7_6, List.setIfInBounds_toArray, List.set_cons_zero, List.set_cons_succ]
    refine wpAnyP_one 10 (o := o13_7_10) rfl (by kernel_rfl) (by rfl) (fun K hK => ?_)
    refine oper_make 3 (cs := #[.slice A0 l0.length c0, .slice (some ⟨g6, 0, none⟩) 1 1, .slice C1 (l0.length - l0.length) (c0 - l0.length)]) (t := 22) (by (try simp only [o13_7_10]); first | (go_simp; done) | (go_simp; rfl)) (fun g10 hg w1 hbox hb => ?_)
    have BK1 := Aside0.mk (blk_below BK.out hb)
    have HB1 := Aside0.mk (below_step HB.out hb)
    have Gg61 := Aside0.mk (blk_below Gg6.out hb)
    clear HS BK HB Gg6
    have BK := BK1; clear BK1
    have HB := HB1; clear HB1
    have Gg6 := Gg61; clear Gg61
    have Gg10 := Aside0.mk hbox
    clear hbox hb hg
    have HS := Aside0.mk (show _ = some (Value.int .i64 a1) from (blk_cell BK.out 0).trans rfl)
    refine hK _ _ (fun _ => HS.out) ?_
    clear hK K
    try simp only [Act.put, o13_7_10, List.setIfInBounds_toArray, List.set_cons_zero, List.set_cons_succ]
    refine wpAnyP_one 11 (o := o13_7_11) rfl (by kernel_rfl) (by rfl) (fun K hK => ?_)
    have HK := Aside0.mk hK
    clear hK
    try simp only [o13_7_11]
    go_simp
    go_at_call 26
    refine (cat3g Gg10.out HT.out.1 HT.out.2.1 (Kd.C_below HT.out.2.2 HB.out) rfl (Nat.le_refl 1) (C_fr1 Gg6.out) HD.out.1 HD.out.2.1 (Kd.C_below HD.out.2.2 HB.out) (by rw [List.length_take]; omega) (by simp) (by rw [List.length_drop]; omega)).mono ?_
    rintro e w1 ⟨B, n, c, rfl, ho, hb⟩
    have HV := Aside0.mk (Kd.V_lower (base' := w.heap.size) (Kd.V_mono (R_toV ho) (fun k hk => Nat.le_trans (below_size HB.out) hk)) (below_size HB.out))
    clear ho
    have BK1 := Aside0.mk (blk_below BK.out hb)
    have HB1 := Aside0.mk (below_step HB.out hb)
    clear HS BK HB
    have BK := BK1; clear BK1
    have HB := HB1; clear HB1
    clear hb
    have HS := Aside0.mk (show _ = some (Value.int .i64 a1) from (blk_cell BK.out 0).trans rfl)
    refine HK.out _ _ (fun _ => HS.out) ?_
    clear HK K
    try simp only [Act.put, o13_7_11, List.setIfInBounds_toArray, List.set_cons_zero, List.set_cons_succ]
    refine wpAnyP_one 12 (o := o13_7_12) rfl (by kernel_rfl) (by rfl) (fun K hK => ?_)
    have HK := Aside0.mk hK
    clear hK
    try simp only [o13_7_12]
    go_simp
    refine HK.out _ _ (fun h_ => absurd h_ (by decide)) ?_
    clear HK K
    try simp only [Act.put, o13_7_12, List.setIfInBounds_toArray, List.set_cons_zero, List.set_cons_succ]
    refine wpAnyP_done (by kernel_rfl) ?_ _
    clear HS
    go_wp2
    go_ret
    exact ⟨_, rfl, by rw [HE.out]; exact HV.out, HB.out⟩
  · have HE := Aside0.mk (putF_hit a1 a2 l0 q x hn hx (by simpa using hp))
    obtain ⟨ad, x', rfl, hx', hc0_, hc1_⟩ := fr_at (Kd.C_below H0.out HB.out) q hq
    obtain rfl : x' = x := by have := hx'.out; rw [hx] at this; exact (Option.some.inj this).symm
    clear hx hx' hp hn
    have hd : decide ((q : Int) < (l0.length : Int)) = true := by simp; omega
    have hd2 : decide (q < l0.length) = true := by simp; omega
    have hq1 : (q : Int) < (l0.length : Int) := by omega
    have hq0 : (0 : Int) ≤ (q : Int) := by omega
    by_cases he : x'.f0 = a1
    · have b1 : (x'.f0 == a1) = true := beq_iff_eq.2 he
      rw [if_pos he] at HE
      clear he
      obtain ⟨p, hp⟩ : ∃ p, p = q + 1 := ⟨_, rfl⟩
      have hw1 : IntKind.i64.wrap ((q : Int) + 1) = (p : Int) := by rw [i64_w]; unfold Go.RowKit.wrap64; omega
      have hp1 : p ≤ l0.length := by omega
      rw [← hp] at HE
      clear hp
      go_upto_region 5 with (fail)
      go_quiet (fail)
      clear hc0_ hc1_
      generalize hW : World.drewN w3 _ = w4
      have BK1 : Aside0 (w4.heap[gk]? = some (.cells #[.int .i64 a1] 3 (0, 0))) := ⟨by rw [← hW]; exact blk_drewN BK.out _⟩
      have HB1 : Aside0 (Below w.heap.size w w4) := ⟨by rw [← hW]; exact pw_below_drewN HB.out _⟩
      clear BK HB hk0 hW
      have BK := BK1; have HB := HB1; clear BK1 HB1
      have hk0 : _ = some (Value.int .i64 a1) := (blk_cell BK.out 0).trans rfl
      go_upto_region 7 with (fail)
      have cut1 := fun W => cutH 22 25 _ 16 Try.underlying22 info25 (some ad) l0.length c0 q (by omega) W
      obtain ⟨C1, eC1, cut2⟩ := cutL 22 25 _ 16 Try.underlying22 info25 (some ad) l0.length c0 p (by omega)
      have HT := Aside0.mk (take_C H0.out hc0 (q := q) (by omega))
      have HD := Aside0.mk (drop_C H0.out hc0 (q := p) (by omega) eC1)
      have BK1 := Aside0.mk (blk_drew BK.out)
      have HB1 := Aside0.mk (below_drew1 HB.out)
      clear BK HB eC1 hk0
      have BK := BK1; have HB := HB1; clear BK1 HB1
      have HS := Aside0.mk (show _ = some (Value.int .i64 a1) from (blk_cell BK.out 0).trans rfl)
      refine wp_region_P (fun w' => w'.cell? ⟨gk, 0, none⟩ = some (.int .i64 a1)) 12 (by kernel_rfl) ?_
      generalize World.drew _ = w5 at *
      refine wpAnyP_take 0 (oi := o13_7_0) (v := ?_) rfl (by kernel_rfl) (fun _ _ _ h => h) (by rfl) HS.out ?_ ?_; rotate_left
      · intro w_ hSw; obtain hs0 := hSw; (try simp only [o13_7_0]); first | (go_simp; done) | (go_simp; with_reducible rfl)
      try simp only [Act.put, o13_7_0, List.setIfInBounds_toArray, List.set_cons_zero, List.set_cons_succ]
      refine wpAnyP_take 1 (oi := o13_7_1) (v := ?_) rfl (by kernel_rfl) (fun _ _ _ h => h) (by rfl) HS.out ?_ ?_; rotate_left
      · intro w_ hSw; obtain hs0 := hSw; (try simp only [o13_7_1]); first | (go_simp; done) | (go_simp; with_reducible rfl)
      try simp only [Act.put, o13_7_1, List.setIfInBounds_toArray, List.set_cons_zero, List.set_cons_succ]
      refine wpAnyP_take 2 (oi := o13_7_2) (v := ?_) rfl (by kernel_rfl) (fun _ _ _ h => h) (by rfl) HS.out ?_ ?_; rotate_left
      · intro w_ hSw; obtain hs0 := hSw; (try simp only [o13_7_2]); first | (go_simp; done) | (go_simp; with_reducible rfl)
      try simp only [Act.put, o13_7_2, List.setIfInBounds_toArray, List.set_cons_zero, List.set_cons_succ]
      refine wpAnyP_take 3 (oi := o13_7_3) (v := ?_) rfl (by kernel_rfl) (fun _ _ _ h => h) (by rfl) HS.out ?_ ?_; rotate_left
      · intro w_ hSw; obtain hs0 := hSw; (try simp only [o13_7_3]); first | (go_simp; done) | (go_simp; with_reducible rfl)
      try simp only [Act.put, o13_7_3, List.setIfInBounds_toArray, List.set_cons_zero, List.set_cons_succ]
      refine wpAnyP_take 4 (oi := o13_7_4) (v := ?_) rfl (by kernel_rfl) (fun _ _ _ h => h) (by rfl) HS.out ?_ ?_; rotate_left
      · intro w_ hSw; obtain hs0 := hSw; (try simp only [o13_7_4]); first | (go_simp; done) | (go_simp; with_reducible rfl)
      try simp only [Act.put, o13_7_4, List.setIfInBounds_toArray, List.set_cons_zero, List.set_cons_succ]
      refine wpAnyP_take 5 (oi := o13_7_5) (v := ?_) rfl (by kernel_rfl) (fun _ _ _ h => h) (by rfl) HS.out ?_ ?_; rotate_left
      · intro w_ hSw; obtain hs0 := hSw; (try simp only [o13_7_5]); first | (go_simp; done) | (go_simp; with_reducible rfl)
      try simp only [Act.put, o13_7_5, List.setIfInBounds_toArray, List.set_cons_zero, List.set_cons_succ]
      refine wpAnyP_take 7 (oi := o13_7_7) (v := ?_) rfl (by kernel_rfl) (fun _ _ _ h => h) (by rfl) HS.out ?_ ?_; rotate_left
      · intro w_ hSw; obtain hs0 := hSw; (try simp only [o13_7_7]); first | (go_simp; done) | (go_simp; with_reducible rfl)
      try simp only [Act.put, o13_7_7, List.setIfInBounds_toArray, List.set_cons_zero, List.set_cons_succ]
      refine wpAnyP_take 8 (oi := o13_7_8) (v := ?_) rfl (by kernel_rfl) (fun _ _ _ h => h) (by rfl) HS.out ?_ ?_; rotate_left
      · intro w_ hSw; obtain hs0 := hSw; (try simp only [o13_7_8]); first | (go_simp; done) | (go_simp; with_reducible rfl)
      try simp only [Act.put, o13_7_8, List.setIfInBounds_toArray, List.set_cons_zero, List.set_cons_succ]
      refine wpAnyP_take 9 (oi := o13_7_9) (v := ?_) rfl (by kernel_rfl) (fun _ _ _ h => h) (by rfl) HS.out ?_ ?_; rotate_left
      · intro w_ hSw; obtain hs0 := hSw; (try simp only [o13_7_9]); first | (go_simp; done) | (go_simp; with_reducible rfl)
      try simp only [Act.put, o13_7_9, List.setIfInBounds_toArray, List.set_cons_zero, List.set_cons_succ]
      refine wpAnyP_one 6 (o := o13_7_6) rfl (by kernel_rfl) (by rfl) (fun K hK => ?_)
      refine oper_make 1 (cs := #[.int .i64 a1, .int .i64 a2]) (t := 25) (by (try simp only [o13_7_6]); first | (go_simp; done) | (go_simp; rfl)) (fun g6 hg w1 hbox hb => ?_)
      have BK1 := Aside0.mk (blk_below BK.out hb)
      have HB1 := Aside0.mk (below_step HB.out hb)
      clear HS BK HB
      have BK := BK1; clear BK1
      have HB := HB1; clear HB1
      have Gg6 := Aside0.mk hbox
      clear hbox hb hg
      have HS := Aside0.mk (show _ = some (Value.int .i64 a1) from (blk_cell BK.out 0).trans rfl)
      refine hK _ _ (fun _ => HS.out) ?_
      clear hK K
      try simp only [Act.put, o13_7_6, List.setIfInBounds_toArray, List.set_cons_zero, List.set_cons_succ]
      refine wpAnyP_one 10 (o := o13_7_10) rfl (by kernel_rfl) (by rfl) (fun K hK => ?_)
      refine oper_make 3 (cs := #[.slice (some ad) q c0, .slice (some ⟨g6, 0, none⟩) 1 1, .slice C1 (l0.length - p) (c0 - p)]) (t := 22) (by (try simp only [o13_7_10]); first | (go_simp; done) | (go_simp; rfl)) (fun g10 hg w1 hbox hb => ?_)
      have BK1 := Aside0.mk (blk_below BK.out hb)
      have HB1 := Aside0.mk (below_step HB.out hb)
      have Gg61 := Aside0.mk (blk_below Gg6.out hb)
      clear HS BK HB Gg6
      have BK := BK1; clear BK1
      have HB := HB1; clear HB1
      have Gg6 := Gg61; clear Gg61
      have Gg10 := Aside0.mk hbox
      clear hbox hb hg
      have HS := Aside0.mk (show _ = some (Value.int .i64 a1) from (blk_cell BK.out 0).trans rfl)
      refine hK _ _ (fun _ => HS.out) ?_
      clear hK K
      try simp only [Act.put, o13_7_10, List.setIfInBounds_toArray, List.set_cons_zero, List.set_cons_succ]
      refine wpAnyP_one 11 (o := o13_7_11) rfl (by kernel_rfl) (by rfl) (fun K hK => ?_)
      have HK := Aside0.mk hK
      clear hK
      try simp only [o13_7_11]
      go_simp
      go_at_call 26
      refine (cat3g Gg10.out HT.out.1 HT.out.2.1 (Kd.C_below HT.out.2.2 HB.out) rfl (Nat.le_refl 1) (C_fr1 Gg6.out) HD.out.1 HD.out.2.1 (Kd.C_below HD.out.2.2 HB.out) (by rw [List.length_take]; omega) (by simp) (by rw [List.length_drop]; omega)).mono ?_
      rintro e w1 ⟨B, n, c, rfl, ho, hb⟩
      have HV := Aside0.mk (Kd.V_lower (base' := w.heap.size) (Kd.V_mono (R_toV ho) (fun k hk => Nat.le_trans (below_size HB.out) hk)) (below_size HB.out))
      clear ho
      have BK1 := Aside0.mk (blk_below BK.out hb)
      have HB1 := Aside0.mk (below_step HB.out hb)
      clear HS BK HB
      have BK := BK1; clear BK1
      have HB := HB1; clear HB1
      clear hb
      have HS := Aside0.mk (show _ = some (Value.int .i64 a1) from (blk_cell BK.out 0).trans rfl)
      refine HK.out _ _ (fun _ => HS.out) ?_
      clear HK K
      try simp only [Act.put, o13_7_11, List.setIfInBounds_toArray, List.set_cons_zero, List.set_cons_succ]
      refine wpAnyP_one 12 (o := o13_7_12) rfl (by kernel_rfl) (by rfl) (fun K hK => ?_)
      have HK := Aside0.mk hK
      clear hK
      try simp only [o13_7_12]
      go_simp
      refine HK.out _ _ (fun h_ => absurd h_ (by decide)) ?_
      clear HK K
      try simp only [Act.put, o13_7_12, List.setIfInBounds_toArray, List.set_cons_zero, List.set_cons_succ]
      refine wpAnyP_done (by kernel_rfl) ?_ _
      clear HS
      go_wp2
      go_ret
      exact ⟨_, rfl, by rw [HE.out]; exact HV.out, HB.out⟩
    · have b1 : (x'.f0 == a1) = false := beq_eq_false_iff_ne.2 he
      rw [if_neg he] at HE
      clear he
      go_upto_region 5 with (fail)
      go_quiet (fail)
      clear hc0_ hc1_
      generalize hW : World.drewN w3 _ = w4
      have BK1 : Aside0 (w4.heap[gk]? = some (.cells #[.int .i64 a1] 3 (0, 0))) := ⟨by rw [← hW]; exact blk_drewN BK.out _⟩
      have HB1 : Aside0 (Below w.heap.size w w4) := ⟨by rw [← hW]; exact pw_below_drewN HB.out _⟩
      clear BK HB hk0 hW
      have BK := BK1; have HB := HB1; clear BK1 HB1
      have hk0 : _ = some (Value.int .i64 a1) := (blk_cell BK.out 0).trans rfl
      go_upto_region 7 with (fail)
      have cut1 := fun W => cutH 22 25 _ 16 Try.underlying22 info25 (some ad) l0.length c0 q (by omega) W
      obtain ⟨C1, eC1, cut2⟩ := cutL 22 25 _ 16 Try.underlying22 info25 (some ad) l0.length c0 q (by omega)
      have HT := Aside0.mk (take_C H0.out hc0 (q := q) (by omega))
      have HD := Aside0.mk (drop_C H0.out hc0 (q := q) (by omega) eC1)
      have BK1 := Aside0.mk (blk_drew BK.out)
      have HB1 := Aside0.mk (below_drew1 HB.out)
      clear BK HB eC1 hk0
      have BK := BK1; have HB := HB1; clear BK1 HB1
      have HS := Aside0.mk (show _ = some (Value.int .i64 a1) from (blk_cell BK.out 0).trans rfl)
      refine wp_region_P (fun w' => w'.cell? ⟨gk, 0, none⟩ = some (.int .i64 a1)) 12 (by kernel_rfl) ?_
      generalize World.drew _ = w5 at *
      refine wpAnyP_take 0 (oi := o13_7_0) (v := ?_) rfl (by kernel_rfl) (fun _ _ _ h => h) (by rfl) HS.out ?_ ?_; rotate_left
      · intro w_ hSw; obtain hs0 := hSw; (try simp only [o13_7_0]); first | (go_simp; done) | (go_simp; with_reducible rfl)
      try simp only [Act.put, o13_7_0, List.setIfInBounds_toArray, List.set_cons_zero, List.set_cons_succ]
      refine wpAnyP_take 1 (oi := o13_7_1) (v := ?_) rfl (by kernel_rfl) (fun _ _ _ h => h) (by rfl) HS.out ?_ ?_; rotate_left
      · intro w_ hSw; obtain hs0 := hSw; (try simp only [o13_7_1]); first | (go_simp; done) | (go_simp; with_reducible rfl)
      try simp only [Act.put, o13_7_1, List.setIfInBounds_toArray, List.set_cons_zero, List.set_cons_succ]
      refine wpAnyP_take 2 (oi := o13_7_2) (v := ?_) rfl (by kernel_rfl) (fun _ _ _ h => h) (by rfl) HS.out ?_ ?_; rotate_left
      · intro w_ hSw; obtain hs0 := hSw; (try simp only [o13_7_2]); first | (go_simp; done) | (go_simp; with_reducible rfl)
      try simp only [Act.put, o13_7_2, List.setIfInBounds_toArray, List.set_cons_zero, List.set_cons_succ]
      refine wpAnyP_take 3 (oi := o13_7_3) (v := ?_) rfl (by kernel_rfl) (fun _ _ _ h => h) (by rfl) HS.out ?_ ?_; rotate_left
      · intro w_ hSw; obtain hs0 := hSw; (try simp only [o13_7_3]); first | (go_simp; done) | (go_simp; with_reducible rfl)
      try simp only [Act.put, o13_7_3, List.setIfInBounds_toArray, List.set_cons_zero, List.set_cons_succ]
      refine wpAnyP_take 4 (oi := o13_7_4) (v := ?_) rfl (by kernel_rfl) (fun _ _ _ h => h) (by rfl) HS.out ?_ ?_; rotate_left
      · intro w_ hSw; obtain hs0 := hSw; (try simp only [o13_7_4]); first | (go_simp; done) | (go_simp; with_reducible rfl)
      try simp only [Act.put, o13_7_4, List.setIfInBounds_toArray, List.set_cons_zero, List.set_cons_succ]
      refine wpAnyP_take 5 (oi := o13_7_5) (v := ?_) rfl (by kernel_rfl) (fun _ _ _ h => h) (by rfl) HS.out ?_ ?_; rotate_left
      · intro w_ hSw; obtain hs0 := hSw; (try simp only [o13_7_5]); first | (go_simp; done) | (go_simp; with_reducible rfl)
      try simp only [Act.put, o13_7_5, List.setIfInBounds_toArray, List.set_cons_zero, List.set_cons_succ]
      refine wpAnyP_take 7 (oi := o13_7_7) (v := ?_) rfl (by kernel_rfl) (fun _ _ _ h => h) (by rfl) HS.out ?_ ?_; rotate_left
      · intro w_ hSw; obtain hs0 := hSw; (try simp only [o13_7_7]); first | (go_simp; done) | (go_simp; with_reducible rfl)
      try simp only [Act.put, o13_7_7, List.setIfInBounds_toArray, List.set_cons_zero, List.set_cons_succ]
      refine wpAnyP_take 8 (oi := o13_7_8) (v := ?_) rfl (by kernel_rfl) (fun _ _ _ h => h) (by rfl) HS.out ?_ ?_; rotate_left
      · intro w_ hSw; obtain hs0 := hSw; (try simp only [o13_7_8]); first | (go_simp; done) | (go_simp; with_reducible rfl)
      try simp only [Act.put, o13_7_8, List.setIfInBounds_toArray, List.set_cons_zero, List.set_cons_succ]
      refine wpAnyP_take 9 (oi := o13_7_9) (v := ?_) rfl (by kernel_rfl) (fun _ _ _ h => h) (by rfl) HS.out ?_ ?_; rotate_left
      · intro w_ hSw; obtain hs0 := hSw; (try simp only [o13_7_9]); first | (go_simp; done) | (go_simp; with_reducible rfl)
      try simp only [Act.put, o13_7_9, List.setIfInBounds_toArray, List.set_cons_zero, List.set_cons_succ]
      refine wpAnyP_one 6 (o := o13_7_6) rfl (by kernel_rfl) (by rfl) (fun K hK => ?_)
      refine oper_make 1 (cs := #[.int .i64 a1, .int .i64 a2]) (t := 25) (by (try simp only [o13_7_6]); first | (go_simp; done) | (go_simp; rfl)) (fun g6 hg w1 hbox hb => ?_)
      have BK1 := Aside0.mk (blk_below BK.out hb)
      have HB1 := Aside0.mk (below_step HB.out hb)
      clear HS BK HB
      have BK := BK1; clear BK1
      have HB := HB1; clear HB1
      have Gg6 := Aside0.mk hbox
      clear hbox hb hg
      have HS := Aside0.mk (show _ = some (Value.int .i64 a1) from (blk_cell BK.out 0).trans rfl)
      refine hK _ _ (fun _ => HS.out) ?_
      clear hK K
      try simp only [Act.put, o13_7_6, List.setIfInBounds_toArray, List.set_cons_zero, List.set_cons_succ]
      refine wpAnyP_one 10 (o := o13_7_10) rfl (by kernel_rfl) (by rfl) (fun K hK => ?_)
      refine oper_make 3 (cs := #[.slice (some ad) q c0, .slice (some ⟨g6, 0, none⟩) 1 1, .slice C1 (l0.length - q) (c0 - q)]) (t := 22) (by (try simp only [o13_7_10]); first | (go_simp; done) | (go_simp; rfl)) (fun g10 hg w1 hbox hb => ?_)
      have BK1 := Aside0.mk (blk_below BK.out hb)
      have HB1 := Aside0.mk (below_step HB.out hb)
      have Gg61 := Aside0.mk (blk_below Gg6.out hb)
      clear HS BK HB Gg6
      have BK := BK1; clear BK1
      have HB := HB1; clear HB1
      have Gg6 := Gg61; clear Gg61
      have Gg10 := Aside0.mk hbox
      clear hbox hb hg
      have HS := Aside0.mk (show _ = some (Value.int .i64 a1) from (blk_cell BK.out 0).trans rfl)
      refine hK _ _ (fun _ => HS.out) ?_
      clear hK K
      try simp only [Act.put, o13_7_10, List.setIfInBounds_toArray, List.set_cons_zero, List.set_cons_succ]
      refine wpAnyP_one 11 (o := o13_7_11) rfl (by kernel_rfl) (by rfl) (fun K hK => ?_)
      have HK := Aside0.mk hK
      clear hK
      try simp only [o13_7_11]
      go_simp
      go_at_call 26
      refine (cat3g Gg10.out HT.out.1 HT.out.2.1 (Kd.C_below HT.out.2.2 HB.out) rfl (Nat.le_refl 1) (C_fr1 Gg6.out) HD.out.1 HD.out.2.1 (Kd.C_below HD.out.2.2 HB.out) (by rw [List.length_take]; omega) (by simp) (by rw [List.length_drop]; omega)).mono ?_
      rintro e w1 ⟨B, n, c, rfl, ho, hb⟩
      have HV := Aside0.mk (Kd.V_lower (base' := w.heap.size) (Kd.V_mono (R_toV ho) (fun k hk => Nat.le_trans (below_size HB.out) hk)) (below_size HB.out))
      clear ho
      have BK1 := Aside0.mk (blk_below BK.out hb)
      have HB1 := Aside0.mk (below_step HB.out hb)
      clear HS BK HB
      have BK := BK1; clear BK1
      have HB := HB1; clear HB1
      clear hb
      have HS := Aside0.mk (show _ = some (Value.int .i64 a1) from (blk_cell BK.out 0).trans rfl)
      refine HK.out _ _ (fun _ => HS.out) ?_
      clear HK K
      try simp only [Act.put, o13_7_11, List.setIfInBounds_toArray, List.set_cons_zero, List.set_cons_succ]
      refine wpAnyP_one 12 (o := o13_7_12) rfl (by kernel_rfl) (by rfl) (fun K hK => ?_)
      have HK := Aside0.mk hK
      clear hK
      try simp only [o13_7_12]
      go_simp
      refine HK.out _ _ (fun h_ => absurd h_ (by decide)) ?_
      clear HK K
      try simp only [Act.put, o13_7_12, List.setIfInBounds_toArray, List.set_cons_zero, List.set_cons_succ]
      refine wpAnyP_done (by kernel_rfl) ?_ _
      clear HS
      go_wp2
      go_ret
      exact ⟨_, rfl, by rw [HE.out]; exact HV.out, HB.out⟩
end Go.Proofs.Ytmplcceghjofhaa.PF
