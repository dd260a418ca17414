/- free.Take -/
import Derived.Test.YtmplcceghjofhaaHPut
namespace Go.Proofs.Ytmplcceghjofhaa.PF
open Go.RowKit Go.Proofs.YtmplcceghjofhaaW.PrintWords Go.Proofs.YtmplcceghjofhaaW.PrintLast Go.Proofs.YtmplcceghjofhaaW.PrintMore
set_option linter.unusedVariables false
set_option linter.unusedSimpArgs false
theorem takeF_miss (o : Int) (l : List S25) (h : l.any (fun x => decide (x.f1 ≤ o)) = false) : takeF o l = (0, l, false) := by
  induction l with
  | nil => rfl
  | cons x r ih =>
    simp only [List.any_cons, Bool.or_eq_false_iff, decide_eq_false_iff_not] at h
    unfold takeF
    rw [if_neg h.1, ih h.2]
theorem takeF_hit (o : Int) (l : List S25) : ∀ (q : Nat) (x : S25), (l.take q).any (fun x => decide (x.f1 ≤ o)) = false → l[q]? = some x → x.f1 ≤ o → takeF o l = (x.f0, l.take q ++ l.drop (q + 1), true) := by
  induction l with
  | nil => intro q x _ hx; simp at hx
  | cons y r ih =>
    intro q x hn hx hp
    cases q with
    | zero =>
      simp at hx
      subst hx
      unfold takeF
      rw [if_pos hp]
      rfl
    | succ q =>
      simp only [List.take_succ_cons, List.any_cons, Bool.or_eq_false_iff, decide_eq_false_iff_not] at hn
      unfold takeF
      rw [if_neg hn.1, ih q x hn.2 (by simpa using hx) hp]
      rfl
theorem cell_keep {w : World} {p : Addr} {v : Value} (h : w.cell? p = some v) : ∀ W', Below w.heap.size w W' → W'.cell? p = some v := fun W' hb => (hb.cell (World.block_lt_of_cell? w p h)).trans h
abbrev o14_4_0 : Oper := { dst := some 15, op := .move (.tmp 0), type := 22, pos := "free.go:46", after := #[], guard := none }
abbrev o14_4_1 : Oper := { dst := some 16, op := .move (.tmp 7), type := 3, pos := "free.go:46", after := #[], guard := none }
abbrev o14_4_2 : Oper := { dst := some 17, op := .indexAddr 22 (.tmp 15) (.tmp 16), type := 0, pos := "free.go:46", after := #[{ on := 0, ground := .data }, { on := 1, ground := .data }], guard := none }
abbrev o14_4_3 : Oper := { dst := some 18, op := .fieldAddr 25 (.tmp 17) 0, type := 0, pos := "free.go:46", after := #[{ on := 2, ground := .data }], guard := none }
abbrev o14_4_4 : Oper := { dst := some 19, op := .load 3 (.tmp 18), type := 3, pos := "free.go:46", after := #[{ on := 3, ground := .data }], guard := none }
abbrev o14_4_5 : Oper := { dst := some 20, op := .move (.tmp 0), type := 22, pos := "free.go:46", after := #[], guard := none }
abbrev o14_4_6 : Oper := { dst := some 21, op := .move (.tmp 7), type := 3, pos := "free.go:46", after := #[], guard := none }
abbrev o14_4_7 : Oper := { dst := some 22, op := .slice 22 (.tmp 20) none (some (.tmp 21)) none, type := 22, pos := "free.go:46", after := #[{ on := 5, ground := .data }, { on := 6, ground := .data }], guard := none }
abbrev o14_4_8 : Oper := { dst := some 23, op := .move (.tmp 0), type := 22, pos := "free.go:46", after := #[], guard := none }
abbrev o14_4_9 : Oper := { dst := some 24, op := .move (.tmp 7), type := 3, pos := "free.go:46", after := #[], guard := none }
abbrev o14_4_10 : Oper := { dst := some 25, op := .binOp .add 3 (.tmp 24) (.const (.int .i64 1)) 3, type := 3, pos := "free.go:46", after := #[{ on := 9, ground := .data }], guard := none }
abbrev o14_4_11 : Oper := { dst := some 26, op := .slice 22 (.tmp 23) (some (.tmp 25)) none none, type := 22, pos := "free.go:46", after := #[{ on := 8, ground := .data }, { on := 10, ground := .data }], guard := none }
abbrev o14_4_12 : Oper := { dst := some 27, op := .buildSlice 61 2 #[(0, .tmp 22), (1, .tmp 26)], type := 61, pos := "free.go:46", after := #[{ on := 7, ground := .data }, { on := 11, ground := .data }], guard := none }
abbrev o14_4_13 : Oper := { dst := some 28, op := .call { callee := .value (.func 26), args := #[.tmp 27], argTypes := #[61] }, type := 22, pos := "free.go:46", after := #[{ on := 12, ground := .data }], guard := none }
abbrev o14_4_14 : Oper := { dst := some 4, op := .assign (.tmp 19), type := 3, pos := "free.go:46", after := #[{ on := 4, ground := .data }, { on := 13, ground := .chain }, { on := 0, ground := .phase }, { on := 1, ground := .phase }, { on := 2, ground := .phase }, { on := 3, ground := .phase }, { on := 4, ground := .phase }, { on := 5, ground := .textOnly .lateStores }, { on := 6, ground := .textOnly .lateStores }, { on := 7, ground := .textOnly .lateStoresUnsure }, { on := 8, ground := .textOnly .lateStores }, { on := 9, ground := .textOnly .lateStores }, { on := 10, ground := .textOnly .lateStores }, { on := 11, ground := .textOnly .lateStoresUnsure }, { on := 12, ground := .textOnly .lateStores }, { on := 13, ground := .textOnly .lateStoresUnsure }], guard := none }
abbrev o14_4_15 : Oper := { dst := some 5, op := .assign (.tmp 28), type := 22, pos := "free.go:46", after := #[{ on := 13, ground := .data }, { on := 14, ground := .chain }, { on := 0, ground := .phase }, { on := 1, ground := .phase }, { on := 2, ground := .phase }, { on := 3, ground := .phase }, { on := 4, ground := .phase }, { on := 5, ground := .phase }, { on := 6, ground := .phase }, { on := 7, ground := .phase }, { on := 8, ground := .phase }, { on := 9, ground := .phase }, { on := 10, ground := .phase }, { on := 11, ground := .phase }, { on := 12, ground := .phase }, { on := 13, ground := .phase }, { on := 14, ground := .phase }], guard := none }
abbrev o14_4_16 : Oper := { dst := some 6, op := .assign (.const (.bool true)), type := 4, pos := "free.go:46", after := #[{ on := 15, ground := .chain }, { on := 0, ground := .phase }, { on := 1, ground := .phase }, { on := 2, ground := .phase }, { on := 3, ground := .phase }, { on := 4, ground := .phase }, { on := 5, ground := .phase }, { on := 6, ground := .phase }, { on := 7, ground := .phase }, { on := 8, ground := .phase }, { on := 9, ground := .phase }, { on := 10, ground := .phase }, { on := 11, ground := .phase }, { on := 12, ground := .phase }, { on := 13, ground := .phase }, { on := 14, ground := .phase }, { on := 15, ground := .phase }], guard := none }
set_option maxHeartbeats 8000000 in
set_option maxRecDepth 100000 in
theorem free_Take.calls (A0 : Option Addr) (c0 : Nat) (l0 : List (S25)) (a1 : Int) (r1 : Int) (r2 : List (S25)) (r3 : Bool) (w : World) (hr0 : Kd.C k25 w A0 l0.length l0) (hc0 : l0.length ≤ c0) (h : free_Take.f l0 a1 = some (r1, r2, r3)) :
    Calls Try.prog 14 #[.slice A0 l0.length c0, .int .i64 a1] w fun e w' => ∃ v1_ : Value, e = .returned (.tuple #[.int .i64 r1, v1_, .bool r3]) ∧ Kd.V k25 25 w' w.heap.size (fun k_ => (w.heap.size ≤ k_)) v1_ r2 ∧ Below w.heap.size w w' := by
  unfold free_Take.f at h
  split at h
  case isFalse => cases h
  rename_i hl
  have HR := Aside0.mk (Option.some.inj h)
  have H0 := Aside0.mk hr0
  have hu25 := Try.underlying25
  clear h hr0
  go_enter Try.func14, Try.ntmps14
  go_wp2_with ((with_reducible refine gate_dst (N := 3) rfl ?_); refine box_event ?hg (N := 3) ?hd (cs := #[.int .i64 a1]) (t := 3) ?hr ?_; (case hd => rfl); (case hg => rfl); (case hr => first | (go_simp; done) | (go_simp; rfl)); intro gk hg w2 hbox hb; have HB := Aside0.mk hb; have BK := Aside0.mk hbox; clear hg hbox hb)
  refine (index27 (fun x => decide (x.f1 ≤ a1)) gk A0 c0 l0 _ (fun x W hb => pred27 x a1 gk W ((blk_cell (blk_below BK.out hb) 0).trans rfl)) (Kd.C_below H0.out HB.out) (by omega)).mono ?_
  rintro e w3 ⟨rfl, hb⟩
  have BK1 := Aside0.mk (blk_below BK.out hb)
  have HB1 := Aside0.mk (below_step HB.out hb)
  clear BK HB hb
  have BK := BK1; have HB := HB1; clear BK1 HB1
  have hk0 : _ = some (Value.int .i64 a1) := (blk_cell BK.out 0).trans rfl
  have hsp := idx_split (fun x : S25 => decide (x.f1 ≤ a1)) l0
  generalize idxF (fun x : S25 => decide (x.f1 ≤ a1)) l0 = z at hsp ⊢
  rcases hsp with ⟨hn, rfl⟩ | ⟨q, x, hx, hp, hn, rfl, hq⟩
  · have HE := Aside0.mk (takeF_miss a1 l0 hn)
    rw [HE.out] at HR
    have HR := HR.out
    simp only [Prod.mk.injEq] at HR
    obtain ⟨rfl, rfl, rfl⟩ := HR
    clear hn HE
    go_wp2_with fail
    refine (clone28 A0 c0 l0 _ (Kd.C_below H0.out HB.out) (by omega)).mono ?_
    rintro e w4 ⟨v, rfl, ho, hb⟩
    obtain ⟨B, n, rfl⟩ := Kd.R_slice ho
    have HV := Aside0.mk (Kd.V_lower (base' := w.heap.size) (Kd.V_mono (R_toV ho) (fun k hk => Nat.le_trans (below_size HB.out) hk)) (below_size HB.out))
    have HB1 := Aside0.mk (below_step HB.out hb)
    clear ho hb HB BK hk0
    go_wp2
    go_ret3
    exact ⟨_, rfl, HV.out, HB1.out⟩
  · have HE0 := Aside0.mk (takeF_hit a1 l0 q x hn hx (by simpa using hp))
    rw [HE0.out] at HR
    clear HE0
    have HR := HR.out
    simp only [Prod.mk.injEq] at HR
    obtain ⟨rfl, HR2, rfl⟩ := HR
    have HE := Aside0.mk HR2.symm
    clear HR2
    obtain ⟨ad, x', rfl, hx', hc0_, hc1_⟩ := fr_at H0.out q hq
    obtain rfl : x' = x := by have := hx'.out; rw [hx] at this; exact (Option.some.inj this).symm
    have KX := Aside0.mk (cell_keep hc0_)
    have hx0 := KX.out _ HB.out
    clear hx hx' hp hn hc0_ hc1_
    have hq1 : (q : Int) < (l0.length : Int) := by omega
    have hq0 : (0 : Int) ≤ (q : Int) := by omega
    have hneg : decide ((q : Int) < 0) = false := by simp
    obtain ⟨p, hp⟩ : ∃ p, p = q + 1 := ⟨_, rfl⟩
    have hw1 : IntKind.i64.wrap ((q : Int) + 1) = (p : Int) := by rw [i64_w]; unfold Go.RowKit.wrap64; omega
    have hp1 : p ≤ l0.length := by omega
    rw [← hp] at HE
    clear hp
    go_upto_region 4 with (fail)
    have cut1 := fun W => cutH 22 25 _ 16 Try.underlying22 info25 (some ad) l0.length c0 q (by omega) W
    obtain ⟨C1, eC1, cut2⟩ := cutL 22 25 _ 16 Try.underlying22 info25 (some ad) l0.length c0 p (by omega)
    have HT := Aside0.mk (take_C H0.out hc0 (q := q) (by omega))
    have HD := Aside0.mk (drop_C H0.out hc0 (q := p) (by omega) eC1)
    have HB1 := Aside0.mk (below_drew1 HB.out)
    clear BK HB eC1 hk0 hx0
    have HB := HB1; clear HB1
    have HS := Aside0.mk (KX.out _ HB.out)
    refine wp_region_P (fun w' => w'.cell? (ad.add (q * 2)) = some (.int .i64 x'.f0)) 16 (by kernel_rfl) ?_
    generalize w3.drew = w5 at *
    refine wpAnyP_take 0 (oi := o14_4_0) (v := ?_) rfl (by kernel_rfl) (fun _ _ _ h => h) (by rfl) HS.out ?_ ?_; rotate_left
    · intro w_ hSw; obtain hs0 := hSw; (try simp only [o14_4_0]); first | (go_simp; done) | (go_simp; with_reducible rfl)
    try simp only [Act.put, o14_4_0, List.setIfInBounds_toArray, List.set_cons_zero, List.set_cons_succ]
    refine wpAnyP_take 1 (oi := o14_4_1) (v := ?_) rfl (by kernel_rfl) (fun _ _ _ h => h) (by rfl) HS.out ?_ ?_; rotate_left
    · intro w_ hSw; obtain hs0 := hSw; (try simp only [o14_4_1]); first | (go_simp; done) | (go_simp; with_reducible rfl)
    try simp only [Act.put, o14_4_1, List.setIfInBounds_toArray, List.set_cons_zero, List.set_cons_succ]
    refine wpAnyP_take 2 (oi := o14_4_2) (v := ?_) rfl (by kernel_rfl) (fun _ _ _ h => h) (by rfl) HS.out ?_ ?_; rotate_left
    · intro w_ hSw; obtain hs0 := hSw; (try simp only [o14_4_2]); first | (go_simp; done) | (go_simp; with_reducible rfl)
    try simp only [Act.put, o14_4_2, List.setIfInBounds_toArray, List.set_cons_zero, List.set_cons_succ]
    refine wpAnyP_take 3 (oi := o14_4_3) (v := ?_) rfl (by kernel_rfl) (fun _ _ _ h => h) (by rfl) HS.out ?_ ?_; rotate_left
    · intro w_ hSw; obtain hs0 := hSw; (try simp only [o14_4_3]); first | (go_simp; done) | (go_simp; with_reducible rfl)
    try simp only [Act.put, o14_4_3, List.setIfInBounds_toArray, List.set_cons_zero, List.set_cons_succ]
    refine wpAnyP_take 4 (oi := o14_4_4) (v := ?_) rfl (by kernel_rfl) (fun _ _ _ h => h) (by rfl) HS.out ?_ ?_; rotate_left
    · intro w_ hSw; obtain hs0 := hSw; (try simp only [o14_4_4]); first | (go_simp; done) | (go_simp; with_reducible rfl)
    try simp only [Act.put, o14_4_4, List.setIfInBounds_toArray, List.set_cons_zero, List.set_cons_succ]
    refine wpAnyP_take 5 (oi := o14_4_5) (v := ?_) rfl (by kernel_rfl) (fun _ _ _ h => h) (by rfl) HS.out ?_ ?_; rotate_left
    · intro w_ hSw; obtain hs0 := hSw; (try simp only [o14_4_5]); first | (go_simp; done) | (go_simp; with_reducible rfl)
    try simp only [Act.put, o14_4_5, List.setIfInBounds_toArray, List.set_cons_zero, List.set_cons_succ]
    refine wpAnyP_take 6 (oi := o14_4_6) (v := ?_) rfl (by kernel_rfl) (fun _ _ _ h => h) (by rfl) HS.out ?_ ?_; rotate_left
    · intro w_ hSw; obtain hs0 := hSw; (try simp only [o14_4_6]); first | (go_simp; done) | (go_simp; with_reducible rfl)
    try simp only [Act.put, o14_4_6, List.setIfInBounds_toArray, List.set_cons_zero, List.set_cons_succ]
    refine wpAnyP_take 7 (oi := o14_4_7) (v := ?_) rfl (by kernel_rfl) (fun _ _ _ h => h) (by rfl) HS.out ?_ ?_; rotate_left
    · intro w_ hSw; obtain hs0 := hSw; (try simp only [o14_4_7]); first | (go_simp; done) | (go_simp; with_reducible rfl)
    try simp only [Act.put, o14_4_7, List.setIfInBounds_toArray, List.set_cons_zero, List.set_cons_succ]
    refine wpAnyP_take 8 (oi := o14_4_8) (v := ?_) rfl (by kernel_rfl) (fun _ _ _ h => h) (by rfl) HS.out ?_ ?_; rotate_left
    · intro w_ hSw; obtain hs0 := hSw; (try simp only [o14_4_8]); first | (go_simp; done) | (go_simp; with_reducible rfl)
    try simp only [Act.put, o14_4_8, List.setIfInBounds_toArray, List.set_cons_zero, List.set_cons_succ]
    refine wpAnyP_take 9 (oi := o14_4_9) (v := ?_) rfl (by kernel_rfl) (fun _ _ _ h => h) (by rfl) HS.out ?_ ?_; rotate_left
    · intro w_ hSw; obtain hs0 := hSw; (try simp only [o14_4_9]); first | (go_simp; done) | (go_simp; with_reducible rfl)
    try simp only [Act.put, o14_4_9, List.setIfInBounds_toArray, List.set_cons_zero, List.set_cons_succ]
    refine wpAnyP_take 10 (oi := o14_4_10) (v := ?_) rfl (by kernel_rfl) (fun _ _ _ h => h) (by rfl) HS.out ?_ ?_; rotate_left
    · intro w_ hSw; obtain hs0 := hSw; (try simp only [o14_4_10]); first | (go_simp; done) | (go_simp; with_reducible rfl)
    try simp only [Act.put, o14_4_10, List.setIfInBounds_toArray, List.set_cons_zero, List.set_cons_succ]
    refine wpAnyP_take 11 (oi := o14_4_11) (v := ?_) rfl (by kernel_rfl) (fun _ _ _ h => h) (by rfl) HS.out ?_ ?_; rotate_left
    · intro w_ hSw; obtain hs0 := hSw; (try simp only [o14_4_11]); first | (go_simp; done) | (go_simp; with_reducible rfl)
    try simp only [Act.put, o14_4_11, List.setIfInBounds_toArray, List.set_cons_zero, List.set_cons_succ]
    refine wpAnyP_one 12 (o := o14_4_12) rfl (by kernel_rfl) (by rfl) (fun K hK => ?_)
    refine oper_make 2 (cs := #[.slice (some ad) q c0, .slice C1 (l0.length - p) (c0 - p)]) (t := 22) (by (try simp only [o14_4_12]); first | (go_simp; done) | (go_simp; rfl)) (fun g12 hg w1 hbox hb => ?_)
    have HB1 := Aside0.mk (below_step HB.out hb)
    clear HS HB
    have HB := HB1; clear HB1
    have Gg12 := Aside0.mk hbox
    clear hbox hb hg
    have HS := Aside0.mk (KX.out _ HB.out)
    refine hK _ _ (fun _ => HS.out) ?_
    clear hK K
    try simp only [Act.put, o14_4_12, List.setIfInBounds_toArray, List.set_cons_zero, List.set_cons_succ]
    refine wpAnyP_one 13 (o := o14_4_13) rfl (by kernel_rfl) (by rfl) (fun K hK => ?_)
    have HK := Aside0.mk hK
    clear hK
    try simp only [o14_4_13]
    go_simp
    go_at_call 26
    refine (cat2g Gg12.out HT.out.1 HT.out.2.1 (Kd.C_below HT.out.2.2 HB.out) HD.out.1 HD.out.2.1 (Kd.C_below HD.out.2.2 HB.out) (by rw [List.length_take]; omega) (by rw [List.length_drop]; omega)).mono ?_
    rintro e w1 ⟨B, n, c, rfl, ho, hb⟩
    have HV := Aside0.mk (Kd.V_lower (base' := w.heap.size) (Kd.V_mono (R_toV ho) (fun k hk => Nat.le_trans (below_size HB.out) hk)) (below_size HB.out))
    clear ho
    have HB1 := Aside0.mk (below_step HB.out hb)
    clear HS HB
    have HB := HB1; clear HB1
    clear hb
    have HS := Aside0.mk (KX.out _ HB.out)
    refine HK.out _ _ (fun _ => HS.out) ?_
    clear HK K
    try simp only [Act.put, o14_4_13, List.setIfInBounds_toArray, List.set_cons_zero, List.set_cons_succ]
    refine wpAnyP_one 14 (o := o14_4_14) rfl (by kernel_rfl) (by rfl) (fun K hK => ?_)
    have HK := Aside0.mk hK
    clear hK
    try simp only [o14_4_14]
    go_simp
    refine HK.out _ _ (fun _ => HS.out) ?_
    clear HK K
    try simp only [Act.put, o14_4_14, List.setIfInBounds_toArray, List.set_cons_zero, List.set_cons_succ]
    refine wpAnyP_one 15 (o := o14_4_15) rfl (by kernel_rfl) (by rfl) (fun K hK => ?_)
    have HK := Aside0.mk hK
    clear hK
    try simp only [o14_4_15]
    go_simp
    refine HK.out _ _ (fun _ => HS.out) ?_
    clear HK K
    try simp only [Act.put, o14_4_15, List.setIfInBounds_toArray, List.set_cons_zero, List.set_cons_succ]
    refine wpAnyP_one 16 (o := o14_4_16) rfl (by kernel_rfl) (by rfl) (fun K hK => ?_)
    have HK := Aside0.mk hK
    clear hK
    try simp only [o14_4_16]
    go_simp
    refine HK.out _ _ (fun h_ => absurd h_ (by decide)) ?_
    clear HK K
    try simp only [Act.put, o14_4_16, List.setIfInBounds_toArray, List.set_cons_zero, List.set_cons_succ]
    refine wpAnyP_done (by kernel_rfl) ?_ _
    clear HS
    go_wp2
    go_ret3
    rw [HE.out]
    exact ⟨_, rfl, HV.out, HB.out⟩
end Go.Proofs.Ytmplcceghjofhaa.PF
