/- The document's Drop -/
import Derived.Test.YtpdlbebiapimoaaHRefSt
namespace Go.Proofs.Ytpdlbebiapimoaa.PN
open Go.RowKit Go.Proofs.YtpdlbebiapimoaaW.PrintWords Go.Proofs.YtpdlbebiapimoaaW.PrintLast Go.Proofs.YtpdlbebiapimoaaW.PrintMore
set_option linter.unusedVariables false
set_option linter.unusedSimpArgs false
abbrev o32_8_0 : Oper := { dst := some 26, op := .fieldAddr 25 (.tmp 5) 1, type := 0, pos := "ref.go:119", after := #[], guard := none }
abbrev o32_8_1 : Oper := { dst := some 27, op := .load 22 (.tmp 26), type := 22, pos := "ref.go:119", after := #[{ on := 0, ground := .data }], guard := none }
abbrev o32_8_2 : Oper := { dst := some 28, op := .fieldAddr 25 (.tmp 2) 1, type := 0, pos := "ref.go:119", after := #[], guard := none }
abbrev o32_8_3 : Oper := { dst := some 29, op := .load 22 (.tmp 28), type := 22, pos := "ref.go:119", after := #[{ on := 2, ground := .data }], guard := none }
abbrev o32_8_4 : Oper := { dst := some 30, op := .move (.tmp 6), type := 3, pos := "ref.go:119", after := #[], guard := none }
abbrev o32_8_5 : Oper := { dst := some 31, op := .indexAddr 22 (.tmp 29) (.tmp 30), type := 0, pos := "ref.go:119", after := #[{ on := 3, ground := .data }, { on := 4, ground := .data }], guard := none }
abbrev o32_8_6 : Oper := { dst := some 32, op := .load 9 (.tmp 31), type := 9, pos := "ref.go:119", after := #[{ on := 5, ground := .data }], guard := none }
abbrev o32_8_7 : Oper := { dst := some 33, op := .buildSlice 22 1 #[(0, .tmp 32)], type := 22, pos := "ref.go:119", after := #[{ on := 6, ground := .data }], guard := none }
abbrev o32_8_8 : Oper := { dst := some 34, op := .call { callee := .builtin .append, args := #[.tmp 27, .tmp 33], argTypes := #[22, 22] }, type := 22, pos := "ref.go:119", after := #[{ on := 1, ground := .data }, { on := 7, ground := .data }], guard := none }
abbrev o32_8_9 : Oper := { dst := some 35, op := .fieldAddr 25 (.tmp 5) 2, type := 0, pos := "ref.go:119", after := #[], guard := none }
abbrev o32_8_10 : Oper := { dst := some 36, op := .load 22 (.tmp 35), type := 22, pos := "ref.go:119", after := #[{ on := 9, ground := .data }], guard := none }
abbrev o32_8_11 : Oper := { dst := some 37, op := .fieldAddr 25 (.tmp 2) 2, type := 0, pos := "ref.go:119", after := #[], guard := none }
abbrev o32_8_12 : Oper := { dst := some 38, op := .load 22 (.tmp 37), type := 22, pos := "ref.go:119", after := #[{ on := 11, ground := .data }], guard := none }
abbrev o32_8_13 : Oper := { dst := some 39, op := .move (.tmp 6), type := 3, pos := "ref.go:119", after := #[], guard := none }
abbrev o32_8_14 : Oper := { dst := some 40, op := .indexAddr 22 (.tmp 38) (.tmp 39), type := 0, pos := "ref.go:119", after := #[{ on := 12, ground := .data }, { on := 13, ground := .data }], guard := none }
abbrev o32_8_15 : Oper := { dst := some 41, op := .load 9 (.tmp 40), type := 9, pos := "ref.go:119", after := #[{ on := 14, ground := .data }], guard := none }
abbrev o32_8_16 : Oper := { dst := some 42, op := .buildSlice 22 1 #[(0, .tmp 41)], type := 22, pos := "ref.go:119", after := #[{ on := 15, ground := .data }], guard := none }
abbrev o32_8_17 : Oper := { dst := some 43, op := .call { callee := .builtin .append, args := #[.tmp 36, .tmp 42], argTypes := #[22, 22] }, type := 22, pos := "ref.go:119", after := #[{ on := 10, ground := .data }, { on := 16, ground := .data }, { on := 8, ground := .chain }], guard := none }
abbrev o32_8_18 : Oper := { dst := some 44, op := .fieldAddr 25 (.tmp 5) 1, type := 0, pos := "ref.go:119", after := #[{ on := 0, ground := .phase }, { on := 1, ground := .phase }, { on := 2, ground := .phase }, { on := 3, ground := .phase }, { on := 4, ground := .phase }, { on := 5, ground := .phase }, { on := 6, ground := .phase }, { on := 7, ground := .phase }, { on := 8, ground := .phase }, { on := 9, ground := .phase }, { on := 10, ground := .phase }, { on := 11, ground := .textOnly .lateStores }, { on := 12, ground := .textOnly .lateStores }, { on := 13, ground := .textOnly .lateStores }, { on := 14, ground := .textOnly .lateStores }, { on := 15, ground := .textOnly .lateStores }, { on := 16, ground := .textOnly .lateStores }, { on := 17, ground := .textOnly .lateStoresUnsure }], guard := none }
abbrev o32_8_19 : Oper := { dst := none, op := .store 22 (.tmp 44) (.tmp 34), type := 0, pos := "ref.go:119", after := #[{ on := 18, ground := .data }, { on := 8, ground := .data }, { on := 17, ground := .chain }, { on := 0, ground := .phase }, { on := 1, ground := .phase }, { on := 2, ground := .phase }, { on := 3, ground := .phase }, { on := 4, ground := .phase }, { on := 5, ground := .phase }, { on := 6, ground := .phase }, { on := 7, ground := .phase }, { on := 8, ground := .phase }, { on := 9, ground := .phase }, { on := 10, ground := .phase }, { on := 11, ground := .textOnly .lateStores }, { on := 12, ground := .textOnly .lateStores }, { on := 13, ground := .textOnly .lateStores }, { on := 14, ground := .textOnly .lateStores }, { on := 15, ground := .textOnly .lateStores }, { on := 16, ground := .textOnly .lateStores }, { on := 17, ground := .textOnly .lateStoresUnsure }], guard := none }
abbrev o32_8_20 : Oper := { dst := some 45, op := .fieldAddr 25 (.tmp 5) 2, type := 0, pos := "ref.go:119", after := #[{ on := 0, ground := .phase }, { on := 1, ground := .phase }, { on := 2, ground := .phase }, { on := 3, ground := .phase }, { on := 4, ground := .phase }, { on := 5, ground := .phase }, { on := 6, ground := .phase }, { on := 7, ground := .phase }, { on := 8, ground := .phase }, { on := 9, ground := .phase }, { on := 10, ground := .phase }, { on := 11, ground := .phase }, { on := 12, ground := .phase }, { on := 13, ground := .phase }, { on := 14, ground := .phase }, { on := 15, ground := .phase }, { on := 16, ground := .phase }, { on := 17, ground := .phase }, { on := 18, ground := .phase }, { on := 19, ground := .phase }], guard := none }
abbrev o32_8_21 : Oper := { dst := none, op := .store 22 (.tmp 45) (.tmp 43), type := 0, pos := "ref.go:119", after := #[{ on := 20, ground := .data }, { on := 17, ground := .data }, { on := 19, ground := .chain }, { on := 0, ground := .phase }, { on := 1, ground := .phase }, { on := 2, ground := .phase }, { on := 3, ground := .phase }, { on := 4, ground := .phase }, { on := 5, ground := .phase }, { on := 6, ground := .phase }, { on := 7, ground := .phase }, { on := 8, ground := .phase }, { on := 9, ground := .phase }, { on := 10, ground := .phase }, { on := 11, ground := .phase }, { on := 12, ground := .phase }, { on := 13, ground := .phase }, { on := 14, ground := .phase }, { on := 15, ground := .phase }, { on := 16, ground := .phase }, { on := 17, ground := .phase }, { on := 18, ground := .phase }, { on := 19, ground := .phase }], guard := none }
set_option maxHeartbeats 8000000 in
set_option maxRecDepth 100000 in
theorem lunetteref05_Drop.calls (a0_0 : Bool) (P0_1_ : Nat → Prop) (A0_1 : Option Addr) (c0_1 : Nat) (l0_1 : List ByteArray) (P0_2_ : Nat → Prop) (A0_2 : Option Addr) (c0_2 : Nat) (l0_2 : List ByteArray) (P0_3_ : Nat → Prop) (A0_3 : Option Addr) (c0_3 : Nat) (l0_3 : List Int) (a1 : ByteArray) (r1 : Bool) (r2 : List ByteArray) (r3 : List ByteArray) (r4 : List Int) (w : World) (hs0_1 : Kd.V Kd.string 9 w w.heap.size (fun k_ => P0_1_ k_) (.slice A0_1 l0_1.length c0_1) l0_1) (hs0_2 : Kd.V Kd.string 9 w w.heap.size (fun k_ => P0_2_ k_) (.slice A0_2 l0_2.length c0_2) l0_2) (hs0_3 : Kd.V (Kd.int .i64) 3 w w.heap.size (fun k_ => P0_3_ k_) (.slice A0_3 l0_3.length c0_3) l0_3) (h : lunetteref05_Drop.f a0_0 l0_1 l0_2 l0_3 a1 = some (r1, r2, r3, r4)) :
    Calls Try.prog 32 #[.agg #[.bool a0_0, .slice A0_1 l0_1.length c0_1, .slice A0_2 l0_2.length c0_2, .slice A0_3 l0_3.length c0_3], .string a1] w fun e w' => ∃ v1_ v2_ v3_ : Value, e = .returned (.agg #[.bool r1, v1_, v2_, v3_]) ∧ Kd.V Kd.string 9 w' w.heap.size (fun k_ => ((P0_1_ k_ ∨ P0_2_ k_ ∨ P0_3_ k_) ∨ w.heap.size ≤ k_)) v1_ r2 ∧ Kd.V Kd.string 9 w' w.heap.size (fun k_ => ((P0_1_ k_ ∨ P0_2_ k_ ∨ P0_3_ k_) ∨ w.heap.size ≤ k_)) v2_ r3 ∧ Kd.V (Kd.int .i64) 3 w' w.heap.size (fun k_ => ((P0_1_ k_ ∨ P0_2_ k_ ∨ P0_3_ k_) ∨ w.heap.size ≤ k_)) v3_ r4 ∧ Below w.heap.size w w' := by
  unfold lunetteref05_Drop.f at h
  have H := Aside0.mk h
  clear h
  have H1 := Aside0.mk (Kd.V_reads' hs0_1)
  have H2 := Aside0.mk (Kd.V_reads' hs0_2)
  have H3 := Aside0.mk (Kd.V_reads' hs0_3)
  have V1 := Aside0.mk (Kd.V_bound hs0_1)
  have V2 := Aside0.mk (Kd.V_bound hs0_2)
  have V3 := Aside0.mk (Kd.V_bound hs0_3)
  clear hs0_1 hs0_2 hs0_3
  have hu25 := Try.underlying25
  go_enter Try.func32, Try.ntmps32
  go_upto_region 1 with (first | ((with_reducible refine gate_dst (N := 2) rfl ?_); refine box_event ?hg (N := 2) ?hd (cs := #[.bool a0_0, .slice A0_1 l0_1.length c0_1, .slice A0_2 l0_2.length c0_2, .slice A0_3 l0_3.length c0_3]) (t := 25) ?hr ?_; (case hd => rfl); (case hg => rfl); (case hr => first | (go_simp; done) | (go_simp; rfl)); intro ga hg w2 hbox hb; have HB := Aside0.mk hb; have BA := NBox.mk hbox; clear hg hbox hb) | ((with_reducible refine gate_dst (N := 4) rfl ?_); refine box_event ?hg (N := 4) ?hd (cs := #[.bool false, .slice none 0 0, .slice none 0 0, .slice none 0 0]) (t := 25) ?hr ?_; (case hd => rfl); (case hg => rfl); (case hr => first | (go_simp; done) | (go_simp; rfl)); intro gr hg w4 hbox hb; have NE := Aside0.mk (show ga < gr by have := blk_lt BA.out; omega); replace BA := BA.below hb; have GR := Aside0.mk (Nat.le_trans (below_size HB.out) (Nat.le_of_eq hg.symm)); replace HB := Aside0.mk (below_step HB.out hb); have BR := NBox.mk hbox; clear hg hbox hb))
  obtain ⟨hx0, hx1, hx2, hx3⟩ := BA.cells
  cases a0_0 with
  | false =>
    have HT := H.out
    rw [if_neg (by decide)] at HT
    simp only [Option.some.injEq, Prod.mk.injEq] at HT
    obtain ⟨rfl, rfl, rfl, rfl⟩ := HT
    clear H
    obtain ⟨hz0, hz1, hz2, hz3⟩ := BR.cells
    have hf0 := blk_frozen BR.out 0
    have hf1 := blk_frozen BR.out 1
    have hf2 := blk_frozen BR.out 2
    have hf3 := blk_frozen BR.out 3
    go_wp2
    refine bodyPost_ret (results_single rfl (.cell gr 25 #[.bool false, .slice A0_1 l0_1.length c0_1, .slice A0_2 l0_2.length c0_2, .slice A0_3 l0_3.length c0_3] (0, 0) _ rfl (NBox.put4 BR).out Try.underlying25 rfl (by kernel_rfl) .nil)) rfl ?_
    have hgr := GR.out
    exact ⟨_, _, _, rfl, Kd.V_mono (V_put4 (Kd.V_below V1.out HB.out) (fun k hk => by omega)) (fun k hk => .inl (.inl hk.1)), Kd.V_mono (V_put4 (Kd.V_below V2.out HB.out) (fun k hk => by omega)) (fun k hk => .inl (.inr (.inl hk.1))), Kd.V_mono (V_put4 (Kd.V_below V3.out HB.out) (fun k hk => by omega)) (fun k hk => .inl (.inr (.inr hk.1))), below_put4 HB.out GR.out⟩
  | true =>
    have HT := H.out
    rw [if_pos rfl] at HT
    split at HT
    case isFalse => cases HT
    rename_i hsz
    obtain ⟨hl1, hl2⟩ := hsz
    simp only [Option.some.injEq, Prod.mk.injEq] at HT
    have HE1 := Aside0.mk HT.2.1
    have HE2 := Aside0.mk HT.2.2.1
    obtain ⟨rfl, _, _, rfl⟩ := HT
    have HL2 := Aside0.mk hl2
    clear H hl2
    go_wp2_with (((with_reducible refine gate_dst (N := 5) rfl ?_); refine box_event ?hg (N := 5) ?hd (cs := #[.bool false, .slice none 0 0, .slice none 0 0, .slice none 0 0]) (t := 25) ?hr ?_; (case hd => rfl); (case hg => rfl); (case hr => first | (go_simp; done) | (go_simp; rfl)); intro go hg w5 hbox hb; have NO := Aside0.mk (show ga < go ∧ gr < go by have := blk_lt BA.out; have := blk_lt BR.out; omega); replace BA := BA.below hb; replace BR := BR.below hb; have GO := Aside0.mk (Nat.le_trans (below_size HB.out) (Nat.le_of_eq hg.symm)); replace HB := Aside0.mk (below_step HB.out hb); have BO := NBox.mk hbox; clear hg hbox hb hx0 hx1 hx2 hx3; obtain ⟨hz0, hz1, hz2, hz3⟩ := BO.cells; have hf0 := blk_frozen BO.out 0; have hf1 := blk_frozen BO.out 1; have hf2 := blk_frozen BO.out 2; have hf3 := blk_frozen BO.out 3))
    have ST : Aside0 (St w _ ga gr go _ _ _ _ _ _ _ _ _ _ (.slice none 0 0) (.slice none 0 0) (.slice none 0 0) (.slice none 0 0) [] []) := ⟨St.start BA BR BO HB.out ⟨GO.out, GR.out, by have := NO.out; omega, by have := NO.out; omega⟩⟩
    clear BA BR BO HB NO GO hz0 hz1 hz2 hz3 hf0 hf1 hf2 hf3
    go_loopw [6] (fun s6 wr => ∃ (i : Nat) (E : Option Addr) (n e : Nat) (F : Option Addr) (m f : Nat), i ≤ l0_1.length ∧ s6 = .int .i64 i ∧ Aside0 (St w wr ga gr go true A0_1 l0_1.length c0_1 A0_2 l0_2.length c0_2 A0_3 l0_3.length c0_3 (.slice E n e) (.slice F m f) (.slice E n e) (.slice F m f) ((dropR a1 (l0_1.take i) (l0_2.take i)).map (·.1)) ((dropR a1 (l0_1.take i) (l0_2.take i)).map (·.2)))) (fun s6 wr => l0_1.length - (intOf s6).toNat)
    case atStart => exact ⟨0, none, 0, 0, none, 0, 0, Nat.zero_le _, rfl, ST⟩
    case round =>
      clear ST
      obtain ⟨i, E, n, e, F, m, f, hi, rfl, ST⟩ := hrel
      have hv := ST.out.BA.cells.2.1
      by_cases hlt : i < l0_1.length
      · have LK := Aside0.mk (drop_len a1 l0_1 l0_2 i)
        obtain ⟨ad1, x, hA, hs, hxc⟩ := str_at H1.out.2.2 i hlt
        obtain ⟨ad2, y, hA2, hs2, hyc⟩ := str_at H2.out.2.2 i (by have := HL2.out; omega)
        subst hA hA2
        have KX := Aside0.mk (str_keep hxc)
        have KY := Aside0.mk (str_keep hyc)
        have hi1 : (i : Int) < (l0_1.length : Int) := by omega
        have hi2 : (i : Int) < (l0_2.length : Int) := by have := HL2.out; omega
        have hi0 : (0 : Int) ≤ (i : Int) := by omega
        have hd : decide ((i : Int) < (l0_1.length : Int)) = true := by simp; omega
        have hv1 := ST.out.sees.2.2.1
        have hv3 := KX.out _ ST.out.HB
        clear hxc hyc
        clear hv
        by_cases hx : x.toList = a1.toList
        · have b1 : (x.toList == a1.toList) = true := beq_iff_eq.2 hx
          have b2 : (x.toList != a1.toList) = false := bne_eq_false_iff_eq.2 hx
          have RS := Aside0.mk (dropR_same a1 l0_1 l0_2 i x y hs.out hs2.out hx)
          clear hx hs hs2
          go_wp2
          go_roundw
          case rel => exact ⟨i + 1, E, n, e, F, m, f, by omega, by go_num, ⟨by rw [RS.out]; exact ST.out⟩⟩
          case measure => simp [intOf]; omega
        · have b1 : (x.toList == a1.toList) = false := beq_eq_false_iff_ne.2 hx
          have b2 : (x.toList != a1.toList) = true := bne_iff_ne.2 hx
          have RS := Aside0.mk (dropR_more a1 l0_1 l0_2 i x y hs.out hs2.out hx)
          clear hx hs hs2
          go_upto_region 8 with (fail)
          clear hv1 hv3
          have ST1 := Aside0.mk ST.out.drew
          clear ST
          have ST := ST1
          clear ST1
          have HS := Aside0.mk (And.intro ST.out.sees (And.intro (KX.out _ ST.out.HB) (KY.out _ ST.out.HB)))
          refine wp_region_P (fun w' => (w'.cell? ⟨go, 1, none⟩ = some (.slice E n e) ∧ w'.cell? ⟨go, 2, none⟩ = some (.slice F m f) ∧ w'.cell? ⟨ga, 1, none⟩ = some (.slice (some ad1) l0_1.length c0_1) ∧ w'.cell? ⟨ga, 2, none⟩ = some (.slice (some ad2) l0_2.length c0_2)) ∧ w'.cell? (ad1.add i) = some (.string x) ∧ w'.cell? (ad2.add i) = some (.string y)) 19 (by kernel_rfl) ?_
          generalize wr.drew = w5 at *
          refine wpAnyP_take 0 (oi := o32_8_0) (v := ?_) rfl (by kernel_rfl) (fun _ _ _ h => h) (by rfl) HS.out ?_ ?_; rotate_left
          · intro w_ hSw; obtain ⟨⟨hs1, hs2, hs3, hs4⟩, hs5, hs6⟩ := hSw; (try simp only [o32_8_0]); first | (go_simp; done) | (go_simp; with_reducible rfl)
          try simp only [Act.put, o32_8_0, List.setIfInBounds_toArray, List.set_cons_zero, List.set_cons_succ]
          refine wpAnyP_take 1 (oi := o32_8_1) (v := ?_) rfl (by kernel_rfl) (fun _ _ _ h => h) (by rfl) HS.out ?_ ?_; rotate_left
          · intro w_ hSw; obtain ⟨⟨hs1, hs2, hs3, hs4⟩, hs5, hs6⟩ := hSw; (try simp only [o32_8_1]); first | (go_simp; done) | (go_simp; with_reducible rfl)
          try simp only [Act.put, o32_8_1, List.setIfInBounds_toArray, List.set_cons_zero, List.set_cons_succ]
          refine wpAnyP_take 2 (oi := o32_8_2) (v := ?_) rfl (by kernel_rfl) (fun _ _ _ h => h) (by rfl) HS.out ?_ ?_; rotate_left
          · intro w_ hSw; obtain ⟨⟨hs1, hs2, hs3, hs4⟩, hs5, hs6⟩ := hSw; (try simp only [o32_8_2]); first | (go_simp; done) | (go_simp; with_reducible rfl)
          try simp only [Act.put, o32_8_2, List.setIfInBounds_toArray, List.set_cons_zero, List.set_cons_succ]
          refine wpAnyP_take 3 (oi := o32_8_3) (v := ?_) rfl (by kernel_rfl) (fun _ _ _ h => h) (by rfl) HS.out ?_ ?_; rotate_left
          · intro w_ hSw; obtain ⟨⟨hs1, hs2, hs3, hs4⟩, hs5, hs6⟩ := hSw; (try simp only [o32_8_3]); first | (go_simp; done) | (go_simp; with_reducible rfl)
          try simp only [Act.put, o32_8_3, List.setIfInBounds_toArray, List.set_cons_zero, List.set_cons_succ]
          refine wpAnyP_take 4 (oi := o32_8_4) (v := ?_) rfl (by kernel_rfl) (fun _ _ _ h => h) (by rfl) HS.out ?_ ?_; rotate_left
          · intro w_ hSw; obtain ⟨⟨hs1, hs2, hs3, hs4⟩, hs5, hs6⟩ := hSw; (try simp only [o32_8_4]); first | (go_simp; done) | (go_simp; with_reducible rfl)
          try simp only [Act.put, o32_8_4, List.setIfInBounds_toArray, List.set_cons_zero, List.set_cons_succ]
          refine wpAnyP_take 5 (oi := o32_8_5) (v := ?_) rfl (by kernel_rfl) (fun _ _ _ h => h) (by rfl) HS.out ?_ ?_; rotate_left
          · intro w_ hSw; obtain ⟨⟨hs1, hs2, hs3, hs4⟩, hs5, hs6⟩ := hSw; (try simp only [o32_8_5]); first | (go_simp; done) | (go_simp; with_reducible rfl)
          try simp only [Act.put, o32_8_5, List.setIfInBounds_toArray, List.set_cons_zero, List.set_cons_succ]
          refine wpAnyP_take 6 (oi := o32_8_6) (v := ?_) rfl (by kernel_rfl) (fun _ _ _ h => h) (by rfl) HS.out ?_ ?_; rotate_left
          · intro w_ hSw; obtain ⟨⟨hs1, hs2, hs3, hs4⟩, hs5, hs6⟩ := hSw; (try simp only [o32_8_6]); first | (go_simp; done) | (go_simp; with_reducible rfl)
          try simp only [Act.put, o32_8_6, List.setIfInBounds_toArray, List.set_cons_zero, List.set_cons_succ]
          refine wpAnyP_take 9 (oi := o32_8_9) (v := ?_) rfl (by kernel_rfl) (fun _ _ _ h => h) (by rfl) HS.out ?_ ?_; rotate_left
          · intro w_ hSw; obtain ⟨⟨hs1, hs2, hs3, hs4⟩, hs5, hs6⟩ := hSw; (try simp only [o32_8_9]); first | (go_simp; done) | (go_simp; with_reducible rfl)
          try simp only [Act.put, o32_8_9, List.setIfInBounds_toArray, List.set_cons_zero, List.set_cons_succ]
          refine wpAnyP_take 10 (oi := o32_8_10) (v := ?_) rfl (by kernel_rfl) (fun _ _ _ h => h) (by rfl) HS.out ?_ ?_; rotate_left
          · intro w_ hSw; obtain ⟨⟨hs1, hs2, hs3, hs4⟩, hs5, hs6⟩ := hSw; (try simp only [o32_8_10]); first | (go_simp; done) | (go_simp; with_reducible rfl)
          try simp only [Act.put, o32_8_10, List.setIfInBounds_toArray, List.set_cons_zero, List.set_cons_succ]
          refine wpAnyP_takeQ 11 [12, 14, 15, 16, 17, 19] (oi := o32_8_11) (v := ?_) rfl (by kernel_rfl) (fun _ _ _ h => h) (by rfl) HS.out ?_ ?_; rotate_left
          · intro w_ hSw; obtain ⟨⟨hs1, hs2, hs3, hs4⟩, hs5, hs6⟩ := hSw; (try simp only [o32_8_11]); first | (go_simp; done) | (go_simp; with_reducible rfl)
          try simp only [Act.put, o32_8_11, List.setIfInBounds_toArray, List.set_cons_zero, List.set_cons_succ]
          refine wpAnyP_takeQ 12 [14, 15, 16, 17, 19] (oi := o32_8_12) (v := ?_) rfl (by kernel_rfl) (fun _ _ _ h => h) (by rfl) HS.out ?_ ?_; rotate_left
          · intro w_ hSw; obtain ⟨⟨hs1, hs2, hs3, hs4⟩, hs5, hs6⟩ := hSw; (try simp only [o32_8_12]); first | (go_simp; done) | (go_simp; with_reducible rfl)
          try simp only [Act.put, o32_8_12, List.setIfInBounds_toArray, List.set_cons_zero, List.set_cons_succ]
          refine wpAnyP_takeQ 13 [14, 15, 16, 17, 19] (oi := o32_8_13) (v := ?_) rfl (by kernel_rfl) (fun _ _ _ h => h) (by rfl) HS.out ?_ ?_; rotate_left
          · intro w_ hSw; obtain ⟨⟨hs1, hs2, hs3, hs4⟩, hs5, hs6⟩ := hSw; (try simp only [o32_8_13]); first | (go_simp; done) | (go_simp; with_reducible rfl)
          try simp only [Act.put, o32_8_13, List.setIfInBounds_toArray, List.set_cons_zero, List.set_cons_succ]
          refine wpAnyP_takeQ 14 [15, 16, 17, 19] (oi := o32_8_14) (v := ?_) rfl (by kernel_rfl) (fun _ _ _ h => h) (by rfl) HS.out ?_ ?_; rotate_left
          · intro w_ hSw; obtain ⟨⟨hs1, hs2, hs3, hs4⟩, hs5, hs6⟩ := hSw; (try simp only [o32_8_14]); first | (go_simp; done) | (go_simp; with_reducible rfl)
          try simp only [Act.put, o32_8_14, List.setIfInBounds_toArray, List.set_cons_zero, List.set_cons_succ]
          refine wpAnyP_takeQ 15 [16, 17, 19] (oi := o32_8_15) (v := ?_) rfl (by kernel_rfl) (fun _ _ _ h => h) (by rfl) HS.out ?_ ?_; rotate_left
          · intro w_ hSw; obtain ⟨⟨hs1, hs2, hs3, hs4⟩, hs5, hs6⟩ := hSw; (try simp only [o32_8_15]); first | (go_simp; done) | (go_simp; with_reducible rfl)
          try simp only [Act.put, o32_8_15, List.setIfInBounds_toArray, List.set_cons_zero, List.set_cons_succ]
          refine wpAnyP_two 7 16 (oi := o32_8_7) (oj := o32_8_16) rfl rfl (by kernel_rfl) (by rfl) (by rfl) (fun K hK => ?_) (fun K hK => ?_)
          refine St.opM x (by (try simp only [o32_8_7]); first | (go_simp; done) | (go_simp; rfl)) ST.out (fun g7 w1 st hbox hne hkeep => ?_)
          have NE7 := Aside0.mk hne
          clear ST HS hkeep hne
          have G7 := Aside0.mk hbox
          have ST := Aside0.mk st
          clear hbox st
          have HS := Aside0.mk (And.intro ST.out.sees (And.intro (KX.out _ ST.out.HB) (KY.out _ ST.out.HB)))
          refine hK _ _ (fun _ => HS.out) ?_
          clear hK K
          try simp only [Act.put, o32_8_7, List.setIfInBounds_toArray, List.set_cons_zero, List.set_cons_succ]
          refine wpAnyP_two 8 16 (oi := o32_8_8) (oj := o32_8_16) rfl rfl (by kernel_rfl) (by rfl) (by rfl) (fun K hK => ?_) (fun K hK => ?_)
          refine St.opK (by rfl) Try.underlying22 info9 (.tmp 27) (.tmp 33) g7 _ (by rfl) (by rfl) (by rfl) ST.out G7.out (by have := LK.out.1; omega) (fun v1 w1 st hkeep => ?_)
          clear hkeep ST HS G7
          obtain ⟨E1, n1, e1, ev⟩ := st.sliceK
          subst ev
          have ST := Aside0.mk st
          clear st
          have HS := Aside0.mk (And.intro ST.out.sees (And.intro (KX.out _ ST.out.HB) (KY.out _ ST.out.HB)))
          refine hK _ _ (fun _ => HS.out) ?_
          clear hK K
          try simp only [Act.put, o32_8_8, List.setIfInBounds_toArray, List.set_cons_zero, List.set_cons_succ]
          refine wpAnyP_take 18 (oi := o32_8_18) (v := ?_) rfl (by kernel_rfl) (fun _ _ _ h => h) (by rfl) HS.out ?_ ?_; rotate_left
          · intro w_ hSw; obtain ⟨⟨hs1, hs2, hs3, hs4⟩, hs5, hs6⟩ := hSw; (try simp only [o32_8_18]); first | (go_simp; done) | (go_simp; with_reducible rfl)
          try simp only [Act.put, o32_8_18, List.setIfInBounds_toArray, List.set_cons_zero, List.set_cons_succ]
          refine wpAnyP_one 16 (o := o32_8_16) rfl (by kernel_rfl) (by rfl) (fun K hK => ?_)
          refine St.opM y (by (try simp only [o32_8_16]); first | (go_simp; done) | (go_simp; rfl)) ST.out (fun g16 w1 st hbox hne hkeep => ?_)
          have NE16 := Aside0.mk hne
          clear ST HS hkeep hne
          have G16 := Aside0.mk hbox
          have ST := Aside0.mk st
          clear hbox st
          have HS := Aside0.mk (And.intro ST.out.sees (And.intro (KX.out _ ST.out.HB) (KY.out _ ST.out.HB)))
          refine hK _ _ (fun _ => HS.out) ?_
          clear hK K
          try simp only [Act.put, o32_8_16, List.setIfInBounds_toArray, List.set_cons_zero, List.set_cons_succ]
          refine wpAnyP_one 17 (o := o32_8_17) rfl (by kernel_rfl) (by rfl) (fun K hK => ?_)
          refine St.opV (by rfl) Try.underlying22 info9 (.tmp 36) (.tmp 42) g16 _ (by rfl) (by rfl) (by rfl) ST.out G16.out (by have := LK.out.2; omega) (fun v1 w1 st => ?_)
          clear ST HS G16
          obtain ⟨F1, m1, f1, ev⟩ := st.sliceV
          subst ev
          have ST := Aside0.mk st
          clear st
          have HS := Aside0.mk (And.intro ST.out.sees (And.intro (KX.out _ ST.out.HB) (KY.out _ ST.out.HB)))
          refine hK _ _ (fun _ => HS.out) ?_
          clear hK K
          try simp only [Act.put, o32_8_17, List.setIfInBounds_toArray, List.set_cons_zero, List.set_cons_succ]
          have hf1 := blk_frozen ST.out.BO 1
          have hf2 := blk_frozen ST.out.BO 2
          have hz1 := ST.out.sees.1
          have hz2 := ST.out.sees.2.1
          refine wpAnyP_one 19 (o := o32_8_19) rfl (by kernel_rfl) (by rfl) (fun K hK => ?_)
          have HK := Aside0.mk hK
          clear hK
          try simp only [o32_8_19]
          go_simp
          refine HK.out _ _ (fun h_ => absurd h_ (by decide)) ?_
          clear HK K
          try simp only [Act.put, o32_8_19, List.setIfInBounds_toArray, List.set_cons_zero, List.set_cons_succ]
          refine wpAnyP_one 20 (o := o32_8_20) rfl (by kernel_rfl) (by rfl) (fun K hK => ?_)
          have HK := Aside0.mk hK
          clear hK
          try simp only [o32_8_20]
          go_simp
          refine HK.out _ _ (fun h_ => absurd h_ (by decide)) ?_
          clear HK K
          try simp only [Act.put, o32_8_20, List.setIfInBounds_toArray, List.set_cons_zero, List.set_cons_succ]
          refine wpAnyP_one 21 (o := o32_8_21) rfl (by kernel_rfl) (by rfl) (fun K hK => ?_)
          have HK := Aside0.mk hK
          clear hK
          try simp only [o32_8_21]
          go_simp
          refine HK.out _ _ (fun h_ => absurd h_ (by decide)) ?_
          clear HK K
          try simp only [Act.put, o32_8_21, List.setIfInBounds_toArray, List.set_cons_zero, List.set_cons_succ]
          refine wpAnyP_done (by kernel_rfl) ?_ _
          have ST2 := Aside0.mk ST.out.store
          clear HS hf1 hf2 hz1 hz2 ST
          rotate_left
          refine St.opM y (by (try simp only [o32_8_16]); first | (go_simp; done) | (go_simp; rfl)) ST.out (fun g16 w1 st hbox hne hkeep => ?_)
          have NE16 := Aside0.mk hne
          have G7' := Aside0.mk (hkeep _ _ G7.out)
          clear ST HS hkeep hne G7
          have G7 := G7'; clear G7'
          have G16 := Aside0.mk hbox
          have ST := Aside0.mk st
          clear hbox st
          have HS := Aside0.mk (And.intro ST.out.sees (And.intro (KX.out _ ST.out.HB) (KY.out _ ST.out.HB)))
          refine hK _ _ (fun _ => HS.out) ?_
          clear hK K
          try simp only [Act.put, o32_8_16, List.setIfInBounds_toArray, List.set_cons_zero, List.set_cons_succ]
          refine wpAnyP_one 8 (o := o32_8_8) rfl (by kernel_rfl) (by rfl) (fun K hK => ?_)
          refine St.opK (by rfl) Try.underlying22 info9 (.tmp 27) (.tmp 33) g7 _ (by rfl) (by rfl) (by rfl) ST.out G7.out (by have := LK.out.1; omega) (fun v1 w1 st hkeep => ?_)
          have G16' := Aside0.mk (hkeep _ _ G16.out NE16.out)
          clear hkeep ST HS G7 G16
          have G16 := G16'; clear G16'
          obtain ⟨E1, n1, e1, ev⟩ := st.sliceK
          subst ev
          have ST := Aside0.mk st
          clear st
          have HS := Aside0.mk (And.intro ST.out.sees (And.intro (KX.out _ ST.out.HB) (KY.out _ ST.out.HB)))
          refine hK _ _ (fun _ => HS.out) ?_
          clear hK K
          try simp only [Act.put, o32_8_8, List.setIfInBounds_toArray, List.set_cons_zero, List.set_cons_succ]
          refine wpAnyP_take 18 (oi := o32_8_18) (v := ?_) rfl (by kernel_rfl) (fun _ _ _ h => h) (by rfl) HS.out ?_ ?_; rotate_left
          · intro w_ hSw; obtain ⟨⟨hs1, hs2, hs3, hs4⟩, hs5, hs6⟩ := hSw; (try simp only [o32_8_18]); first | (go_simp; done) | (go_simp; with_reducible rfl)
          try simp only [Act.put, o32_8_18, List.setIfInBounds_toArray, List.set_cons_zero, List.set_cons_succ]
          refine wpAnyP_one 17 (o := o32_8_17) rfl (by kernel_rfl) (by rfl) (fun K hK => ?_)
          refine St.opV (by rfl) Try.underlying22 info9 (.tmp 36) (.tmp 42) g16 _ (by rfl) (by rfl) (by rfl) ST.out G16.out (by have := LK.out.2; omega) (fun v1 w1 st => ?_)
          clear ST HS G16
          obtain ⟨F1, m1, f1, ev⟩ := st.sliceV
          subst ev
          have ST := Aside0.mk st
          clear st
          have HS := Aside0.mk (And.intro ST.out.sees (And.intro (KX.out _ ST.out.HB) (KY.out _ ST.out.HB)))
          refine hK _ _ (fun _ => HS.out) ?_
          clear hK K
          try simp only [Act.put, o32_8_17, List.setIfInBounds_toArray, List.set_cons_zero, List.set_cons_succ]
          have hf1 := blk_frozen ST.out.BO 1
          have hf2 := blk_frozen ST.out.BO 2
          have hz1 := ST.out.sees.1
          have hz2 := ST.out.sees.2.1
          refine wpAnyP_one 19 (o := o32_8_19) rfl (by kernel_rfl) (by rfl) (fun K hK => ?_)
          have HK := Aside0.mk hK
          clear hK
          try simp only [o32_8_19]
          go_simp
          refine HK.out _ _ (fun h_ => absurd h_ (by decide)) ?_
          clear HK K
          try simp only [Act.put, o32_8_19, List.setIfInBounds_toArray, List.set_cons_zero, List.set_cons_succ]
          refine wpAnyP_one 20 (o := o32_8_20) rfl (by kernel_rfl) (by rfl) (fun K hK => ?_)
          have HK := Aside0.mk hK
          clear hK
          try simp only [o32_8_20]
          go_simp
          refine HK.out _ _ (fun h_ => absurd h_ (by decide)) ?_
          clear HK K
          try simp only [Act.put, o32_8_20, List.setIfInBounds_toArray, List.set_cons_zero, List.set_cons_succ]
          refine wpAnyP_one 21 (o := o32_8_21) rfl (by kernel_rfl) (by rfl) (fun K hK => ?_)
          have HK := Aside0.mk hK
          clear hK
          try simp only [o32_8_21]
          go_simp
          refine HK.out _ _ (fun h_ => absurd h_ (by decide)) ?_
          clear HK K
          try simp only [Act.put, o32_8_21, List.setIfInBounds_toArray, List.set_cons_zero, List.set_cons_succ]
          refine wpAnyP_done (by kernel_rfl) ?_ _
          have ST2 := Aside0.mk ST.out.store
          clear HS hf1 hf2 hz1 hz2 ST
          rotate_left
          refine St.opM y (by (try simp only [o32_8_16]); first | (go_simp; done) | (go_simp; rfl)) ST.out (fun g16 w1 st hbox hne hkeep => ?_)
          have NE16 := Aside0.mk hne
          clear ST HS hkeep hne
          have G16 := Aside0.mk hbox
          have ST := Aside0.mk st
          clear hbox st
          have HS := Aside0.mk (And.intro ST.out.sees (And.intro (KX.out _ ST.out.HB) (KY.out _ ST.out.HB)))
          refine hK _ _ (fun _ => HS.out) ?_
          clear hK K
          try simp only [Act.put, o32_8_16, List.setIfInBounds_toArray, List.set_cons_zero, List.set_cons_succ]
          refine wpAnyP_one 7 (o := o32_8_7) rfl (by kernel_rfl) (by rfl) (fun K hK => ?_)
          refine St.opM x (by (try simp only [o32_8_7]); first | (go_simp; done) | (go_simp; rfl)) ST.out (fun g7 w1 st hbox hne hkeep => ?_)
          have NE7 := Aside0.mk hne
          have G16' := Aside0.mk (hkeep _ _ G16.out)
          clear ST HS hkeep hne G16
          have G16 := G16'; clear G16'
          have G7 := Aside0.mk hbox
          have ST := Aside0.mk st
          clear hbox st
          have HS := Aside0.mk (And.intro ST.out.sees (And.intro (KX.out _ ST.out.HB) (KY.out _ ST.out.HB)))
          refine hK _ _ (fun _ => HS.out) ?_
          clear hK K
          try simp only [Act.put, o32_8_7, List.setIfInBounds_toArray, List.set_cons_zero, List.set_cons_succ]
          refine wpAnyP_one 8 (o := o32_8_8) rfl (by kernel_rfl) (by rfl) (fun K hK => ?_)
          refine St.opK (by rfl) Try.underlying22 info9 (.tmp 27) (.tmp 33) g7 _ (by rfl) (by rfl) (by rfl) ST.out G7.out (by have := LK.out.1; omega) (fun v1 w1 st hkeep => ?_)
          have G16' := Aside0.mk (hkeep _ _ G16.out NE16.out)
          clear hkeep ST HS G16 G7
          have G16 := G16'; clear G16'
          obtain ⟨E1, n1, e1, ev⟩ := st.sliceK
          subst ev
          have ST := Aside0.mk st
          clear st
          have HS := Aside0.mk (And.intro ST.out.sees (And.intro (KX.out _ ST.out.HB) (KY.out _ ST.out.HB)))
          refine hK _ _ (fun _ => HS.out) ?_
          clear hK K
          try simp only [Act.put, o32_8_8, List.setIfInBounds_toArray, List.set_cons_zero, List.set_cons_succ]
          refine wpAnyP_take 18 (oi := o32_8_18) (v := ?_) rfl (by kernel_rfl) (fun _ _ _ h => h) (by rfl) HS.out ?_ ?_; rotate_left
          · intro w_ hSw; obtain ⟨⟨hs1, hs2, hs3, hs4⟩, hs5, hs6⟩ := hSw; (try simp only [o32_8_18]); first | (go_simp; done) | (go_simp; with_reducible rfl)
          try simp only [Act.put, o32_8_18, List.setIfInBounds_toArray, List.set_cons_zero, List.set_cons_succ]
          refine wpAnyP_one 17 (o := o32_8_17) rfl (by kernel_rfl) (by rfl) (fun K hK => ?_)
          refine St.opV (by rfl) Try.underlying22 info9 (.tmp 36) (.tmp 42) g16 _ (by rfl) (by rfl) (by rfl) ST.out G16.out (by have := LK.out.2; omega) (fun v1 w1 st => ?_)
          clear ST HS G16
          obtain ⟨F1, m1, f1, ev⟩ := st.sliceV
          subst ev
          have ST := Aside0.mk st
          clear st
          have HS := Aside0.mk (And.intro ST.out.sees (And.intro (KX.out _ ST.out.HB) (KY.out _ ST.out.HB)))
          refine hK _ _ (fun _ => HS.out) ?_
          clear hK K
          try simp only [Act.put, o32_8_17, List.setIfInBounds_toArray, List.set_cons_zero, List.set_cons_succ]
          have hf1 := blk_frozen ST.out.BO 1
          have hf2 := blk_frozen ST.out.BO 2
          have hz1 := ST.out.sees.1
          have hz2 := ST.out.sees.2.1
          refine wpAnyP_one 19 (o := o32_8_19) rfl (by kernel_rfl) (by rfl) (fun K hK => ?_)
          have HK := Aside0.mk hK
          clear hK
          try simp only [o32_8_19]
          go_simp
          refine HK.out _ _ (fun h_ => absurd h_ (by decide)) ?_
          clear HK K
          try simp only [Act.put, o32_8_19, List.setIfInBounds_toArray, List.set_cons_zero, List.set_cons_succ]
          refine wpAnyP_one 20 (o := o32_8_20) rfl (by kernel_rfl) (by rfl) (fun K hK => ?_)
          have HK := Aside0.mk hK
          clear hK
          try simp only [o32_8_20]
          go_simp
          refine HK.out _ _ (fun h_ => absurd h_ (by decide)) ?_
          clear HK K
          try simp only [Act.put, o32_8_20, List.setIfInBounds_toArray, List.set_cons_zero, List.set_cons_succ]
          refine wpAnyP_one 21 (o := o32_8_21) rfl (by kernel_rfl) (by rfl) (fun K hK => ?_)
          have HK := Aside0.mk hK
          clear hK
          try simp only [o32_8_21]
          go_simp
          refine HK.out _ _ (fun h_ => absurd h_ (by decide)) ?_
          clear HK K
          try simp only [Act.put, o32_8_21, List.setIfInBounds_toArray, List.set_cons_zero, List.set_cons_succ]
          refine wpAnyP_done (by kernel_rfl) ?_ _
          have ST2 := Aside0.mk ST.out.store
          clear HS hf1 hf2 hz1 hz2 ST
          rotate_left
          all_goals
            go_wp2
            go_roundw
            case rel => exact ⟨i + 1, E1, n1, e1, F1, m1, f1, by omega, by go_num, ⟨by rw [RS.out, List.map_append, List.map_append]; exact ST2.out⟩⟩
            case measure => simp [intOf]; omega
      · obtain rfl : i = l0_1.length := by omega
        have hd : decide ((l0_1.length : Int) < (l0_1.length : Int)) = false := by simp
        have e1 : (l0_1.take l0_1.length) = l0_1 := List.take_length
        have e2 : (l0_2.take l0_1.length) = l0_2 := by rw [← HL2.out]; exact List.take_length
        rw [e1, e2, HE1.out, HE2.out] at ST
        clear e1 e2 HE1 HE2
        obtain ⟨hz0, hz1, hz2, hz3⟩ := ST.out.BR.cells
        have hy0 : wr.cell? ⟨go, 0, none⟩ = some (.bool true) := (blk_cell ST.out.BO 0).trans rfl
        have hy1 := ST.out.sees.1
        have hy2 := ST.out.sees.2.1
        have hy3 : wr.cell? ⟨go, 3, none⟩ = some (.slice none 0 0) := (blk_cell ST.out.BO 3).trans rfl
        have hf0 := blk_frozen ST.out.BR.out 0
        have hf1 := blk_frozen ST.out.BR.out 1
        have hf2 := blk_frozen ST.out.BR.out 2
        have hf3 := blk_frozen ST.out.BR.out 3
        go_wp2
        refine bodyPost_ret (results_single rfl (.cell gr 25 #[.bool true, .slice E n e, .slice F m f, .slice none 0 0] (0, 0) _ rfl (NBox.put4 ST.out.BR).out Try.underlying25 rfl (by kernel_rfl) .nil)) rfl ?_
        exact ⟨_, _, _, rfl, Kd.V_mono (R_toV (R_put4 ST.out.HK ST.out.BR (by decide))) (fun _ hk => .inr hk), Kd.V_mono (R_toV (R_put4 ST.out.HV ST.out.BR (by decide))) (fun _ hk => .inr hk), Kd.V_nil _ _ _ _ _, below_put4 ST.out.HB GR.out⟩
end Go.Proofs.Ytpdlbebiapimoaa.PN
