/- Plain law: NodeOf -/
import Derived.Test.YtpdlbebiapimoaaPureC
import Derived.Test.YtpdlbebiapimoaaPureD
import Derived.Test.YtpdlbebiapimoaaPureE
import Derived.Test.YtpdlbebiapimoaaPN20
namespace Go.Proofs.Ytpdlbebiapimoaa.PN
open Go.RowKit Go.Proofs.YtpdlbebiapimoaaW.PrintWords Go.Proofs.YtpdlbebiapimoaaW.PrintLast Go.Proofs.YtpdlbebiapimoaaW.PrintMore
set_option linter.unusedVariables false
set_option linter.unusedSimpArgs false
theorem cell_join (c : ByteArray) (h : cellOk c = true) : hdr (cellKey c) ++ cellKey c ++ cellRest c = c := by
  unfold cellOk at h
  simp only [Bool.and_eq_true, Bool.or_eq_true, decide_eq_true_eq] at h
  obtain ⟨h1, h2⟩ := h
  have hb := bt_lt (s := c) (i := 0) h1
  rw [show ((0 : Nat) : Int) = 0 from rfl] at hb
  have hlen : c.data.toList.length = c.size := by simp
  match hL : c.data.toList with
  | [] => rw [hL] at hlen; simp at hlen; omega
  | x :: T =>
    rw [hL, List.length_cons] at hlen
    simp only [hL, List.getElem_cons_zero] at hb
    have hx := x.toNat_lt
    have hn : (bt c 0).toNat = x.toNat := by omega
    have hT : x.toNat ≤ T.length := by omega
    have hk : (cellKey c).data.toList = T.take x.toNat := by
      unfold cellKey
      rw [ext_list, hL, hn]
      simp
    have hr : (cellRest c).data.toList = T.drop x.toNat := by
      unfold cellRest
      rw [ext_list, hL, hn, show 1 + x.toNat = x.toNat + 1 from by omega, List.drop_succ_cons, List.take_of_length_le (by rw [List.length_drop]; omega)]
    have hks : (cellKey c).size = x.toNat := by rw [size_len, hk, List.length_take]; omega
    refine ba_ext2 ?_
    rw [data_append, data_append, hdr_list, hk, hr, hks, hL]
    have e : UInt8.ofNat ((x.toNat : Int) % 256).toNat = x := by
      have : ((x.toNat : Int) % 256).toNat = x.toNat := by omega
      rw [this]; simp
    rw [e]
    simp
theorem four_of (s : ByteArray) (h : s.size = 4) : four (num4 s) = s := by
  have hlen : s.data.toList.length = 4 := by simpa using h
  match hL : s.data.toList, hlen with
  | [a, b, c, d], _ =>
    have e0 := bt_lt (s := s) (i := 0) (by omega)
    have e1 := bt_lt (s := s) (i := 1) (by omega)
    have e2 := bt_lt (s := s) (i := 2) (by omega)
    have e3 := bt_lt (s := s) (i := 3) (by omega)
    simp only [hL, List.getElem_cons_zero, List.getElem_cons_succ] at e0 e1 e2 e3
    rw [show ((0 : Nat) : Int) = 0 from rfl] at e0
    rw [show ((1 : Nat) : Int) = 1 from rfl] at e1
    rw [show ((2 : Nat) : Int) = 2 from rfl] at e2
    rw [show ((3 : Nat) : Int) = 3 from rfl] at e3
    have ha := a.toNat_lt
    have hb := b.toNat_lt
    have hc := c.toNat_lt
    have hd := d.toNat_lt
    obtain ⟨m, hm⟩ : ∃ m : Nat, m = a.toNat * 16777216 + b.toNat * 65536 + c.toNat * 256 + d.toNat := ⟨_, rfl⟩
    have hn : num4 s = (m : Int) := by unfold num4; rw [e0, e1, e2, e3]; omega
    have q0 : m / 16777216 % 256 = a.toNat := by omega
    have q1 : m / 65536 % 256 = b.toNat := by omega
    have q2 : m / 256 % 256 = c.toNat := by omega
    have q3 : m % 256 = d.toNat := by omega
    refine ba_ext2 ?_
    rw [hL, hn]
    have p0 : ((m : Int) / 16777216 % 256).toNat = m / 16777216 % 256 := by omega
    have p1 : ((m : Int) / 65536 % 256).toNat = m / 65536 % 256 := by omega
    have p2 : ((m : Int) / 256 % 256).toNat = m / 256 % 256 := by omega
    have p3 : ((m : Int) % 256).toNat = m % 256 := by omega
    have hf : (four (m : Int)).data.toList = [UInt8.ofNat ((m : Int) / 16777216 % 256).toNat, UInt8.ofNat ((m : Int) / 65536 % 256).toNat, UInt8.ofNat ((m : Int) / 256 % 256).toNat, UInt8.ofNat ((m : Int) % 256).toNat] := rfl
    rw [hf, p0, p1, p2, p3, q0, q1, q2, q3, UInt8.ofNat_toNat, UInt8.ofNat_toNat, UInt8.ofNat_toNat, UInt8.ofNat_toNat]
theorem ofL_eq (b : Bool) (l : List ByteArray) : ∀ (K V : List ByteArray) (C : List Int), ofL b l K V C =
    if l.all (fun c => cellOk c && (b || decide ((cellRest c).size = 4))) = true ∧ chk b (K ++ l.map cellKey) (V ++ if b then l.map cellRest else []) (C ++ if b then [] else l.map fun c => num4 (cellRest c)) = 0
    then (b, K ++ l.map cellKey, V ++ (if b then l.map cellRest else []), C ++ (if b then [] else l.map fun c => num4 (cellRest c)), 0) else (false, [], [], [], 50) := by
  induction l with
  | nil => intro K V C; simp [ofL]
  | cons c r ih =>
    intro K V C
    simp only [ofL]
    cases hok : cellOk c with
    | false => simp [hok]
    | true =>
      cases b with
      | true =>
        simp only [if_true]
        rw [ih]
        simp [hok]
      | false =>
        by_cases h4 : (cellRest c).size = 4
        · simp only [if_true, Bool.false_eq_true, if_false, if_pos h4]
          rw [ih]
          simp [hok, h4]
        · simp only [if_true, Bool.false_eq_true, if_false, if_neg h4]
          simp [h4]
theorem cells_back (b : Bool) (l : List ByteArray) (C0 : List Int) (h : l.all (fun c => cellOk c && (b || decide ((cellRest c).size = 4))) = true) :
    (List.range' 0 (l.map cellKey).length).map (cellN b (l.map cellKey) (if b then l.map cellRest else []) (C0 ++ if b then [] else l.map fun c => num4 (cellRest c))) = l ∨ (b = false ∧ C0.length ≠ 1) := by
  by_cases hC : b = false ∧ C0.length ≠ 1
  · exact .inr hC
  left
  refine List.ext_getElem (by simp) (fun i h1 h2 => ?_)
  have hi := List.all_eq_true.1 h l[i] (List.getElem_mem _)
  simp only [Bool.and_eq_true, Bool.or_eq_true, decide_eq_true_eq] at hi
  have hj := cell_join _ hi.1
  simp only [List.getElem_map, List.getElem_range']
  unfold cellN
  rw [getD_S (by simp; omega)]
  simp only [List.getElem_map, Nat.zero_add, Nat.one_mul]
  cases b with
  | true =>
    simp only [if_true]
    rw [getD_S (by simp; omega)]
    simpa using hj
  | false =>
    have hC1 : C0.length = 1 := Classical.byContradiction fun e => hC ⟨rfl, e⟩
    simp only [Bool.false_eq_true, if_false]
    have e : (C0 ++ l.map fun c => num4 (cellRest c)).getD (i + 1) 0 = num4 (cellRest l[i]) := by
      rw [getD_I (by simp; omega), List.getElem_append_right (by omega)]
      simp [hC1]
    rw [e, four_of _ (by simpa using hi.2)]
    exact hj
theorem ofS_back (b : Bool) (l : List ByteArray) : (∃ ks vs cs, ofS b l = (b, ks, vs, cs, 0) ∧ chk b ks vs cs = 0 ∧ cellsN b ks vs cs = l) ∨ ofS b l = (false, [], [], [], 50) := by
  cases b with
  | true =>
    unfold ofS
    simp only [if_true]
    rw [ofL_eq]
    by_cases h : l.all (fun c => cellOk c && (true || decide ((cellRest c).size = 4))) = true ∧ chk true ([] ++ l.map cellKey) ([] ++ if true then l.map cellRest else []) ([] ++ if true then [] else l.map fun c => num4 (cellRest c)) = 0
    · rw [if_pos h]
      refine .inl ⟨_, _, _, rfl, h.2, ?_⟩
      rcases cells_back true l [] h.1 with h | h
      · simpa [cellsN] using h
      · cases h.1
    · rw [if_neg h]; exact .inr rfl
  | false =>
    unfold ofS
    simp only [Bool.false_eq_true, if_false]
    match l with
    | [] => exact .inr rfl
    | c :: r =>
      show (∃ ks vs cs, (if c.size = 4 then ofL false r [] [] [num4 c] else (false, [], [], [], 50)) = (false, ks, vs, cs, 0) ∧ _) ∨ (if c.size = 4 then ofL false r [] [] [num4 c] else (false, [], [], [], 50)) = _
      by_cases h4 : c.size = 4
      · rw [if_pos h4, ofL_eq]
        by_cases h : r.all (fun c => cellOk c && (false || decide ((cellRest c).size = 4))) = true ∧ chk false ([] ++ r.map cellKey) ([] ++ if false then r.map cellRest else []) ([num4 c] ++ if false then [] else r.map fun c => num4 (cellRest c)) = 0
        · rw [if_pos h]
          refine .inl ⟨_, _, _, rfl, h.2, ?_⟩
          rcases cells_back false r [num4 c] h.1 with h | h
          · simp only [cellsN, Bool.false_eq_true, if_false, List.nil_append] at h ⊢
            rw [h]
            have e : four (([num4 c] ++ r.map fun c => num4 (cellRest c)).getD 0 0) = c := by
              rw [show ([num4 c] ++ r.map fun c => num4 (cellRest c)).getD 0 0 = num4 c from rfl, four_of c h4]
            rw [e]
            rfl
          · exact absurd rfl h.2
        · rw [if_neg h]; exact .inr rfl
      · rw [if_neg h4]; exact .inr rfl
theorem NodeOf_pure (b : Bool) (l : List ByteArray) : ∃ k, lunettelaw05_NodeOf.f k b l = some true := by
  refine Ev.rounds ?_
  unfold lunettelaw05_NodeOf.f
  refine Ev.bind awake_ev ?_
  simp only [if_true]
  by_cases hl : l.length ≤ 100
  · have e : decide ((l.length : Int) > 100) = false := by simp; omega
    rw [e]
    have hend : (∀ s ∈ l, s.size ≤ 300) → Ev (fun k => lunettelaw05_NodeOf.l0 k b l (l.length : Int)) true := by
      intro hs
      have c1 := of_ev b l (by omega) (fun s hx => by have := hs s hx; omega)
      refine Ev.step (f := fun k => (node_Of.f k b l).bind fun bt280 => (if bt280.2.2.2.2 = 0 then (if (bt280.1 == b) = true then ((lunetteref05_Check.f k bt280.1 bt280.2.1 bt280.2.2.1 bt280.2.2.2.1).bind fun t292 => (if t292 = 0 then ((lunetteref05_Cells.f k bt280.1 bt280.2.1 bt280.2.2.1 bt280.2.2.2.1).bind fun t293 => ((lunetteref01_Same.f k t293 l).bind fun t296 => (some t296))) else (none))) else (none)) else (if bt280.2.2.2.2 = 50 then ((lunetteref05_Same.f k bt280.1 bt280.2.1 bt280.2.2.1 bt280.2.2.2.1 false ([] : List ByteArray) ([] : List ByteArray) ([] : List Int)).bind fun t297 => (some t297)) else (none)))) (fun k => ?_) (Ev.bind c1 ?_)
      · simp only [lunettelaw05_NodeOf.l0]
        rw [if_neg (by omega)]
        simp only [Option.bind_some, List.nil_append]
        rw [if_pos (by simp only [List.length_nil]; omega)]
      · rcases ofS_back b l with ⟨ks, vs, cs, h1, h2, h3⟩ | h
        · rw [h1]
          obtain ⟨g1, g2, g3, g4⟩ := chk_zero h2
          have k1 := long_false (m := 100) g1
          have k2 := long_false (m := 100) g2
          have hlen : ks.length ≤ 101 := by
            have := congrArg List.length h3
            unfold cellsN at this
            rw [List.length_append, List.length_map, List.length_range'] at this
            omega
          have hvl : vs.length ≤ 101 := by cases b <;> simp only [Bool.false_eq_true, if_false, if_true] at g4 <;> omega
          have hcl : cs.length ≤ 102 := by cases b <;> simp only [Bool.false_eq_true, if_false, if_true] at g4 <;> omega
          have c2 := Check_ev b ks vs cs (by omega) (by omega) (by omega) (fun s hx => by have := k1 s hx; omega)
          rw [h2] at c2
          have c3 := refCells_ev b ks vs cs (by omega) (fun s hx => by have := k1 s hx; omega) (fun s hx => by have := k2 s hx; omega) h2
          have c4 := Same01_ev l l (by omega)
          simp only [if_true, beq_self_eq_true]
          refine Ev.bind c2 ?_
          simp only [if_true]
          rw [h3] at c3
          refine Ev.bind c3 (Ev.bind (f := fun _ t => some t) (ev_eq c4 (by simp) : Ev _ true) (Ev.now _))
        · rw [h]
          have c4 := Same05_ev false [] [] [] false [] [] [] (by decide) (by decide) (by decide)
          simp only [show ¬ ((50 : Int) = 0) by decide, if_false, if_true]
          exact Ev.bind (f := fun _ t => some t) (ev_eq c4 (by simp) : Ev _ true) (Ev.now _)
    have hloop : ∀ i, i ≤ l.length → (∀ s ∈ l.take i, s.size ≤ 300) → Ev (fun k => lunettelaw05_NodeOf.l0 k b l (i : Int)) true := by
      refine down (fun i hi ih hs => ?_) (fun hs => hend (by rwa [List.take_length] at hs))
      refine Ev.step (f := fun k => if ((l[i].size : Int) > 300) then some true else lunettelaw05_NodeOf.l0 k b l ((i + 1 : Nat) : Int)) (fun k => ?_) (ev_if (fun h => Ev.now _) (fun h => ih ?_))
      · simp only [lunettelaw05_NodeOf.l0]
        rw [if_pos (by omega), if_pos (by omega), rdS_at hi, w1 (by omega)]
      · intro s hm
        rw [List.take_add_one, List.getElem?_eq_getElem hi] at hm
        rcases List.mem_append.1 hm with hm | hm
        · exact hs s hm
        · simp at hm; subst hm; omega
    exact Ev.step (f := fun k => lunettelaw05_NodeOf.l0 k b l ((0 : Nat) : Int)) (fun k => by simp only [lunettelaw05_NodeOf.j0]; rw [if_neg (by decide)]; rfl) (hloop 0 (Nat.zero_le _) (by simp))
  · have e : decide ((l.length : Int) > 100) = true := by simp; omega
    rw [e]
    exact Ev.step (f := fun k => (lunettelaw05_awake.f k).bind fun t => some t) (fun k => by simp only [lunettelaw05_NodeOf.j0]; rw [if_pos trivial]) (Ev.bind (f := fun _ t => some t) awake_ev (Ev.now _))

end Go.Proofs.Ytpdlbebiapimoaa.PN
