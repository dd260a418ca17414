/- Plain law: NodePuts -/
import Derived.Test.YtpdlbebiapimoaaPureB
import Derived.Test.YtpdlbebiapimoaaPureMap2
import Derived.Test.YtpdlbebiapimoaaPureFindR
import Derived.Test.YtpdlbebiapimoaaPN21
namespace Go.Proofs.Ytpdlbebiapimoaa.PN
open Go.RowKit Go.Proofs.YtpdlbebiapimoaaW.PrintWords Go.Proofs.YtpdlbebiapimoaaW.PrintLast Go.Proofs.YtpdlbebiapimoaaW.PrintMore
set_option linter.unusedVariables false
set_option linter.unusedSimpArgs false
theorem Leaf.got_ev {n : Nat} {ks vs : List ByteArray} (h : Leaf n ks vs) (hn : n ≤ 1000) (o : ByteArray) : Ev (fun k => lunettelaw05_got.f k true ks vs [] o) (gotS ks vs o) := by
  have h1 := h.N
  have hf := refFind_ev true ks vs [] o h.R (by omega) (fun s hs => by have := h.K s hs; omega)
  unfold lunettelaw05_got.f gotS
  refine Ev.bind hf ?_
  simp only [Bool.not_true, Bool.and_false, Bool.false_eq_true, if_false]
  cases hi : isin ks o with
  | false => exact ev_some rfl
  | true =>
    obtain ⟨hb, _⟩ := mem_of h.R h.L hi
    have hr : rdOf ByteArray.empty vs (below ks o : Int) = vs[below ks o] := rdS_at hb
    have hs := h.V vs[below ks o] (List.getElem_mem _)
    simp only [if_true]
    refine Ev.congr (f := fun _ => some ((⟨#[61]⟩ : ByteArray) ++ vs[below ks o])) (fun k => ?_) (ev_some ?_)
    · rw [if_pos (by omega), if_pos (by omega), hr, if_pos (by omega)]
    · rw [List.getD_eq_getElem?_getD, List.getElem?_eq_getElem hb]; rfl
theorem NodePuts_j1 (key value o : ByteArray) (ks vs : List ByteArray) (h : Leaf 100 ks vs) (hk : key.size ≤ 100) (hv : value.size ≤ 100) :
    Ev (fun k => lunettelaw05_NodePuts.j1 k key value o false true ks vs [] true (putK ks key) (putV ks vs key value) []) true := by
  have h1 := h.put hk hv
  have h2 := h1.drop key
  have h3 := h1.put hk hv
  have hd := h1.drop_f (by omega) key
  have hf := h2.find_f (by omega) key
  rw [dropK_not h1.R key] at hf
  have hc := h2.check_f (by omega)
  have hp := h1.put_f (by omega) key value
  obtain ⟨e1, e2⟩ := h3.ext h1 (fun k v => by
    rw [h1.mem_put, h.mem_put]
    constructor
    · rintro (h | ⟨h, h'⟩)
      · exact .inl h
      · exact h'
    · rintro (h | h)
      · exact .inl h
      · exact .inr ⟨h.1, .inr h⟩)
  rw [e1, e2] at hp
  have hN := h1.N
  have hL := h1.L
  have hss := same_self true (putK ks key) (putV ks vs key value) [] (by omega) (by omega) (by simp)
  by_cases ho : o.toList = key.toList
  · refine Ev.step (f := fun k => (lunetteref05_Same.f k true (putK ks key) (putV ks vs key value) [] true (putK ks key) (putV ks vs key value) []).bind fun t => some t) (fun k => ?_) (Ev.bind (f := fun _ t => some t) hss (Ev.now _))
    simp only [lunettelaw05_NodePuts.j1]
    rw [if_neg (by decide), hd]
    simp only [Option.bind_some, hf, hc]
    rw [if_pos trivial, if_neg (by decide), if_pos ho, hp]
    simp only [Option.bind_some]
  · have hne : o ≠ key := fun e => ho (by rw [e])
    have hg := h2.got h o (fun v => by
      rw [h1.mem_drop, h.mem_put]
      exact ⟨fun ⟨_, h⟩ => h.elim (fun h => absurd h.1 hne) (fun h => h.2), fun h => ⟨hne, .inr ⟨hne, h⟩⟩⟩)
    have g1 := h2.got_ev (by omega) o
    have g2 := h.got_ev (by omega) o
    rw [hg] at g1
    refine Ev.step (f := fun k => (lunettelaw05_got.f k true (dropK (putK ks key) key) (dropV (putK ks key) (putV ks vs key value) key) [] o).bind fun t => (lunettelaw05_got.f k true ks vs [] o).bind fun t2 => if t.toList = t2.toList then ((lunetteref05_Same.f k true (putK ks key) (putV ks vs key value) [] true (putK ks key) (putV ks vs key value) []).bind fun t => some t) else none) (fun k => ?_) ?_
    · simp only [lunettelaw05_NodePuts.j1]
      rw [if_neg (by decide), hd]
      simp only [Option.bind_some, hf, hc]
      rw [if_pos trivial, if_neg (by decide), if_neg ho]
      simp only [hp, Option.bind_some]
    · refine Ev.bind (f := fun k t => (lunettelaw05_got.f k true ks vs [] o).bind fun t2 => if t.toList = t2.toList then ((lunetteref05_Same.f k true (putK ks key) (putV ks vs key value) [] true (putK ks key) (putV ks vs key value) []).bind fun t => some t) else none) g1 ?_
      refine Ev.bind (f := fun k t2 => if (gotS ks vs o).toList = t2.toList then ((lunetteref05_Same.f k true (putK ks key) (putV ks vs key value) [] true (putK ks key) (putV ks vs key value) []).bind fun t => some t) else none) g2 ?_
      exact Ev.congr (fun k => by rw [if_pos rfl]) (Ev.bind (f := fun _ t => some t) hss (Ev.now _))
theorem NodePuts_pure (b : Bool) (ks vs : List ByteArray) (cs : List Int) (key : ByteArray) (_ : key.size ≤ maxLen) (value : ByteArray) (_ : value.size ≤ maxLen) (o : ByteArray) (_ : o.size ≤ maxLen) : ∃ k, lunettelaw05_NodePuts.f k b ks vs cs key value o = some true := by
  refine Ev.rounds ?_
  unfold lunettelaw05_NodePuts.f
  refine Ev.bind awake_ev ?_
  simp only [if_true]
  have haw : Ev (fun k => lunettelaw05_NodePuts.j0 k key value o true b ks vs cs) true :=
    Ev.step (f := fun k => (lunettelaw05_awake.f k).bind fun t => some t) (fun k => by simp only [lunettelaw05_NodePuts.j0]; rw [if_pos trivial]) (Ev.bind (f := fun _ t => some t) awake_ev (Ev.now _))
  refine Ev.bind (few_ev b ks vs cs) (ev_if (fun hf => ?_) (fun _ => haw))
  obtain ⟨h1, h2, h3, h4, h5⟩ := fewS_true hf
  refine Ev.bind (Check_ev b ks vs cs (by omega) (by omega) (by omega) (fun s hs => by have := h4 s hs; omega)) (ev_if (fun h0 => ?_) (fun _ => haw))
  refine ev_if (fun hb => ?_) (fun _ => haw)
  subst hb
  refine ev_if (fun _ => haw) (fun hk => ev_if (fun _ => haw) (fun hv => ?_))
  by_cases hos : o.size ≤ 100
  · have e : decide ((o.size : Int) > 100) = false := by simp; omega
    rw [e]
    obtain ⟨h, hcs⟩ := Leaf.of h0 h1
    subst hcs
    have hk2 : key.size ≤ 100 := by omega
    have hv2 : value.size ≤ 100 := by omega
    have l1 := h.put hk2 hv2
    have hp := h.put_f (by omega) key value
    have hf := l1.find_f (by omega) key
    obtain ⟨hi, hb, he⟩ := mem_val l1.R ((h.mem_put key value key value).2 (.inl ⟨rfl, rfl⟩))
    rw [hi] at hf
    have hc := l1.check_f (by omega)
    have hr : rdOf ByteArray.empty (putV ks vs key value) (below (putK ks key) key : Int) = value := by rw [rdS_at hb, he]
    have hj := NodePuts_j1 key value o ks vs h hk2 hv2
    by_cases ho : o.toList = key.toList
    · refine Ev.step (f := fun k => lunettelaw05_NodePuts.j1 k key value o false true ks vs [] true (putK ks key) (putV ks vs key value) []) (fun k => ?_) hj
      simp only [lunettelaw05_NodePuts.j0]
      rw [if_neg (by decide), hp]
      simp only [Option.bind_some, hf, hc]
      rw [if_pos trivial, if_pos trivial, if_pos (by omega), if_pos (by omega), hr, if_pos rfl, if_pos ho]
    · have hne : o ≠ key := fun e => ho (by rw [e])
      have hg := h.got l1 o (fun v => by
        rw [h.mem_put]
        exact ⟨fun h => .inr ⟨hne, h⟩, fun h => h.elim (fun h => absurd h.1 hne) (fun h => h.2)⟩)
      have g1 := h.got_ev (by omega) o
      have g2 := l1.got_ev (by omega) o
      rw [← hg] at g2
      refine Ev.step (f := fun k => (lunettelaw05_got.f k true ks vs [] o).bind fun t => (lunettelaw05_got.f k true (putK ks key) (putV ks vs key value) [] o).bind fun t2 => lunettelaw05_NodePuts.j1 k key value o (t.toList != t2.toList) true ks vs [] true (putK ks key) (putV ks vs key value) []) (fun k => ?_) ?_
      · simp only [lunettelaw05_NodePuts.j0]
        rw [if_neg (by decide), hp]
        simp only [Option.bind_some, hf, hc]
        rw [if_pos trivial, if_pos trivial, if_pos (by omega), if_pos (by omega), hr, if_pos rfl, if_neg ho]
      · refine Ev.bind (f := fun k t => (lunettelaw05_got.f k true (putK ks key) (putV ks vs key value) [] o).bind fun t2 => lunettelaw05_NodePuts.j1 k key value o (t.toList != t2.toList) true ks vs [] true (putK ks key) (putV ks vs key value) []) g1 ?_
        refine Ev.bind (f := fun k t2 => lunettelaw05_NodePuts.j1 k key value o ((gotS ks vs o).toList != t2.toList) true ks vs [] true (putK ks key) (putV ks vs key value) []) g2 ?_
        rw [show ((gotS ks vs o).toList != (gotS ks vs o).toList) = false by simp]
        exact hj
  · have e : decide ((o.size : Int) > 100) = true := by simp; omega
    rw [e]
    exact haw

end Go.Proofs.Ytpdlbebiapimoaa.PN
