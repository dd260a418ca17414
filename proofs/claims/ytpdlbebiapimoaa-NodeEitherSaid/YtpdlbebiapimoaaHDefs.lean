/- What the functions told by hand compute, in plain Lean: lists and numbers alone. -/
import Derived.Test.YtpdlbebiapimoaaPN0
set_option linter.unusedVariables false
set_option linter.unusedSimpArgs false
namespace Go.Proofs.Ytpdlbebiapimoaa.PN
open Go.RowKit Go.Proofs.YtpdlbebiapimoaaW.PrintWords Go.Proofs.YtpdlbebiapimoaaW.PrintLast Go.Proofs.YtpdlbebiapimoaaW.PrintMore

/-- Is a text below another one? As the model has it. -/
def slt (a b : ByteArray) : Bool := Op.bytesLess a.toList b.toList
/-- Do keys rise, each once? -/
def rising : List ByteArray → Bool
  | [] => true
  | [_] => true
  | a :: b :: r => slt a b && rising (b :: r)
def long (m : Int) (l : List ByteArray) : Bool := l.any fun s => decide (m < (s.size : Int))
/-- What node.Check answers. -/
def chk (a0_0 : Bool) (l0_1 : List ByteArray) (l0_2 : List ByteArray) (l0_3 : List Int) : Int :=
  if long 100 l0_1 || long 100 l0_2 then 51
  else if !rising l0_1 then 50
  else if a0_0 then (if l0_2.length = l0_1.length ∧ l0_3.length = 0 then 0 else 50)
  else if l0_3.length = l0_1.length + 1 ∧ l0_2.length = 0 ∧ l0_3.all (fun k => decide (1 ≤ k ∧ k ≤ 4294967295)) = true then 0 else 50
def node_Check.f (a0_0 : Bool) (l0_1 : List ByteArray) (l0_2 : List ByteArray) (l0_3 : List Int) : Option (Int) := if l0_1.length ≤ 100000 ∧ l0_2.length ≤ 100000 ∧ l0_3.length ≤ 100000 then some (chk a0_0 l0_1 l0_2 l0_3) else none

/-- How many keys are below a key. -/
def below (l : List ByteArray) (key : ByteArray) : Nat := l.countP fun x => slt x key
/-- Is a key there? -/
def isin (l : List ByteArray) (key : ByteArray) : Bool := l.any fun x => decide (x.toList = key.toList)
def node_Find.f (a0_0 : Bool) (l0_1 : List ByteArray) (l0_2 : List ByteArray) (l0_3 : List Int) (a1 : ByteArray) : Option (Int × Bool) :=
  if rising l0_1 = true ∧ l0_1.length ≤ 100000 then some ((if isin l0_1 a1 && !a0_0 then (below l0_1 a1 : Int) + 1 else (below l0_1 a1 : Int)), isin l0_1 a1) else none

def node_cloned.f (a0_0 : Bool) (l0_1 : List ByteArray) (l0_2 : List ByteArray) (l0_3 : List Int) : Option (Bool × List ByteArray × List ByteArray × List Int) :=
  if l0_1.length ≤ 100000 ∧ l0_2.length ≤ 100000 ∧ l0_3.length ≤ 100000 then some (a0_0, l0_1, l0_2, l0_3) else none
def slices_Concat_string_string.f (l0 : List (List ByteArray)) : Option (List ByteArray) := if l0.length ≤ 100 ∧ ∀ x ∈ l0, x.length ≤ 100000 then some l0.flatten else none
def slices_Concat_int_int.f (l0 : List (List Int)) : Option (List Int) := if l0.length ≤ 100 ∧ ∀ x ∈ l0, x.length ≤ 100000 then some l0.flatten else none
def node_Split.f (a0_0 : Bool) (l0_1 : List ByteArray) (l0_2 : List ByteArray) (l0_3 : List Int) : Option (Bool × List ByteArray × List ByteArray × List Int × ByteArray × Bool × List ByteArray × List ByteArray × List Int) :=
  if l0_1.length ≤ 100000 ∧ l0_2.length ≤ 100000 ∧ l0_3.length ≤ 100000 then
    if l0_1.length < 2 then some (a0_0, l0_1, l0_2, l0_3, ⟨#[]⟩, true, [], [], [])
    else if a0_0 then (if l0_2.length = l0_1.length then some (true, l0_1.take (l0_1.length / 2), l0_2.take (l0_1.length / 2), [], l0_1.getD (l0_1.length / 2) ⟨#[]⟩, true, l0_1.drop (l0_1.length / 2), l0_2.drop (l0_1.length / 2), []) else none)
    else if l0_3.length = l0_1.length + 1 then some (false, l0_1.take (l0_1.length / 2), [], l0_3.take (l0_1.length / 2 + 1), l0_1.getD (l0_1.length / 2) ⟨#[]⟩, false, l0_1.drop (l0_1.length / 2 + 1), [], l0_3.drop (l0_1.length / 2 + 1)) else none
  else none
def node_Join.f (a0_0 : Bool) (l0_1 : List ByteArray) (l0_2 : List ByteArray) (l0_3 : List Int) (a1 : ByteArray) (a2_0 : Bool) (l2_1 : List ByteArray) (l2_2 : List ByteArray) (l2_3 : List Int) : Option (Bool × List ByteArray × List ByteArray × List Int) :=
  if (l0_1.length ≤ 100000 ∧ l0_2.length ≤ 100000 ∧ l0_3.length ≤ 100000) ∧ l2_1.length ≤ 100000 ∧ l2_2.length ≤ 100000 ∧ l2_3.length ≤ 100000 then
    some (if a0_0 != a2_0 then (a0_0, l0_1, l0_2, l0_3) else if a0_0 then (true, l0_1 ++ l2_1, l0_2 ++ l2_2, []) else (false, l0_1 ++ a1 :: l2_1, [], l0_3 ++ l2_3)) else none
/-- May a cell be parted: is its first byte the length of a key that lies in it? -/
def cellOk (c : ByteArray) : Bool := decide (0 < c.size) && (decide (bt c 0 < c.size) || decide (bt c 0 = 0))
def cellKey (c : ByteArray) : ByteArray := c.extract 1 (1 + (bt c 0).toNat)
def cellRest (c : ByteArray) : ByteArray := c.extract (1 + (bt c 0).toNat) c.size
/-- The number of four bytes. -/
def num4 (s : ByteArray) : Int := bt s 0 * 16777216 + bt s 1 * 65536 + bt s 2 * 256 + bt s 3
/-- The node of cells, if they are one's. -/
def ofR (leaf : Bool) (cells : List ByteArray) : Option (Bool × List ByteArray × List ByteArray × List Int) :=
  if leaf then (if cells.all cellOk = true ∧ chk true (cells.map cellKey) (cells.map cellRest) [] = 0 then some (true, cells.map cellKey, cells.map cellRest, []) else none)
  else match cells with
    | [] => none
    | c :: r => if c.size = 4 ∧ r.all (fun x => cellOk x && decide ((cellRest x).size = 4)) = true ∧ chk false (r.map cellKey) [] (num4 c :: r.map fun x => num4 (cellRest x)) = 0
        then some (false, r.map cellKey, [], num4 c :: r.map fun x => num4 (cellRest x)) else none
def node_Put.f (a0_0 : Bool) (l0_1 : List ByteArray) (l0_2 : List ByteArray) (l0_3 : List Int) (a1 : ByteArray) (a2 : ByteArray) : Option (Bool × List ByteArray × List ByteArray × List Int) :=
  if l0_1.length ≤ 100000 ∧ l0_2.length ≤ 100000 ∧ l0_3.length ≤ 100000 then
    if a0_0 then (if rising l0_1 = true ∧ l0_2.length = l0_1.length then
      some (true, l0_1.take (below l0_1 a1) ++ [a1] ++ l0_1.drop (below l0_1 a1 + if isin l0_1 a1 then 1 else 0), l0_2.take (below l0_1 a1) ++ [a2] ++ l0_2.drop (below l0_1 a1 + if isin l0_1 a1 then 1 else 0), []) else none)
    else some (a0_0, l0_1, l0_2, l0_3)
  else none
def node_Drop.f (a0_0 : Bool) (l0_1 : List ByteArray) (l0_2 : List ByteArray) (l0_3 : List Int) (a1 : ByteArray) : Option (Bool × List ByteArray × List ByteArray × List Int) :=
  if (l0_1.length ≤ 100000 ∧ l0_2.length ≤ 100000 ∧ l0_3.length ≤ 100000) ∧ rising l0_1 = true then
    if a0_0 && isin l0_1 a1 then (if l0_2.length = l0_1.length then
      some (true, l0_1.take (below l0_1 a1) ++ l0_1.drop (below l0_1 a1 + 1), l0_2.take (below l0_1 a1) ++ l0_2.drop (below l0_1 a1 + 1), []) else none)
    else some (a0_0, l0_1, l0_2, l0_3)
  else none
def node_laid_string.f (l0 : List ByteArray) (a1 : Int) (a2 : Int) (l3 : List ByteArray) : Option (List ByteArray) :=
  if l0.length ≤ 100000 ∧ l3.length ≤ 100000 ∧ 0 ≤ a1 ∧ a1 ≤ l0.length ∧ 0 ≤ a2 ∧ a2 ≤ l0.length then some (l0.take a1.toNat ++ l3 ++ l0.drop a2.toNat) else none

/-- One round of the document's Put: what is out already, whether the key is. -/
def putStep (key value : ByteArray) (st : List ByteArray × List ByteArray × Bool) (kv : ByteArray × ByteArray) : List ByteArray × List ByteArray × Bool :=
  let st1 := if st.2.2 = false ∧ slt kv.1 key = false then (st.1 ++ [key], st.2.1 ++ [value], true) else st
  if kv.1.toList = key.toList then st1 else (st1.1 ++ [kv.1], st1.2.1 ++ [kv.2], st1.2.2)
def putR (key value : ByteArray) (ks vs : List ByteArray) : List ByteArray × List ByteArray × Bool := (ks.zip vs).foldl (putStep key value) ([], [], false)
def lunetteref05_Put.f (a0_0 : Bool) (l0_1 : List ByteArray) (l0_2 : List ByteArray) (l0_3 : List Int) (a1 : ByteArray) (a2 : ByteArray) : Option (Bool × List ByteArray × List ByteArray × List Int) :=
  if a0_0 then (if (l0_1.length ≤ 100000 ∧ l0_2.length = l0_1.length) ∧ ∀ s ∈ l0_1, s.size ≤ 1000000000 then
    let st := putR a1 a2 l0_1 l0_2
    some (true, (if st.2.2 then st.1 else st.1 ++ [a1]), (if st.2.2 then st.2.1 else st.2.1 ++ [a2]), []) else none)
  else some (a0_0, l0_1, l0_2, l0_3)
def dropR (key : ByteArray) (ks vs : List ByteArray) : List (ByteArray × ByteArray) := (ks.zip vs).filter fun kv => !decide (kv.1.toList = key.toList)
def lunetteref05_Drop.f (a0_0 : Bool) (l0_1 : List ByteArray) (l0_2 : List ByteArray) (l0_3 : List Int) (a1 : ByteArray) : Option (Bool × List ByteArray × List ByteArray × List Int) :=
  if a0_0 then (if l0_1.length ≤ 100000 ∧ l0_2.length = l0_1.length then
    some (true, (dropR a1 l0_1 l0_2).map (·.1), (dropR a1 l0_1 l0_2).map (·.2), []) else none)
  else some (a0_0, l0_1, l0_2, l0_3)
end Go.Proofs.Ytpdlbebiapimoaa.PN
