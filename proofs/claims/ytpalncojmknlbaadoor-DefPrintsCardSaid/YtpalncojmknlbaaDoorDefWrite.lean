/- def.write, walked by hand (a closure over a strings.Builder, maps): its contract in the form that the kit's printer gives its own. -/
import Derived.Test.YtpalncojmknlbaaDoorYx0
import Derived.Test.YtpalncojmknlbaaDoorDefLine
import Derived.Test.YtpalncojmknlbaaDoorDefNames
import Derived.Test.YtpalncojmknlbaaDoorDefMono
import Derived.Maps.StringElems
import Derived.Deep.RegionLaw
import Derived.Test.YtpalncojmknlbaaDoorSpanLaws
import Derived.Deep.Cut
import Derived.Deep.RegionWith
import Derived.LoopN
import Derived.LoopTactic
import Derived.Maps.RangeWalk
namespace Go.Proofs.YtpalncojmknlbaaDoor.Ext
open Go.RowKit Go.Lib Go.Sort Go.Maps Go.WideMaps Go.Proofs.YtpalncojmknlbaaDoorW.PrintWords Go.Proofs.YtpalncojmknlbaaDoorW.PrintLast Go.Proofs.YtpalncojmknlbaaDoorW.PrintMore Go.Proofs.YtpalncojmknlbaaDoor.Y Go.Proofs.YtpalncojmknlbaaDoor.Span
set_option linter.unusedVariables false
set_option linter.unusedSimpArgs false

def wProcess : List UInt8 := [112, 114, 111, 99, 101, 115, 115]
def wFlow : List UInt8 := [102, 108, 111, 119]
def wDefault : List UInt8 := [100, 101, 102, 97, 117, 108, 116]
def wIf : List UInt8 := [105, 102]
def wAgain : List UInt8 := [97, 103, 97, 105, 110]
/-- The words of a node's line behind its kind's. -/
def nodeMore (n : S40) : List (List UInt8) :=
 [Lib.itoa n.f1] ++ (if n.f0 = 3 then [Lib.itoa n.f2] else if n.f0 = 8 ∨ n.f0 = 9 then [Lib.itoa n.f3] else []) ++ (if n.f4.data.toList = [] then [] else [n.f4.data.toList])
def nodeText (n : S40) : List UInt8 := lineL (kindWord n.f0 :: nodeMore n)
/-- The words of a flow's line behind the first. -/
def flowMore (f : S42) : List (List UInt8) :=
 [Lib.itoa f.f0, Lib.itoa f.f1] ++ (if f.f2 = 1 then [wDefault] else if f.f2 = 2 then [wIf, f.f4.data.toList] else if f.f2 = 3 then [wAgain, Lib.itoa f.f3, wIf, f.f4.data.toList] else [])
def flowText (f : S42) : List UInt8 := lineL (wFlow :: flowMore f)
def nodesText (l : List S40) : List UInt8 := (l.map nodeText).flatten
def flowsText (l : List S42) : List UInt8 := (l.map flowText).flatten
def defText (name : ByteArray) (l : List S40) (m : List S42) : List UInt8 := lineL [wProcess, name.data.toList] ++ nodesText l ++ flowsText m
def inI (n : Int) : Bool := decide (-9223372036854775808 ≤ n) && decide (n ≤ 9223372036854775807)
def okNode (n : S40) : Bool := inI n.f0 && inI n.f1 && inI n.f2 && inI n.f3 && decide (n.f4.size ≤ 10000)
def okFlow (f : S42) : Bool := inI f.f0 && inI f.f1 && inI f.f2 && inI f.f3 && decide (f.f4.size ≤ 10000)
def def_write.f (a0_0 : ByteArray) (l0_1 : List S40) (l0_2 : List S42) : Option ByteArray :=
 if a0_0.size ≤ 1000000 ∧ l0_1.length ≤ 1000 ∧ l0_2.length ≤ 1000 ∧ l0_1.all okNode = true ∧ l0_2.all okFlow = true then some (S (defText a0_0 l0_1 l0_2)) else none
/-- What stands while the text is written: d's box, the builder with the text so far. -/
def Base (w : World) (name : ByteArray) (A1 : Option Addr) (c1 n1 : Nat) (A2 : Option Addr) (c2 n2 : Nat) (l : List UInt8) (wc : World) : Prop :=
 Aside0 (wc.heap[w.heap.size]? = some (.cells #[.string name, .slice A1 n1 c1, .slice A2 n2 c2] 25 (0, 0))) ∧ Aside0 (Lib.IsBuilderF 56 5 (w.heap.size + 1) (w.heap.size + 1) (Lib.byteCells l) wc) ∧ Aside0 (Below w.heap.size w wc)
theorem Base.grown {w : World} {name : ByteArray} {A1 : Option Addr} {c1 n1 : Nat} {A2 : Option Addr} {c2 n2 : Nat} {l : List UInt8} {wc w' : World} {row : Option Nat} (h : Base w name A1 c1 n1 A2 c2 n2 l wc) (hg : wc.grownBy w' row)
  (hr : ∀ k, row = some k → w.heap.size ≤ k ∧ ∀ c t f, wc.heap[k]? ≠ some (.cells c t f)) : Base w name A1 c1 n1 A2 c2 n2 l w' := by
 obtain ⟨⟨h1⟩, ⟨h2⟩, ⟨h3⟩⟩ := h
 have keep : ∀ {k : Nat} {c t f}, wc.heap[k]? = some (.cells c t f) → w'.heap[k]? = some (.cells c t f) := by
  intro k c t f hk
  refine (hg.block k (Array.getElem?_eq_some_iff.1 hk).1 ?_).trans hk
  intro e
  exact (hr k e.symm).2 c t f hk
 refine ⟨⟨keep h1⟩, ⟨?_⟩, ⟨⟨hg.os.trans h3.os, hg.tape.trans h3.tape, hg.output.trans h3.output, Nat.le_trans h3.size hg.size, fun k hk => (hg.block k (Nat.lt_of_lt_of_le hk h3.size) (by intro e; have := (hr k e.symm).1; omega)).trans (h3.block k hk)⟩⟩⟩
 have one : ∀ q, Lib.BuilderAtF 56 5 (w.heap.size + 1) (w.heap.size + 1) q (Lib.byteCells l) wc → Lib.BuilderAtF 56 5 (w.heap.size + 1) (w.heap.size + 1) q (Lib.byteCells l) w' := by
  rintro q ⟨g1, v, g2, g3, g4⟩
  refine ⟨g1, v, keep g2, g3.kept hg ?_, g4⟩
  cases hv : v.ownBlock with
  | none => exact Or.inl rfl
  | some k =>
   refine Or.inr ?_
   intro e
   obtain ⟨c, fz, hk⟩ := Lib.ownsRowF_kind g3 k hv
   exact (hr k e.symm).2 _ _ _ hk
 exact h2.imp (one _) (one _)
theorem iter_no {H : Type} {w : World} {P : Program} {k : TypeId} {R : Value → Option (DataW H × List MemPlace)} {b r n : Nat} {D : DataW H} {left : Lit → Bool} {cnt : Nat} (h : w.ranges P k R b r n D left cnt) : ∀ c t f, w.heap[r]? ≠ some (.cells c t f) := by
 obtain ⟨es, clock, since, seen, c0, _, _, _, _, hr, _⟩ := h
 intro c t f e
 rw [hr] at e; cases e
theorem map_no {H : Type} {w : World} {P : Program} {k : TypeId} {R : Value → Option (DataW H × List MemPlace)} {b n : Nat} {D : DataW H} (h : w.ownsMap P k R b n D) : ∀ c t f, w.heap[b]? ≠ some (.cells c t f) := by
 obtain ⟨es, clock, hb, _⟩ := h
 intro c t f e
 rw [hb] at e; cases e
theorem Base.line {w : World} {name : ByteArray} {A1 : Option Addr} {c1 n1 : Nat} {A2 : Option Addr} {c2 n2 : Nat} {l l' : List UInt8} {wc w' : World} (h : Base w name A1 c1 n1 A2 c2 n2 l wc)
  (h1 : Lib.IsBuilderF 56 5 (w.heap.size + 1) (w.heap.size + 1) (Lib.byteCells l') w') (h2 : Below (w.heap.size + 1) wc w') : Base w name A1 c1 n1 A2 c2 n2 l' w' :=
 ⟨⟨(h2.block _ (Nat.lt_succ_self _)).trans h.1.out⟩, ⟨h1⟩, ⟨h.2.2.out.trans (Joins.below_le h2 (Nat.le_succ _))⟩⟩
theorem map_others {H : Type} {w w' : World} {P : Program} {k : TypeId} {R : Value → Option (DataW H × List MemPlace)} {b n bb : Nat} {D : DataW H} {e : TypeId} (h : w.ownsMap P k R b n D) (ho : Lib.OthersKept e (some bb) w w') (hne : b ≠ bb) : w'.ownsMap P k R b n D := by
 obtain ⟨es, clock, hb, F, hs, hD⟩ := h
 exact ⟨es, clock, ho b _ hb (fun e => hne (Option.some.inj e)) (fun c fz e => by cases e), F, hs, hD⟩
theorem key_str {key : Value} {kl : Lit} (h : keyOf Tryd.prog 9 key = some kl) : ∃ x : ByteArray, key = .string x ∧ kl = .string x.data.toList ∧ x.size ≤ maxLen := by
 have hk := Tryd.underlying9
 cases key <;> simp [keyOf, hk, mapKey] at h
 obtain ⟨h1, h2⟩ := h
 exact ⟨_, rfl, h2.symm, h1⟩
theorem base_start (w : World) (name : ByteArray) (A1 : Option Addr) (c1 n1 : Nat) (A2 : Option Addr) (c2 n2 : Nat) :
  Base w name A1 c1 n1 A2 c2 n2 [] (((w.alloc (.cells #[.string name, .slice A1 n1 c1, .slice A2 n2 c2] 25)).alloc (.cells #[.pointer none, .slice none 0 0] 56)).alloc (.map #[] 0)) := by
 refine ⟨⟨blk_alloc (blk_alloc (blk_new w _) _) _⟩, ⟨Lib.IsBuilderF.alloc (Or.inl ⟨Nat.le_refl _, .slice none 0 0, ?_, ⟨rfl, Or.inl ⟨rfl, rfl⟩⟩, by simp [Value.ownBlock]⟩) _⟩, ⟨(((Below.refl _ _).alloc (Nat.le_refl _) _).alloc (by simp) _).alloc (by simp; omega) _⟩⟩
 have := blk_new (w.alloc (.cells #[.string name, .slice A1 n1 c1, .slice A2 n2 c2] 25)) (.cells #[.pointer none, .slice none 0 0] 56)
 simpa using this
theorem itoa_len (n : Int) (h1 : -9223372036854775808 ≤ n) (h2 : n ≤ 9223372036854775807) : (Lib.itoa n).length ≤ 20 := by
 have big : 9223372036854775808 < 10 ^ (18 + 1) := by decide
 unfold Lib.itoa
 split
 ·
  have := dec_len n.natAbs 18 (Nat.lt_of_le_of_lt (by omega) big)
  rw [List.length_cons]; omega
 ·
  have := dec_len n.toNat 18 (Nat.lt_of_le_of_lt (by omega) big)
  omega
theorem lens_le (ws : List (List UInt8)) (h : ∀ x ∈ ws, x.length ≤ 10000) : Lib.lens ws ≤ 10000 * ws.length := by
 induction ws with
 | nil => exact Nat.le_refl _
 | cons x ws ih =>
  have h1 := h x (by simp)
  have h2 := ih (fun y hy => h y (by simp [hy]))
  have e : Lib.lens (x :: ws) = x.length + Lib.lens ws := by simp [Lib.lens]
  rw [e, List.length_cons]; omega
theorem line_len (x : List UInt8) (ws : List (List UInt8)) (h : ∀ y ∈ x :: ws, y.length ≤ 10000) (hn : ws.length ≤ 7) : (Lib.join (x :: ws) [32]).length ≤ 89000 ∧ (lineL (x :: ws)).length ≤ 90000 := by
 have h1 := lens_le (x :: ws) h
 have h2 := Lib.join_length x ws [32]
 rw [List.length_cons] at h1
 rw [List.length_singleton] at h2
 have h3 : (Lib.join (x :: ws) [32]).length ≤ 89000 := by omega
 refine ⟨h3, ?_⟩
 unfold lineL
 rw [List.length_append, List.length_singleton]; omega
theorem kindWord_len (k : Int) : (kindWord k).length ≤ 10000 := by
 rcases word_cases k with e | e | e | e | e | e | e | e | e | e
 ·
  rw [e]; exact Nat.zero_le _
 all_goals (rw [e]; decide)
theorem inI_iff (n : Int) : inI n = true ↔ -9223372036854775808 ≤ n ∧ n ≤ 9223372036854775807 := by
 unfold inI; rw [Bool.and_eq_true, decide_eq_true_eq, decide_eq_true_eq]
theorem okNode_iff (n : S40) : okNode n = true ↔ inI n.f0 = true ∧ inI n.f1 = true ∧ inI n.f2 = true ∧ inI n.f3 = true ∧ n.f4.size ≤ 10000 := by
 unfold okNode; simp only [Bool.and_eq_true, decide_eq_true_eq]; constructor
 ·
  rintro ⟨⟨⟨⟨a, b⟩, c⟩, d⟩, e⟩; exact ⟨a, b, c, d, e⟩
 ·
  rintro ⟨a, b, c, d, e⟩; exact ⟨⟨⟨⟨a, b⟩, c⟩, d⟩, e⟩
theorem okFlow_iff (n : S42) : okFlow n = true ↔ inI n.f0 = true ∧ inI n.f1 = true ∧ inI n.f2 = true ∧ inI n.f3 = true ∧ n.f4.size ≤ 10000 := by
 unfold okFlow; simp only [Bool.and_eq_true, decide_eq_true_eq]; constructor
 ·
  rintro ⟨⟨⟨⟨a, b⟩, c⟩, d⟩, e⟩; exact ⟨a, b, c, d, e⟩
 ·
  rintro ⟨a, b, c, d, e⟩; exact ⟨⟨⟨⟨a, b⟩, c⟩, d⟩, e⟩
theorem num_len {n : Int} (h : inI n = true) : (Lib.itoa n).length ≤ 10000 := by
 have := itoa_len n ((inI_iff n).mp h).1 ((inI_iff n).mp h).2
 omega
theorem node_len (n : S40) (h : okNode n = true) : (∀ y ∈ kindWord n.f0 :: nodeMore n, y.length ≤ 10000) ∧ (nodeMore n).length ≤ 7 := by
 obtain ⟨h0, h1, h2, h3, h4⟩ := (okNode_iff n).mp h
 rw [Lib.size_eq] at h4
 constructor
 ·
  intro y hy
  rcases List.mem_cons.1 hy with rfl | hy
  ·
   exact kindWord_len _
  unfold nodeMore at hy
  rw [List.mem_append, List.mem_append] at hy
  rcases hy with (hy | hy) | hy
  ·
   rw [List.mem_singleton.1 hy]; exact num_len h1
  ·
   split at hy
   ·
    rw [List.mem_singleton.1 hy]; exact num_len h2
   ·
    split at hy
    ·
     rw [List.mem_singleton.1 hy]; exact num_len h3
    ·
     cases hy
  ·
   split at hy
   ·
    cases hy
   ·
    rw [List.mem_singleton.1 hy]; exact h4
 ·
  unfold nodeMore
  rw [List.length_append, List.length_append]
  have e1 : (if n.f0 = 3 then [Lib.itoa n.f2] else if n.f0 = 8 ∨ n.f0 = 9 then [Lib.itoa n.f3] else []).length ≤ 1 := by
   split
   ·
    exact Nat.le_refl _
   ·
    split
    ·
     exact Nat.le_refl _
    ·
     exact Nat.zero_le _
  have e2 : (if n.f4.data.toList = [] then [] else [n.f4.data.toList]).length ≤ 1 := by
   split
   ·
    exact Nat.zero_le _
   ·
    exact Nat.le_refl _
  rw [List.length_singleton]; omega
theorem flow_len (f : S42) (h : okFlow f = true) : (∀ y ∈ wFlow :: flowMore f, y.length ≤ 10000) ∧ (flowMore f).length ≤ 7 := by
 obtain ⟨h0, h1, h2, h3, h4⟩ := (okFlow_iff f).mp h
 rw [Lib.size_eq] at h4
 have hw : ∀ y ∈ [wDefault, wIf, wAgain, wFlow], y.length ≤ 10000 := by decide
 constructor
 ·
  intro y hy
  rcases List.mem_cons.1 hy with rfl | hy
  ·
   exact hw _ (by simp)
  unfold flowMore at hy
  rw [List.mem_append] at hy
  rcases hy with hy | hy
  ·
   rcases List.mem_cons.1 hy with rfl | hy
   ·
    exact num_len h0
   ·
    rw [List.mem_singleton.1 hy]; exact num_len h1
  ·
   split at hy
   ·
    rw [List.mem_singleton.1 hy]; exact hw _ (by simp)
   ·
    split at hy
    ·
     rcases List.mem_cons.1 hy with rfl | hy
     ·
      exact hw _ (by simp)
     ·
      rw [List.mem_singleton.1 hy]; exact h4
    ·
     split at hy
     ·
      rcases List.mem_cons.1 hy with rfl | hy
      ·
       exact hw _ (by simp)
      rcases List.mem_cons.1 hy with rfl | hy
      ·
       exact num_len h3
      rcases List.mem_cons.1 hy with rfl | hy
      ·
       exact hw _ (by simp)
      ·
       rw [List.mem_singleton.1 hy]; exact h4
     ·
      cases hy
 ·
  unfold flowMore
  rw [List.length_append]
  have e1 : (if f.f2 = 1 then [wDefault] else if f.f2 = 2 then [wIf, f.f4.data.toList] else if f.f2 = 3 then [wAgain, Lib.itoa f.f3, wIf, f.f4.data.toList] else []).length ≤ 4 := by
   split
   ·
    show 1 ≤ 4; omega
   ·
    split
    ·
     show 2 ≤ 4; omega
    ·
     split
     ·
      show 4 ≤ 4; omega
     ·
      exact Nat.zero_le _
  show 2 + _ ≤ 7; omega
theorem nodes_len (l : List S40) (h : l.all okNode = true) : (nodesText l).length ≤ 90000 * l.length := by
 induction l with
 | nil => exact Nat.le_refl _
 | cons n l ih =>
  rw [List.all_cons, Bool.and_eq_true] at h
  have h1 := (line_len _ _ (node_len n h.1).1 (node_len n h.1).2).2
  have h2 := ih h.2
  have e : nodesText (n :: l) = nodeText n ++ nodesText l := by simp [nodesText]
  rw [e, List.length_append, List.length_cons]
  unfold nodeText; omega
theorem flows_len (l : List S42) (h : l.all okFlow = true) : (flowsText l).length ≤ 90000 * l.length := by
 induction l with
 | nil => exact Nat.le_refl _
 | cons n l ih =>
  rw [List.all_cons, Bool.and_eq_true] at h
  have h1 := (line_len _ _ (flow_len n h.1).1 (flow_len n h.1).2).2
  have h2 := ih h.2
  have e : flowsText (n :: l) = flowText n ++ flowsText l := by simp [flowsText]
  rw [e, List.length_append, List.length_cons]
  unfold flowText; omega
theorem nodes_take (l : List S40) (i : Nat) (h : i < l.length) : nodesText (l.take (i + 1)) = nodesText (l.take i) ++ nodeText l[i] := by
 unfold nodesText
 rw [List.take_succ_eq_append_getElem h, List.map_append, List.flatten_append]; simp
theorem flows_take (l : List S42) (i : Nat) (h : i < l.length) : flowsText (l.take (i + 1)) = flowsText (l.take i) ++ flowText l[i] := by
 unfold flowsText
 rw [List.take_succ_eq_append_getElem h, List.map_append, List.flatten_append]; simp
theorem allp_take {α : Type} (p : α → Bool) (l : List α) (i : Nat) (h : l.all p = true) : (l.take i).all p = true :=
 List.all_eq_true.mpr fun x hx => List.all_eq_true.mp h x (List.mem_of_mem_take hx)
theorem Base.grownRow {w : World} {name : ByteArray} {A1 : Option Addr} {c1 n1 : Nat} {A2 : Option Addr} {c2 n2 : Nat} {l : List UInt8} {wc w' : World} {row : Option Nat} (h : Base w name A1 c1 n1 A2 c2 n2 l wc) (hg : wc.grownBy w' row)
  (hr : ∀ k, row = some k → w.heap.size + 2 ≤ k ∧ ∃ c f, wc.heap[k]? = some (.cells c 9 f)) : Base w name A1 c1 n1 A2 c2 n2 l w' := by
 obtain ⟨⟨h1⟩, ⟨h2⟩, ⟨h3⟩⟩ := h
 have keep : ∀ {k : Nat} {c t f}, k < w.heap.size + 2 → wc.heap[k]? = some (.cells c t f) → w'.heap[k]? = some (.cells c t f) := by
  intro k c t f hlt hk
  refine (hg.block k (Array.getElem?_eq_some_iff.1 hk).1 ?_).trans hk
  intro e
  have := (hr k e.symm).1
  omega
 refine ⟨⟨keep (by omega) h1⟩, ⟨?_⟩, ⟨⟨hg.os.trans h3.os, hg.tape.trans h3.tape, hg.output.trans h3.output, Nat.le_trans h3.size hg.size, fun k hk => (hg.block k (Nat.lt_of_lt_of_le hk h3.size) (by intro e; have := (hr k e.symm).1; omega)).trans (h3.block k hk)⟩⟩⟩
 have one : ∀ q, Lib.BuilderAtF 56 5 (w.heap.size + 1) (w.heap.size + 1) q (Lib.byteCells l) wc → Lib.BuilderAtF 56 5 (w.heap.size + 1) (w.heap.size + 1) q (Lib.byteCells l) w' := by
  rintro q ⟨g1, v, g2, g3, g4⟩
  refine ⟨g1, v, keep (by omega) g2, g3.kept hg ?_, g4⟩
  cases hv : v.ownBlock with
  | none => exact Or.inl rfl
  | some k =>
   refine Or.inr ?_
   intro e
   obtain ⟨c, fz, hk⟩ := Lib.ownsRowF_kind g3 k hv
   obtain ⟨_, c', f', hk'⟩ := hr k e.symm
   rw [hk] at hk'
   have := (Obj.cells.inj (Option.some.inj hk')).2.1
   exact absurd this (by decide)
 exact h2.imp (one _) (one _)
/-- The elements of a loop's round: the round's own variable, the map of names, what stands. -/
def Nst (w : World) (name : ByteArray) (A1 : Option Addr) (c1 n1 : Nat) (A2 : Option Addr) (c2 n2 : Nat) (nm m : Nat) (D : DataW Unit) (l : List UInt8) (nb : Nat) (cs : Array Value) (T : TypeId) (wc : World) : Prop :=
 Aside0 (wc.heap[nb]? = some (.cells cs T (0, 0))) ∧ Aside0 (nm < nb ∧ w.heap.size + 2 ≤ nm) ∧ wc.ownsMap Tryd.prog 3 (plainElem Tryd.prog 9) nm m D ∧ Base w name A1 c1 n1 A2 c2 n2 l wc
def RelS (w : World) (name : ByteArray) (A1 : Option Addr) (c1 n1 : Nat) (A2 : Option Addr) (c2 n2 : Nat) (nm m : Nat) (D : DataW Unit) (l : List UInt8) (nb : Nat) (cs : Array Value) (T : TypeId) (ws : List ByteArray) (v : Value) (wc : World) : Prop :=
 wc.ownsRow (nb + 1) 9 1 v ws.length (ws.map Value.string) ∧ Nst w name A1 c1 n1 A2 c2 n2 nm m D l nb cs T wc
section
variable {w : World} {name : ByteArray} {A1 : Option Addr} {c1 n1 : Nat} {A2 : Option Addr} {c2 n2 nm m : Nat} {D : DataW Unit} {l : List UInt8} {nb : Nat} {cs : Array Value} {T : TypeId} {wc w' : World}
theorem Nst.below (h : Nst w name A1 c1 n1 A2 c2 n2 nm m D l nb cs T wc) (hb : Below wc.heap.size wc w') : Nst w name A1 c1 n1 A2 c2 n2 nm m D l nb cs T w' := by
 have hg : wc.grownBy w' none := ⟨hb.os, hb.tape, hb.output, hb.size, fun i hi _ => hb.block i hi⟩
 exact ⟨⟨blk_below h.1.out hb⟩, h.2.1, h.2.2.1.kept hg (by simp), h.2.2.2.grown hg (fun k e => by cases e)⟩
theorem Nst.lt (h : Nst w name A1 c1 n1 A2 c2 n2 nm m D l nb cs T wc) : nb < wc.heap.size := blk_lt h.1.out
theorem Nst.row {row : Option Nat} (h : Nst w name A1 c1 n1 A2 c2 n2 nm m D l nb cs T wc) (hg : wc.grownBy w' row) (hr : ∀ k, row = some k → nb + 1 ≤ k ∧ ∃ c f, wc.heap[k]? = some (.cells c 9 f)) : Nst w name A1 c1 n1 A2 c2 n2 nm m D l nb cs T w' := by
 refine ⟨⟨blk_grown h.1.out hg (fun e => by have := (hr nb e.symm).1; omega)⟩, h.2.1, h.2.2.1.kept hg (fun e => by have := (hr nm e.symm).1; have := h.2.1.out.1; omega), h.2.2.2.grownRow hg (fun k e => ⟨by have := (hr k e).1; have := h.2.1.out; omega, (hr k e).2⟩)⟩
theorem row_kind {base n : Nat} {v : Value} {us : List Value} (h : wc.ownsRow base 9 1 v n us) : ∀ k, v.ownBlock = some k → base ≤ k ∧ ∃ c f, wc.heap[k]? = some (.cells c 9 f) := by
 intro k hk
 rcases h.2 with ⟨rfl, _⟩ | ⟨g, cap, cur, rfl, hb, hg, _⟩
 ·
  cases hk
 ·
  cases hk; exact ⟨hb, _, _, hg⟩
theorem RelS.below {ws : List ByteArray} {v : Value} (h : RelS w name A1 c1 n1 A2 c2 n2 nm m D l nb cs T ws v wc) (hb : Below wc.heap.size wc w') : RelS w name A1 c1 n1 A2 c2 n2 nm m D l nb cs T ws v w' := by
 have hg : wc.grownBy w' none := ⟨hb.os, hb.tape, hb.output, hb.size, fun i hi _ => hb.block i hi⟩
 exact ⟨h.1.kept hg (by cases v.ownBlock <;> simp), h.2.below hb⟩
theorem RelS.lit (h : Nst w name A1 c1 n1 A2 c2 n2 nm m D l nb cs T wc) (ws : List ByteArray) (hn : ws.length ≤ 100) : RelS w name A1 c1 n1 A2 c2 n2 nm m D l nb cs T ws (.slice (some ⟨wc.heap.size, 0, none⟩) ws.length ws.length) (wc.alloc (.cells (ws.map Value.string).toArray 9)) := by
 refine ⟨?_, h.below ((Below.refl _ _).alloc (Nat.le_refl _) _)⟩
 have := World.ownsRow_lit (base := nb + 1) (e := 9) (size := 1) wc (ws.map Value.string).toArray ws.length h.lt (by unfold maxLen; omega) (by simp)
 simpa using this
theorem RelS.add {ws ws' : List ByteArray} {v v' : Value} {wd : World} (h : RelS w name A1 c1 n1 A2 c2 n2 nm m D l nb cs T ws v wd) (hown : w'.ownsRow (nb + 1) 9 1 v' (ws.length + ws'.length) (ws.map Value.string ++ ws'.map Value.string)) (hg : wd.grownBy w' v.ownBlock) :
  RelS w name A1 c1 n1 A2 c2 n2 nm m D l nb cs T (ws ++ ws') v' w' :=
 ⟨by rw [List.map_append, List.length_append]; exact hown, h.2.row hg (row_kind h.1)⟩
theorem news_cells (ws : List ByteArray) (j : Nat) (u : Value) (h : (ws.map Value.string)[j]? = some u) : (wc.alloc (.cells (ws.map Value.string).toArray 9)).cell? ((⟨wc.heap.size, 0, none⟩ : Addr).add j) = some u := by
 have h' : (ws.map Value.string).toArray[j]? = some u := by rw [List.getElem?_toArray]; exact h
 have hcell := (blk_cell (blk_new wc (.cells (ws.map Value.string).toArray 9)) j).trans h'
 unfold Addr.add
 split
 ·
  rename_i h0; subst h0; exact hcell
 ·
  simp only [Nat.zero_add]; exact hcell
theorem one_cells (ws : List ByteArray) : ∀ u ∈ ws.map Value.string, u.oneCell' = true := by
 intro u hu
 obtain ⟨y, _, rfl⟩ := List.mem_map.1 hu
 rfl
end
theorem zero_str (w : World) : (zeroValue 9).run Tryd.prog w = .ok (.string ⟨#[]⟩) w := Tryd.zeroValue9 w
theorem names_look {wc : World} {nm m : Nat} {D : DataW Unit} (hown : wc.ownsMap Tryd.prog 3 (plainElem Tryd.prog 9) nm m D) (hD : ∀ k : Int, D.atKey (.int .i64 k) (txt []) = txt (kindWord k)) (k : Int) (hk : inI k = true) :
  (Instr.lookup 63 (.map (some nm)) (.int .i64 k) false).run Tryd.prog wc = .ok (.string (S (kindWord k))) wc := by
 have hk' := (inI_iff k).mp hk
 have hwf : (Lit.int .i64 k).wf = true := by
  have e1 : IntKind.i64.min = -9223372036854775808 := rfl
  have e2 : IntKind.i64.max = 9223372036854775807 := rfl
  simp [Lit.wf, e1, e2]; omega
 obtain ⟨v, ps, hrun, hv⟩ := hown.lookup (int_keyed Tryd.underlying3) Tryd.underlying63 (z := .string ⟨#[]⟩) (zero_str wc) (plainElem_string Tryd.underlying9 (by decide)) (keyOf_int_mk Tryd.underlying3 hwf)
 obtain ⟨s, rfl, hs, _⟩ := plainElem_string_inv Tryd.underlying9 hv
 have e := hD k
 have hz : (DataW.lit (.string (⟨#[]⟩ : ByteArray).data.toList) : DataW Unit) = txt [] := rfl
 rw [hz] at hs
 rw [e] at hs
 have hs' : kindWord k = s.data.toList := by
  have := (Prod.mk.inj hs).1
  exact Lit.string.inj (DataW.lit.inj this)
 rw [hs', S_of]; exact hrun
theorem itoa_f {n : Int} (h : inI n = true) : strconv_Itoa.f n = some (S (Lib.itoa n)) := by
 unfold strconv_Itoa.f
 rw [if_pos ((inI_iff n).mp h)]; rfl
/-- The words of a node's line between the scope and the time. -/
def nodeMid (n : S40) : List ByteArray := if n.f0 = 3 then [S (Lib.itoa n.f2)] else if n.f0 = 8 ∨ n.f0 = 9 then [S (Lib.itoa n.f3)] else []
/-- The words of a node's line behind its kind's, as strings. -/
def nodeMoreB (n : S40) : List ByteArray := ([S (Lib.itoa n.f1)] ++ nodeMid n) ++ (if n.f4.data.toList = [] then [] else [n.f4])
theorem nodeMoreB_eq (n : S40) : (nodeMoreB n).map (·.data.toList) = nodeMore n := by
 unfold nodeMoreB nodeMore nodeMid
 rw [List.map_append, List.map_append]
 have e1 : ([S (Lib.itoa n.f1)] : List ByteArray).map (·.data.toList) = [Lib.itoa n.f1] := by rw [List.map_cons, List.map_nil, S_list]
 have e2 : (if n.f0 = 3 then [S (Lib.itoa n.f2)] else if n.f0 = 8 ∨ n.f0 = 9 then [S (Lib.itoa n.f3)] else []).map (·.data.toList) = if n.f0 = 3 then [Lib.itoa n.f2] else if n.f0 = 8 ∨ n.f0 = 9 then [Lib.itoa n.f3] else [] := by
  split
  ·
   rw [List.map_cons, List.map_nil, S_list]
  ·
   split
   ·
    rw [List.map_cons, List.map_nil, S_list]
   ·
    rfl
 have e3 : (if n.f4.data.toList = [] then [] else [n.f4]).map (·.data.toList) = if n.f4.data.toList = [] then [] else [n.f4.data.toList] := by split <;> rfl
 rw [e1, e2, e3]
theorem Nst.drew {w : World} {name : ByteArray} {A1 : Option Addr} {c1 n1 : Nat} {A2 : Option Addr} {c2 n2 nm m : Nat} {D : DataW Unit} {l : List UInt8} {nb : Nat} {cs : Array Value} {T : TypeId} {wc : World} (h : Nst w name A1 c1 n1 A2 c2 n2 nm m D l nb cs T wc) : Nst w name A1 c1 n1 A2 c2 n2 nm m D l nb cs T wc.drew := h.below (below_drew1 (Below.refl _ _))
/-- The words of a flow's line behind its two numbers. -/
def flowEnd (n : S42) : List ByteArray := if n.f2 = 1 then [S wDefault] else if n.f2 = 2 then [S wIf, n.f4] else if n.f2 = 3 then [S wAgain, S (Lib.itoa n.f3), S wIf, n.f4] else []
theorem flowEnd_eq (n : S42) : ([S (Lib.itoa n.f0), S (Lib.itoa n.f1)] ++ flowEnd n).map (·.data.toList) = flowMore n := by
 unfold flowEnd flowMore
 rw [List.map_append]
 have e1 : ([S (Lib.itoa n.f0), S (Lib.itoa n.f1)] : List ByteArray).map (·.data.toList) = [Lib.itoa n.f0, Lib.itoa n.f1] := by simp only [List.map_cons, List.map_nil, S_list]
 rw [e1]
 congr 1
 split
 ·
  simp only [List.map_cons, List.map_nil, S_list]
 ·
  split
  ·
   simp only [List.map_cons, List.map_nil, S_list]
  ·
   split
   ·
    simp only [List.map_cons, List.map_nil, S_list]
   ·
    rfl
theorem step_append_own {P : Program} {ops : Array Oper} {o : Oper} {a : Act} {w : World} {K : Act → World → Prop} {Q : Exit → Act → World → Prop} {E : Prop}
  (hg : o.guard = none) (s x : Operand) (t : TypeId) (hop : o.op = Op.call { callee := Callee.builtin Builtin.append, args := #[s, x], argTypes := #[t, t] })
  (base : Nat) (e : TypeId) (i : TypeInfo) (z : Value) (size bytes : Nat) (h1 : P.underlying t = some (.slice e)) (h2 : P.info? e = some i) (h3 : i.zero = some z) (h4 : i.size = size) (h5 : i.bytes = bytes) (h6 : z.cells.size = size) (h7 : 0 < size)
  (v : Value) (n : Nat) (xs : List Value) (hs : a.eval s = v) (hown : w.ownsRow base e size v n xs)
  (ad : Addr) (m c : Nat) (news : List Value) (hx : a.eval x = .slice (some ad) m c) (hn : news.length = m * size) (hc : ∀ j u, news[j]? = some u → w.cell? (ad.add j) = some u) (h1c : ∀ u ∈ news, u.oneCell' = true)
  (b1 : n + m ≤ maxLen) (b2 : (n + m) * bytes ≤ 140737488355328) (hb : base ≤ w.heap.size)
  (hK : ∀ v' w', w'.ownsRow base e size v' (n + m) (xs ++ news) → w.grownBy w' v.ownBlock → K (a.put o.dst v') w') :
  if Region.wanted o (yielded ops a.tmps) = true then Oper.wp P o a w K Q else E := by
 have hw : Region.wanted o (yielded ops a.tmps) = true := by simp [Region.wanted, hg]
 rw [if_pos hw]
 obtain ⟨v', w', hrun, r1, r2, _⟩ := run_append_own (P := P) w base t o.type e i z size bytes h1 h2 h3 h4 h5 h6 h7 v n xs hown ad m c news hn hc h1c b1 b2 hb
 unfold Oper.wp
 simp [execOp, hop, resolve, invoke, builtin, hs, hx, hrun, Result.andThen]
 exact hK v' w' r1 r2
theorem szlit (a : Array UInt8) : (⟨a⟩ : ByteArray).size = a.size := rfl
set_option maxHeartbeats 4000000 in
set_option maxRecDepth 100000 in
theorem def_write.calls (a0_0 : ByteArray) (A0_1 : Option Addr) (c0_1 : Nat) (l0_1 : List S40) (A0_2 : Option Addr) (c0_2 : Nat) (l0_2 : List S42) (r : ByteArray) (w : World) (hTab : Tab w) (hr0_1 : Kd.C k40 w A0_1 l0_1.length l0_1) (hc0_1 : l0_1.length ≤ c0_1) (hr0_2 : Kd.C k42 w A0_2 l0_2.length l0_2) (hc0_2 : l0_2.length ≤ c0_2)
  (h : def_write.f a0_0 l0_1 l0_2 = some r) :
  Calls Tryd.prog 15 #[.agg #[.string a0_0, .slice A0_1 l0_1.length c0_1, .slice A0_2 l0_2.length c0_2]] w fun e w' => e = .returned (.string r) ∧ Below w.heap.size w w' := by
 have hmf : ∀ (fn : Fn) (first cap : Array Value) (w : World), (Instr.makeFunc fn first cap).run Tryd.prog w = .ok (.func fn first cap) w := fun _ _ _ _ => rfl
 have hmm := @run_makeMap Tryd.prog
 unfold def_write.f at h
 split at h
 case isFalse => cases h
 rename_i hc
 cases h
 have HR1 := Aside0.mk hr0_1
 have HR2 := Aside0.mk hr0_2
 have HC := Aside0.mk hc
 clear hr0_1 hr0_2 hc
 have hu25 := Tryd.underlying25
 go_enter Tryd.func15, Tryd.ntmps15
 go_upto_region 3 with fail
 go_cut [5] from 14 (fun v5 wc => ∃ nm : Nat, v5 = .map (some nm) ∧ w.heap.size + 2 ≤ nm ∧ wc.ownsMap (H := Unit) Tryd.prog 3 (plainElem Tryd.prog 9) nm 0 (.map []) ∧ Base w a0_0 A0_1 c0_1 l0_1.length A0_2 c0_2 l0_2.length [] wc)
 case first =>
  go_wp2
  go_meet
  case rel => exact ⟨_, rfl, by simp, (by have q := World.ownsMap_made (H := Unit) ((w.alloc (.cells #[.string a0_0, .slice A0_1 l0_1.length c0_1, .slice A0_2 l0_2.length c0_2] 25)).alloc (.cells #[.pointer none, .slice none 0 0] 56)) Tryd.prog 3 (plainElem Tryd.prog 9); simpa using q), base_start w _ _ _ _ _ _ _⟩
 case rest =>
  obtain ⟨nm, rfl, hnm, hown, HBs⟩ := hcut
  rename_i K3 a3
  refine a3 _ _ ?_
  apply wp_seq_k
  intro _ _
  go_cut [] from 14 (fun wc => ∃ (D : DataW Unit) (m : Nat), wc.ownsMap Tryd.prog 3 (plainElem Tryd.prog 9) nm m D ∧ (∀ k : Int, D.atKey (.int .i64 k) (txt []) = txt (kindWord k)) ∧ Base w a0_0 A0_1 c0_1 l0_1.length A0_2 c0_2 l0_2.length [] wc)
  case first =>
   have K9 := string_keyed Tryd.underlying9
   have K3 := int_keyed Tryd.underlying3
   have hns : nm < wc.heap.size := hown.lt
   go_wp2_with (first
    | (go_at_call 28; refine (kinds_calls _).mono ?_; rintro e w4 ⟨rfl, hk, hb4⟩)
    | (at_range; refine wpList_range_own _ rfl _ 64 rfl 9 3 K9 Tryd.underlying64 _ wc.heap.size 9 kindsD rfl hk ?_; intro w5 hrg0 hg0 hs0)
    | go_in)
   go_frame
   have hsz4 : wc.heap.size < w4.heap.size := hk.lt
   have hb4' : wc.grownBy w4 none := ⟨hb4.os, hb4.tape, hb4.output, hb4.size, fun i hi _ => hb4.block i hi⟩
   go_loopw [6] (fun _ wr => ∃ (left : Lit → Bool) (cnt : Nat) (D : DataW Unit), wr.ranges Tryd.prog 9 (plainElem Tryd.prog 3) wc.heap.size w4.heap.size 9 kindsD left cnt ∧ cnt ≤ Maps.size kindsD ∧
     wr.ownsMap Tryd.prog 3 (plainElem Tryd.prog 9) nm (Maps.size kindsD - cnt) D ∧ Names D left ∧ Base w a0_0 A0_1 c0_1 l0_1.length A0_2 c0_2 l0_2.length [] wr)
    (fun _ wr => wr.rangeLeft wc.heap.size w4.heap.size)
   case atStart =>
    exact ⟨_, _, .map [], hrg0, Nat.le_refl _, ((hown.kept hb4' (by simp)).kept hg0 (by simp)).mono (Nat.zero_le _), names_start, (HBs.grown hb4' (fun k e => by cases e)).grown hg0 (fun k e => by cases e)⟩
   case round =>
    obtain ⟨left, cnt, D, hrg, hcs, hout, hA, hnx⟩ := hrel
    have invK : ∀ key kl, keyOf Tryd.prog 9 key = some kl → ∃ x, key = Value.string x := fun key kl h => by obtain ⟨x, rfl, _⟩ := key_str h; exact ⟨x, rfl⟩
    have invV : ∀ v y, plainElem (H := Unit) Tryd.prog 3 v = some y → ∃ c, v = Value.int .i64 c := fun v y h => by obtain ⟨c, rfl, _⟩ := plainElem_int_inv Tryd.underlying3 h; exact ⟨c, rfl⟩
    go_wp2_with (first
     | (at_next; refine wpList_next_ranges _ rfl _ rfl 9 K9 (plainElem Tryd.prog 3) Value.string (Value.int .i64) invK invV wc.heap.size w4.heap.size 9 kindsD _ _ rfl hrg ?_ ?_)
     | go_in)
    ·
     intro hc0 hl0
     go_wp2
     go_meet
     case rel => exact ⟨D, _, hout, names_end hA hl0, hnx⟩
    ·
     intro x c kl y1 y2 w6 cnt1 hkey hlk hv hat hrg1 hlt hg1 hs1 hen
     obtain ⟨x', ex, rfl, hxs⟩ := key_str hkey
     cases ex
     obtain ⟨c', ec, ey, hwc⟩ := plainElem_int_inv Tryd.underlying3 hv
     cases ec
     cases ey
     have hk0 : kindOf x.data.toList ≠ 0 := by
      intro e0
      have := hat (txt [])
      rw [kinds_at_any, if_pos e0] at this
      simp [txt] at this
     have hkc : kindOf x.data.toList = c := by
      have := hat (txt [])
      rw [kinds_at_any, if_neg hk0] at this
      simpa [num] using this
     have hout1 := hout.kept hg1 (by simp; have := hrg.lt; omega)
     have hb1 : ∀ k, some w4.heap.size = some k → w.heap.size ≤ k ∧ ∀ c t f, wr.heap[k]? ≠ some (.cells c t f) := by
      rintro k e
      cases e
      exact ⟨by have := HBs.2.2.out.size; omega, iter_no hrg⟩
     have hnx1 := hnx.grown hg1 hb1
     have hsK : Maps.size kindsD < maxLen := by decide
     go_wp2_with (first
      | (at_mapUpdate; refine wpList_mapUpdate_own _ rfl _ _ _ 63 rfl 3 9 K3 Tryd.underlying63 _ nm _ _ rfl hout1 (by omega) _ _ _ rfl rfl (keyOf_int_mk Tryd.underlying3 hwc) _ [] (plainElem_string Tryd.underlying9 hxs) ?_; intro w7 hout2 hg2; go_frame)
      | go_in)
     have hrg2 := hrg1.kept hg2 (fun e => by have := Option.some.inj e; omega) (fun e => by have := Option.some.inj e; omega)
     go_roundw
     case rel =>
      exact ⟨_, cnt1, _, hrg2, by omega, hout2.mono (by omega), names_step hA _ c hkc (by rw [← hkc]; exact hk0), hnx1.grown hg2 (by rintro k e; cases e; exact ⟨by omega, map_no hout1⟩)⟩
     case measure => rw [hrg2.left_eq, hrg.left_eq]; exact hlt
  case rest =>
   clear hown HBs
   obtain ⟨D, m, hown, hD, HBs⟩ := hcut
   rename_i K4 a4
   refine a4 _ _ ?_
   apply wp_seq_k
   intro _ _
   have hb0 := (blk_cell HBs.1.out 0).trans rfl
   go_cut [] from 14 (fun wc => wc.ownsMap Tryd.prog 3 (plainElem Tryd.prog 9) nm m D ∧ Base w a0_0 A0_1 c0_1 l0_1.length A0_2 c0_2 l0_2.length (lineL [wProcess, a0_0.data.toList]) wc)
   case first =>
    have hbw : w.heap.size + 1 ≤ wc.heap.size := blk_lt HBs.1.out
    go_wp2_with fail
    refine (line_calls ⟨#[112, 114, 111, 99, 101, 115, 115]⟩ [a0_0] wc.heap.size 1 #[.string a0_0] (w.heap.size + 1) (w.heap.size + 1) [] _ (Lib.IsBuilderF.alloc HBs.2.1.out _) (by simp; omega) (blk_new wc _) (by
     intro j y hj
     cases j with
     | zero => exact congrArg (Option.map Value.string) hj
     | succ j => simp at hj) Nat.one_pos (Nat.le_refl 1) (by show 1 ≤ 1000; omega) (by
     have h1 : a0_0.size ≤ 1000000 := HC.out.1
     have h2 : a0_0.data.toList.length = a0_0.size := (Lib.size_eq a0_0).symm
     rw [List.map_cons, Lib.join_cons, List.length_append]
     have e1 : (Lib.joinTail [32] ([a0_0].map (·.data.toList))).length = 1 + a0_0.size := by unfold Lib.joinTail; rw [List.map_cons, List.map_nil, List.map_cons, List.map_nil, List.flatten_cons, List.flatten_nil, List.append_nil, List.length_append, h2]; rfl
     rw [e1]
     show 7 + (1 + a0_0.size) ≤ 100000000
     omega) (Nat.zero_le _)).mono ?_
    rintro e w5 ⟨rfl, g1, g2, g3⟩
    have HBa := HBs.grown (World.grownBy_alloc wc (.cells #[.string a0_0] 9) none) (fun k e => by cases e)
    go_wp2
    go_meet
    case rel => exact ⟨map_others (hown.alloc _) g3 (by omega), HBa.line g1 g2⟩
   case rest =>
    clear hown HBs hb0
    obtain ⟨hown, HBs⟩ := hcut
    rename_i K5 a5
    refine a5 _ _ ?_
    apply wp_seq_k
    intro _ _
    obtain ⟨b0, b1, b2⟩ : wc.cell? ⟨w.heap.size, 0, none⟩ = some (.string a0_0) ∧ wc.cell? ⟨w.heap.size, 1, none⟩ = some (.slice A0_1 l0_1.length c0_1) ∧ wc.cell? ⟨w.heap.size, 2, none⟩ = some (.slice A0_2 l0_2.length c0_2) := ⟨blk_cell HBs.1.out 0, blk_cell HBs.1.out 1, blk_cell HBs.1.out 2⟩
    go_cut [] from 14 (fun wc => wc.ownsMap Tryd.prog 3 (plainElem Tryd.prog 9) nm m D ∧ Base w a0_0 A0_1 c0_1 l0_1.length A0_2 c0_2 l0_2.length (lineL [wProcess, a0_0.data.toList] ++ nodesText l0_1) wc)
    case first =>
     go_wp2_with fail
     go_loopg [34] (l0_1.length) (fun kq v34 wr => ∃ i : Nat, v34 = .int .i64 (i : Int) ∧ Aside0 (kq + i = l0_1.length) ∧ wr.ownsMap Tryd.prog 3 (plainElem Tryd.prog 9) nm m D ∧ Base w a0_0 A0_1 c0_1 l0_1.length A0_2 c0_2 l0_2.length (lineL [wProcess, a0_0.data.toList] ++ nodesText (l0_1.take i)) wr)
     case atStart => exact ⟨0, rfl, ⟨rfl⟩, hown, by rw [List.take_zero]; simpa [nodesText] using HBs⟩
     case round =>
      obtain ⟨i, rfl, HF, hown, HBs⟩ := hrel
      by_cases hi : i < l0_1.length
      ·
       have hlt : decide ((i : Int) < (l0_1.length : Int)) = true := decide_eq_true (by omega)
       obtain ⟨ad, rfl, e0, e1, e2, e3, e4⟩ := at_T40 (Kd.C_below HR1.out HBs.2.2.out) (i : Int) (by omega) (by omega)
       have hnd : rd_T40 l0_1 (i : Int) = l0_1[i] := by unfold rd_T40; rw [Int.toNat_natCast, List.getD_eq_getElem?_getD, List.getElem?_eq_getElem hi]; rfl
       rw [Int.toNat_natCast, hnd] at e0 e1 e2 e3 e4
       clear K3 a3 K4 a4 K5 a5
       have hin : l0_1[i] ∈ l0_1 := List.getElem_mem hi
       obtain ⟨n, hn⟩ : ∃ n, l0_1[i] = n := ⟨_, rfl⟩
       rw [hn] at e0 e1 e2 e3 e4 hin
       have OKN := Aside0.mk (List.all_eq_true.mp HC.out.2.2.2.1 n hin)
       have LEN := Aside0.mk (nodes_len _ (allp_take okNode l0_1 i HC.out.2.2.2.1))
       have HNN := Aside0.mk (nodes_take l0_1 i hi)
       rw [hn] at HNN
       have OKI := (okNode_iff n).mp OKN.out
       clear hn hin hnd
       go_upto_region 12 with fail
       go_cut [9, 10] from 36 to 75 (fun v9 v10 wc => ∃ nb : Nat, v9 = .pointer (some ⟨nb, 0, none⟩) ∧ RelS w a0_0 (some ad) c0_1 l0_1.length A0_2 c0_2 l0_2.length nm m D (lineL [wProcess, a0_0.data.toList] ++ nodesText (l0_1.take i)) nb #[.int .i64 n.f0, .int .i64 n.f1, .int .i64 n.f2, .int .i64 n.f3, .string n.f4] 40 [S (Lib.itoa n.f1)] v10 wc)
       case first =>
        have N0 : Nst w a0_0 (some ad) c0_1 l0_1.length A0_2 c0_2 l0_2.length nm m D (lineL [wProcess, a0_0.data.toList] ++ nodesText (l0_1.take i)) wr.heap.size #[.int .i64 n.f0, .int .i64 n.f1, .int .i64 n.f2, .int .i64 n.f3, .string n.f4] 40 (wr.alloc (.cells #[.int .i64 n.f0, .int .i64 n.f1, .int .i64 n.f2, .int .i64 n.f3, .string n.f4] 40)) :=
         ⟨⟨blk_new wr _⟩, ⟨hown.lt, hnm⟩, hown.alloc _, HBs.grown (World.grownBy_alloc wr _ none) (fun k e => by cases e)⟩
        go_wp2_with fail
        refine (strconv_Itoa.calls n.f1 (S (Lib.itoa n.f1)) _ (hTab.below N0.2.2.2.2.2.out) (itoa_f OKI.2.1)).mono ?_
        rintro e w1 ⟨rfl, hb1⟩
        have N1 := N0.below hb1
        go_wp2
        go_meet
        case rel => exact ⟨_, rfl, RelS.lit N1 [S (Lib.itoa n.f1)] (show 1 ≤ 100 by omega)⟩
       case rest =>
        clear hown HBs e0 e1 e2 e3 e4
        obtain ⟨nb, rfl, HS⟩ := hcut
        rename_i K6 a6
        refine a6 _ _ ?_
        apply wp_seq_k
        intro _ _
        clear K6 a6
        obtain ⟨i9, hi9, hq9⟩ := Option.map_eq_some_iff.1 info9
        simp only [Prod.mk.injEq] at hq9
        obtain ⟨hz9, hs9, hb9⟩ := hq9
        go_cut [10] from 36 to 75 (fun v10 wc => RelS w a0_0 (some ad) c0_1 l0_1.length A0_2 c0_2 l0_2.length nm m D (lineL [wProcess, a0_0.data.toList] ++ nodesText (l0_1.take i)) nb #[.int .i64 n.f0, .int .i64 n.f1, .int .i64 n.f2, .int .i64 n.f3, .string n.f4] 40 ([S (Lib.itoa n.f1)] ++ nodeMid n) v10 wc)
        case first =>
         obtain ⟨n0, n1, n2, n3, n4, m0, m1, m2, m3, m4⟩ := five_cells HS.2.1.out
         have hmid : nodeMid n = if n.f0 = 3 then [S (Lib.itoa n.f2)] else if n.f0 = 8 ∨ n.f0 = 9 then [S (Lib.itoa n.f3)] else [] := rfl
         by_cases h3 : n.f0 = 3
         ·
          rw [if_pos h3] at hmid
          have HM := Aside0.mk hmid
          have e3 : (n.f0 == 3) = true := by rw [h3]; rfl
          clear h3 hmid
          go_wp2_with fail
          refine (strconv_Itoa.calls n.f2 (S (Lib.itoa n.f2)) _ (hTab.below HS.2.2.2.2.2.2.out) (itoa_f OKI.2.2.1)).mono ?_
          rintro e w1 ⟨rfl, hb1⟩
          have HS1 := HS.below hb1
          have HS2 := HS1.below ((Below.refl _ _).alloc (Nat.le_refl _) (.cells #[.string (S (Lib.itoa n.f2))] 9))
          go_wp2_with (at_builtin; refine wpList_append_own _ rfl (.tmp 46) (.tmp 50) 34 rfl (nb + 1) 9 i9 (.string ⟨#[]⟩) 1 16 Tryd.underlying34 hi9 hz9 hs9 hb9 rfl (by decide) _ 1 _ rfl HS2.1 ⟨w1.heap.size, 0, none⟩ 1 1 ([S (Lib.itoa n.f2)].map Value.string) rfl rfl (news_cells [S (Lib.itoa n.f2)]) (one_cells _) (by decide) (by decide) (by have := HS2.2.lt; simp at this ⊢; omega) ?_; intro v' w' hown' hg' hnil)
          go_meet
          case rel => rw [HM.out]; exact HS2.add hown' hg'
         ·
          rw [if_neg h3] at hmid
          have e3 : (n.f0 == 3) = false := beq_eq_false_iff_ne.mpr h3
          by_cases h89 : n.f0 = 8 ∨ n.f0 = 9
          ·
           rw [if_pos h89] at hmid
           have HM := Aside0.mk hmid
           have hcl : nodeMid n = nodeMid n := rfl
           clear hmid
           have fin : ∀ (v' : Value) (w1 w' : World), RelS w a0_0 (some ad) c0_1 l0_1.length A0_2 c0_2 l0_2.length nm m D (lineL [wProcess, a0_0.data.toList] ++ nodesText (l0_1.take i)) nb #[.int .i64 n.f0, .int .i64 n.f1, .int .i64 n.f2, .int .i64 n.f3, .string n.f4] 40 ([S (Lib.itoa n.f1)]) u10 w1 → w'.ownsRow (nb + 1) 9 1 v' (1 + 1) ([S (Lib.itoa n.f1)].map Value.string ++ [S (Lib.itoa n.f3)].map Value.string) → w1.grownBy w' u10.ownBlock → RelS w a0_0 (some ad) c0_1 l0_1.length A0_2 c0_2 l0_2.length nm m D (lineL [wProcess, a0_0.data.toList] ++ nodesText (l0_1.take i)) nb #[.int .i64 n.f0, .int .i64 n.f1, .int .i64 n.f2, .int .i64 n.f3, .string n.f4] 40 ([S (Lib.itoa n.f1)] ++ nodeMid n) v' w' := by
            intro v' w1 w' h1 h2 h3
            rw [HM.out]; exact h1.add h2 h3
           by_cases h8 : n.f0 = 8
           ·
            have e8 : (n.f0 == 8) = true := by rw [h8]; rfl
            clear h3 h89 h8
            go_wp2_with fail
            refine (strconv_Itoa.calls n.f3 (S (Lib.itoa n.f3)) _ (hTab.below HS.2.2.2.2.2.2.out) (itoa_f OKI.2.2.2.1)).mono ?_
            rintro e w1 ⟨rfl, hb1⟩
            have HS1 := HS.below hb1
            have HS2 := HS1.below ((Below.refl _ _).alloc (Nat.le_refl _) (.cells #[.string (S (Lib.itoa n.f3))] 9))
            go_wp2_with (at_builtin; refine wpList_append_own _ rfl (.tmp 55) (.tmp 59) 34 rfl (nb + 1) 9 i9 (.string ⟨#[]⟩) 1 16 Tryd.underlying34 hi9 hz9 hs9 hb9 rfl (by decide) _ 1 _ rfl HS2.1 ⟨w1.heap.size, 0, none⟩ 1 1 ([S (Lib.itoa n.f3)].map Value.string) rfl rfl (news_cells [S (Lib.itoa n.f3)]) (one_cells _) (by decide) (by decide) (by have := HS2.2.lt; simp at this ⊢; omega) ?_; intro v' w' hown' hg' hnil)
            go_meet
            case rel => exact fin _ _ _ HS2 hown' hg'
           ·
            have e8 : (n.f0 == 8) = false := beq_eq_false_iff_ne.mpr h8
            have e9 : (n.f0 == 9) = true := by rw [h89.resolve_left h8]; rfl
            clear h3 h89 h8
            go_wp2_with fail
            refine (strconv_Itoa.calls n.f3 (S (Lib.itoa n.f3)) _ (hTab.below HS.2.2.2.2.2.2.out) (itoa_f OKI.2.2.2.1)).mono ?_
            rintro e w1 ⟨rfl, hb1⟩
            have HS1 := HS.below hb1
            have HS2 := HS1.below ((Below.refl _ _).alloc (Nat.le_refl _) (.cells #[.string (S (Lib.itoa n.f3))] 9))
            go_wp2_with (at_builtin; refine wpList_append_own _ rfl (.tmp 55) (.tmp 59) 34 rfl (nb + 1) 9 i9 (.string ⟨#[]⟩) 1 16 Tryd.underlying34 hi9 hz9 hs9 hb9 rfl (by decide) _ 1 _ rfl HS2.1 ⟨w1.heap.size, 0, none⟩ 1 1 ([S (Lib.itoa n.f3)].map Value.string) rfl rfl (news_cells [S (Lib.itoa n.f3)]) (one_cells _) (by decide) (by decide) (by have := HS2.2.lt; simp at this ⊢; omega) ?_; intro v' w' hown' hg' hnil)
            go_meet
            case rel => exact fin _ _ _ HS2 hown' hg'
          ·
           rw [if_neg h89] at hmid
           have HM := Aside0.mk hmid
           have e8 : (n.f0 == 8) = false := beq_eq_false_iff_ne.mpr (fun e => h89 (Or.inl e))
           have e9 : (n.f0 == 9) = false := beq_eq_false_iff_ne.mpr (fun e => h89 (Or.inr e))
           clear h3 h89 hmid
           go_wp2
           go_meet
           case rel => rw [HM.out, List.append_nil]; exact HS
        case rest =>
         clear HS
         have HS := hcut
         clear hcut
         rename_i K7 a7
         refine a7 _ _ ?_
         apply wp_seq_k
         intro _ _
         clear K7 a7
         go_cut [10] from 36 to 75 (fun v10 wc => RelS w a0_0 (some ad) c0_1 l0_1.length A0_2 c0_2 l0_2.length nm m D (lineL [wProcess, a0_0.data.toList] ++ nodesText (l0_1.take i)) nb #[.int .i64 n.f0, .int .i64 n.f1, .int .i64 n.f2, .int .i64 n.f3, .string n.f4] 40 (nodeMoreB n) v10 wc)
         case first =>
          obtain ⟨n0, n1, n2, n3, n4, m0, m1, m2, m3, m4⟩ := five_cells HS.2.1.out
          have hmo : nodeMoreB n = ([S (Lib.itoa n.f1)] ++ nodeMid n) ++ (if n.f4.data.toList = [] then [] else [n.f4]) := rfl
          by_cases ht : n.f4.data.toList = []
          ·
           rw [if_pos ht, List.append_nil] at hmo
           have HM := Aside0.mk hmo
           have ht2 : (!n.f4.toList.isEmpty) = false := by rw [Lib.toList_data, ht]; rfl
           clear hmo
           go_wp2
           go_meet
           case rel => rw [HM.out]; exact HS
          ·
           rw [if_neg ht] at hmo
           have HM := Aside0.mk hmo
           have ht2 : (!n.f4.toList.isEmpty) = true := by
            rw [Lib.toList_data]
            cases hq : n.f4.data.toList with
            | nil => exact absurd hq ht
            | cons a b => rfl
           clear hmo
           have HS2 := HS.below ((Below.refl _ _).alloc (Nat.le_refl _) (.cells #[.string n.f4] 9))
           have hlen : ([S (Lib.itoa n.f1)] ++ nodeMid n).length ≤ 2 := by
            unfold nodeMid
            split
            ·
             exact Nat.le_refl _
            ·
             split
             ·
              exact Nat.le_refl _
             ·
              show 1 ≤ 2; omega
           generalize ([S (Lib.itoa n.f1)] ++ nodeMid n) = ws at HS HS2 HM hlen
           have p1 : ws.length + 1 ≤ maxLen := by unfold maxLen; omega
           have p2 : (ws.length + 1) * 16 ≤ 140737488355328 := by omega
           have p3 : nb + 1 ≤ (wc.alloc (.cells #[.string n.f4] 9)).heap.size := HS2.2.lt
           go_wp2_with (at_builtin; refine wpList_append_own _ rfl (.tmp 64) (.tmp 67) 34 rfl (nb + 1) 9 i9 (.string ⟨#[]⟩) 1 16 Tryd.underlying34 hi9 hz9 hs9 hb9 rfl (by decide) _ ws.length _ rfl HS2.1 ⟨wc.heap.size, 0, none⟩ 1 1 ([n.f4].map Value.string) rfl rfl (news_cells [n.f4]) (one_cells _) p1 p2 p3 ?_; intro v' w' hown' hg' hnil)
           go_meet
           case rel => rw [HM.out]; exact HS2.add hown' hg'
         case rest =>
          clear HS
          have HS := hcut
          clear hcut
          rename_i K8 a8
          refine a8 _ _ ?_
          clear K8 a8
          obtain ⟨n0, n1, n2, n3, n4, m0, m1, m2, m3, m4⟩ := five_cells HS.2.1.out
          have hl := names_look HS.2.2.2.1 hD n.f0 OKI.1
          have hw0 : 0 < (nodeMoreB n).length := by unfold nodeMoreB; rw [List.length_append, List.length_append]; show 0 < 1 + _ + _; omega
          obtain ⟨g, cp, nc, rfl, hb1, hn1, hm1, hk1, hr1⟩ := row_str HS.1 hw0
          have HR := Aside0.mk (show ∀ (j : Nat) y, (nodeMoreB n)[j]? = some y → nc[j]? = some (.string y) from fun j y hj => hr1 j _ (by rw [List.getElem?_map, hj]; rfl))
          have HL := Aside0.mk (show (S (kindWord n.f0) :: nodeMoreB n).map (·.data.toList) = kindWord n.f0 :: nodeMore n by rw [List.map_cons, S_list, nodeMoreB_eq])
          have HK := Aside0.mk (And.intro hw0 (And.intro hn1 hk1))
          have HZ := Aside0.mk (line_len _ _ (node_len n OKN.out).1 (node_len n OKN.out).2)
          have HQ := Aside0.mk (show (nodeMoreB n).length ≤ 7 by have := (node_len n OKN.out).2; rw [← nodeMoreB_eq, List.length_map] at this; exact this)
          have HI := Aside0.mk (show i < 1000 by have := HC.out.2.1; omega)
          have HX := Aside0.mk (show (lineL [wProcess, a0_0.data.toList] ++ nodesText (l0_1.take i)).length ≤ 100000000000 by
           have h1 := LEN.out
           have h2 := HC.out.1
           rw [List.length_take] at h1
           rw [List.length_append]
           have h3 := Lib.join_length wProcess [a0_0.data.toList] [32]
           have h4 : Lib.lens [wProcess, a0_0.data.toList] = 7 + a0_0.size := by rw [Lib.size_eq]; simp [Lib.lens, wProcess]
           rw [h4] at h3
           have h5 : (lineL [wProcess, a0_0.data.toList]).length = (Lib.join [wProcess, a0_0.data.toList] [32]).length + 1 := by unfold lineL; rw [List.length_append]; rfl
           rw [h5, h3]
           show 1 * 1 + (7 + a0_0.size) + 1 + _ ≤ _
           have := HC.out.2.1
           omega)
          clear hb1 hn1 hm1 hk1 hr1 hw0
          go_wp2_with fail
          refine (line_calls (S (kindWord n.f0)) (nodeMoreB n) g cp nc (w.heap.size + 1) (w.heap.size + 1) (lineL [wProcess, a0_0.data.toList] ++ nodesText (l0_1.take i)) wc HS.2.2.2.2.2.1.out (by have := HS.2.lt; have := HS.2.2.1.out; omega) HK.out.2.2 HR.out HK.out.1 HK.out.2.1 (by have := HQ.out; omega) (by rw [HL.out]; have := HZ.out.1; omega) HX.out).mono ?_
          rintro e w5 ⟨rfl, g1, g2, g3⟩
          rw [HL.out] at g1
          have HN1 := HS.2.2.2.2.line g1 g2
          have HO1 := map_others HS.2.2.2.1 g3 (by have := HS.2.2.1.out; omega)
          have HI2 := HI.out
          clear hl
          go_wp2
          go_roundg (gk - 1)
          case measure => have := HF.out; omega
          case rel =>
           refine ⟨i + 1, by go_num, ⟨by have := HF.out; omega⟩, HO1, ?_⟩
           rw [HNN.out, ← List.append_assoc]
           exact HN1
      ·
       have hlt : decide ((i : Int) < (l0_1.length : Int)) = false := decide_eq_false (by omega)
       rw [List.take_of_length_le (by omega)] at HBs
       go_wp2
       go_meet
       case rel => exact ⟨hown, HBs⟩
    case rest =>
     clear hown HBs b0 b1 b2
     obtain ⟨hown, HBs⟩ := hcut
     rename_i K9 a9
     refine a9 _ _ ?_
     apply wp_seq_k
     intro _ _
     clear K9 a9
     obtain ⟨b0, b1, b2⟩ : wc.cell? ⟨w.heap.size, 0, none⟩ = some (.string a0_0) ∧ wc.cell? ⟨w.heap.size, 1, none⟩ = some (.slice A0_1 l0_1.length c0_1) ∧ wc.cell? ⟨w.heap.size, 2, none⟩ = some (.slice A0_2 l0_2.length c0_2) := ⟨blk_cell HBs.1.out 0, blk_cell HBs.1.out 1, blk_cell HBs.1.out 2⟩
     go_cut [] from 14 (fun wc => Base w a0_0 A0_1 c0_1 l0_1.length A0_2 c0_2 l0_2.length (lineL [wProcess, a0_0.data.toList] ++ nodesText l0_1 ++ flowsText l0_2) wc)
     case first =>
      go_wp2_with fail
      go_loopg [80] (l0_2.length) (fun kq v80 wr => ∃ i : Nat, v80 = .int .i64 (i : Int) ∧ Aside0 (kq + i = l0_2.length) ∧ wr.ownsMap Tryd.prog 3 (plainElem Tryd.prog 9) nm m D ∧ Base w a0_0 A0_1 c0_1 l0_1.length A0_2 c0_2 l0_2.length (lineL [wProcess, a0_0.data.toList] ++ nodesText l0_1 ++ flowsText (l0_2.take i)) wr)
      case atStart => exact ⟨0, rfl, ⟨rfl⟩, hown, by rw [List.take_zero]; simpa [flowsText] using HBs⟩
      case round =>
       obtain ⟨i, rfl, HF, hown, HBs⟩ := hrel
       by_cases hi : i < l0_2.length
       ·
        have hlt : decide ((i : Int) < (l0_2.length : Int)) = true := decide_eq_true (by omega)
        obtain ⟨ad, rfl, e0, e1, e2, e3, e4⟩ := at_T42 (Kd.C_below HR2.out HBs.2.2.out) (i : Int) (by omega) (by omega)
        have hnd : rd_T42 l0_2 (i : Int) = l0_2[i] := by unfold rd_T42; rw [Int.toNat_natCast, List.getD_eq_getElem?_getD, List.getElem?_eq_getElem hi]; rfl
        rw [Int.toNat_natCast, hnd] at e0 e1 e2 e3 e4
        have hin : l0_2[i] ∈ l0_2 := List.getElem_mem hi
        obtain ⟨n, hn⟩ : ∃ n, l0_2[i] = n := ⟨_, rfl⟩
        rw [hn] at e0 e1 e2 e3 e4 hin
        have OKN := Aside0.mk (List.all_eq_true.mp HC.out.2.2.2.2 n hin)
        have LEN := Aside0.mk (flows_len _ (allp_take okFlow l0_2 i HC.out.2.2.2.2))
        have LEM := Aside0.mk (nodes_len _ HC.out.2.2.2.1)
        have HNN := Aside0.mk (flows_take l0_2 i hi)
        rw [hn] at HNN
        have OKI := (okFlow_iff n).mp OKN.out
        clear hn hin hnd
        go_upto_region 25 with fail
        go_cut [12] from 82 to 117 (fun v12 wc => ∃ nb : Nat, v12 = .pointer (some ⟨nb, 0, none⟩) ∧ Nst w a0_0 A0_1 c0_1 l0_1.length (some ad) c0_2 l0_2.length nm m D (lineL [wProcess, a0_0.data.toList] ++ nodesText l0_1 ++ flowsText (l0_2.take i)) nb #[.int .i64 n.f0, .int .i64 n.f1, .int .i64 n.f2, .int .i64 n.f3, .string n.f4] 42 wc)
        case first =>
         have N0 : Nst w a0_0 A0_1 c0_1 l0_1.length (some ad) c0_2 l0_2.length nm m D (lineL [wProcess, a0_0.data.toList] ++ nodesText l0_1 ++ flowsText (l0_2.take i)) wr.heap.size #[.int .i64 n.f0, .int .i64 n.f1, .int .i64 n.f2, .int .i64 n.f3, .string n.f4] 42 (wr.alloc (.cells #[.int .i64 n.f0, .int .i64 n.f1, .int .i64 n.f2, .int .i64 n.f3, .string n.f4] 42)) :=
          ⟨⟨blk_new wr _⟩, ⟨hown.lt, hnm⟩, hown.alloc _, HBs.grown (World.grownBy_alloc wr _ none) (fun k e => by cases e)⟩
         go_wp2
         go_meet
         case rel => exact ⟨_, rfl, N0⟩
        case rest =>
         clear hown HBs e0 e1 e2 e3 e4
         obtain ⟨nb, rfl, HN⟩ := hcut
         rename_i K6 a6
         refine a6 _ _ ?_
         apply wp_seq_k
         intro _ _
         clear K6 a6
         go_cut [13] from 84 to 117 (fun v13 wc => RelS w a0_0 A0_1 c0_1 l0_1.length (some ad) c0_2 l0_2.length nm m D (lineL [wProcess, a0_0.data.toList] ++ nodesText l0_1 ++ flowsText (l0_2.take i)) nb #[.int .i64 n.f0, .int .i64 n.f1, .int .i64 n.f2, .int .i64 n.f3, .string n.f4] 42 [S (Lib.itoa n.f0), S (Lib.itoa n.f1)] v13 wc)
         case first =>
          obtain ⟨n0, n1, n2, n3, n4, m0, m1, m2, m3, m4⟩ := five_cells HN.1.out
          have HD := HN.drew
          obtain ⟨d0, d1, d2, d3, d4, f0, f1, f2, f3, f4⟩ := five_cells HD.1.out
          have TD := hTab.below HD.2.2.2.2.2.out
          go_region_with (go_at_call 29; first | ((with_reducible refine (strconv_Itoa.calls n.f0 (S (Lib.itoa n.f0)) wc.drew TD (itoa_f OKI.1)).mono ?_); rintro e w1 ⟨rfl, hb1⟩; have HN1 := HD.below hb1; obtain ⟨x0, x1, x2, x3, x4, x5, x6, x7, x8, x9⟩ := five_cells HN1.1.out; have T1 := hTab.below HN1.2.2.2.2.2.out) | ((with_reducible refine (strconv_Itoa.calls n.f1 (S (Lib.itoa n.f1)) wc.drew TD (itoa_f OKI.2.1)).mono ?_); rintro e w1 ⟨rfl, hb1⟩; have HN1 := HD.below hb1; obtain ⟨x0, x1, x2, x3, x4, x5, x6, x7, x8, x9⟩ := five_cells HN1.1.out; have T1 := hTab.below HN1.2.2.2.2.2.out) | ((with_reducible refine (strconv_Itoa.calls n.f0 (S (Lib.itoa n.f0)) w1 T1 (itoa_f OKI.1)).mono ?_); rintro e w2 ⟨rfl, hb2⟩; have HN2 := HN1.below hb2) | ((with_reducible refine (strconv_Itoa.calls n.f1 (S (Lib.itoa n.f1)) w1 T1 (itoa_f OKI.2.1)).mono ?_); rintro e w2 ⟨rfl, hb2⟩; have HN2 := HN1.below hb2))
          all_goals (go_wp2; go_meet)
          all_goals exact RelS.lit HN2 [S (Lib.itoa n.f0), S (Lib.itoa n.f1)] (show 2 ≤ 100 by omega)
         case rest =>
          clear HN
          have HS := hcut
          clear hcut
          rename_i K7 a7
          refine a7 _ _ ?_
          apply wp_seq_k
          intro _ _
          clear K7 a7
          obtain ⟨i9, hi9, hq9⟩ := Option.map_eq_some_iff.1 info9
          simp only [Prod.mk.injEq] at hq9
          obtain ⟨hz9, hs9, hb9⟩ := hq9
          go_cut [13] from 91 to 117 (fun v13 wc => RelS w a0_0 A0_1 c0_1 l0_1.length (some ad) c0_2 l0_2.length nm m D (lineL [wProcess, a0_0.data.toList] ++ nodesText l0_1 ++ flowsText (l0_2.take i)) nb #[.int .i64 n.f0, .int .i64 n.f1, .int .i64 n.f2, .int .i64 n.f3, .string n.f4] 42 ([S (Lib.itoa n.f0), S (Lib.itoa n.f1)] ++ flowEnd n) v13 wc)
          case first =>
           obtain ⟨n0, n1, n2, n3, n4, m0, m1, m2, m3, m4⟩ := five_cells HS.2.1.out
           have hmid : flowEnd n = if n.f2 = 1 then [S wDefault] else if n.f2 = 2 then [S wIf, n.f4] else if n.f2 = 3 then [S wAgain, S (Lib.itoa n.f3), S wIf, n.f4] else [] := rfl
           by_cases h1 : n.f2 = 1
           ·
            rw [if_pos h1] at hmid
            have HM := Aside0.mk hmid
            have e3 : (n.f2 == 1) = true := by rw [h1]; rfl
            clear h1 hmid
            have HS2 := HS.below ((Below.refl _ _).alloc (Nat.le_refl _) (.cells #[.string (S wDefault)] 9))
            go_wp2_with (at_builtin; refine wpList_append_own _ rfl (.tmp 95) (.tmp 96) 34 rfl (nb + 1) 9 i9 (.string ⟨#[]⟩) 1 16 Tryd.underlying34 hi9 hz9 hs9 hb9 rfl (by decide) _ 2 _ rfl HS2.1 ⟨wc.heap.size, 0, none⟩ 1 1 ([S wDefault].map Value.string) rfl rfl (news_cells [S wDefault]) (one_cells _) (by decide) (by decide) HS2.2.lt ?_; intro v' w' hown' hg' hnil)
            go_meet
            case rel => rw [HM.out]; exact HS2.add hown' hg'
           ·
            rw [if_neg h1] at hmid
            have e1 : (n.f2 == 1) = false := beq_eq_false_iff_ne.mpr h1
            by_cases h2 : n.f2 = 2
            ·
             rw [if_pos h2] at hmid
             have HM := Aside0.mk hmid
             have e2 : (n.f2 == 2) = true := by rw [h2]; rfl
             clear h1 h2 hmid
             have HS2 := HS.below ((Below.refl _ _).alloc (Nat.le_refl _) (.cells #[.string (S wIf), .string n.f4] 9))
             go_wp2_with (at_builtin; refine wpList_append_own _ rfl (.tmp 100) (.tmp 103) 34 rfl (nb + 1) 9 i9 (.string ⟨#[]⟩) 1 16 Tryd.underlying34 hi9 hz9 hs9 hb9 rfl (by decide) _ 2 _ rfl HS2.1 ⟨wc.heap.size, 0, none⟩ 2 2 ([S wIf, n.f4].map Value.string) rfl rfl (news_cells [S wIf, n.f4]) (one_cells _) (by decide) (by decide) HS2.2.lt ?_; intro v' w' hown' hg' hnil)
             go_meet
             case rel => rw [HM.out]; exact HS2.add hown' hg'
            ·
             rw [if_neg h2] at hmid
             have e2 : (n.f2 == 2) = false := beq_eq_false_iff_ne.mpr h2
             by_cases h3 : n.f2 = 3
             ·
              rw [if_pos h3] at hmid
              have HM := Aside0.mk hmid
              have e3 : (n.f2 == 3) = true := by rw [h3]; rfl
              clear h1 h2 h3 hmid
              have HD := HS.below (below_drew1 (Below.refl wc.heap.size wc))
              obtain ⟨d0, d1, d2, d3, d4, f0, f1, f2, f3, f4⟩ := five_cells HD.2.1.out
              have TD := hTab.below HD.2.2.2.2.2.2.out
              go_upto_region 33 with fail
              go_region_law (first
               | ((refine step_append_own rfl (.tmp 107) (.tmp 113) 34 rfl (nb + 1) 9 i9 (.string ⟨#[]⟩) 1 16 Tryd.underlying34 hi9 hz9 hs9 hb9 rfl (by decide) u13 2 _ (by simp [Act.eval, Act.put]) HS2.1 ⟨w1.heap.size, 0, none⟩ 4 4 ([S wAgain, S (Lib.itoa n.f3), S wIf, n.f4].map Value.string) (by simp [Act.eval, Act.put]) rfl (news_cells [S wAgain, S (Lib.itoa n.f3), S wIf, n.f4]) (one_cells _) (by decide) (by decide) HS2.2.lt ?_); intro v' w' hown' hg')
               | (go_simp; go_wp2_with (go_at_call 29; (with_reducible refine (strconv_Itoa.calls n.f3 (S (Lib.itoa n.f3)) wc.drew TD (itoa_f OKI.2.2.2.1)).mono ?_); rintro e w1 ⟨rfl, hb1⟩; have HS1 := HD.below hb1; obtain ⟨x0, x1, x2, x3, x4, y0, y1, y2, y3, y4⟩ := five_cells HS1.2.1.out; have HS2 := HS1.below ((Below.refl _ _).alloc (Nat.le_refl _) (.cells #[.string (S wAgain), .string (S (Lib.itoa n.f3)), .string (S wIf), .string n.f4] 9)))))
              all_goals (go_wp2; go_meet)
              all_goals (rw [HM.out]; exact HS2.add hown' hg')
             ·
              rw [if_neg h3] at hmid
              have HM := Aside0.mk hmid
              have e3 : (n.f2 == 3) = false := beq_eq_false_iff_ne.mpr h3
              clear h1 h2 h3 hmid
              go_wp2
              go_meet
              case rel => rw [HM.out, List.append_nil]; exact HS
          case rest =>
           clear HS
           have HS := hcut
           clear hcut
           rename_i K8 a8
           refine a8 _ _ ?_
           clear K8 a8
           obtain ⟨n0, n1, n2, n3, n4, m0, m1, m2, m3, m4⟩ := five_cells HS.2.1.out
           obtain ⟨ws, hws⟩ : ∃ ws, [S (Lib.itoa n.f0), S (Lib.itoa n.f1)] ++ flowEnd n = ws := ⟨_, rfl⟩
           have hwm : ws.map (·.data.toList) = flowMore n := by rw [← hws]; exact flowEnd_eq n
           have hw0 : 0 < ws.length := by rw [← hws, List.length_append]; show 0 < 2 + _; omega
           rw [hws] at HS
           clear hws
           obtain ⟨g, cp, nc, rfl, hb1, hn1, hm1, hk1, hr1⟩ := row_str HS.1 hw0
           have HR := Aside0.mk (show ∀ (j : Nat) y, ws[j]? = some y → nc[j]? = some (.string y) from fun j y hj => hr1 j _ (by rw [List.getElem?_map, hj]; rfl))
           have HL := Aside0.mk (show (S wFlow :: ws).map (·.data.toList) = wFlow :: flowMore n by rw [List.map_cons, S_list, hwm])
           have HK := Aside0.mk (And.intro hw0 (And.intro hn1 hk1))
           have HZ := Aside0.mk (line_len _ _ (flow_len n OKN.out).1 (flow_len n OKN.out).2)
           have HQ := Aside0.mk (show ws.length ≤ 7 by have := (flow_len n OKN.out).2; rw [← hwm, List.length_map] at this; exact this)
           have HI := Aside0.mk (show i < 1000 by have := HC.out.2.2.1; omega)
           have HX := Aside0.mk (show (lineL [wProcess, a0_0.data.toList] ++ nodesText l0_1 ++ flowsText (l0_2.take i)).length ≤ 100000000000 by
            have h1 := LEN.out
            have h6 := LEM.out
            have h2 := HC.out.1
            rw [List.length_take] at h1
            rw [List.length_append, List.length_append]
            have h3 := Lib.join_length wProcess [a0_0.data.toList] [32]
            have h4 : Lib.lens [wProcess, a0_0.data.toList] = 7 + a0_0.size := by rw [Lib.size_eq]; simp [Lib.lens, wProcess]
            rw [h4] at h3
            have h5 : (lineL [wProcess, a0_0.data.toList]).length = (Lib.join [wProcess, a0_0.data.toList] [32]).length + 1 := by unfold lineL; rw [List.length_append]; rfl
            rw [h5, h3]
            show 1 * 1 + (7 + a0_0.size) + 1 + _ + _ ≤ _
            have := HC.out.2.1
            have := HC.out.2.2.1
            omega)
           clear hb1 hn1 hm1 hk1 hr1 hw0 hwm
           go_wp2_with fail
           refine (line_calls (S wFlow) ws g cp nc (w.heap.size + 1) (w.heap.size + 1) (lineL [wProcess, a0_0.data.toList] ++ nodesText l0_1 ++ flowsText (l0_2.take i)) wc HS.2.2.2.2.2.1.out (by have := HS.2.lt; have := HS.2.2.1.out; omega) HK.out.2.2 HR.out HK.out.1 HK.out.2.1 (by have := HQ.out; omega) (by rw [HL.out]; have := HZ.out.1; omega) HX.out).mono ?_
           rintro e w5 ⟨rfl, g1, g2, g3⟩
           rw [HL.out] at g1
           have HN1 := HS.2.2.2.2.line g1 g2
           have HO1 := map_others HS.2.2.2.1 g3 (by have := HS.2.2.1.out; omega)
           have HI2 := HI.out
           go_wp2
           go_roundg (gk - 1)
           case measure => have := HF.out; omega
           case rel =>
            refine ⟨i + 1, by go_num, ⟨by have := HF.out; omega⟩, HO1, ?_⟩
            rw [HNN.out, ← List.append_assoc]
            exact HN1
       ·
        have hlt : decide ((i : Int) < (l0_2.length : Int)) = false := decide_eq_false (by omega)
        rw [List.take_of_length_le (by omega)] at HBs
        go_wp2
        go_meet
        case rel => exact HBs
     case rest =>
      clear hown HBs b0 b1 b2
      have HBs := hcut
      clear hcut
      rename_i K9 a9
      refine a9 _ _ ?_
      clear K9 a9
      apply wp_seq_k
      intro _ _
      have hbw : w.heap.size + 1 ≤ wc.heap.size := blk_lt HBs.1.out
      go_wp2_with fail
      refine (Tryd.Builder_String_any_k (w.heap.size + 1) (w.heap.size + 1) (lineL [wProcess, a0_0.data.toList] ++ nodesText l0_1 ++ flowsText l0_2) _ HBs.2.1.out hbw).mono ?_
      rintro e w5 ⟨rfl, g1, g2, g3⟩
      go_wp2
      go_ret
      refine ⟨?_, HBs.2.2.out.trans (Joins.below_le g2 (Nat.le_succ _))⟩
      show Ending.returned (.string ⟨(lineL [wProcess, a0_0.data.toList] ++ (nodesText l0_1 ++ flowsText l0_2)).toArray⟩) = _
      rw [← List.append_assoc]; rfl
end Go.Proofs.YtpalncojmknlbaaDoor.Ext
