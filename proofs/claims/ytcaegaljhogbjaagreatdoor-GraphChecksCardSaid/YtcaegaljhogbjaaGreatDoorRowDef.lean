/- A parameter that holds slices of nodes, of flows, in a law's row: what its reading gives the walk. -/
import Derived.Test.YtcaegaljhogbjaaGreatDoorYx0
import Derived.Deep.Slices
import Derived.Lib.SmallJoins
import Derived.OpenShut
import Derived.Carry
import Derived.DataElems
import Derived.DataReads
import Derived.ChangeArms
import Derived.WalkKit
import Derived.ProofKit
namespace Go.Proofs.YtcaegaljhogbjaaGreatDoor.Row
open Go.ChangeShapes Go.WideShapes Go.ChangeAt Go.RowKit Go.Proofs.YtcaegaljhogbjaaGreatDoorW.PrintWords Go.Proofs.YtcaegaljhogbjaaGreatDoor.Y
set_option linter.unusedVariables false
set_option linter.unusedSimpArgs false
def okV (a b c d : Int) (s : ByteArray) : Prop := (Lit.int .i64 a).wf = true ∧ (Lit.int .i64 b).wf = true ∧ (Lit.int .i64 c).wf = true ∧ (Lit.int .i64 d).wf = true ∧ s.size ≤ maxLen
theorem list5 {α : Type} (cs : List α) (h : cs.length = 5) : ∃ a b c d e, cs = [a, b, c, d, e] := by
  match cs, h with
  | [a, b, c, d, e], _ => exact ⟨a, b, c, d, e, rfl⟩
theorem five_of {H : Type} {enc : TypeId × Value → H} {w : World} {base : Nat} {spare : Nat → Bool} {held : Bool} {fuel : Nat} {t : TypeId} {f0 f1 f2 f3 f4 : Field} {cs : List Value} {x : DataW H × List MemPlace}
    (hs : Tryz.prog.underlying t = some (.struct #[f0, f1, f2, f3, f4])) (h0 : (f0.offset, f0.type) = (0, 3)) (h1 : (f1.offset, f1.type) = (1, 3)) (h2 : (f2.offset, f2.type) = (2, 3)) (h3 : (f3.offset, f3.type) = (3, 3)) (h4 : (f4.offset, f4.type) = (4, 9))
    (hC : Tryz.prog.cellsOf t = 5) (h : DataW.trod enc Tryz.prog w base spare held fuel t cs = some x) :
    ∃ a b c d s, cs = [.int .i64 a, .int .i64 b, .int .i64 c, .int .i64 d, .string s] ∧ okV a b c d s := by
  have ci : Tryz.prog.cellsOf 3 = 1 := by kernel_rfl
  have cs1 : Tryz.prog.cellsOf 9 = 1 := by kernel_rfl
  simp only [Prod.mk.injEq] at h0 h1 h2 h3 h4
  obtain ⟨xs, n, _, _, hl, hx, hf⟩ := DataW.trod_struct hs h
  rw [hC] at hl
  have hx5 : xs.length = 5 := hx
  have g0 := hf 0 f0 rfl
  have g1 := hf 1 f1 rfl
  have g2 := hf 2 f2 rfl
  have g3 := hf 3 f3 rfl
  have g4 := hf 4 f4 rfl
  rw [h0.1, h0.2, ci, List.getElem?_eq_getElem (by omega)] at g0
  rw [h1.1, h1.2, ci, List.getElem?_eq_getElem (by omega)] at g1
  rw [h2.1, h2.2, ci, List.getElem?_eq_getElem (by omega)] at g2
  rw [h3.1, h3.2, ci, List.getElem?_eq_getElem (by omega)] at g3
  rw [h4.1, h4.2, cs1, List.getElem?_eq_getElem (by omega)] at g4
  obtain ⟨a, e0, _, w0⟩ := DataW.trod_int Tryz.underlying3 g0
  obtain ⟨b, e1, _, w1⟩ := DataW.trod_int Tryz.underlying3 g1
  obtain ⟨c, e2, _, w2⟩ := DataW.trod_int Tryz.underlying3 g2
  obtain ⟨d, e3, _, w3⟩ := DataW.trod_int Tryz.underlying3 g3
  obtain ⟨s, e4, _, w4⟩ := DataW.trod_string Tryz.underlying9 g4
  obtain ⟨c0, c1, c2, c3, c4, rfl⟩ := list5 cs hl
  simp at e0 e1 e2 e3 e4
  subst e0 e1 e2 e3 e4
  exact ⟨a, b, c, d, s, rfl, w0, w1, w2, w3, w4⟩

theorem open_nodes {H : Type} {enc : TypeId × Value → H} {w : World} {base : Nat} {spare : Nat → Bool} {held : Bool} {fuel : Nat} {A : Option Addr} {len cap : Nat} {x : DataW H × List MemPlace}
    (h : DataW.trod enc Tryz.prog w base spare held fuel 22 [.slice A len cap] = some x) : ∃ l : List S38, len = l.length ∧ l.length ≤ cap ∧ Kd.C k38 w A l.length l ∧ ∀ n ∈ l, okV n.f0 n.f1 n.f2 n.f3 n.f4 := by
  rcases Deep.open_slice Tryz.underlying22 h with ⟨hcs, hx⟩ | ⟨a, len', cap', m, n, D, Pl, hcs, _, hl, hm, hmm, hx, hel⟩
  · simp at hcs
    obtain ⟨rfl, rfl, rfl⟩ := hcs
    exact ⟨[], rfl, Nat.zero_le _, ⟨rfl, by simp, fun h => absurd h (by simp)⟩, by simp⟩
  · simp at hcs
    obtain ⟨rfl, rfl, rfl⟩ := hcs
    have hle : len ≤ m := by rw [hmm]; split <;> omega
    have hone : ∀ i, i < len → ∃ p : S38, okV p.f0 p.f1 p.f2 p.f3 p.f4 ∧ ∀ (j : Nat) u, ([.int .i64 p.f0, .int .i64 p.f1, .int .i64 p.f2, .int .i64 p.f3, .string p.f4] : List Value)[j]? = some u → w.cell? (a.add (i * 5 + j)) = some u := by
      intro i hi
      obtain ⟨cs', h1, h2⟩ := hel i (by omega)
      have hC : Tryz.prog.cellsOf 38 = 5 := by kernel_rfl
      rw [hC] at h1
      obtain ⟨_, hlen, hc⟩ := World.cells?_some h1
      obtain ⟨f0, f1, f2, f3, f4, rfl, ok⟩ := five_of Tryz.underlying38 rfl rfl rfl rfl rfl hC h2
      refine ⟨⟨f0, f1, f2, f3, f4⟩, ok, fun j u hj => ?_⟩
      have hlt : j < 5 := (List.getElem?_eq_some_iff.1 hj).1
      rw [← Addr.add_add, hc j hlt]; exact hj
    haveI : Inhabited S38 := ⟨z38⟩
    obtain ⟨f, hf⟩ := Deep.choose_lt hone
    have hll : ((List.range len).map f).length = len := by simp
    refine ⟨(List.range len).map f, hll.symm, by rw [hll]; exact hl, ⟨rfl, by rw [hll]; unfold maxLen at hm; omega, fun _ => ⟨a, rfl, fun j p hj => ?_⟩⟩, ?_⟩
    · have hjl : j < len := by
        have := (List.getElem?_eq_some_iff.1 hj).1
        rw [hll] at this; exact this
      have hp : p = f j := by
        rw [List.getElem?_map, List.getElem?_range hjl] at hj
        exact (Option.some.inj hj).symm
      subst hp
      exact ⟨_, rfl, k38_mk w (f j), fun i u hi => (hf j hjl).2 i u hi⟩
    · intro n hn
      obtain ⟨j, hj, rfl⟩ := List.mem_map.1 hn
      exact (hf j (List.mem_range.1 hj)).1

theorem open_flows {H : Type} {enc : TypeId × Value → H} {w : World} {base : Nat} {spare : Nat → Bool} {held : Bool} {fuel : Nat} {A : Option Addr} {len cap : Nat} {x : DataW H × List MemPlace}
    (h : DataW.trod enc Tryz.prog w base spare held fuel 23 [.slice A len cap] = some x) : ∃ l : List S40, len = l.length ∧ l.length ≤ cap ∧ Kd.C k40 w A l.length l ∧ ∀ n ∈ l, okV n.f0 n.f1 n.f2 n.f3 n.f4 := by
  rcases Deep.open_slice Tryz.underlying23 h with ⟨hcs, hx⟩ | ⟨a, len', cap', m, n, D, Pl, hcs, _, hl, hm, hmm, hx, hel⟩
  · simp at hcs
    obtain ⟨rfl, rfl, rfl⟩ := hcs
    exact ⟨[], rfl, Nat.zero_le _, ⟨rfl, by simp, fun h => absurd h (by simp)⟩, by simp⟩
  · simp at hcs
    obtain ⟨rfl, rfl, rfl⟩ := hcs
    have hle : len ≤ m := by rw [hmm]; split <;> omega
    have hone : ∀ i, i < len → ∃ p : S40, okV p.f0 p.f1 p.f2 p.f3 p.f4 ∧ ∀ (j : Nat) u, ([.int .i64 p.f0, .int .i64 p.f1, .int .i64 p.f2, .int .i64 p.f3, .string p.f4] : List Value)[j]? = some u → w.cell? (a.add (i * 5 + j)) = some u := by
      intro i hi
      obtain ⟨cs', h1, h2⟩ := hel i (by omega)
      have hC : Tryz.prog.cellsOf 40 = 5 := by kernel_rfl
      rw [hC] at h1
      obtain ⟨_, hlen, hc⟩ := World.cells?_some h1
      obtain ⟨f0, f1, f2, f3, f4, rfl, ok⟩ := five_of Tryz.underlying40 rfl rfl rfl rfl rfl hC h2
      refine ⟨⟨f0, f1, f2, f3, f4⟩, ok, fun j u hj => ?_⟩
      have hlt : j < 5 := (List.getElem?_eq_some_iff.1 hj).1
      rw [← Addr.add_add, hc j hlt]; exact hj
    haveI : Inhabited S40 := ⟨z40⟩
    obtain ⟨f, hf⟩ := Deep.choose_lt hone
    have hll : ((List.range len).map f).length = len := by simp
    refine ⟨(List.range len).map f, hll.symm, by rw [hll]; exact hl, ⟨rfl, by rw [hll]; unfold maxLen at hm; omega, fun _ => ⟨a, rfl, fun j p hj => ?_⟩⟩, ?_⟩
    · have hjl : j < len := by
        have := (List.getElem?_eq_some_iff.1 hj).1
        rw [hll] at this; exact this
      have hp : p = f j := by
        rw [List.getElem?_map, List.getElem?_range hjl] at hj
        exact (Option.some.inj hj).symm
      subst hp
      exact ⟨_, rfl, k40_mk w (f j), fun i u hi => (hf j hjl).2 i u hi⟩
    · intro n hn
      obtain ⟨j, hj, rfl⟩ := List.mem_map.1 hn
      exact (hf j (List.mem_range.1 hj)).1
theorem slice_shape {H : Type} {enc : TypeId × Value → H} {w : World} {base : Nat} {spare : Nat → Bool} {held : Bool} {fuel : Nat} {t e : TypeId} {v : Value} {x : DataW H × List MemPlace} (ht : Tryz.prog.underlying t = some (.slice e))
    (h : DataW.trod enc Tryz.prog w base spare held fuel t [v] = some x) : ∃ A n c, v = .slice A n c := by
  rcases Deep.open_slice ht h with ⟨hcs, _⟩ | ⟨a, len', cap', m, n, D, Pl, hcs, _⟩
  · exact ⟨none, 0, 0, by simpa using hcs⟩
  · exact ⟨some a, len', cap', by simpa using hcs⟩
set_option maxRecDepth 100000 in
/-- A definition by value. -/
theorem open_def {H : Type} {enc : TypeId × Value → H} {w : World} {base : Nat} {spare : Nat → Bool} {held : Bool} {r : Reach} {b0 : Nat} {v : Value} {d : DataW H} {p : List MemPlace}
    (hv : Value.okWide Tryz.prog w r b0 25 v) (h : DataW.Trod enc Tryz.prog w base spare held 25 v d p) :
    ∃ (nm : ByteArray) (A1 : Option Addr) (c1 : Nat) (l1 : List S38) (A2 : Option Addr) (c2 : Nat) (l2 : List S40), v = .agg #[.string nm, .slice A1 l1.length c1, .slice A2 l2.length c2] ∧
      Kd.C k38 w A1 l1.length l1 ∧ l1.length ≤ c1 ∧ Kd.C k40 w A2 l2.length l2 ∧ l2.length ≤ c2 ∧ (∀ n ∈ l1, okV n.f0 n.f1 n.f2 n.f3 n.f4) ∧ ∀ n ∈ l2, okV n.f0 n.f1 n.f2 n.f3 n.f4 := by
  obtain ⟨v0, v1, v2, y0, y1, y2, n, rfl, _, _, h0, h1, h2⟩ := Joins.open_agg3 Tryz.underlying25 (by kernel_rfl) (by kernel_rfl) hv h
  obtain ⟨nm, e0, _, _⟩ := DataW.trod_string Tryz.underlying9 h0
  simp at e0
  subst e0
  obtain ⟨A1, m1, c1, rfl⟩ := slice_shape Tryz.underlying22 h1
  obtain ⟨A2, m2, c2, rfl⟩ := slice_shape Tryz.underlying23 h2
  obtain ⟨l1, rfl, g1, g2, g3⟩ := open_nodes h1
  obtain ⟨l2, rfl, k1, k2, k3⟩ := open_flows h2
  exact ⟨nm, A1, c1, l1, A2, c2, l2, rfl, g2, g1, k2, k1, g3, k3⟩
end Go.Proofs.YtcaegaljhogbjaaGreatDoor.Row
