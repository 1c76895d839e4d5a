/- Facts carried over new blocks, draws and written cells, said by instances: short words for long tactic blocks. -/
import Derived.Test.YtpalncojmknlbaaDoorWWords
set_option linter.unusedVariables false
namespace Go.Proofs.YtpalncojmknlbaaDoorW.PrintWords
open Go.RowKit
/-- `v` is `w` with draws and new blocks. -/
class On (v : World) (w : outParam World) : Prop where
  ext : Below w.heap.size w v
instance (priority := 10) On.here (w : World) : On w w := ⟨Below.refl _ _⟩
instance On.alloc (v w : World) (o : Obj) [h : On v w] : On (v.alloc o) w := ⟨below_alloc h.ext o⟩
instance On.drewN (v w : World) (n : Nat) [h : On v w] : On (v.drewN n) w := ⟨pw_below_drewN h.ext n⟩
instance On.drew (v w : World) [h : On v w] : On v.drew w := ⟨below_drew h.ext⟩
theorem obk {v w : World} {g : Nat} {o : Obj} [k : On v w] (h : w.heap[g]? = some o) : v.heap[g]? = some o := blk_below h k.ext
theorem rok {α : Type} {d : Kd α} {e : Nat} {v w : World} {base : Nat} {ok : Nat → Prop} {x : Value} {xs : List α} [k : On v w] (h : d.R e w base ok x xs) : d.R e v base ok x xs := Kd.R_below h k.ext
/-- `v` is `u` with draws, new blocks and cells written that are new to `s`. -/
class Onb (s v : World) (u : outParam World) : Prop where
  ext : Below s.heap.size s u → Below s.heap.size s v
instance (priority := 10) Onb.here (s w : World) : Onb s w w := ⟨id⟩
instance Onb.alloc (s v w : World) (o : Obj) [h : Onb s v w] : Onb s (v.alloc o) w := ⟨fun b => below_alloc (h.ext b) o⟩
instance Onb.drewN (s v w : World) (n : Nat) [h : Onb s v w] : Onb s (v.drewN n) w := ⟨fun b => pw_below_drewN (h.ext b) n⟩
instance Onb.drew (s v w : World) [h : Onb s v w] : Onb s v.drew w := ⟨fun b => below_drew1 (h.ext b)⟩
instance Onb.set (s v w : World) (g j : Nat) (u : Value) [h : Onb s v w] [k : Aside0 (s.heap.size ≤ g)] : Onb s (v.setCell ⟨g, j, none⟩ u) w := ⟨fun b => below_set (h.ext b) k.out⟩
theorem bok {s v u : World} [k : Onb s v u] (h : Below s.heap.size s u) : Below s.heap.size s v := k.ext h
/-- `v` is `w` with draws, new blocks and cells written of other blocks than `g`. -/
class Onf (g : Nat) (v : World) (w : outParam World) : Prop where
  ext : ∀ (t : TypeId) (cs : Array Value), w.heap[g]? = some (.cells cs t (0, 0)) → v.heap[g]? = some (.cells cs t (0, 0))
instance (priority := 10) Onf.here (g : Nat) (w : World) : Onf g w w := ⟨fun _ _ h => h⟩
instance Onf.alloc (g : Nat) (v w : World) (o : Obj) [h : Onf g v w] : Onf g (v.alloc o) w := ⟨fun t cs b => blk_alloc (h.ext t cs b) o⟩
instance Onf.drewN (g : Nat) (v w : World) (n : Nat) [h : Onf g v w] : Onf g (v.drewN n) w := ⟨fun t cs b => blk_drewN (h.ext t cs b) n⟩
instance Onf.drew (g : Nat) (v w : World) [h : Onf g v w] : Onf g v.drew w := ⟨fun t cs b => blk_drew (h.ext t cs b)⟩
instance Onf.set (g : Nat) (v w : World) (g' j : Nat) (u : Value) [h : Onf g v w] [k : Aside0 (g ≠ g')] : Onf g (v.setCell ⟨g', j, none⟩ u) w := ⟨fun t cs b => blk_far (h.ext t cs b) k.out u⟩
theorem obf {v w : World} {g : Nat} {t : TypeId} {cs : Array Value} [k : Onf g v w] (h : w.heap[g]? = some (.cells cs t (0, 0))) : v.heap[g]? = some (.cells cs t (0, 0)) := k.ext t cs h
theorem mk0 {p : Prop} (h : p) : Aside0 p := ⟨h⟩
theorem rfar {α : Type} {d : Kd α} {e : Nat} {w : World} {base : Nat} {ok : Nat → Prop} {x : Value} {xs : List α} {g : Nat} (i : Nat) (h : d.R e w base (fun k => ok k ∧ k ≠ g) x xs) (u : Value) : d.R e (w.setCell ⟨g, i, none⟩ u) base (fun k => ok k ∧ k ≠ g) x xs := Kd.R_far (p := ⟨g, i, none⟩) h (fun _ hk => hk.2) u
theorem bst {s v u z : World} [Onb s v u] (h : Below s.heap.size s u) (k : Below v.heap.size v z) : Below s.heap.size s z := below_step (bok h) k
theorem blkf {w : World} {g g' : Nat} {t : TypeId} {cs : Array Value} (h : w.heap[g]? = some (.cells cs t (0, 0))) (hp : g ≠ g') {j : Nat} {u : Value} : (w.setCell ⟨g', j, none⟩ u).heap[g]? = some (.cells cs t (0, 0)) := blk_far h hp u
theorem nlt {v w : World} {g g' : Nat} {o : Obj} [On v w] (hg : g' = v.heap.size) (h : w.heap[g]? = some o) : g ≠ g' := hg ▸ Nat.ne_of_lt (blk_lt (obk (v := v) h))
theorem ngt {v w : World} {g g' : Nat} {o : Obj} [On v w] (hg : g' = v.heap.size) (h : w.heap[g]? = some o) : g' ≠ g := hg ▸ Nat.ne_of_gt (blk_lt (obk (v := v) h))
theorem gle {s v u : World} {g : Nat} [Onb s v u] (hg : g = v.heap.size) (h : Below s.heap.size s u) : s.heap.size ≤ g := hg ▸ below_size (bok (v := v) h)
theorem blk2 {w : World} {g : Nat} {t : TypeId} {a0 a1 : Value} (h : w.heap[g]? = some (.cells #[a0, a1] t (0, 0))) : w.cell? ⟨g, 0, none⟩ = some a0 ∧ w.cell? ⟨g, 1, none⟩ = some a1 ∧ w.frozen? ⟨g, 0, none⟩ = false ∧ w.frozen? ⟨g, 1, none⟩ = false := ⟨(blk_cell h 0).trans rfl, (blk_cell h 1).trans rfl, blk_frozen h 0, blk_frozen h 1⟩
theorem blk3 {w : World} {g : Nat} {t : TypeId} {a0 a1 a2 : Value} (h : w.heap[g]? = some (.cells #[a0, a1, a2] t (0, 0))) : w.cell? ⟨g, 0, none⟩ = some a0 ∧ w.cell? ⟨g, 1, none⟩ = some a1 ∧ w.cell? ⟨g, 2, none⟩ = some a2 ∧ w.frozen? ⟨g, 0, none⟩ = false ∧ w.frozen? ⟨g, 1, none⟩ = false ∧ w.frozen? ⟨g, 2, none⟩ = false := ⟨(blk_cell h 0).trans rfl, (blk_cell h 1).trans rfl, (blk_cell h 2).trans rfl, blk_frozen h 0, blk_frozen h 1, blk_frozen h 2⟩
theorem blk5 {w : World} {g : Nat} {t : TypeId} {a0 a1 a2 a3 a4 : Value} (h : w.heap[g]? = some (.cells #[a0, a1, a2, a3, a4] t (0, 0))) : w.cell? ⟨g, 0, none⟩ = some a0 ∧ w.cell? ⟨g, 1, none⟩ = some a1 ∧ w.cell? ⟨g, 2, none⟩ = some a2 ∧ w.cell? ⟨g, 3, none⟩ = some a3 ∧ w.cell? ⟨g, 4, none⟩ = some a4 ∧ w.frozen? ⟨g, 0, none⟩ = false ∧ w.frozen? ⟨g, 1, none⟩ = false ∧ w.frozen? ⟨g, 2, none⟩ = false ∧ w.frozen? ⟨g, 3, none⟩ = false ∧ w.frozen? ⟨g, 4, none⟩ = false := ⟨(blk_cell h 0).trans rfl, (blk_cell h 1).trans rfl, (blk_cell h 2).trans rfl, (blk_cell h 3).trans rfl, (blk_cell h 4).trans rfl, blk_frozen h 0, blk_frozen h 1, blk_frozen h 2, blk_frozen h 3, blk_frozen h 4⟩
end Go.Proofs.YtpalncojmknlbaaDoorW.PrintWords
