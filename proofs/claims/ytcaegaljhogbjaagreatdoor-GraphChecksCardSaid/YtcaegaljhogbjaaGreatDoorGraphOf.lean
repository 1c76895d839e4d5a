/- graph.of, walked by hand: the flows of a definition gathered by where they end, and where they begin. -/
import Derived.Test.YtcaegaljhogbjaaGreatDoorGraphSpec
import Derived.MapKept
import Derived.ChangeMaps5
import Derived.Maps.AppendAt
import Derived.Deep.AppendLies
import Derived.Deep.RegionHeld3
set_option linter.unusedVariables false
namespace Go.Proofs.YtcaegaljhogbjaaGreatDoor.Gr
open Go.RowKit Go.Lib Go.Sort Go.Proofs.YtcaegaljhogbjaaGreatDoorW.PrintWords Go.Proofs.YtcaegaljhogbjaaGreatDoorW.PrintLast Go.Proofs.YtcaegaljhogbjaaGreatDoorW.PrintMore Go.Proofs.YtcaegaljhogbjaaGreatDoor.Y Go.Proofs.YtcaegaljhogbjaaGreatDoor.Gd
open Go.ChangeMaps (setBlock heap_setBlock_same heap_setBlock_other)

open Classical in
/-- What stands at a number. -/
noncomputable def look : List MapEntry → Int → Value
 | [], _ => .slice none 0 0
 | e :: es, x => if e.key = .int .i64 x then e.val else look es x
theorem look_miss {x : Int} : ∀ {es : List MapEntry}, (∀ e ∈ es, e.key ≠ .int .i64 x) → look es x = .slice none 0 0
 | [], _ => rfl
 | e :: es, h => by rw [look, if_neg (h e (List.mem_cons_self ..))]; exact look_miss (fun e' he => h e' (List.mem_cons_of_mem _ he))
theorem find_int (x : Int) : ∀ (es : List MapEntry) (i : Nat), (∀ e ∈ es, ∃ z, e.key = .int .i64 z) →
  (Instr.findNow (.int .i64) (.int .i64 x) es i = some none ∧ (∀ e ∈ es, e.key ≠ .int .i64 x)) ∨
  ∃ j e, Instr.findNow (.int .i64) (.int .i64 x) es i = some (some (i + j, look es x)) ∧ es[j]? = some e ∧ e.key = .int .i64 x ∧
   ∀ (v : Value) (y : Int), look (es.set j ⟨.int .i64 x, v, e.born⟩) y = if y = x then v else look es y
 | [], i, _ => Or.inl ⟨rfl, by simp⟩
 | e :: es, i, h => by
  obtain ⟨z, hz⟩ := h e (List.mem_cons_self ..)
  by_cases c : x = z
  ·
   subst c
   refine Or.inr ⟨0, e, by simp [Instr.findNow, Instr.sameNow, hz, look], rfl, hz, fun v y => ?_⟩
   by_cases d : y = x
   ·
    subst d; simp [look]
   ·
    simp [look, hz, d, Ne.symm d]
  ·
   have hs : Instr.sameNow (.int .i64) (.int .i64 x) e.key = some false := by simp [Instr.sameNow, hz, c]
   have hne : e.key ≠ .int .i64 x := by rw [hz]; intro e1; cases e1; exact c rfl
   rcases find_int x es (i + 1) (fun e' he => h e' (List.mem_cons_of_mem _ he)) with ⟨h1, h2⟩ | ⟨j, e', h1, h2, h3, h4⟩
   ·
    refine Or.inl ⟨by simp [Instr.findNow, hs, h1], fun e' he => ?_⟩
    rcases List.mem_cons.mp he with rfl | he
    ·
     exact hne
    ·
     exact h2 e' he
   ·
    refine Or.inr ⟨j + 1, e', by simp [Instr.findNow, hs, h1, look, hne]; omega, by simpa using h2, h3, fun v y => ?_⟩
    simp only [List.set_cons_succ, look, h4 v y]
    by_cases d : y = x
    ·
     subst d; simp [hne]
    ·
     simp [d]
theorem look_push {x : Int} {v : Value} {c : Nat} (y : Int) : ∀ {es : List MapEntry}, (∀ e ∈ es, e.key ≠ .int .i64 x) → look (es ++ [⟨.int .i64 x, v, c⟩]) y = if y = x then v else look es y
 | [], _ => by
  by_cases d : y = x
  ·
   subst d; simp [look]
  ·
   simp [look, d, Ne.symm d]
 | e :: es, h => by
  simp only [List.cons_append, look, look_push y (es := es) (fun e' he => h e' (List.mem_cons_of_mem _ he))]
  by_cases d : y = x
  ·
   subst d; simp [h e (List.mem_cons_self ..)]
  ·
   simp [d]
def upd {α β : Type} [DecidableEq α] (f : α → β) (x : α) (v : β) : α → β := fun y => if y = x then v else f y
/-- Block b is a map of whole numbers that holds f. -/
def Mp (w : World) (b : Nat) (f : Int → Value) : Prop := ∃ es clock, w.heap[b]? = some (.map es clock) ∧ (∀ e ∈ es.toList, ∃ z, e.key = .int .i64 z) ∧ ∀ x, look es.toList x = f x
theorem Mp.keep {w w' : World} {b : Nat} {f : Int → Value} (h : Mp w b f) (hb : w'.heap[b]? = w.heap[b]?) : Mp w' b f := by
 obtain ⟨es, c, h1, h2, h3⟩ := h
 exact ⟨es, c, hb.trans h1, h2, h3⟩
theorem Mp.lt {w : World} {b : Nat} {f : Int → Value} (h : Mp w b f) : b < w.heap.size := by
 obtain ⟨es, c, h1, _⟩ := h
 exact (Array.getElem?_eq_some_iff.1 h1).1
theorem Mp.below {w w' : World} {b : Nat} {f : Int → Value} (h : Mp w b f) (hb : Below w.heap.size w w') : Mp w' b f := h.keep (hb.block b h.lt)
theorem Mp.new (w : World) : Mp (w.alloc (.map #[] 0)) w.heap.size (fun _ => .slice none 0 0) := ⟨#[], 0, (MapKept.heap_alloc w _).1, by simp, fun _ => rfl⟩
section
variable {P : Program} {t k E : TypeId} (ht : P.underlying t = some (.map k E)) (hk : P.underlying k = some (.int .i64))
include ht hk
theorem Mp.look (hz : ∀ W, (zeroValue E).run P W = .ok (.slice none 0 0) W) {w : World} {b : Nat} {f : Int → Value} (h : Mp w b f) (x : Int) : (Instr.lookup t (.map (some b)) (.int .i64 x) false).run P w = .ok (f x) w := by
 obtain ⟨es, c, hb, hi, hf⟩ := h
 have hck := MapKept.run_checkKey (w := w) (k := .int .i64 x) hk (by simp [MapKept.IsKey]) es.isEmpty 9999
 rcases find_int x es.toList 0 hi with ⟨h1, h2⟩ | ⟨j, e, h1, h2, h3, _⟩
 ·
  have h0 := hf x
  rw [look_miss h2] at h0
  rw [← h0]
  simp [Instr.lookup, run_underlying ht, MapKept.run_getObj_map hb, hck, MapKept.run_findKey hk h1, hz, Result.andThen]
 ·
  have h0 := hf x
  rw [← h0]
  simp [Instr.lookup, run_underlying ht, MapKept.run_getObj_map hb, hck, MapKept.run_findKey hk h1, Result.andThen]
theorem Mp.store {w : World} {b : Nat} {f : Int → Value} (h : Mp w b f) (x : Int) (v : Value) :
  ∃ w2, (Instr.mapUpdate t (.map (some b)) (.int .i64 x) v).run P w = .ok () w2 ∧ Mp w2 b (upd f x v) ∧ w.grownBy w2 (some b) := by
 obtain ⟨es, c, hb, hi, hf⟩ := h
 have hk0 : MapKept.IsKey (.int .i64) (.int .i64 x) := by simp [MapKept.IsKey]
 have hck := MapKept.run_checkKey (w := w) (k := .int .i64 x) hk hk0 false 9999
 rcases find_int x es.toList 0 hi with ⟨h1, h2⟩ | ⟨j, e, h1, h2, h3, h4⟩
 ·
  refine ⟨setBlock w b (.map (es.push ⟨.int .i64 x, v, c⟩) (c + 1)), by simp [Instr.mapUpdate, run_underlying ht, MapKept.run_getObj_map hb, hck, MapKept.run_findKey hk h1, MapKept.run_setObj_map _ hb, Result.andThen, setBlock],
   ⟨_, _, heap_setBlock_same hb _, ?_, fun y => ?_⟩, ⟨rfl, rfl, rfl, by simp [setBlock], fun i _ hi => heap_setBlock_other hb _ (fun e1 => hi (by rw [e1]))⟩⟩
  ·
   intro e he
   simp only [Array.toList_push, List.mem_append, List.mem_singleton] at he
   rcases he with he | rfl
   ·
    exact hi e he
   ·
    exact ⟨x, rfl⟩
  ·
   rw [Array.toList_push, look_push y h2, hf y]
   rfl
 ·
  have hj : es[j]? = some e := by simpa using h2
  have hlist : (es.modify j (fun e' => { e' with key := .int .i64 x, val := v })).toList = es.toList.set j ⟨.int .i64 x, v, e.born⟩ := by rw [Array.toList_modify, ChangeMaps.modify_eq_set _ _ _ _ h2]
  refine ⟨setBlock w b (.map (es.modify j (fun e' => { e' with key := .int .i64 x, val := v })) c), ?_, ⟨_, _, heap_setBlock_same hb _, ?_, fun y => ?_⟩, ⟨rfl, rfl, rfl, by simp [setBlock], fun i _ hi => heap_setBlock_other hb _ (fun e1 => hi (by rw [e1]))⟩⟩
  ·
   simp [Instr.mapUpdate, run_underlying ht, MapKept.run_getObj_map hb, hck, MapKept.run_findKey hk h1, hj, h3, MapKept.run_keyThatStays hk0, MapKept.run_setObj_map _ hb, Result.andThen, setBlock]
  ·
   intro e' he
   rw [hlist] at he
   rcases List.mem_or_eq_of_mem_set he with he | rfl
   ·
    exact hi e' he
   ·
    exact ⟨x, rfl⟩
  ·
   rw [hlist, h4 v y, hf y]
   rfl
end
/-- The slices F p own rows of their own, of c p numbers each, from block base on; no two lie in one row. -/
def Rows (w : World) (e : TypeId) (base : Nat) (F : Bool × Int → Value) (c : Bool × Int → Nat) : Prop :=
 (∀ p, ∃ xs, w.ownsRow base e 1 (F p) (c p) xs) ∧ ∀ p q, p ≠ q → (F p).ownBlock = none ∨ (F p).ownBlock ≠ (F q).ownBlock
theorem Rows.new (w : World) (e : TypeId) (base : Nat) : Rows w e base (fun _ => .slice none 0 0) (fun _ => 0) := ⟨fun _ => ⟨[], World.ownsRow_nil _ _ _ _⟩, fun _ _ _ => Or.inl rfl⟩
theorem Rows.keep {w w' : World} {e : TypeId} {base : Nat} {F : Bool × Int → Value} {c : Bool × Int → Nat} {row : Option Nat} (h : Rows w e base F c) (hg : w.grownBy w' row) (hr : ∀ g, row = some g → g < base) : Rows w' e base F c :=
 ⟨fun p => by
  obtain ⟨xs, hx⟩ := h.1 p
  refine ⟨xs, hx.kept hg ?_⟩
  cases hb : (F p).ownBlock with
  | none => exact Or.inl rfl
  | some g => exact Or.inr (fun e1 => by have := hr g e1.symm; have := (hx.lt g hb).1; omega), h.2⟩
theorem Rows.append {w w' : World} {e : TypeId} {base : Nat} {F : Bool × Int → Value} {c : Bool × Int → Nat} (h : Rows w e base F c) (p : Bool × Int) (hg : w.grownBy w' (F p).ownBlock) {v : Value} {xs : List Value} (hv : w'.ownsRow base e 1 v (c p + 1) xs)
  (hl : v.ownBlock = (F p).ownBlock ∨ ∃ g, v.ownBlock = some g ∧ w.heap.size ≤ g) : Rows w' e base (upd F p v) (upd c p (c p + 1)) := by
 have far : ∀ q, q ≠ p → (F q).ownBlock = none ∨ (F q).ownBlock ≠ v.ownBlock := fun q hq => by
  rcases hl with e1 | ⟨g, e1, hge⟩
  ·
   rw [e1]; exact h.2 q p hq
  ·
   obtain ⟨xs, hx⟩ := h.1 q
   cases hb : (F q).ownBlock with
   | none => exact Or.inl rfl
   | some g' => exact Or.inr (fun e2 => by rw [e1] at e2; have e3 := Option.some.inj e2; have := (hx.lt g' hb).2; omega)
 refine ⟨fun q => ?_, fun q r hqr => ?_⟩
 ·
  by_cases d : q = p
  ·
   subst d
   exact ⟨xs, by simpa [upd] using hv⟩
  ·
   obtain ⟨ys, hy⟩ := h.1 q
   exact ⟨ys, by simpa [upd, d] using hy.kept hg (h.2 q p d)⟩
 ·
  by_cases d : q = p
  ·
   subst d
   have d' : r ≠ q := fun e1 => hqr e1.symm
   simp only [upd, if_pos, if_neg d']
   rcases far r d' with e1 | e1
   ·
    rw [e1]
    cases v.ownBlock with
    | none => exact Or.inl rfl
    | some g => exact Or.inr (by simp)
   ·
    exact Or.inr (fun e2 => e1 e2.symm)
  ·
   by_cases d' : r = p
   ·
    subst d'
    simp only [upd, if_pos, if_neg d]
    exact far q d
   ·
    simp only [upd, if_neg d, if_neg d']
    exact h.2 q r hqr
theorem Rows.form {w : World} {e : TypeId} {base : Nat} {F : Bool × Int → Value} {c : Bool × Int → Nat} (h : Rows w e base F c) (p : Bool × Int) : ∃ A cap, F p = .slice A (c p) cap := by
 obtain ⟨xs, hx⟩ := h.1 p
 rcases hx.2 with ⟨e1, e2⟩ | ⟨g, cap, cur, e1, _⟩
 ·
  exact ⟨none, 0, by rw [e1, e2]⟩
 ·
  exact ⟨_, cap, e1⟩
end Go.Proofs.YtcaegaljhogbjaaGreatDoor.Gr

set_option linter.unusedVariables false
set_option linter.unusedSimpArgs false
namespace Go.Proofs.YtcaegaljhogbjaaGreatDoor.Gr
open Go.RowKit Go.Lib Go.Sort Go.Proofs.YtcaegaljhogbjaaGreatDoorW.PrintWords Go.Proofs.YtcaegaljhogbjaaGreatDoorW.PrintLast Go.Proofs.YtcaegaljhogbjaaGreatDoorW.PrintMore Go.Proofs.YtcaegaljhogbjaaGreatDoor.Y Go.Proofs.YtcaegaljhogbjaaGreatDoor.Gd

theorem wrapS (n : Nat) (h : n ≤ 200000000000000) : wrap64 ((n : Int) + 1) = ((n + 1 : Nat) : Int) := by unfold wrap64; omega
/-- How many of the flows end (begin) at x. -/
def cnt (l : List S40) (p : Bool × Int) : Nat := (l.filter (fun f => decide ((if p.1 then f.f0 else f.f1) = p.2))).length
theorem cnt_snoc (l : List S40) (f : S40) : cnt (l ++ [f]) = upd (upd (cnt l) (false, f.f1) (cnt l (false, f.f1) + 1)) (true, f.f0) (upd (cnt l) (false, f.f1) (cnt l (false, f.f1) + 1) (true, f.f0) + 1) := by
 funext ⟨b, x⟩
 cases b
 ·
  by_cases h : f.f1 = x
  ·
   subst h; simp [cnt, upd]
  ·
   simp [cnt, upd, h, Ne.symm h]
 ·
  by_cases h : f.f0 = x
  ·
   subst h; simp [cnt, upd]
  ·
   simp [cnt, upd, h, Ne.symm h]
theorem cnt_le (l : List S40) (p : Bool × Int) : cnt l p ≤ l.length := List.length_filter_le _ _

/-- What holds between the rounds. -/
def OI (w : World) (s : ByteArray) (v1 v2 : Value) (F : Bool × Int → Value) (c : Bool × Int → Nat) (wr : World) : Prop :=
 Aside0 (Below w.heap.size w wr) ∧ Aside0 (w.heap.size + 5 ≤ wr.heap.size) ∧ Aside0 (wr.heap[w.heap.size]? = some (.cells #[.string s, v1, v2] 25 (0, 0))) ∧
 Aside0 (wr.heap[w.heap.size + 1]? = some (.cells #[.string ByteArray.empty, .slice none 0 0, .slice none 0 0, .map none, .map none] 53 (0, 0))) ∧
 Aside0 (wr.heap[w.heap.size + 4]? = some (.cells #[.string s, v1, v2, .map (some (w.heap.size + 2)), .map (some (w.heap.size + 3))] 53 (0, 0))) ∧
 Aside0 (Mp wr (w.heap.size + 2) (fun x => F (false, x))) ∧ Aside0 (Mp wr (w.heap.size + 3) (fun x => F (true, x))) ∧ Aside0 (Rows wr 3 (w.heap.size + 5) F c)
theorem OI.new (w : World) (s : ByteArray) (v1 v2 : Value) : OI w s v1 v2 (fun _ => .slice none 0 0) (cnt ([].take 0))
  (((((w.alloc (.cells #[.string s, v1, v2] 25)).alloc (.cells #[.string ByteArray.empty, .slice none 0 0, .slice none 0 0, .map none, .map none] 53)).alloc (.map #[] 0)).alloc (.map #[] 0)).alloc
   (.cells #[.string s, v1, v2, .map (some (w.heap.size + 2)), .map (some (w.heap.size + 3))] 53)) := by
 generalize e1 : w.alloc (.cells #[.string s, v1, v2] 25) = wa
 have s1 : wa.heap.size = w.heap.size + 1 := by rw [← e1]; simp
 have x1 : wa.heap[w.heap.size]? = some (.cells #[.string s, v1, v2] 25 (0, 0)) := by rw [← e1]; exact blk_new _ _
 have g1 : Below w.heap.size w wa := by rw [← e1]; exact below_alloc (Below.refl _ _) _
 generalize e2 : wa.alloc (.cells #[.string ByteArray.empty, .slice none 0 0, .slice none 0 0, .map none, .map none] 53) = wb
 have s2 : wb.heap.size = w.heap.size + 2 := by rw [← e2]; simp [s1]
 have x2 : wb.heap[w.heap.size + 1]? = some (.cells #[.string ByteArray.empty, .slice none 0 0, .slice none 0 0, .map none, .map none] 53 (0, 0)) := by rw [← e2, ← s1]; exact blk_new _ _
 have x1' := (Below.heap_alloc wa (.cells #[.string ByteArray.empty, .slice none 0 0, .slice none 0 0, .map none, .map none] 53) w.heap.size (by omega)).trans x1
 have g2 : Below w.heap.size w wb := by rw [← e2]; exact g1.alloc (by omega) _
 rw [e2] at x1'
 generalize e3 : wb.alloc (.map #[] 0) = wc
 have s3 : wc.heap.size = w.heap.size + 3 := by rw [← e3]; simp [s2]
 have m1 : Mp wc (w.heap.size + 2) (fun _ => .slice none 0 0) := by rw [← e3, ← s2]; exact Mp.new _
 have hb3 : ∀ k, k < w.heap.size + 2 → wc.heap[k]? = wb.heap[k]? := fun k hk => by rw [← e3]; exact Below.heap_alloc _ _ _ (by omega)
 have g3 : Below w.heap.size w wc := by rw [← e3]; exact g2.alloc (by omega) _
 generalize e4 : wc.alloc (.map #[] 0) = wd
 have s4 : wd.heap.size = w.heap.size + 4 := by rw [← e4]; simp [s3]
 have m2 : Mp wd (w.heap.size + 3) (fun _ => .slice none 0 0) := by rw [← e4, ← s3]; exact Mp.new _
 have hb4 : ∀ k, k < w.heap.size + 3 → wd.heap[k]? = wc.heap[k]? := fun k hk => by rw [← e4]; exact Below.heap_alloc _ _ _ (by omega)
 have g4 : Below w.heap.size w wd := by rw [← e4]; exact g3.alloc (by omega) _
 have hb5 : ∀ o k, k < w.heap.size + 4 → (wd.alloc o).heap[k]? = wd.heap[k]? := fun o k hk => Below.heap_alloc _ _ _ (by omega)
 have hc : (cnt ([].take 0)) = fun _ => 0 := by funext p; rfl
 rw [hc]
 exact ⟨⟨g4.alloc (by omega) _⟩, ⟨by simp [s4]⟩, ⟨by rw [hb5 _ _ (by omega), hb4 _ (by omega), hb3 _ (by omega)]; exact x1'⟩, ⟨by rw [hb5 _ _ (by omega), hb4 _ (by omega), hb3 _ (by omega)]; exact x2⟩,
  ⟨by rw [← s4]; exact blk_new _ _⟩, ⟨(m1.keep (hb4 _ (by omega))).keep (hb5 _ _ (by omega))⟩, ⟨m2.keep (hb5 _ _ (by omega))⟩, ⟨Rows.new _ _ _⟩⟩
section
variable {w wr wr' : World} {s : ByteArray} {v1 v2 : Value} {F : Bool × Int → Value} {c : Bool × Int → Nat}
theorem OI.up (h : OI w s v1 v2 F c wr) (hg : wr.grownBy wr' none) : OI w s v1 v2 F c wr' := by
 obtain ⟨⟨a1⟩, ⟨a2⟩, ⟨a3⟩, ⟨a4⟩, ⟨a5⟩, ⟨a6⟩, ⟨a7⟩, ⟨a8⟩⟩ := h
 have hb : ∀ k, k < wr.heap.size → wr'.heap[k]? = wr.heap[k]? := fun k hk => hg.block k hk (by simp)
 exact ⟨⟨a1.grown hg (by omega) (by simp)⟩, ⟨Nat.le_trans a2 hg.size⟩, ⟨(hb _ (by omega)).trans a3⟩, ⟨(hb _ (by omega)).trans a4⟩, ⟨(hb _ (by omega)).trans a5⟩, ⟨a6.keep (hb _ (by omega))⟩, ⟨a7.keep (hb _ (by omega))⟩, ⟨a8.keep hg (by simp)⟩⟩
theorem OI.alloc (h : OI w s v1 v2 F c wr) (o : Obj) : OI w s v1 v2 F c (wr.alloc o) := h.up (World.grownBy_alloc _ _ none)
theorem OI.drew (h : OI w s v1 v2 F c wr) : OI w s v1 v2 F c wr.drew := h.up ⟨rfl, rfl, rfl, Nat.le_refl _, fun _ _ _ => rfl⟩
/-- .. and a flow lies boxed in block hs. -/
def OJ (w : World) (s : ByteArray) (v1 v2 : Value) (hs : Nat) (fs : Array Value) (F : Bool × Int → Value) (c : Bool × Int → Nat) (wr : World) : Prop :=
 OI w s v1 v2 F c wr ∧ Aside0 (wr.heap[hs]? = some (.cells fs 40 (0, 0))) ∧ Aside0 (∀ p, (F p).ownBlock ≠ some hs) ∧ Aside0 (w.heap.size + 5 ≤ hs)
theorem OI.flow (h : OI w s v1 v2 F c wr) (fs : Array Value) : OJ w s v1 v2 wr.heap.size fs F c (wr.alloc (.cells fs 40)) :=
 ⟨h.alloc _, ⟨blk_new _ _⟩, ⟨fun p e => by obtain ⟨xs, hx⟩ := h.2.2.2.2.2.2.2.out.1 p; have := (hx.lt _ e).2; omega⟩, h.2.1⟩
variable {hs : Nat} {fs : Array Value}
theorem OJ.up (h : OJ w s v1 v2 hs fs F c wr) (hg : wr.grownBy wr' none) : OJ w s v1 v2 hs fs F c wr' :=
 ⟨h.1.up hg, ⟨(hg.block hs (Array.getElem?_eq_some_iff.1 h.2.1.out).1 (by simp)).trans h.2.1.out⟩, h.2.2.1, h.2.2.2⟩
theorem OJ.alloc (h : OJ w s v1 v2 hs fs F c wr) (o : Obj) : OJ w s v1 v2 hs fs F c (wr.alloc o) := h.up (World.grownBy_alloc _ _ none)
theorem OJ.drew (h : OJ w s v1 v2 hs fs F c wr) : OJ w s v1 v2 hs fs F c wr.drew := h.up ⟨rfl, rfl, rfl, Nat.le_refl _, fun _ _ _ => rfl⟩
theorem zero36 (W : World) : (zeroValue 36).run Tryz.prog W = .ok (.slice none 0 0) W := by kernel_rfl
def mpb (w : World) (b : Bool) : Nat := if b then w.heap.size + 3 else w.heap.size + 2
theorem OJ.look (h : OJ w s v1 v2 hs fs F c wr) (p : Bool × Int) : (Instr.lookup 51 (.map (some (mpb w p.1))) (.int .i64 p.2) false).run Tryz.prog wr = .ok (F p) wr := by
 obtain ⟨⟨_, _, _, _, _, ⟨a6⟩, ⟨a7⟩, _⟩, _⟩ := h
 obtain ⟨b, x⟩ := p
 cases b
 ·
  exact Mp.look Tryz.underlying51 Tryz.underlying3 zero36 a6 x
 ·
  exact Mp.look Tryz.underlying51 Tryz.underlying3 zero36 a7 x
theorem OJ.cells (h : OJ w s v1 v2 hs fs F c wr) : (wr.cell? ⟨w.heap.size + 4, 3, none⟩ = some (.map (some (w.heap.size + 2))) ∧ wr.cell? ⟨w.heap.size + 4, 4, none⟩ = some (.map (some (w.heap.size + 3)))) ∧ ∀ j, wr.cell? ⟨hs, j, none⟩ = fs[j]? :=
 ⟨⟨(blk_cell h.1.2.2.2.2.1.out 3).trans rfl, (blk_cell h.1.2.2.2.2.1.out 4).trans rfl⟩, fun j => blk_cell h.2.1.out j⟩
theorem OJ.s5 {a b c' d e : Value} (h : OJ w s v1 v2 hs #[a, b, c', d, e] F c wr) : wr.cell? ⟨w.heap.size + 4, 3, none⟩ = some (.map (some (w.heap.size + 2))) ∧ wr.cell? ⟨hs, 1, none⟩ = some b := ⟨h.cells.1.1, h.cells.2 1⟩
theorem OJ.s6 {a b c' d e : Value} (h : OJ w s v1 v2 hs #[a, b, c', d, e] F c wr) : wr.cell? ⟨w.heap.size + 4, 4, none⟩ = some (.map (some (w.heap.size + 3))) ∧ wr.cell? ⟨hs, 0, none⟩ = some a := ⟨h.cells.1.2, h.cells.2 0⟩
/-- Behind 'append' at p, and the store. -/
theorem OJ.push {wx w1 : World} (h : OJ w s v1 v2 hs fs F c wx) (p : Bool × Int) (hg : wx.grownBy w1 (F p).ownBlock) {v : Value} {xs : List Value} (hv : w1.ownsRow (w.heap.size + 5) 3 1 v (c p + 1) xs)
  (hl : v.ownBlock = (F p).ownBlock ∨ ∃ g, v.ownBlock = some g ∧ wx.heap.size ≤ g) :
  ((w1.cell? ⟨w.heap.size + 4, 3, none⟩ = some (.map (some (w.heap.size + 2))) ∧ w1.cell? ⟨w.heap.size + 4, 4, none⟩ = some (.map (some (w.heap.size + 3)))) ∧ ∀ j, w1.cell? ⟨hs, j, none⟩ = fs[j]?) ∧
  ∃ w2, (Instr.mapUpdate 51 (.map (some (mpb w p.1))) (.int .i64 p.2) v).run Tryz.prog w1 = .ok () w2 ∧ OJ w s v1 v2 hs fs (upd F p v) (upd c p (c p + 1)) w2 := by
 obtain ⟨⟨⟨a1⟩, ⟨a2⟩, ⟨a3⟩, ⟨a4⟩, ⟨a5⟩, ⟨a6⟩, ⟨a7⟩, ⟨a8⟩⟩, ⟨b1⟩, ⟨b2⟩, ⟨b3⟩⟩ := h
 have hlow : ∀ g, (F p).ownBlock = some g → w.heap.size + 5 ≤ g := fun g e => by obtain ⟨ys, hy⟩ := a8.1 p; exact (hy.lt g e).1
 have hb : ∀ k, k < w.heap.size + 5 → w1.heap[k]? = wx.heap[k]? := fun k hk => hg.block k (by omega) (fun e => by have := hlow k e.symm; omega)
 have hbs : w1.heap[hs]? = wx.heap[hs]? := hg.block hs (Array.getElem?_eq_some_iff.1 b1).1 (fun e => b2 p e.symm)
 have r1 : Rows w1 3 (w.heap.size + 5) (upd F p v) (upd c p (c p + 1)) := a8.append p hg hv hl
 have m6 := a6.keep (hb (w.heap.size + 2) (by omega))
 have m7 := a7.keep (hb (w.heap.size + 3) (by omega))
 refine ⟨⟨⟨(blk_cell ((hb _ (by omega)).trans a5) 3).trans rfl, (blk_cell ((hb _ (by omega)).trans a5) 4).trans rfl⟩, fun j => blk_cell (hbs.trans b1) j⟩, ?_⟩
 have key : ∃ w2, (Instr.mapUpdate 51 (.map (some (mpb w p.1))) (.int .i64 p.2) v).run Tryz.prog w1 = .ok () w2 ∧ Mp w2 (w.heap.size + 2) (fun x => upd F p v (false, x)) ∧ Mp w2 (w.heap.size + 3) (fun x => upd F p v (true, x)) ∧ w1.grownBy w2 (some (mpb w p.1)) := by
  obtain ⟨b, x⟩ := p
  cases b
  ·
   obtain ⟨w2, h1, h2, h3⟩ := Mp.store Tryz.underlying51 Tryz.underlying3 m6 x v
   refine ⟨w2, h1, ?_, ?_, h3⟩
   ·
    have e : (fun y => upd F (false, x) v (false, y)) = upd (fun x => F (false, x)) x v := by funext y; simp [upd]
    rw [e]; exact h2
   ·
    have e : (fun y => upd F (false, x) v (true, y)) = (fun y => F (true, y)) := by funext y; simp [upd]
    rw [e]; exact m7.keep (h3.block _ m7.lt (by simp))
  ·
   obtain ⟨w2, h1, h2, h3⟩ := Mp.store Tryz.underlying51 Tryz.underlying3 m7 x v
   refine ⟨w2, h1, ?_, ?_, h3⟩
   ·
    have e : (fun y => upd F (true, x) v (false, y)) = (fun y => F (false, y)) := by funext y; simp [upd]
    rw [e]; exact m6.keep (h3.block _ m6.lt (by simp))
   ·
    have e : (fun y => upd F (true, x) v (true, y)) = upd (fun x => F (true, x)) x v := by funext y; simp [upd]
    rw [e]; exact h2
 obtain ⟨w2, h1, h2, h3, h4⟩ := key
 have hm : w.heap.size ≤ mpb w p.1 ∧ (mpb w p.1 = w.heap.size + 2 ∨ mpb w p.1 = w.heap.size + 3) := by unfold mpb; split <;> omega
 have hsz1 : wx.heap.size ≤ w1.heap.size := hg.size
 have hb2 : ∀ k, k < w1.heap.size → k ≠ mpb w p.1 → w2.heap[k]? = w1.heap[k]? := fun k hk hne => h4.block k hk (fun e => hne (Option.some.inj e))
 have hslt := (Array.getElem?_eq_some_iff.1 b1).1
 refine ⟨w2, h1, ⟨⟨?_⟩, ⟨?_⟩, ⟨?_⟩, ⟨?_⟩, ⟨?_⟩, ⟨h2⟩, ⟨h3⟩, ⟨?_⟩⟩, ⟨?_⟩, ⟨?_⟩, ⟨b3⟩⟩
 ·
  exact (a1.grown hg (by omega) (fun k e => by have := hlow k e; omega)).grown h4 (by omega) (fun k e => by cases e; exact hm.1)
 ·
  have := h4.size; omega
 ·
  rw [hb2 _ (by omega) (by omega), hb _ (by omega)]; exact a3
 ·
  rw [hb2 _ (by omega) (by omega), hb _ (by omega)]; exact a4
 ·
  rw [hb2 _ (by omega) (by omega), hb _ (by omega)]; exact a5
 ·
  exact r1.keep h4 (fun g e => by cases e; omega)
 ·
  rw [hb2 _ (by omega) (by omega), hbs]; exact b1
 ·
  intro q e
  by_cases d : q = p
  ·
   subst d
   simp only [upd, if_pos] at e
   rcases hl with e1 | ⟨g, e1, hge⟩
   ·
    exact b2 q (by rw [← e1]; exact e)
   ·
    rw [e1] at e; have := Option.some.inj e; omega
  ·
   simp only [upd, if_neg d] at e
   exact b2 q e
theorem OJ.form (h : OJ w s v1 v2 hs fs F c wr) (p : Bool × Int) : ∃ xs, wr.ownsRow (w.heap.size + 5) 3 1 (F p) (c p) xs := h.1.2.2.2.2.2.2.2.out.1 p
end
/-- The two maps of a definition's flows. -/
def GM (w : World) (b1 b2 : Nat) (l : List S40) : Prop := ∃ F : Bool × Int → Value, Mp w b1 (fun x => F (false, x)) ∧ Mp w b2 (fun x => F (true, x)) ∧ ∀ p, ∃ A cap, F p = .slice A (cnt l p) cap
theorem GM.below {w w' : World} {b1 b2 : Nat} {l : List S40} (h : GM w b1 b2 l) (hb : Below w.heap.size w w') : GM w' b1 b2 l := by
 obtain ⟨F, h1, h2, h3⟩ := h
 exact ⟨F, h1.below hb, h2.below hb, h3⟩
set_option maxHeartbeats 8000000 in
set_option maxRecDepth 100000 in
theorem graph_of_calls (a0 : ByteArray) (A1 : Option Addr) (c1 : Nat) (l1 : List S38) (A2 : Option Addr) (c2 : Nat) (l2 : List S40) (w : World)
  (hC2 : Kd.C k40 w A2 l2.length l2) (hlen : l2.length < 17592186044416) :
  Calls Tryz.prog 22 #[.agg #[.string a0, .slice A1 l1.length c1, .slice A2 l2.length c2]] w fun e w' => ∃ b1 b2, e = .returned (.agg #[.string a0, .slice A1 l1.length c1, .slice A2 l2.length c2, .map (some b1), .map (some b2)]) ∧ GM w' b1 b2 l2 ∧ Below w.heap.size w w' := by
 have HC2 := Aside0.mk hC2
 have HLEN := Aside0.mk hlen
 clear hC2 hlen
 have hmm := @run_makeMap Tryz.prog
 go_enter Tryz.func22, Tryz.ntmps22
 go_wp2_with fail
 clear hmm
 simp only [Nat.add_assoc, Nat.reduceAdd]
 have HS := OI.new w a0 (.slice A1 l1.length c1) (.slice A2 l2.length c2)
 go_loopg [13] (l2.length) (fun kq v13 wr => ∃ i : Nat, v13 = .int .i64 (i : Int) ∧ Aside0 (kq + i = l2.length) ∧ ∃ F, OI w a0 (.slice A1 l1.length c1) (.slice A2 l2.length c2) F (cnt (l2.take i)) wr)
 case atStart => exact ⟨0, rfl, ⟨rfl⟩, _, HS⟩
 case round =>
  obtain ⟨i, rfl, HF, F, HO⟩ := hrel
  by_cases hi : i < l2.length
  ·
   have hlt : decide ((i : Int) < (l2.length : Int)) = true := decide_eq_true (by omega)
   obtain ⟨ad, rfl, e0, e1, e2, e3, e4⟩ := zbd (Kd.C_below HC2.out HO.1.out) (i : Int) (by omega) (by omega)
   have hnd : zbb l2 (i : Int) = l2[i] := by unfold zbb; rw [Int.toNat_natCast, List.getD_eq_getElem?_getD, List.getElem?_eq_getElem hi]; rfl
   rw [Int.toNat_natCast, hnd] at e0 e1 e2 e3 e4
   obtain ⟨x, hx⟩ : ∃ n, l2[i] = n := ⟨_, rfl⟩
   have HCN := Aside0.mk ((congrArg cnt (show l2.take (i + 1) = l2.take i ++ [x] by rw [List.take_succ_eq_append_getElem hi, hx])).trans (cnt_snoc (l2.take i) x))
   have HLE := Aside0.mk (show ∀ p, cnt (l2.take i) p < 17592186044416 from fun p => Nat.lt_of_le_of_lt (cnt_le _ p) (by have := HLEN.out; rw [List.length_take]; omega))
   rw [hx] at e0 e1 e2 e3 e4
   obtain ⟨fr, tt, kd, mx, gd⟩ := x
   dsimp only at e0 e1 e2 e3 e4 HCN
   clear hnd hx
   go_wp2_with fail
   have HJ := Aside0.mk (HO.flow #[.int .i64 fr, .int .i64 tt, .int .i64 kd, .int .i64 mx, .string gd])
   clear HO e0 e1 e2 e3 e4
   generalize wr.alloc (.cells #[.int .i64 fr, .int .i64 tt, .int .i64 kd, .int .i64 mx, .string gd] 40) = wj at *
   generalize wr.heap.size = hs at *
   obtain ⟨xs, hxs⟩ := OJ.form HJ.out (false, tt)
   have HXS := Aside0.mk hxs
   clear hxs
   have hlk0 : (Instr.lookup 51 (.map (some (w.heap.size + 2))) (.int .i64 tt) false).run Tryz.prog wj.drew = .ok (F (false, tt)) wj.drew := OJ.look (OJ.drew HJ.out) (false, tt)
   have hlk1 : ∀ o, (Instr.lookup 51 (.map (some (w.heap.size + 2))) (.int .i64 tt) false).run Tryz.prog (wj.drew.alloc o) = .ok (F (false, tt)) (wj.drew.alloc o) := fun o => OJ.look (OJ.alloc (OJ.drew HJ.out) o) (false, tt)
   have hlk2 : ∀ o, (Instr.lookup 51 (.map (some (w.heap.size + 2))) (.int .i64 tt) false).run Tryz.prog (wj.alloc o).drew = .ok (F (false, tt)) (wj.alloc o).drew := fun o => OJ.look (OJ.alloc (OJ.drew HJ.out) o) (false, tt)
   obtain ⟨i0, hi0, hz0, hz1, hz2⟩ := info_parts info3
   go_region_held3 (fun W => W.cell? ⟨w.heap.size + 4, 3, none⟩ = some (.map (some (w.heap.size + 2))) ∧ W.cell? ⟨hs, 1, none⟩ = some (.int .i64 tt)) (first | exact (OJ.drew HJ.out).s5 | exact ((HJ.out.alloc _).drew).s5 | exact HS1.out | exact HJ2.out.s5) (first | (refine step_append_lies _ rfl _ _ 36 rfl (w.heap.size + 5) 3 i0 (.int .i64 0) 1 8 Tryz.underlying36 hi0 hz0 hz1 hz2 rfl (by decide) (F (false, tt)) (cnt (l2.take i) (false, tt)) xs rfl (HXS.out.alloc _) _ 1 1 [.int .i64 (IntKind.i64.wrap ((i : Int) + 1))] rfl rfl (World.news_of_block (show (wj.alloc _).heap[wj.heap.size]? = _ from blk_new _ _)) (ints_oneCell .i64 [IntKind.i64.wrap ((i : Int) + 1)]) (by decide) (by have := HLE.out (false, tt); unfold maxLen; omega) (by have := HLE.out (false, tt); omega) (by have := HJ.out.1.2.1.out; simp; omega) _ rfl ?_; intro g cap w1 hown hgrow hat hlt; obtain ⟨hs1, w2, hr2, hj2⟩ := OJ.push ((HJ.out.alloc _).drew) (false, tt) hgrow hown (by rcases hat with e | e; exact Or.inl e.symm; exact Or.inr ⟨g, rfl, by rw [e]; simp⟩); have HS1 := Aside0.mk (And.intro hs1.1.1 (hs1.2 1)); have HJ2 := Aside0.mk hj2; have hr3 : (Instr.mapUpdate 51 (.map (some (w.heap.size + 2))) (.int .i64 tt) (.slice (some ⟨g, 0, none⟩) (cnt (l2.take i) (false, tt) + 1) cap)).run Tryz.prog w1 = .ok () w2 := hr2; clear hs1 hj2 hr2))
   all_goals
    have HLE2 := Aside0.mk (show upd (cnt (l2.take i)) (false, tt) (cnt (l2.take i) (false, tt) + 1) (true, fr) < 17592186044416 by have := HLE.out (true, fr); simpa [upd] using this)
    clear hlk0 hlk1 hlk2 HS1 HXS hr3 hi0 hz0 hz1 hz2
    generalize upd (cnt (l2.take i)) (false, tt) (cnt (l2.take i) (false, tt) + 1) = cc at *
    generalize upd F (false, tt) _ = F2 at *
    clear hown hgrow hat hlt HJ
    go_wp2_with fail
    obtain ⟨xs, hxs⟩ := OJ.form HJ2.out (true, fr)
    have HXS := Aside0.mk hxs
    clear hxs
    have hlk0 : (Instr.lookup 51 (.map (some (w.heap.size + 3))) (.int .i64 fr) false).run Tryz.prog w2.drew = .ok (F2 (true, fr)) w2.drew := OJ.look (OJ.drew HJ2.out) (true, fr)
    have hlk1 : ∀ o, (Instr.lookup 51 (.map (some (w.heap.size + 3))) (.int .i64 fr) false).run Tryz.prog (w2.drew.alloc o) = .ok (F2 (true, fr)) (w2.drew.alloc o) := fun o => OJ.look (OJ.alloc (OJ.drew HJ2.out) o) (true, fr)
    have hlk2 : ∀ o, (Instr.lookup 51 (.map (some (w.heap.size + 3))) (.int .i64 fr) false).run Tryz.prog (w2.alloc o).drew = .ok (F2 (true, fr)) (w2.alloc o).drew := fun o => OJ.look (OJ.alloc (OJ.drew HJ2.out) o) (true, fr)
    obtain ⟨i0, hi0, hz0, hz1, hz2⟩ := info_parts info3
    go_region_held3 (fun W => W.cell? ⟨w.heap.size + 4, 4, none⟩ = some (.map (some (w.heap.size + 3))) ∧ W.cell? ⟨hs, 0, none⟩ = some (.int .i64 fr)) (first | exact (OJ.drew HJ2.out).s6 | exact ((HJ2.out.alloc _).drew).s6 | exact HS1.out | exact HJ4.out.s6) (first | (refine step_append_lies _ rfl _ _ 36 rfl (w.heap.size + 5) 3 i0 (.int .i64 0) 1 8 Tryz.underlying36 hi0 hz0 hz1 hz2 rfl (by decide) (F2 (true, fr)) (cc (true, fr)) xs rfl (HXS.out.alloc _) _ 1 1 [.int .i64 (IntKind.i64.wrap ((i : Int) + 1))] rfl rfl (World.news_of_block (show (w2.alloc _).heap[w2.heap.size]? = _ from blk_new _ _)) (ints_oneCell .i64 [IntKind.i64.wrap ((i : Int) + 1)]) (by decide) (by have := HLE2.out; unfold maxLen; omega) (by have := HLE2.out; omega) (by have := HJ2.out.1.2.1.out; simp; omega) _ rfl ?_; intro g2 cap2 w3 hown hgrow hat hlt; obtain ⟨hs1, w4, hr2, hj2⟩ := OJ.push ((HJ2.out.alloc _).drew) (true, fr) hgrow hown (by rcases hat with e | e; exact Or.inl e.symm; exact Or.inr ⟨g2, rfl, by rw [e]; simp⟩); have HS1 := Aside0.mk (And.intro hs1.1.2 (hs1.2 0)); have HJ4 := Aside0.mk hj2; have hr3 : (Instr.mapUpdate 51 (.map (some (w.heap.size + 3))) (.int .i64 fr) (.slice (some ⟨g2, 0, none⟩) (cc (true, fr) + 1) cap2)).run Tryz.prog w3 = .ok () w4 := hr2; clear hs1 hj2 hr2))
    all_goals
     clear hlk0 hlk1 hlk2 HS1 HXS hr3 hi0 hz0 hz1 hz2
     have HO := HJ4.out.1
     rw [← HCN.out] at HO
     generalize upd F2 (true, fr) _ = F4 at *
     clear hown hgrow hat hlt HJ2 HJ4
     go_wp2
     go_roundg (gk - 1)
     case measure => have := HF.out; omega
     case rel => exact ⟨i + 1, by rw [wrapS i (by have := HLEN.out; omega)], ⟨by have := HF.out; omega⟩, F4, HO⟩
  ·
   have hlt : decide ((i : Int) < (l2.length : Int)) = false := decide_eq_false (by omega)
   have HR := Aside0.mk (show l2.take i = l2 from List.take_of_length_le (by omega))
   rw [HR.out] at HO
   obtain ⟨g0, g1, g2, g3, g4⟩ := zbg HO.2.2.2.2.1.out
   obtain ⟨z0, z1, z2, z3, z4⟩ := zbg HO.2.2.2.1.out
   have f0 := blk_frozen HO.2.2.2.1.out 0
   have f1 := blk_frozen HO.2.2.2.1.out 1
   have f2 := blk_frozen HO.2.2.2.1.out 2
   have f3 := blk_frozen HO.2.2.2.1.out 3
   have f4 := blk_frozen HO.2.2.2.1.out 4
   go_wp2
   refine bodyPost_ret (results_cell_row rfl _ _ (w.heap.size + 1) 53 _ (0, 0) _ rfl (put5 HO.2.2.2.1.out _ _ _ _ _) Tryz.underlying53 rfl (by kernel_rfl)) rfl ?_
   refine ⟨_, _, rfl, ?_, low5 HO.1.out (Nat.le_succ _) _ _ _ _ _⟩
   obtain ⟨m1, m2, m3⟩ := HO.2.2.2.2.2
   refine ⟨F, m1.out.keep ?_, m2.out.keep ?_, fun p => m3.out.form p⟩
   all_goals (repeat rw [Below.heap_setCell _ _ _ _ (by show _ ≠ w.heap.size + 1; omega)])
--ENDWALK
end Go.Proofs.YtcaegaljhogbjaaGreatDoor.Gr
