/- def.node, walked by hand (a map of words, pointers into a struct): its contract in the form that the kit's printer gives its own. -/
import Derived.Test.YtpalncojmknlbaaDoorDefKinds
import Derived.Test.YtpalncojmknlbaaDoorAx2
import Derived.Lib.OthersKept
import Derived.Test.YtpalncojmknlbaaDoorWLast
import Derived.Test.YtpalncojmknlbaaDoorWTab
import Derived.LoopTactic
import Derived.WalkKit
import Derived.Deep.RegionWith
import Derived.Deep.Cut
import Derived.LoopN
import Derived.Lib.SmallJoins
namespace Go.Proofs.YtpalncojmknlbaaDoor.Ext
open Go.RowKit Go.Lib Go.Sort Go.Maps Go.WideMaps Go.Proofs.YtpalncojmknlbaaDoorW.PrintWords Go.Proofs.YtpalncojmknlbaaDoorW.PrintLast Go.Proofs.YtpalncojmknlbaaDoorW.PrintMore Go.Proofs.YtpalncojmknlbaaDoor.A Go.Proofs.YtpalncojmknlbaaDoor.Span
attribute [local go_sem] max2_int min2_int max_two min_two max_three min_three max_four min_four
set_option linter.unusedVariables false
set_option linter.unusedSimpArgs false

def node0 : Option (Int × Int × Int × Int × ByteArray × Bool) := some (0, 0, 0, 0, ⟨#[]⟩, false)
/-- The numbers of a node's line, behind its word (and its time). -/
def nodeNums (k : Nat) (kd : Int) (tm : ByteArray) (l : List ByteArray) : Option (Int × Int × Int × Int × ByteArray × Bool) :=
 if kd = 3 ∨ kd = 8 ∨ kd = 9 then
  match l with
  | [x, y] => (words_Number.f k x 999).bind fun r => if r.2 = true then (words_Number.f k y 999).bind fun s => (if s.2 = true then (if kd = 3 then some (kd, r.1, s.1, 0, tm, true) else some (kd, r.1, 0, s.1, tm, true)) else node0) else node0
  | _ => node0
 else match l with
  | [x] => (words_Number.f k x 999).bind fun r => if r.2 = true then some (kd, r.1, 0, 0, tm, true) else node0
  | _ => node0
def nodeWords (k : Nat) (x : ByteArray) (l : List ByteArray) : Option (Int × Int × Int × Int × ByteArray × Bool) :=
 if kindOf x.data.toList = 4 ∨ kindOf x.data.toList = 8 ∨ kindOf x.data.toList = 9 then
  (if l = [] then node0 else nodeNums k (kindOf x.data.toList) (l.getLastD ⟨#[]⟩) l.dropLast)
 else nodeNums k (kindOf x.data.toList) ⟨#[]⟩ l
def def_node.f (k : Nat) (a0 : ByteArray) : Option (Int × Int × Int × Int × ByteArray × Bool) :=
 (words_Split.f a0).bind fun r => if r.2 = true then (match r.1 with | [] => none | x :: l => if x.size ≤ maxLen ∧ l.length ≤ 1000000 then nodeWords k x l else none) else node0
theorem five_put {w : World} {g : Nat} {t : TypeId} {a b c d e a' b' c' d' e' : Value} (h : w.heap[g]? = some (.cells #[a, b, c, d, e] t (0, 0))) :
  (((((w.setCell ⟨g, 0, none⟩ a').setCell ⟨g, 1, none⟩ b').setCell ⟨g, 2, none⟩ c').setCell ⟨g, 3, none⟩ d').setCell ⟨g, 4, none⟩ e').heap[g]? = some (.cells #[a', b', c', d', e'] t (0, 0)) :=
 blk_put (blk_put (blk_put (blk_put (blk_put h 0 a' rfl) 1 b' rfl) 2 c' rfl) 3 d' rfl) 4 e' rfl
theorem five_cells {w : World} {g : Nat} {t : TypeId} {a b c d e : Value} (h : w.heap[g]? = some (.cells #[a, b, c, d, e] t (0, 0))) :
  w.cell? ⟨g, 0, none⟩ = some a ∧ w.cell? ⟨g, 1, none⟩ = some b ∧ w.cell? ⟨g, 2, none⟩ = some c ∧ w.cell? ⟨g, 3, none⟩ = some d ∧ w.cell? ⟨g, 4, none⟩ = some e ∧
  w.frozen? ⟨g, 0, none⟩ = false ∧ w.frozen? ⟨g, 1, none⟩ = false ∧ w.frozen? ⟨g, 2, none⟩ = false ∧ w.frozen? ⟨g, 3, none⟩ = false ∧ w.frozen? ⟨g, 4, none⟩ = false :=
 ⟨(blk_cell h 0).trans rfl, (blk_cell h 1).trans rfl, (blk_cell h 2).trans rfl, (blk_cell h 3).trans rfl, (blk_cell h 4).trans rfl, blk_frozen h 0, blk_frozen h 1, blk_frozen h 2, blk_frozen h 3, blk_frozen h 4⟩
theorem below_five {w0 w : World} {g : Nat} (h : Below w0.heap.size w0 w) (hg : w0.heap.size ≤ g) (a b c d e : Value) : Below w0.heap.size w0 (((((w.setCell ⟨g, 0, none⟩ a).setCell ⟨g, 1, none⟩ b).setCell ⟨g, 2, none⟩ c).setCell ⟨g, 3, none⟩ d).setCell ⟨g, 4, none⟩ e) :=
 ((((h.setCell hg _).setCell hg _).setCell hg _).setCell hg _).setCell hg _
theorem far_five {w : World} {g k : Nat} {t : TypeId} {cs : Array Value} (h : w.heap[k]? = some (.cells cs t (0, 0))) (hne : k ≠ g) (a b c d e : Value) :
  (((((w.setCell ⟨g, 0, none⟩ a).setCell ⟨g, 1, none⟩ b).setCell ⟨g, 2, none⟩ c).setCell ⟨g, 3, none⟩ d).setCell ⟨g, 4, none⟩ e).heap[k]? = some (.cells cs t (0, 0)) :=
 blk_far (blk_far (blk_far (blk_far (blk_far h hne a) hne b) hne c) hne d) hne e
/-- A row of strings of the call's own: its block, once for all. -/
theorem R_strs {w : World} {base : Nat} {v : Value} {xs : List ByteArray} (h : Kd.R Kd.string 9 w base (fun _ => True) v xs) (hne : 0 < xs.length) :
  ∃ g c cur, v = .slice (some ⟨g, 0, none⟩) xs.length c ∧ base ≤ g ∧ xs.length ≤ c ∧ c ≤ maxLen ∧ w.heap[g]? = some (.cells cur 9 (0, 0)) ∧ ∀ (j : Nat) y, xs[j]? = some y → cur[j]? = some (.string y) := by
 obtain ⟨g, c, rfl, gb, gl, cur, hg⟩ := Kd.R_form h hne
 have hcap : xs.length ≤ c ∧ c ≤ maxLen := by
  obtain ⟨h0, inner, ho, hr⟩ := h
  rcases ho.2 with ⟨e, _⟩ | ⟨g', cap', cur', e, _, _, h1, h2, _, _⟩
  ·
   cases e
  ·
   cases e; exact ⟨h1, h2⟩
 refine ⟨g, c, cur, rfl, gb, hcap.1, hcap.2, hg, fun j y hj => ?_⟩
 have hlt : j < xs.length := (List.getElem?_eq_some_iff.1 hj).1
 have hc := (Kd.R_celln (⟨#[]⟩ : ByteArray) h (j : Int) (by omega) (by omega)).1
 rw [Int.toNat_natCast, blk_cell hg] at hc
 rw [hc]
 unfold rdOf
 rw [Int.toNat_natCast, List.getD_eq_getElem?_getD, hj]; rfl
/-- Behind the node's own variable: where it lies, what it holds; what else stands. -/
def RelN (w : World) (kd : Int) (g : Nat) (cur : Array Value) (v6 : Value) (wc : World) : Prop :=
 ∃ nb : Nat, v6 = .pointer (some ⟨nb, 0, none⟩) ∧ Aside0 (wc.heap[nb]? = some (.cells #[.int .i64 kd, .int .i64 0, .int .i64 0, .int .i64 0, .string ⟨#[]⟩] 40 (0, 0))) ∧ Aside0 (wc.heap[w.heap.size]? = some (.cells #[.int .i64 0, .int .i64 0, .int .i64 0, .int .i64 0, .string ⟨#[]⟩] 40 (0, 0))) ∧ Aside0 (wc.heap[g]? = some (.cells cur 9 (0, 0))) ∧ Aside0 (Below w.heap.size w wc) ∧ Aside0 (w.heap.size < nb)
theorem relA {w w1 w2 : World} {kd : Int} {g : Nat} {cur : Array Value} (hbk : w1.heap[w.heap.size]? = some (.cells #[.int .i64 0, .int .i64 0, .int .i64 0, .int .i64 0, .string ⟨#[]⟩] 40 (0, 0))) (hg2 : w2.heap[g]? = some (.cells cur 9 (0, 0))) (hb0 : Below w.heap.size w w1) (hb2 : Below w1.drew.heap.size w1.drew w2) :
  RelN w kd g cur (.pointer (some ⟨w2.heap.size, 0, none⟩)) (w2.alloc (.cells #[.int .i64 kd, .int .i64 0, .int .i64 0, .int .i64 0, .string ⟨#[]⟩] 40)) := by
 have hlt : w.heap.size < w1.heap.size := blk_lt hbk
 have hs2 : w1.heap.size ≤ w2.heap.size := hb2.size
 have hg : g < w2.heap.size := blk_lt hg2
 have hr : w2.heap[w.heap.size]? = _ := blk_below (blk_drew hbk) hb2
 have hb : Below w.heap.size w w2 := (below_drew1 hb0).trans (Joins.below_le hb2 (Nat.le_of_lt hlt))
 exact ⟨w2.heap.size, rfl, ⟨blk_new w2 _⟩, ⟨blk_alloc hr _⟩, ⟨blk_alloc hg2 _⟩, ⟨hb.alloc (by omega) _⟩, ⟨by omega⟩⟩
theorem relB {w w1 w2 : World} {kd : Int} {g : Nat} {cur : Array Value} (o : Obj) (hbk : w1.heap[w.heap.size]? = some (.cells #[.int .i64 0, .int .i64 0, .int .i64 0, .int .i64 0, .string ⟨#[]⟩] 40 (0, 0))) (hg1 : g < w1.heap.size) (hg2 : w2.heap[g]? = some (.cells cur 9 (0, 0))) (hb0 : Below w.heap.size w w1) (hb2 : Below (w1.drew.alloc o).heap.size (w1.drew.alloc o) w2)
  (h5 : w2.heap[w1.heap.size]? = some (.cells #[.int .i64 0, .int .i64 0, .int .i64 0, .int .i64 0, .string ⟨#[]⟩] 40 (0, 0))) :
  RelN w kd g cur (.pointer (some ⟨w1.heap.size, 0, none⟩)) (((((w2.setCell ⟨w1.heap.size, 0, none⟩ (.int .i64 kd)).setCell ⟨w1.heap.size, 1, none⟩ (.int .i64 0)).setCell ⟨w1.heap.size, 2, none⟩ (.int .i64 0)).setCell ⟨w1.heap.size, 3, none⟩ (.int .i64 0)).setCell ⟨w1.heap.size, 4, none⟩ (.string ⟨#[]⟩)) := by
 have hlt : w.heap.size < w1.heap.size := blk_lt hbk
 have hr : w2.heap[w.heap.size]? = _ := blk_below (blk_alloc (blk_drew hbk) o) hb2
 have hz : (w1.drew.alloc o).heap.size = w1.heap.size + 1 := by simp
 have hb : Below w.heap.size w w2 := ((below_drew1 hb0).alloc (Nat.le_of_lt hlt) o).trans (Joins.below_le hb2 (by rw [hz]; omega))
 exact ⟨w1.heap.size, rfl, ⟨five_put h5⟩, ⟨far_five hr (by omega) _ _ _ _ _⟩, ⟨far_five hg2 (by omega) _ _ _ _ _⟩, ⟨below_five hb (by omega) _ _ _ _ _⟩, ⟨by omega⟩⟩
/-- What stands while the numbers are read: the node's variable, the result's, the words'. -/
def Std (w : World) (nb : Nat) (kd sc cl on : Int) (tm : ByteArray) (g : Nat) (cur : Array Value) (wc : World) : Prop :=
 Aside0 (wc.heap[nb]? = some (.cells #[.int .i64 kd, .int .i64 sc, .int .i64 cl, .int .i64 on, .string tm] 40 (0, 0))) ∧ Aside0 (wc.heap[w.heap.size]? = some (.cells #[.int .i64 0, .int .i64 0, .int .i64 0, .int .i64 0, .string ⟨#[]⟩] 40 (0, 0))) ∧ Aside0 (wc.heap[g]? = some (.cells cur 9 (0, 0))) ∧ Aside0 (Below w.heap.size w wc)
theorem Std.alloc {w : World} {nb : Nat} {kd sc cl on : Int} {tm : ByteArray} {g : Nat} {cur : Array Value} {wc : World} (h : Std w nb kd sc cl on tm g cur wc) (o : Obj) : Std w nb kd sc cl on tm g cur (wc.alloc o) :=
 ⟨⟨blk_alloc h.1.out o⟩, ⟨blk_alloc h.2.1.out o⟩, ⟨blk_alloc h.2.2.1.out o⟩, ⟨h.2.2.2.out.alloc (Nat.le_of_lt (blk_lt (h.2.1.out))) o⟩⟩
theorem Std.grown {w : World} {nb : Nat} {kd sc cl on : Int} {tm : ByteArray} {g : Nat} {cur : Array Value} {wc w' : World} {pb : Nat} {nc : Array Value} (h : Std w nb kd sc cl on tm g cur wc) (hp : wc.heap[pb]? = some (.cells nc 93 (0, 0))) (hb : w.heap.size ≤ pb) (hg : wc.grownBy w' (some pb)) : Std w nb kd sc cl on tm g cur w' := by
 have e1 : nb ≠ pb := blk_ne h.1.out hp (by decide)
 have e2 : w.heap.size ≠ pb := blk_ne h.2.1.out hp (by decide)
 have e3 : g ≠ pb := blk_ne h.2.2.1.out hp (by decide)
 exact ⟨⟨blk_grown h.1.out hg (fun e => e1 (Option.some.inj e))⟩, ⟨blk_grown h.2.1.out hg (fun e => e2 (Option.some.inj e))⟩, ⟨blk_grown h.2.2.1.out hg (fun e => e3 (Option.some.inj e))⟩, ⟨below_grownBy h.2.2.2.out hg hb⟩⟩
theorem info93 : (Tryd.prog.info? 93).map (fun i => (i.zero, i.size, i.bytes)) = some (some (.pointer none), 1, 8) := by kernel_rfl
theorem row_two {w' : World} {base : Nat} {v : Value} {a b : Value} (h : w'.ownsRow base 93 1 v 2 [a, b]) : ∃ (pb cp : Nat) (nc : Array Value), v = .slice (some ⟨pb, 0, none⟩) 2 cp ∧ w'.heap[pb]? = some (.cells nc 93 (0, 0)) ∧ ∀ (j : Nat) q, ([a, b] : List Value)[j]? = some q → nc[j]? = some q := by
 rcases h.2 with ⟨_, h0⟩ | ⟨g, cap, nc, rfl, _, hb, h1, _, h3, h4⟩
 ·
  cases h0
 ·
  refine ⟨g, cap, nc, rfl, hb, fun j q hj => ?_⟩
  have hlt : j < 2 := (List.getElem?_eq_some_iff.1 hj).1
  rw [← h4, List.getElem?_take, if_pos (by omega)] at hj
  rw [← Array.getElem?_toList]; exact hj
theorem Std.time {w : World} {nb : Nat} {kd sc cl on : Int} {tm : ByteArray} {g : Nat} {cur : Array Value} {wc : World} (h : Std w nb kd sc cl on tm g cur wc) (hn : w.heap.size < nb) (tm' : ByteArray) : Std w nb kd sc cl on tm' g cur (wc.setCell ⟨nb, 4, none⟩ (.string tm')) := by
 have e3 : g ≠ nb := (blk_ne h.1.out h.2.2.1.out (by decide)).symm
 exact ⟨⟨blk_put h.1.out 4 _ rfl⟩, ⟨blk_far h.2.1.out (by show w.heap.size ≠ nb; omega) _⟩, ⟨blk_far h.2.2.1.out e3 _⟩, ⟨h.2.2.2.out.setCell (Nat.le_of_lt hn) _⟩⟩
theorem Std.drew {w : World} {nb : Nat} {kd sc cl on : Int} {tm : ByteArray} {g : Nat} {cur : Array Value} {wc : World} (h : Std w nb kd sc cl on tm g cur wc) : Std w nb kd sc cl on tm g cur wc.drew :=
 ⟨⟨blk_drew h.1.out⟩, ⟨blk_drew h.2.1.out⟩, ⟨blk_drew h.2.2.1.out⟩, ⟨below_drew1 h.2.2.2.out⟩⟩
theorem Std.below {w : World} {nb : Nat} {kd sc cl on : Int} {tm : ByteArray} {g : Nat} {cur : Array Value} {wc w' : World} (h : Std w nb kd sc cl on tm g cur wc) (hb : Below wc.heap.size wc w') : Std w nb kd sc cl on tm g cur w' :=
 ⟨⟨blk_below h.1.out hb⟩, ⟨blk_below h.2.1.out hb⟩, ⟨blk_below h.2.2.1.out hb⟩, ⟨h.2.2.2.out.trans (Joins.below_le hb h.2.2.2.out.size)⟩⟩
theorem Std.put {w : World} {nb : Nat} {kd sc cl on sc' cl' on' : Int} {tm : ByteArray} {g : Nat} {cur : Array Value} {wc : World} (h : Std w nb kd sc cl on tm g cur wc) (hn : w.heap.size < nb) (f : Nat) (v : Int) (e : (#[.int .i64 kd, .int .i64 sc, .int .i64 cl, .int .i64 on, .string tm] : Array Value).setIfInBounds f (.int .i64 v) = #[.int .i64 kd, .int .i64 sc', .int .i64 cl', .int .i64 on', .string tm]) : Std w nb kd sc' cl' on' tm g cur (wc.setCell ⟨nb, f, none⟩ (.int .i64 v)) := by
 have e3 : g ≠ nb := (blk_ne h.1.out h.2.2.1.out (by decide)).symm
 exact ⟨⟨blk_put h.1.out f _ e⟩, ⟨blk_far h.2.1.out (by show w.heap.size ≠ nb; omega) _⟩, ⟨blk_far h.2.2.1.out e3 _⟩, ⟨h.2.2.2.out.setCell (Nat.le_of_lt hn) _⟩⟩
def RelL (w : World) (nb : Nat) (k : Nat) (kd : Int) (g : Nat) (cur : Array Value) (r : Int × Int × Int × Int × ByteArray × Bool) (v4 : Value) (wc : World) : Prop :=
 ∃ (L : List ByteArray) (tm : ByteArray) (c o : Nat), v4 = .slice (some ⟨g, o, none⟩) L.length c ∧ Aside0 (L.length ≤ c ∧ c ≤ maxLen ∧ L.length ≤ 1000000) ∧ Aside0 (∀ (j : Nat) y, L[j]? = some y → cur[o + j]? = some (.string y)) ∧ Aside0 (nodeNums k kd tm L = some r) ∧ Std w nb kd 0 0 0 tm g cur wc
/-- The pointers to a node's numbers. -/
def numsOf (kd : Int) (nb : Nat) : List Value :=
 if kd = 3 then [.pointer (some ⟨nb, 1, none⟩), .pointer (some ⟨nb, 2, none⟩)] else if kd = 8 ∨ kd = 9 then [.pointer (some ⟨nb, 1, none⟩), .pointer (some ⟨nb, 3, none⟩)] else [.pointer (some ⟨nb, 1, none⟩)]
def RelP (w : World) (nb : Nat) (kd : Int) (g : Nat) (cur : Array Value) (v7 : Value) (wc : World) : Prop :=
 ∃ (pb cp : Nat) (ncur : Array Value), v7 = .slice (some ⟨pb, 0, none⟩) (numsOf kd nb).length cp ∧ Aside0 (wc.heap[pb]? = some (.cells ncur 93 (0, 0))) ∧ Aside0 (∀ (j : Nat) q, (numsOf kd nb)[j]? = some q → ncur[j]? = some q) ∧ Std w nb kd 0 0 0 ⟨#[]⟩ g cur wc
set_option maxHeartbeats 4000000 in
set_option maxRecDepth 100000 in
theorem def_node.calls (k : Nat) (a0 : ByteArray) (r1 r2 r3 r4 : Int) (r5 : ByteArray) (r6 : Bool) (w : World) (h : def_node.f k a0 = some (r1, r2, r3, r4, r5, r6)) :
  Calls Tryd.prog 41 #[.string a0] w fun e w' => e = .returned (.tuple #[.agg #[.int .i64 r1, .int .i64 r2, .int .i64 r3, .int .i64 r4, .string r5], .bool r6]) ∧ Below w.heap.size w w' := by
 unfold def_node.f at h
 replace h := Option.bind_eq_some_iff.mp h
 obtain ⟨⟨ws, ok⟩, hs, h⟩ := h
 have HS := Aside0.mk hs
 clear hs
 dsimp only at h
 have hu40 := Tryd.underlying40
 cases ok with
 | false =>
  rw [if_neg (by decide)] at h
  cases h
  go_enter Tryd.func41, Tryd.ntmps41
  go_wp2_with fail
  refine (words_Split.calls a0 ws false _ HS.out).mono ?_
  rintro e w1 ⟨v0, rfl, HR, hb⟩
  have hbk := Aside0.mk (blk_below (blk_new w _) hb)
  have hb0 := Aside0.mk (((Below.refl w.heap.size w).alloc (Nat.le_refl _) _).trans (Joins.below_le hb (by simp)))
  obtain ⟨c0, c1, c2, c3, c4, f0, f1, f2, f3, f4⟩ := five_cells hbk.out
  clear hb HR
  go_wp2_with fail
  refine bodyPost_ret (results_ct rfl _ _ w.heap.size 40 _ (0, 0) _ rfl (five_put hbk.out) hu40 rfl (by kernel_rfl)) rfl ?_
  exact ⟨rfl, below_five hb0.out (Nat.le_refl _) _ _ _ _ _⟩
 | true =>
  rw [if_pos rfl] at h
  cases ws with
  | nil => cases h
  | cons x l =>
   dsimp only at h
   split at h
   case isFalse => cases h
   rename_i hc
   have H := Aside0.mk h
   clear h
   go_enter Tryd.func41, Tryd.ntmps41
   go_upto_region 4 with (go_at_call 54; refine (words_Split.calls a0 (x :: l) true _ HS.out).mono ?_; rintro e w1 ⟨v0, rfl, HR, hb⟩; have hbk := Aside0.mk (blk_below (blk_new w _) hb); have hb0 := Aside0.mk (((Below.refl w.heap.size w).alloc (Nat.le_refl _) _).trans (Joins.below_le hb (by simp))); obtain ⟨g, c, cur, rfl, gb, gl, gm, HG, HL⟩ := R_strs HR (by simp); have hg1 := (blk_cell HG 0).trans (HL 0 x rfl))
   have hlt : w.heap.size < w1.heap.size := blk_lt hbk.out
   have HG' := Aside0.mk HG
   have HX := Aside0.mk hc.1
   clear HG hb HR
   go_cut [6] from 10 (fun v6 wc => RelN w (kindOf x.data.toList) g cur v6 wc)
   case first =>
    have hglt : g < w1.heap.size := blk_lt HG'.out
    have hgne : ¬ g = w1.heap.size := by omega
    have hgne2 : ¬ w1.heap.size = g := by omega
    have hxd : w1.drew.cell? ⟨g, 0, none⟩ = some (.string x) := hg1
    have hxa : ∀ o, (w1.drew.alloc o).cell? ⟨g, 0, none⟩ = some (.string x) := fun o => (blk_cell (blk_alloc (blk_drew HG'.out) o) 0).trans (HL 0 x rfl)
    have hxa2 : ∀ o, (w1.alloc o).drew.cell? ⟨g, 0, none⟩ = some (.string x) := fun o => hxa o
    have hxa3 : ∀ o, (w1.alloc o).cell? ⟨g, 0, none⟩ = some (.string x) := fun o => hxa o
    go_region_with (go_at_call 28; first | (refine (kinds_calls (World.alloc (World.drew w1) (Obj.cells #[.int .i64 0, .int .i64 0, .int .i64 0, .int .i64 0, .string ⟨#[]⟩] 40))).mono ?_; rintro e w2 ⟨rfl, hown, hb2⟩; have hg2 : w2.heap[g]? = some (.cells cur 9 (0, 0)) := blk_below (blk_alloc (blk_drew HG'.out) _) hb2; have hx2 := (blk_cell hg2 0).trans (HL 0 x rfl); have hx3 : ∀ o, (w2.alloc o).cell? ⟨g, 0, none⟩ = some (.string x) := (fun o => (blk_cell (blk_alloc hg2 o) 0).trans (HL 0 x rfl)); have hl2 : (Instr.lookup 64 (.map (some (w1.heap.size + 1))) (.string x) false).run Tryd.prog w2 = .ok (.int .i64 (kindOf x.data.toList)) w2 := (by have q := kinds_look w2 _ hown x HX.out; simpa using q); have hl3 : ∀ o, (Instr.lookup 64 (.map (some (w1.heap.size + 1))) (.string x) false).run Tryd.prog (w2.alloc o) = .ok (.int .i64 (kindOf x.data.toList)) (w2.alloc o) := (by intro o; have q := kinds_look (w2.alloc o) _ (hown.alloc o) x HX.out; simpa using q); have h5 : w2.heap[w1.heap.size]? = some (.cells #[.int .i64 0, .int .i64 0, .int .i64 0, .int .i64 0, .string ⟨#[]⟩] 40 (0, 0)) := blk_below (blk_new (World.drew w1) (Obj.cells #[.int .i64 0, .int .i64 0, .int .i64 0, .int .i64 0, .string ⟨#[]⟩] 40)) hb2; obtain ⟨n0, n1, n2, n3, n4, m0, m1, m2, m3, m4⟩ := five_cells h5) | (refine (kinds_calls (World.drew w1)).mono ?_; rintro e w2 ⟨rfl, hown, hb2⟩; have hg2 : w2.heap[g]? = some (.cells cur 9 (0, 0)) := blk_below (blk_drew HG'.out) hb2; have hx2 := (blk_cell hg2 0).trans (HL 0 x rfl); have hx3 : ∀ o, (w2.alloc o).cell? ⟨g, 0, none⟩ = some (.string x) := (fun o => (blk_cell (blk_alloc hg2 o) 0).trans (HL 0 x rfl)); have hl2 : (Instr.lookup 64 (.map (some (w1.heap.size))) (.string x) false).run Tryd.prog w2 = .ok (.int .i64 (kindOf x.data.toList)) w2 := (by have q := kinds_look w2 _ hown x HX.out; simpa using q); have hl3 : ∀ o, (Instr.lookup 64 (.map (some (w1.heap.size))) (.string x) false).run Tryd.prog (w2.alloc o) = .ok (.int .i64 (kindOf x.data.toList)) (w2.alloc o) := (by intro o; have q := kinds_look (w2.alloc o) _ (hown.alloc o) x HX.out; simpa using q)))
    all_goals (go_wp2; go_meet)
    all_goals first
      | with_reducible exact relA hbk.out hg2 hb0.out hb2
      | with_reducible exact relB _ hbk.out hglt hg2 hb0.out hb2 h5
      | trace_state
   case rest =>
    obtain ⟨nb, rfl, BN, BR, BG, HB, HN⟩ := hcut
    have hne : nb ≠ g := blk_ne BN.out BG.out (by decide)
    obtain ⟨kd, hkd⟩ : ∃ kd, kindOf x.data.toList = kd := ⟨_, rfl⟩
    have H2 := H.out
    unfold nodeWords at H2
    rw [hkd] at BN H2
    clear H hg1 HG' hbk hb0 hlt
    obtain ⟨n0, n1, n2, n3, n4, m0, m1, m2, m3, m4⟩ := five_cells BN.out
    have S0 : Std w nb kd 0 0 0 ⟨#[]⟩ g cur wc := ⟨BN, BR, BG, HB⟩
    go_upto_region 5 with fail
    go_cut [7] from 10 (fun v7 wc => ∃ pb : Nat, v7 = .slice (some ⟨pb, 0, none⟩) 1 1 ∧ Aside0 (wc.heap[pb]? = some (.cells #[.pointer (some ⟨nb, 1, none⟩)] 93 (0, 0))) ∧ Aside0 (w.heap.size ≤ pb) ∧ Std w nb kd 0 0 0 ⟨#[]⟩ g cur wc)
    case first =>
     go_wp2
     go_meet
     case rel => exact ⟨wc.heap.size, rfl, ⟨blk_new wc _⟩, ⟨Nat.le_of_lt (blk_lt BR.out)⟩, S0.alloc _⟩
    case rest =>
     clear BN BR BG HB S0 n0 n1 n2 n3 n4 m0 m1 m2 m3 m4
     obtain ⟨pb, rfl, BP, HP, S0⟩ := hcut
     rename_i K5 a5
     refine a5 _ _ ?_
     apply wp_seq_k
     intro _ _
     go_cut [7] from 10 (fun v7 wc => RelP w nb kd g cur v7 wc)
     case first =>
      obtain ⟨i9, hi9, hq9⟩ := Option.map_eq_some_iff.1 info93
      simp only [Prod.mk.injEq] at hq9
      obtain ⟨hz9, hs9, hb9⟩ := hq9
      have hown : ∀ o, (wc.alloc o).ownsRow w.heap.size 93 1 (.slice (some ⟨pb, 0, none⟩) 1 1) 1 [.pointer (some ⟨nb, 1, none⟩)] := fun o => ⟨rfl, .inr ⟨pb, 1, #[.pointer (some ⟨nb, 1, none⟩)], rfl, HP.out, blk_alloc BP.out o, Nat.le_refl _, by decide, rfl, rfl⟩⟩
      have hnews : ∀ (f : Nat) (j : Nat) u, ([.pointer (some ⟨nb, f, none⟩)] : List Value)[j]? = some u → (wc.alloc (.cells #[.pointer (some ⟨nb, f, none⟩)] 93)).cell? ((⟨wc.heap.size, 0, none⟩ : Addr).add j) = some u := by
       intro f j u hj
       have hlt := (List.getElem?_eq_some_iff.1 hj).1
       obtain rfl : j = 0 := by simp at hlt; omega
       have := blk_cell (blk_new wc (.cells #[.pointer (some ⟨nb, f, none⟩)] 93)) 0
       simp at hj
       subst hj
       exact this
      have hone : ∀ f : Nat, ∀ u ∈ ([.pointer (some ⟨nb, f, none⟩)] : List Value), u.oneCell' = true := by
       intro f u hu
       rw [List.mem_singleton.1 hu]; rfl
      obtain ⟨n0, n1, n2, n3, n4, m0, m1, m2, m3, m4⟩ := five_cells S0.1.out
      have fin : ∀ (a b : Value) (v' : Value) (w' : World) (f : Nat), numsOf kd nb = [a, b] → w'.ownsRow w.heap.size 93 1 v' 2 [a, b] → (wc.alloc (.cells #[.pointer (some ⟨nb, f, none⟩)] 93)).grownBy w' (some pb) → RelP w nb kd g cur v' w' := by
       intro a b v' w' f hn ho hg
       obtain ⟨qb, cp, nc, rfl, hb, hr⟩ := row_two ho
       exact ⟨qb, cp, nc, by rw [hn]; rfl, ⟨hb⟩, ⟨by rw [hn]; exact hr⟩, (S0.alloc _).grown (blk_alloc BP.out _) HP.out hg⟩
      by_cases h3 : kd = 3
      ·
       have e3 : (kd == 3) = true := by rw [h3]; rfl
       go_wp2_with (at_builtin; refine wpList_append_own _ rfl (.tmp 30) (.tmp 32) 94 rfl w.heap.size 93 i9 (.pointer none) 1 8 Tryd.underlying94 hi9 hz9 hs9 hb9 rfl (by decide) _ 1 [.pointer (some ⟨nb, 1, none⟩)] rfl (hown _) ⟨wc.heap.size, 0, none⟩ 1 1 [.pointer (some ⟨nb, 2, none⟩)] rfl rfl (hnews 2) (hone 2) (by decide) (by decide) (by have := blk_lt S0.2.1.out; simp; omega) ?_; intro v' w' hown' hg' hnil)
       go_meet
       case rel => exact fin _ _ _ _ 2 (by unfold numsOf; rw [if_pos h3]) hown' hg'
      ·
       have e3 : (kd == 3) = false := beq_eq_false_iff_ne.mpr h3
       by_cases h8 : kd = 8
       ·
        have e8 : (kd == 8) = true := by rw [h8]; rfl
        go_wp2_with (at_builtin; refine wpList_append_own _ rfl (.tmp 37) (.tmp 39) 94 rfl w.heap.size 93 i9 (.pointer none) 1 8 Tryd.underlying94 hi9 hz9 hs9 hb9 rfl (by decide) _ 1 [.pointer (some ⟨nb, 1, none⟩)] rfl (hown _) ⟨wc.heap.size, 0, none⟩ 1 1 [.pointer (some ⟨nb, 3, none⟩)] rfl rfl (hnews 3) (hone 3) (by decide) (by decide) (by have := blk_lt S0.2.1.out; simp; omega) ?_; intro v' w' hown' hg' hnil)
        go_meet
        case rel => exact fin _ _ _ _ 3 (by unfold numsOf; rw [if_neg h3, if_pos (Or.inl h8)]) hown' hg'
       ·
        have e8 : (kd == 8) = false := beq_eq_false_iff_ne.mpr h8
        by_cases h9 : kd = 9
        ·
         have e9 : (kd == 9) = true := by rw [h9]; rfl
         go_wp2_with (at_builtin; refine wpList_append_own _ rfl (.tmp 37) (.tmp 39) 94 rfl w.heap.size 93 i9 (.pointer none) 1 8 Tryd.underlying94 hi9 hz9 hs9 hb9 rfl (by decide) _ 1 [.pointer (some ⟨nb, 1, none⟩)] rfl (hown _) ⟨wc.heap.size, 0, none⟩ 1 1 [.pointer (some ⟨nb, 3, none⟩)] rfl rfl (hnews 3) (hone 3) (by decide) (by decide) (by have := blk_lt S0.2.1.out; simp; omega) ?_; intro v' w' hown' hg' hnil)
         go_meet
         case rel => exact fin _ _ _ _ 3 (by unfold numsOf; rw [if_neg h3, if_pos (Or.inr h9)]) hown' hg'
        ·
         have e9 : (kd == 9) = false := beq_eq_false_iff_ne.mpr h9
         have hn : numsOf kd nb = [.pointer (some ⟨nb, 1, none⟩)] := by unfold numsOf; rw [if_neg h3, if_neg (by rintro (e | e); exact h8 e; exact h9 e)]
         go_wp2
         go_meet
         case rel => exact ⟨pb, 1, _, by rw [hn]; rfl, ⟨BP.out⟩, ⟨by rw [hn]; intro j q hj; simpa using hj⟩, S0⟩
     case rest =>
      clear S0 BP HP
      obtain ⟨qb, cp, ncur, rfl, BP, HQ, S0⟩ := hcut
      rename_i K6 a6
      refine a6 _ _ ?_
      apply wp_seq_k
      intro _ _
      have hlc : l.length + 1 ≤ c := by simpa using gl
      go_cut [4] from 10 (fun v4 wc => ∃ o : Nat, v4 = .slice (some ⟨g, o, none⟩) l.length (c - 1) ∧ Aside0 (∀ (j : Nat) y, l[j]? = some y → cur[o + j]? = some (.string y)) ∧ Aside0 (wc.heap[qb]? = some (.cells ncur 93 (0, 0))) ∧ Std w nb kd 0 0 0 ⟨#[]⟩ g cur wc)
      case first =>
       have hcells : ∀ (o : Nat), (0 < l.length → o = 1) → ∀ (j : Nat) y, l[j]? = some y → cur[o + j]? = some (.string y) := by
        intro o ho j y hj
        have hlt := (List.getElem?_eq_some_iff.1 hj).1
        rw [ho (by omega)]
        exact HL (1 + j) y (by rw [Nat.add_comm, List.getElem?_cons_succ]; exact hj)
       by_cases hc1 : c = 1
       ·
        go_wp2
        go_meet
        case rel => exact ⟨0, by rw [hc1], ⟨hcells _ (by omega)⟩, BP, S0⟩
       ·
        go_wp2
        go_meet
        case rel => exact ⟨_, rfl, ⟨hcells _ (fun _ => rfl)⟩, BP, S0⟩
      case rest =>
       clear S0 BP
       obtain ⟨o1, rfl, HC, BP, S0⟩ := hcut
       rename_i K7 a7
       refine a7 _ _ ?_
       apply wp_seq_k
       intro _ _
       go_cut [4] from 10 (fun v4 wc => Aside0 (wc.heap[qb]? = some (.cells ncur 93 (0, 0))) ∧ RelL w nb k kd g cur (r1, r2, r3, r4, r5, r6) v4 wc)
       case first =>
        obtain ⟨n0, n1, n2, n3, n4, m0, m1, m2, m3, m4⟩ := five_cells S0.1.out
        obtain ⟨z0, z1, z2, z3, z4, y0, y1, y2, y3, y4⟩ := five_cells S0.2.1.out
        by_cases h4 : kd = 4
        ·
         have e4 : (kd == 4) = true := by rw [h4]; rfl
         have ht : kd = 4 ∨ kd = 8 ∨ kd = 9 := Or.inl h4
         obtain hl0 | hl0 := Classical.em (l = [])
         ·
          rw [if_pos ht, if_pos hl0] at H2
          unfold node0 at H2
          cases H2
          have e0 : (((l.length : Nat) : Int) == 0) = true := by rw [hl0]; rfl
          go_wp2
          refine bodyPost_ret (results_ct rfl _ _ w.heap.size 40 _ (0, 0) _ rfl (five_put S0.2.1.out) hu40 rfl (by kernel_rfl)) rfl ?_
          exact ⟨rfl, below_five S0.2.2.2.out (Nat.le_refl _) _ _ _ _ _⟩
         ·
          rw [if_pos ht, if_neg hl0] at H2
          have hp0 : 0 < l.length := List.length_pos_iff.mpr hl0
          have e0 : (((l.length : Nat) : Int) == 0) = false := beq_eq_false_iff_ne.mpr (by omega)
          obtain ⟨jn, hjn⟩ : ∃ jn, l.length - 1 = jn := ⟨_, rfl⟩
          obtain ⟨ji, hjie⟩ : ∃ ji : Int, (jn : Int) = ji := ⟨_, rfl⟩
          have hjto : ji.toNat = jn := by rw [← hjie]; exact Int.toNat_natCast _
          have hjw : IntKind.i64.wrap ((l.length : Int) - 1) = ji := (i64_w _).trans (by unfold wrap64; omega)
          have hji : wrap64 ((l.length : Int) - 1) = ji := by unfold wrap64; omega
          have p1 : 0 ≤ ji := by omega
          have p2 : ji < (l.length : Int) := by omega
          have p3 : ji ≤ ((c - 1 : Nat) : Int) := by omega
          have p4 : jn ≤ c - 1 := by omega
          have hlast : l[jn]? = some (l.getLastD ⟨#[]⟩) := by
           rw [← hjn, List.getLastD_eq_getLast?, List.getLast?_eq_getElem?, List.getElem?_eq_getElem (by omega)]; rfl
          generalize l.getLastD ⟨#[]⟩ = tm at H2 hlast
          have hx1 : wc.drew.cell? ⟨g, o1 + jn, none⟩ = some (.string tm) := (blk_cell S0.2.2.1.out (o1 + jn)).trans (HC.out jn _ hlast)
          have HF := Aside0.mk (show l.dropLast.length = jn ∧ jn ≤ c - 1 ∧ c - 1 ≤ maxLen ∧ jn ≤ 1000000 ∧ (∀ (j : Nat) y, l.dropLast[j]? = some y → l[j]? = some y) from ⟨by rw [List.length_dropLast, hjn], p4, by omega, by have := hc.2; omega, fun j y hj => by
           rw [List.getElem?_dropLast] at hj
           split at hj
           ·
            exact hj
           ·
            cases hj⟩)
          have H3 := Aside0.mk H2
          clear H2 hlast
          go_upto_region 16 with fail
          go_region
          go_wp2
          go_meet
          case rel => exact ⟨⟨blk_far BP.out (blk_ne S0.1.out BP.out (by decide)).symm _⟩, l.dropLast, tm, c - 1, o1, by rw [HF.out.1], ⟨by rw [HF.out.1]; exact ⟨HF.out.2.1, HF.out.2.2.1, HF.out.2.2.2.1⟩⟩, ⟨fun j y hj => HC.out j y (HF.out.2.2.2.2 j y hj)⟩, ⟨H3.out⟩, (S0.time HN.out tm).drew⟩
        ·
         have e4 : (kd == 4) = false := beq_eq_false_iff_ne.mpr h4
         by_cases h8 : kd = 8
         ·
          have e8 : (kd == 8) = true := by rw [h8]; rfl
          have ht : kd = 4 ∨ kd = 8 ∨ kd = 9 := Or.inr (Or.inl h8)
          obtain hl0 | hl0 := Classical.em (l = [])
          ·
           rw [if_pos ht, if_pos hl0] at H2
           unfold node0 at H2
           cases H2
           have e0 : (((l.length : Nat) : Int) == 0) = true := by rw [hl0]; rfl
           go_wp2
           refine bodyPost_ret (results_ct rfl _ _ w.heap.size 40 _ (0, 0) _ rfl (five_put S0.2.1.out) hu40 rfl (by kernel_rfl)) rfl ?_
           exact ⟨rfl, below_five S0.2.2.2.out (Nat.le_refl _) _ _ _ _ _⟩
          ·
           rw [if_pos ht, if_neg hl0] at H2
           have hp0 : 0 < l.length := List.length_pos_iff.mpr hl0
           have e0 : (((l.length : Nat) : Int) == 0) = false := beq_eq_false_iff_ne.mpr (by omega)
           obtain ⟨jn, hjn⟩ : ∃ jn, l.length - 1 = jn := ⟨_, rfl⟩
           obtain ⟨ji, hjie⟩ : ∃ ji : Int, (jn : Int) = ji := ⟨_, rfl⟩
           have hjto : ji.toNat = jn := by rw [← hjie]; exact Int.toNat_natCast _
           have hjw : IntKind.i64.wrap ((l.length : Int) - 1) = ji := (i64_w _).trans (by unfold wrap64; omega)
           have hji : wrap64 ((l.length : Int) - 1) = ji := by unfold wrap64; omega
           have p1 : 0 ≤ ji := by omega
           have p2 : ji < (l.length : Int) := by omega
           have p3 : ji ≤ ((c - 1 : Nat) : Int) := by omega
           have p4 : jn ≤ c - 1 := by omega
           have hlast : l[jn]? = some (l.getLastD ⟨#[]⟩) := by
            rw [← hjn, List.getLastD_eq_getLast?, List.getLast?_eq_getElem?, List.getElem?_eq_getElem (by omega)]; rfl
           generalize l.getLastD ⟨#[]⟩ = tm at H2 hlast
           have hx1 : wc.drew.cell? ⟨g, o1 + jn, none⟩ = some (.string tm) := (blk_cell S0.2.2.1.out (o1 + jn)).trans (HC.out jn _ hlast)
           have HF := Aside0.mk (show l.dropLast.length = jn ∧ jn ≤ c - 1 ∧ c - 1 ≤ maxLen ∧ jn ≤ 1000000 ∧ (∀ (j : Nat) y, l.dropLast[j]? = some y → l[j]? = some y) from ⟨by rw [List.length_dropLast, hjn], p4, by omega, by have := hc.2; omega, fun j y hj => by
            rw [List.getElem?_dropLast] at hj
            split at hj
            ·
             exact hj
            ·
             cases hj⟩)
           have H3 := Aside0.mk H2
           clear H2 hlast
           go_upto_region 16 with fail
           go_region
           go_wp2
           go_meet
           case rel => exact ⟨⟨blk_far BP.out (blk_ne S0.1.out BP.out (by decide)).symm _⟩, l.dropLast, tm, c - 1, o1, by rw [HF.out.1], ⟨by rw [HF.out.1]; exact ⟨HF.out.2.1, HF.out.2.2.1, HF.out.2.2.2.1⟩⟩, ⟨fun j y hj => HC.out j y (HF.out.2.2.2.2 j y hj)⟩, ⟨H3.out⟩, (S0.time HN.out tm).drew⟩
         ·
          have e8 : (kd == 8) = false := beq_eq_false_iff_ne.mpr h8
          by_cases h9 : kd = 9
          ·
           have e9 : (kd == 9) = true := by rw [h9]; rfl
           have ht : kd = 4 ∨ kd = 8 ∨ kd = 9 := Or.inr (Or.inr h9)
           obtain hl0 | hl0 := Classical.em (l = [])
           ·
            rw [if_pos ht, if_pos hl0] at H2
            unfold node0 at H2
            cases H2
            have e0 : (((l.length : Nat) : Int) == 0) = true := by rw [hl0]; rfl
            go_wp2
            refine bodyPost_ret (results_ct rfl _ _ w.heap.size 40 _ (0, 0) _ rfl (five_put S0.2.1.out) hu40 rfl (by kernel_rfl)) rfl ?_
            exact ⟨rfl, below_five S0.2.2.2.out (Nat.le_refl _) _ _ _ _ _⟩
           ·
            rw [if_pos ht, if_neg hl0] at H2
            have hp0 : 0 < l.length := List.length_pos_iff.mpr hl0
            have e0 : (((l.length : Nat) : Int) == 0) = false := beq_eq_false_iff_ne.mpr (by omega)
            obtain ⟨jn, hjn⟩ : ∃ jn, l.length - 1 = jn := ⟨_, rfl⟩
            obtain ⟨ji, hjie⟩ : ∃ ji : Int, (jn : Int) = ji := ⟨_, rfl⟩
            have hjto : ji.toNat = jn := by rw [← hjie]; exact Int.toNat_natCast _
            have hjw : IntKind.i64.wrap ((l.length : Int) - 1) = ji := (i64_w _).trans (by unfold wrap64; omega)
            have hji : wrap64 ((l.length : Int) - 1) = ji := by unfold wrap64; omega
            have p1 : 0 ≤ ji := by omega
            have p2 : ji < (l.length : Int) := by omega
            have p3 : ji ≤ ((c - 1 : Nat) : Int) := by omega
            have p4 : jn ≤ c - 1 := by omega
            have hlast : l[jn]? = some (l.getLastD ⟨#[]⟩) := by
             rw [← hjn, List.getLastD_eq_getLast?, List.getLast?_eq_getElem?, List.getElem?_eq_getElem (by omega)]; rfl
            generalize l.getLastD ⟨#[]⟩ = tm at H2 hlast
            have hx1 : wc.drew.cell? ⟨g, o1 + jn, none⟩ = some (.string tm) := (blk_cell S0.2.2.1.out (o1 + jn)).trans (HC.out jn _ hlast)
            have HF := Aside0.mk (show l.dropLast.length = jn ∧ jn ≤ c - 1 ∧ c - 1 ≤ maxLen ∧ jn ≤ 1000000 ∧ (∀ (j : Nat) y, l.dropLast[j]? = some y → l[j]? = some y) from ⟨by rw [List.length_dropLast, hjn], p4, by omega, by have := hc.2; omega, fun j y hj => by
             rw [List.getElem?_dropLast] at hj
             split at hj
             ·
              exact hj
             ·
              cases hj⟩)
            have H3 := Aside0.mk H2
            clear H2 hlast
            go_upto_region 16 with fail
            go_region
            go_wp2
            go_meet
            case rel => exact ⟨⟨blk_far BP.out (blk_ne S0.1.out BP.out (by decide)).symm _⟩, l.dropLast, tm, c - 1, o1, by rw [HF.out.1], ⟨by rw [HF.out.1]; exact ⟨HF.out.2.1, HF.out.2.2.1, HF.out.2.2.2.1⟩⟩, ⟨fun j y hj => HC.out j y (HF.out.2.2.2.2 j y hj)⟩, ⟨H3.out⟩, (S0.time HN.out tm).drew⟩
          ·
           have e9 : (kd == 9) = false := beq_eq_false_iff_ne.mpr h9
           rw [if_neg (by rintro (e | e | e); exact h4 e; exact h8 e; exact h9 e)] at H2
           have H3 := Aside0.mk H2
           clear H2
           go_wp2
           go_meet
           case rel => exact ⟨BP, l, ⟨#[]⟩, c - 1, o1, rfl, ⟨by have := hc.2; omega⟩, HC, H3, S0⟩
       case rest =>
        clear S0 BP HC H2
        obtain ⟨BP, L, tm, c2, o, rfl, HZ, HC, H3, S0⟩ := hcut
        rename_i K8 a8
        refine a8 _ _ ?_
        obtain ⟨z0, z1, z2, z3, z4, y0, y1, y2, y3, y4⟩ := five_cells S0.2.1.out
        have H4 := H3.out
        unfold nodeNums at H4
        by_cases h2 : kd = 3 ∨ kd = 8 ∨ kd = 9
        ·
         rw [if_pos h2] at H4
         by_cases h3 : kd = 3
         ·
          have hn : numsOf kd nb = [.pointer (some ⟨nb, 1, none⟩), .pointer (some ⟨nb, 2, none⟩)] := by unfold numsOf; rw [if_pos h3]
          have hq0 : ncur[0]? = some (.pointer (some ⟨nb, 1, none⟩)) := HQ.out 0 _ (by rw [hn]; rfl)
          have hq1 : ncur[1]? = some (.pointer (some ⟨nb, 2, none⟩)) := HQ.out 1 _ (by rw [hn]; rfl)
          rw [hn]
          by_cases hn1 : L.length = 2
          ·
           obtain ⟨x1, x2, rfl⟩ : ∃ x1 x2, L = [x1, x2] := by
            match L, hn1 with
            | [a, b], _ => exact ⟨a, b, rfl⟩
           have hx0 : wc.cell? ⟨g, o, none⟩ = some (.string x1) := (blk_cell S0.2.2.1.out o).trans (HC.out 0 _ rfl)
           dsimp only at H4
           replace H4 := Option.bind_eq_some_iff.mp H4
           obtain ⟨⟨v1, b1⟩, hv1, H4⟩ := H4
           have HV := Aside0.mk hv1
           clear hv1
           have hqd : wc.drew.cell? ⟨qb, 0, none⟩ = some (.pointer (some ⟨nb, 1, none⟩)) := (blk_cell BP.out 0).trans hq0
           have hnl : w.heap.size < nb := HN.out
           go_wp2
           refine wp_loop_rounds 3 ?_
           rw [rounds_succ]
           go_upto_region 22 with fail
           go_region_with (go_at_call 51; refine (words_Number.calls k x1 999 v1 b1 _ HV.out).mono ?_; rintro e w3 ⟨rfl, hb3⟩; have S1 := S0.drew.below hb3; have BP3 := blk_below (blk_drew BP.out) hb3; obtain ⟨n0, n1, n2, n3, n4, m0, m1, m2, m3, m4⟩ := five_cells S1.1.out; have hq3 := (blk_cell BP3 0).trans hq0)
           all_goals
            have S2 := S1.put HN.out 1 v1 (sc' := v1) (cl' := 0) (on' := 0) rfl
            have BP4 : (w3.setCell ⟨nb, 1, none⟩ (.int .i64 v1)).heap[qb]? = some (.cells ncur 93 (0, 0)) := blk_far BP3 (blk_ne S1.1.out BP3 (by decide)).symm _
            clear n0 n1 n2 n3 n4 m0 m1 m2 m3 m4 z0 z1 z2 z3 z4 y0 y1 y2 y3 y4
            obtain ⟨n0, n1, n2, n3, n4, m0, m1, m2, m3, m4⟩ := five_cells S2.1.out
            obtain ⟨z0, z1, z2, z3, z4, y0, y1, y2, y3, y4⟩ := five_cells S2.2.1.out
            cases b1 with
            | false =>
             rw [if_neg (by decide)] at H4
             unfold node0 at H4
             cases H4
             go_wp2
             refine bodyPost_ret (results_ct rfl _ _ w.heap.size 40 _ (0, 0) _ rfl (five_put S2.2.1.out) hu40 rfl (by kernel_rfl)) rfl ?_
             exact ⟨rfl, below_five S2.2.2.2.out (Nat.le_refl _) _ _ _ _ _⟩
            | true =>
             rw [if_pos rfl] at H4
             replace H4 := Option.bind_eq_some_iff.mp H4
             obtain ⟨⟨v2, b2⟩, hv2, H4⟩ := H4
             have HV2 := Aside0.mk hv2
             clear hv2
             have hy1 : (w3.setCell ⟨nb, 1, none⟩ (.int .i64 v1)).cell? ⟨g, o + 1, none⟩ = some (.string x2) := (blk_cell S2.2.2.1.out (o + 1)).trans (HC.out 1 _ rfl)
             have hqe : (w3.setCell ⟨nb, 1, none⟩ (.int .i64 v1)).drew.cell? ⟨qb, 1, none⟩ = some (.pointer (some ⟨nb, 2, none⟩)) := (blk_cell BP4 1).trans hq1
             generalize hW : (w3.setCell ⟨nb, 1, none⟩ (.int .i64 v1)) = w4 at S2 BP4 n0 n1 n2 n3 n4 m0 m1 m2 m3 m4 z0 z1 z2 z3 z4 y0 y1 y2 y3 y4 hy1 hqe ⊢
             clear hW
             go_wp2
             rw [rounds_succ]
             go_upto_region 22 with fail
             go_region_with (go_at_call 51; refine (words_Number.calls k x2 999 v2 b2 _ HV2.out).mono ?_; rintro e w5 ⟨rfl, hb5⟩; have S3 := S2.drew.below hb5; have BP5 := blk_below (blk_drew BP4) hb5; obtain ⟨i0, i1, i2, i3, i4, j0, j1, j2, j3, j4⟩ := five_cells S3.1.out; have hq5 := (blk_cell BP5 1).trans hq1)
             all_goals
              have S4 := S3.put HN.out 2 v2 (sc' := v1) (cl' := v2) (on' := 0) rfl
              clear i0 i1 i2 i3 i4 j0 j1 j2 j3 j4 z0 z1 z2 z3 z4 y0 y1 y2 y3 y4 n0 n1 n2 n3 n4 m0 m1 m2 m3 m4
              obtain ⟨n0, n1, n2, n3, n4, m0, m1, m2, m3, m4⟩ := five_cells S4.1.out
              obtain ⟨z0, z1, z2, z3, z4, y0, y1, y2, y3, y4⟩ := five_cells S4.2.1.out
              cases b2 with
              | false =>
               rw [if_neg (by decide)] at H4
               unfold node0 at H4
               cases H4
               go_wp2
               refine bodyPost_ret (results_ct rfl _ _ w.heap.size 40 _ (0, 0) _ rfl (five_put S4.2.1.out) hu40 rfl (by kernel_rfl)) rfl ?_
               exact ⟨rfl, below_five S4.2.2.2.out (Nat.le_refl _) _ _ _ _ _⟩
              | true =>
               rw [if_pos rfl, if_pos h3] at H4
               cases H4
               go_wp2
               rw [rounds_succ]
               go_wp2
               refine bodyPost_ret (results_ct rfl _ _ w.heap.size 40 _ (0, 0) _ rfl (five_put S4.2.1.out) hu40 rfl (by kernel_rfl)) rfl ?_
               exact ⟨by rw [h3]; rfl, below_five S4.2.2.2.out (Nat.le_refl _) _ _ _ _ _⟩
          ·
           have H5 : node0 = some (r1, r2, r3, r4, r5, r6) := by
            split at H4
            ·
             exact absurd rfl hn1
            ·
             exact H4
           unfold node0 at H5
           cases H5
           clear H4 H3
           generalize L.length = n0 at hn1
           have e1 : ((n0 : Int) != 2) = true := bne_iff_ne.mpr (by omega)
           go_wp2
           refine bodyPost_ret (results_ct rfl _ _ w.heap.size 40 _ (0, 0) _ rfl (five_put S0.2.1.out) hu40 rfl (by kernel_rfl)) rfl ?_
           exact ⟨rfl, below_five S0.2.2.2.out (Nat.le_refl _) _ _ _ _ _⟩
         ·
          have hn : numsOf kd nb = [.pointer (some ⟨nb, 1, none⟩), .pointer (some ⟨nb, 3, none⟩)] := by unfold numsOf; rw [if_neg h3, if_pos (by rcases h2 with e | e | e; exact absurd e h3; exact Or.inl e; exact Or.inr e)]
          have hq0 : ncur[0]? = some (.pointer (some ⟨nb, 1, none⟩)) := HQ.out 0 _ (by rw [hn]; rfl)
          have hq1 : ncur[1]? = some (.pointer (some ⟨nb, 3, none⟩)) := HQ.out 1 _ (by rw [hn]; rfl)
          rw [hn]
          by_cases hn1 : L.length = 2
          ·
           obtain ⟨x1, x2, rfl⟩ : ∃ x1 x2, L = [x1, x2] := by
            match L, hn1 with
            | [a, b], _ => exact ⟨a, b, rfl⟩
           have hx0 : wc.cell? ⟨g, o, none⟩ = some (.string x1) := (blk_cell S0.2.2.1.out o).trans (HC.out 0 _ rfl)
           dsimp only at H4
           replace H4 := Option.bind_eq_some_iff.mp H4
           obtain ⟨⟨v1, b1⟩, hv1, H4⟩ := H4
           have HV := Aside0.mk hv1
           clear hv1
           have hqd : wc.drew.cell? ⟨qb, 0, none⟩ = some (.pointer (some ⟨nb, 1, none⟩)) := (blk_cell BP.out 0).trans hq0
           have hnl : w.heap.size < nb := HN.out
           go_wp2
           refine wp_loop_rounds 3 ?_
           rw [rounds_succ]
           go_upto_region 22 with fail
           go_region_with (go_at_call 51; refine (words_Number.calls k x1 999 v1 b1 _ HV.out).mono ?_; rintro e w3 ⟨rfl, hb3⟩; have S1 := S0.drew.below hb3; have BP3 := blk_below (blk_drew BP.out) hb3; obtain ⟨n0, n1, n2, n3, n4, m0, m1, m2, m3, m4⟩ := five_cells S1.1.out; have hq3 := (blk_cell BP3 0).trans hq0)
           all_goals
            have S2 := S1.put HN.out 1 v1 (sc' := v1) (cl' := 0) (on' := 0) rfl
            have BP4 : (w3.setCell ⟨nb, 1, none⟩ (.int .i64 v1)).heap[qb]? = some (.cells ncur 93 (0, 0)) := blk_far BP3 (blk_ne S1.1.out BP3 (by decide)).symm _
            clear n0 n1 n2 n3 n4 m0 m1 m2 m3 m4 z0 z1 z2 z3 z4 y0 y1 y2 y3 y4
            obtain ⟨n0, n1, n2, n3, n4, m0, m1, m2, m3, m4⟩ := five_cells S2.1.out
            obtain ⟨z0, z1, z2, z3, z4, y0, y1, y2, y3, y4⟩ := five_cells S2.2.1.out
            cases b1 with
            | false =>
             rw [if_neg (by decide)] at H4
             unfold node0 at H4
             cases H4
             go_wp2
             refine bodyPost_ret (results_ct rfl _ _ w.heap.size 40 _ (0, 0) _ rfl (five_put S2.2.1.out) hu40 rfl (by kernel_rfl)) rfl ?_
             exact ⟨rfl, below_five S2.2.2.2.out (Nat.le_refl _) _ _ _ _ _⟩
            | true =>
             rw [if_pos rfl] at H4
             replace H4 := Option.bind_eq_some_iff.mp H4
             obtain ⟨⟨v2, b2⟩, hv2, H4⟩ := H4
             have HV2 := Aside0.mk hv2
             clear hv2
             have hy1 : (w3.setCell ⟨nb, 1, none⟩ (.int .i64 v1)).cell? ⟨g, o + 1, none⟩ = some (.string x2) := (blk_cell S2.2.2.1.out (o + 1)).trans (HC.out 1 _ rfl)
             have hqe : (w3.setCell ⟨nb, 1, none⟩ (.int .i64 v1)).drew.cell? ⟨qb, 1, none⟩ = some (.pointer (some ⟨nb, 3, none⟩)) := (blk_cell BP4 1).trans hq1
             generalize hW : (w3.setCell ⟨nb, 1, none⟩ (.int .i64 v1)) = w4 at S2 BP4 n0 n1 n2 n3 n4 m0 m1 m2 m3 m4 z0 z1 z2 z3 z4 y0 y1 y2 y3 y4 hy1 hqe ⊢
             clear hW
             go_wp2
             rw [rounds_succ]
             go_upto_region 22 with fail
             go_region_with (go_at_call 51; refine (words_Number.calls k x2 999 v2 b2 _ HV2.out).mono ?_; rintro e w5 ⟨rfl, hb5⟩; have S3 := S2.drew.below hb5; have BP5 := blk_below (blk_drew BP4) hb5; obtain ⟨i0, i1, i2, i3, i4, j0, j1, j2, j3, j4⟩ := five_cells S3.1.out; have hq5 := (blk_cell BP5 1).trans hq1)
             all_goals
              have S4 := S3.put HN.out 3 v2 (sc' := v1) (cl' := 0) (on' := v2) rfl
              clear i0 i1 i2 i3 i4 j0 j1 j2 j3 j4 z0 z1 z2 z3 z4 y0 y1 y2 y3 y4 n0 n1 n2 n3 n4 m0 m1 m2 m3 m4
              obtain ⟨n0, n1, n2, n3, n4, m0, m1, m2, m3, m4⟩ := five_cells S4.1.out
              obtain ⟨z0, z1, z2, z3, z4, y0, y1, y2, y3, y4⟩ := five_cells S4.2.1.out
              cases b2 with
              | false =>
               rw [if_neg (by decide)] at H4
               unfold node0 at H4
               cases H4
               go_wp2
               refine bodyPost_ret (results_ct rfl _ _ w.heap.size 40 _ (0, 0) _ rfl (five_put S4.2.1.out) hu40 rfl (by kernel_rfl)) rfl ?_
               exact ⟨rfl, below_five S4.2.2.2.out (Nat.le_refl _) _ _ _ _ _⟩
              | true =>
               rw [if_pos rfl, if_neg h3] at H4
               cases H4
               go_wp2
               rw [rounds_succ]
               go_wp2
               refine bodyPost_ret (results_ct rfl _ _ w.heap.size 40 _ (0, 0) _ rfl (five_put S4.2.1.out) hu40 rfl (by kernel_rfl)) rfl ?_
               exact ⟨rfl, below_five S4.2.2.2.out (Nat.le_refl _) _ _ _ _ _⟩
          ·
           have H5 : node0 = some (r1, r2, r3, r4, r5, r6) := by
            split at H4
            ·
             exact absurd rfl hn1
            ·
             exact H4
           unfold node0 at H5
           cases H5
           clear H4 H3
           generalize L.length = n0 at hn1
           have e1 : ((n0 : Int) != 2) = true := bne_iff_ne.mpr (by omega)
           go_wp2
           refine bodyPost_ret (results_ct rfl _ _ w.heap.size 40 _ (0, 0) _ rfl (five_put S0.2.1.out) hu40 rfl (by kernel_rfl)) rfl ?_
           exact ⟨rfl, below_five S0.2.2.2.out (Nat.le_refl _) _ _ _ _ _⟩
        ·
         rw [if_neg h2] at H4
         have hn : numsOf kd nb = [.pointer (some ⟨nb, 1, none⟩)] := by unfold numsOf; rw [if_neg (fun e => h2 (Or.inl e)), if_neg (fun e => h2 (Or.inr e))]
         have hq0 : ncur[0]? = some (.pointer (some ⟨nb, 1, none⟩)) := HQ.out 0 _ (by rw [hn]; rfl)
         rw [hn]
         by_cases hn1 : L.length = 1
         ·
          obtain ⟨x1, rfl⟩ : ∃ x1, L = [x1] := List.length_eq_one_iff.mp hn1
          have hx0 : wc.cell? ⟨g, o, none⟩ = some (.string x1) := (blk_cell S0.2.2.1.out o).trans (HC.out 0 _ rfl)
          dsimp only at H4
          replace H4 := Option.bind_eq_some_iff.mp H4
          obtain ⟨⟨v1, b1⟩, hv1, H4⟩ := H4
          have HV := Aside0.mk hv1
          clear hv1
          have hqd : wc.drew.cell? ⟨qb, 0, none⟩ = some (.pointer (some ⟨nb, 1, none⟩)) := (blk_cell BP.out 0).trans hq0
          have hnl : w.heap.size < nb := HN.out
          go_wp2
          refine wp_loop_rounds 2 ?_
          rw [rounds_succ]
          go_upto_region 22 with fail
          go_region_with (go_at_call 51; refine (words_Number.calls k x1 999 v1 b1 _ HV.out).mono ?_; rintro e w3 ⟨rfl, hb3⟩; have S1 := S0.drew.below hb3; obtain ⟨n0, n1, n2, n3, n4, m0, m1, m2, m3, m4⟩ := five_cells S1.1.out; have hq3 := (blk_cell (blk_below (blk_drew BP.out) hb3) 0).trans hq0)
          all_goals
           have S2 := S1.put HN.out 1 v1 (sc' := v1) (cl' := 0) (on' := 0) rfl
           clear n0 n1 n2 n3 n4 m0 m1 m2 m3 m4 z0 z1 z2 z3 z4 y0 y1 y2 y3 y4
           obtain ⟨n0, n1, n2, n3, n4, m0, m1, m2, m3, m4⟩ := five_cells S2.1.out
           obtain ⟨z0, z1, z2, z3, z4, y0, y1, y2, y3, y4⟩ := five_cells S2.2.1.out
           cases b1 with
           | false =>
            rw [if_neg (by decide)] at H4
            unfold node0 at H4
            cases H4
            go_wp2
            refine bodyPost_ret (results_ct rfl _ _ w.heap.size 40 _ (0, 0) _ rfl (five_put S2.2.1.out) hu40 rfl (by kernel_rfl)) rfl ?_
            exact ⟨rfl, below_five S2.2.2.2.out (Nat.le_refl _) _ _ _ _ _⟩
           | true =>
            rw [if_pos rfl] at H4
            cases H4
            go_wp2
            rw [rounds_succ]
            go_wp2
            refine bodyPost_ret (results_ct rfl _ _ w.heap.size 40 _ (0, 0) _ rfl (five_put S2.2.1.out) hu40 rfl (by kernel_rfl)) rfl ?_
            exact ⟨rfl, below_five S2.2.2.2.out (Nat.le_refl _) _ _ _ _ _⟩
         ·
          have H5 : node0 = some (r1, r2, r3, r4, r5, r6) := by
           split at H4
           ·
            exact absurd rfl hn1
           ·
            exact H4
          unfold node0 at H5
          cases H5
          clear H4 H3
          generalize L.length = n0 at hn1
          have e1 : ((n0 : Int) != 1) = true := bne_iff_ne.mpr (by omega)
          go_wp2
          refine bodyPost_ret (results_ct rfl _ _ w.heap.size 40 _ (0, 0) _ rfl (five_put S0.2.1.out) hu40 rfl (by kernel_rfl)) rfl ?_
          exact ⟨rfl, below_five S0.2.2.2.out (Nat.le_refl _) _ _ _ _ _⟩
end Go.Proofs.YtpalncojmknlbaaDoor.Ext
