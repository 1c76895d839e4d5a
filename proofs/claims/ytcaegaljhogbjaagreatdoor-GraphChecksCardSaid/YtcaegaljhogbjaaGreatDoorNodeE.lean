/- What the checks of nodes come to, in plain words. -/
import Derived.Test.YtcaegaljhogbjaaGreatDoorGraphSpec
import Derived.Test.YtcaegaljhogbjaaGreatDoorSpanRef
import Derived.Test.YtcaegaljhogbjaaGreatDoorCycRef
set_option linter.unusedVariables false
set_option linter.unusedSimpArgs false
namespace Go.Proofs.YtcaegaljhogbjaaGreatDoor.Gr
open Go.RowKit Go.Lib Go.Sort Go.Proofs.YtcaegaljhogbjaaGreatDoorW.PrintWords Go.Proofs.YtcaegaljhogbjaaGreatDoorW.PrintLast Go.Proofs.YtcaegaljhogbjaaGreatDoorW.PrintMore Go.Proofs.YtcaegaljhogbjaaGreatDoor.Y Go.Proofs.YtcaegaljhogbjaaGreatDoor.Gd

theorem far5 {W : World} {b g : Nat} {o : Obj} (h : W.heap[b]? = some o) (hne : b ≠ g) (v0 v1 v2 v3 v4 : Value) :
  (((((W.setCell ⟨g, 0, none⟩ v0).setCell ⟨g, 1, none⟩ v1).setCell ⟨g, 2, none⟩ v2).setCell ⟨g, 3, none⟩ v3).setCell ⟨g, 4, none⟩ v4).heap[b]? = some o := by
 rw [Below.heap_setCell _ _ _ _ hne, Below.heap_setCell _ _ _ _ hne, Below.heap_setCell _ _ _ _ hne, Below.heap_setCell _ _ _ _ hne, Below.heap_setCell _ _ _ _ hne]; exact h
theorem is_in (s : ByteArray) (l1 : List S38) (l2 : List S40) (n : Int) : zas.f s l1 l2 n = zbt.f n 1 (l1.length : Int) := rfl
/-- A node as graph.at hands it over. -/
def AtN (s : ByteArray) (l1 : List S38) (l2 : List S40) (n : Int) (x : S38) (ok : Bool) : Prop :=
 zbu.f s l1 l2 n = some (x.f0, x.f1, x.f2, x.f3, x.f4, ok) ∧ zas.f s l1 l2 n = some ok ∧ (ok = true → 0 ≤ wrap64 (n - 1) ∧ wrap64 (n - 1) < (l1.length : Int) ∧ x = zba l1 (wrap64 (n - 1)))
theorem at_deep {k : Nat} {n x5 r : Int} {s : ByteArray} {l1 : List S38} {l2 : List S40} (h : zal.l0 k n x5 s l1 l2 = some r) : ∃ x ok, AtN s l1 l2 n x ok := by
 cases k with
 | zero => exact absurd h (by simp [zal.l0])
 | succ k =>
  simp only [zal.l0] at h
  obtain ⟨t, ht, h⟩ := Option.bind_eq_some_iff.mp h
  cases t with
  | false => exact ⟨⟨0, 0, 0, 0, ⟨#[]⟩⟩, false, by rw [zbu.f, ← is_in s l1 l2, ht]; rfl, ht, fun e => by cases e⟩
  | true =>
   rw [if_pos rfl] at h
   split at h
   case isFalse => cases h
   rename_i p
   split at h
   case isFalse => cases h
   rename_i q
   exact ⟨_, true, by rw [zbu.f, ← is_in s l1 l2, ht]; simp [p, q], ht, fun _ => ⟨p, q, rfl⟩⟩
def zbs.f (k : Nat) (a0_0 : ByteArray) (l0_1 : List S38) (l0_2 : List S40) (a1 : Int) : Option Int := zal.f k a0_0 l0_1 l0_2 a1
set_option maxHeartbeats 8000000 in
set_option maxRecDepth 100000 in
theorem zbs.calls (k : Nat) (a0_0 : ByteArray) (A0_1 : Option Addr) (c0_1 : Nat) (l0_1 : List (S38)) (A0_2 : Option Addr) (c0_2 : Nat) (l0_2 : List (S40)) (a1 : Int) (r : Int) (w : World) (hr0_1 : Kd.C k38 w A0_1 l0_1.length l0_1) (hc0_1 : l0_1.length ≤ c0_1) (hr0_2 : Kd.C k40 w A0_2 l0_2.length l0_2) (hc0_2 : l0_2.length ≤ c0_2) (h : zbs.f k a0_0 l0_1 l0_2 a1 = some r) :
  Calls Tryz.prog 17 #[.agg #[.string a0_0, .slice A0_1 l0_1.length c0_1, .slice A0_2 l0_2.length c0_2], .int .i64 a1] w fun e w' => e = .returned (.int .i64 r) ∧ Below w.heap.size w w' := by
 have HC1 := Aside0.mk hr0_1
 have HC2 := Aside0.mk hr0_2
 have HL1 := Aside0.mk hc0_1
 have HL2 := Aside0.mk hc0_2
 have HH := Aside0.mk (show zal.l0 k a1 0 a0_0 l0_1 l0_2 = some r from h)
 clear hr0_1 hc0_1 hr0_2 hc0_2 h
 obtain ⟨x, ok, hat⟩ := at_deep HH.out
 have HAT := Aside0.mk hat
 clear hat
 obtain ⟨f0, f1, f2, f3, f4⟩ := x
 go_enter Tryz.func17, Tryz.ntmps17
 have HB := Aside0.mk (below_alloc (Below.refl w.heap.size w) (.cells #[.string a0_0, .slice A0_1 l0_1.length c0_1, .slice A0_2 l0_2.length c0_2] 25))
 have HBK := Aside0.mk (blk_new w (.cells #[.string a0_0, .slice A0_1 l0_1.length c0_1, .slice A0_2 l0_2.length c0_2] 25))
 go_wp2_with fail
 refine (zbu.calls a0_0 _ _ l0_1 _ _ l0_2 a1 f0 f1 f2 f3 f4 ok _ (Kd.C_below HC1.out HB.out) HL1.out (Kd.C_below HC2.out HB.out) HL2.out HAT.out.1).mono ?_
 rintro e w3 ⟨rfl, hb3⟩
 have n0 := Aside0.mk (blk_below HBK.out hb3)
 have n1 := Aside0.mk (below_step HB.out hb3)
 have n2 := Aside0.mk (show w.heap.size < w3.heap.size from Nat.lt_of_lt_of_le (blk_lt HBK.out) hb3.size)
 clear HB HBK
 have HBK := n0
 have HB := n1
 have HSZ := n2
 clear n0 n1 n2 hb3
 go_wp2_with fail
 have HND := Aside0.mk (blk_new w3 (.cells #[.int .i64 f0, .int .i64 f1, .int .i64 f2, .int .i64 f3, .string f4] 38))
 go_loopg [5, 6, 7] k (fun kq v5 v6 v7 wr => ∃ (n x5 : Int) (x : S38) (ok : Bool) (g : Nat), v5 = .int .i64 x5 ∧ v6 = .pointer (some ⟨g, 0, none⟩) ∧ v7 = .bool ok ∧ Aside0 (zal.l0 kq n x5 a0_0 l0_1 l0_2 = some r) ∧ Aside0 (AtN a0_0 l0_1 l0_2 n x ok) ∧ Aside0 (kq ≤ k) ∧ Aside0 (w.heap.size < g) ∧
  Aside0 (wr.heap[g]? = some (.cells #[.int .i64 x.f0, .int .i64 x.f1, .int .i64 x.f2, .int .i64 x.f3, .string x.f4] 38 (0, 0))) ∧ Aside0 (wr.heap[w.heap.size]? = some (.cells #[.string a0_0, .slice A0_1 l0_1.length c0_1, .slice A0_2 l0_2.length c0_2] 25 (0, 0))) ∧ Aside0 (Below w.heap.size w wr))
 case atStart => exact ⟨a1, 0, ⟨f0, f1, f2, f3, f4⟩, ok, _, rfl, rfl, rfl, HH, HAT, ⟨Nat.le_refl _⟩, HSZ, HND, ⟨blk_alloc HBK.out _⟩, ⟨below_alloc HB.out _⟩⟩
 case round =>
  clear HH HAT HB HBK HND HSZ
  obtain ⟨n, x5, x, ok, g, rfl, rfl, rfl, HH, HAT, HK1, HG, HND, HBK, HB⟩ := hrel
  obtain ⟨f0, f1, f2, f3, f4⟩ := x
  obtain ⟨e0, e1, e2, e3, e4⟩ := zbg HND.out
  obtain ⟨b0, b1, b2⟩ := zbh HBK.out
  cases gk with
  | zero => exact absurd HH.out (by simp [zal.l0])
  | succ k1 =>
   have H := HH.out
   clear HH
   simp only [zal.l0, HAT.out.2.1, Option.bind_some] at H
   cases ok with
   | false =>
    rw [if_neg (by decide)] at H
    obtain rfl := Option.some.inj H
    clear H
    go_wp2
    go_ret
    exact ⟨rfl, by repeat (first | exact HB.out | apply pw_below_drewN | apply below_drew1)⟩
   | true =>
    obtain ⟨p, q, hx⟩ := HAT.out.2.2 rfl
    rw [if_pos rfl, if_pos p, if_pos q, ← hx] at H
    clear p q hx
    by_cases c1 : f1 = 0
    ·
     rw [if_pos c1] at H
     obtain rfl := Option.some.inj H
     clear H
     subst c1
     go_wp2
     go_ret
     exact ⟨rfl, by repeat (first | exact HB.out | apply pw_below_drewN | apply below_drew1)⟩
    ·
     rw [if_neg c1] at H
     have c1b : (f1 != 0) = true := bne_iff_ne.mpr c1
     have c1c : (f1 == 0) = false := beq_eq_false_iff_ne.mpr c1
     by_cases c2 : x5 < 60
     ·
      rw [if_pos c2] at H
      have c2b : decide (x5 < 60) = true := decide_eq_true c2
      have HH := Aside0.mk H
      clear H
      obtain ⟨y, ok2, hat2⟩ := at_deep HH.out
      have HAT2 := Aside0.mk hat2
      clear hat2
      obtain ⟨y0, y1, y2, y3, y4⟩ := y
      have HBA := Aside0.mk (below_alloc HB.out (.cells #[.int .i64 f0, .int .i64 f1, .int .i64 f2, .int .i64 f3, .string f4] 38))
      have HBKA := Aside0.mk (blk_alloc HBK.out (.cells #[.int .i64 f0, .int .i64 f1, .int .i64 f2, .int .i64 f3, .string f4] 38))
      have HNA := Aside0.mk (blk_new wr (.cells #[.int .i64 f0, .int .i64 f1, .int .i64 f2, .int .i64 f3, .string f4] 38))
      have HSZ := Aside0.mk (show w.heap.size < wr.heap.size from blk_lt HBK.out)
      have d0 := (blk_cell HBKA.out 0).trans rfl
      have d1 := (blk_cell HBKA.out 1).trans rfl
      have d2 := (blk_cell HBKA.out 2).trans rfl
      have g1 := (blk_cell HNA.out 1).trans rfl
      go_wp2_with fail
      refine (zbu.calls a0_0 _ _ l0_1 _ _ l0_2 f1 y0 y1 y2 y3 y4 ok2 _ (Kd.C_below HC1.out HBA.out) HL1.out (Kd.C_below HC2.out HBA.out) HL2.out HAT2.out.1).mono ?_
      rintro e w5 ⟨rfl, hb5⟩
      have n0 := Aside0.mk (blk_below HBKA.out hb5)
      have n1 := Aside0.mk (below_step HBA.out hb5)
      have n2 := Aside0.mk (blk_below HNA.out hb5)
      clear HB HBK HBA HBKA HNA HND hb5 e0 e1 e2 e3 e4 b0 b1 b2 d0 d1 d2 g1
      have HBK := n0
      have HB := n1
      have HND := n2
      clear n0 n1 n2
      generalize wr.heap.size = g2 at *
      obtain ⟨e0, e1, e2, e3, e4⟩ := zbg HND.out
      have z0 := blk_frozen HND.out 0
      have z1 := blk_frozen HND.out 1
      have z2 := blk_frozen HND.out 2
      have z3 := blk_frozen HND.out 3
      have z4 := blk_frozen HND.out 4
      go_wp2
      go_roundg k1
      case measure => have := HK1.out; omega
      case rel => exact ⟨f1, wrap64 (x5 + 1), ⟨y0, y1, y2, y3, y4⟩, ok2, g2, rfl, rfl, rfl, HH, HAT2, ⟨by have := HK1.out; omega⟩, HSZ, ⟨put5 HND.out _ _ _ _ _⟩, ⟨far5 HBK.out (Nat.ne_of_lt HSZ.out) _ _ _ _ _⟩, ⟨low5 HB.out (Nat.le_of_lt HSZ.out) _ _ _ _ _⟩⟩
     ·
      rw [if_neg c2] at H
      have c2b : decide (x5 < 60) = false := decide_eq_false c2
      obtain rfl := Option.some.inj H
      clear H
      go_wp2
      go_ret
      exact ⟨rfl, by repeat (first | exact HB.out | apply pw_below_drewN | apply below_drew1)⟩
end Go.Proofs.YtcaegaljhogbjaaGreatDoor.Gr

set_option linter.unusedVariables false
set_option linter.unusedSectionVars false
set_option linter.unusedSimpArgs false
namespace Go.Proofs.YtcaegaljhogbjaaGreatDoor.Gr
open Go.RowKit Go.Lib Go.Proofs.YtcaegaljhogbjaaGreatDoorW.PrintWords Go.Proofs.YtcaegaljhogbjaaGreatDoor.Y Go.Proofs.YtcaegaljhogbjaaGreatDoor.Ext Go.Proofs.YtcaegaljhogbjaaGreatDoor.B Go.Proofs.YtcaegaljhogbjaaGreatDoor.Q Go.Proofs.YtcaegaljhogbjaaGreatDoor.Span Go.Proofs.YtcaegaljhogbjaaGreatDoor.Cyc

def inL (l : List S38) (n : Int) : Prop := 1 ≤ n ∧ n ≤ (l.length : Int)
instance (l : List S38) (n : Int) : Decidable (inL l n) := inferInstanceAs (Decidable (_ ∧ _))
def nd (l : List S38) (n : Int) : S38 := zba l (wrap64 (n - 1))
def atS (l : List S38) (n : Int) : S38 := if inL l n then nd l n else ⟨0, 0, 0, 0, ⟨#[]⟩⟩
def kindAt (l : List S38) (n : Int) : Int := if inL l n then (nd l n).f0 else 0
def timeV (x : S38) : Bool :=
 if (parseL x.f4.data.toList).2 = 0 ∧ (parseL x.f4.data.toList).1 ≠ 0 then true
 else if x.f0 = 9 then decide ((cycL x.f4.data.toList).2.2 = 0 ∧ (cycL x.f4.data.toList).1 ≤ 9) else false
def opn (k : Int) : Bool := decide (k = 7 ∨ k = 9)
def tmE (x : S38) : Int := if timeV x = true then 0 else 6
def nodeE (l : List S38) (n : Int) (x : S38) : Int :=
 if x.f0 < 1 ∨ 9 < x.f0 then 16
 else if x.f1 ≠ 0 ∧ (n ≤ x.f1 ∨ opn (kindAt l x.f1) = false) then 16
 else if (x.f0 ≠ 3 ∧ x.f2 ≠ 0) ∨ x.f2 < 0 ∨ 8 ≤ x.f2 then 16
 else if x.f0 = 8 ∨ x.f0 = 9 then (if x.f3 < n ∧ (kindAt l x.f3 = 3 ∨ kindAt l x.f3 = 7) ∧ (nd l x.f3).f1 = x.f1 then tmE x else 16)
 else if x.f3 ≠ 0 then 16
 else if x.f0 = 4 then tmE x else if x.f4.toList = [] then 0 else 6

section
variable {l1 : List S38} {l2 : List S40} {s : ByteArray} (hl : l1.length ≤ 1000000)
include hl
theorem in_w {n : Int} (h : inL l1 n) : wrap64 (n - 1) = n - 1 ∧ 0 ≤ wrap64 (n - 1) ∧ wrap64 (n - 1) < (l1.length : Int) := by
 obtain ⟨h1, h2⟩ := h
 have e : wrap64 (n - 1) = n - 1 := by unfold wrap64; omega
 rw [e]
 exact ⟨rfl, by omega, by omega⟩
theorem is_eq (n : Int) : zas.f s l1 l2 n = some (decide (inL l1 n)) := by
 unfold zas.f inL
 by_cases h : n ≥ 1
 ·
  rw [if_pos h]
  have : 1 ≤ n := h
  simp [this]
 ·
  rw [if_neg h]
  have : ¬ 1 ≤ n := h
  simp [this]
theorem kind_eq (n : Int) : zak.f s l1 l2 n = some (kindAt l1 n) := by
 unfold zak.f kindAt
 rw [is_eq hl]
 simp only [Option.bind_some]
 by_cases h : inL l1 n
 ·
  obtain ⟨_, h1, h2⟩ := in_w hl h
  simp [h, h1, h2, nd]
 ·
  simp [h]
theorem at_eq (n : Int) : zbu.f s l1 l2 n = some ((atS l1 n).f0, (atS l1 n).f1, (atS l1 n).f2, (atS l1 n).f3, (atS l1 n).f4, decide (inL l1 n)) := by
 unfold zbu.f atS
 rw [← is_in s l1 l2, is_eq hl]
 simp only [Option.bind_some]
 by_cases h : inL l1 n
 ·
  obtain ⟨_, h1, h2⟩ := in_w hl h
  simp [h, h1, h2, nd]
 ·
  simp [h]
omit hl in
theorem at_kind (n : Int) : (atS l1 n).f0 = kindAt l1 n := by unfold atS kindAt; split <;> rfl
omit hl in
theorem at_nd {n : Int} (h : inL l1 n) : atS l1 n = nd l1 n := if_pos h
omit hl in
theorem kind_in {n : Int} (h : kindAt l1 n ≠ 0) : inL l1 n := by
 unfold kindAt at h
 split at h
 ·
  assumption
 ·
  exact absurd rfl h
theorem ropens_eq (n : Int) : zaq.f s l1 l2 n = some (opn (kindAt l1 n)) := by
 unfold zaq.f opn
 rw [kind_eq hl]
 simp only [Option.bind_some]
 by_cases h : kindAt l1 n = 7
 ·
  simp [h]
 ·
  rw [if_neg h]
  by_cases h9 : kindAt l1 n = 9 <;> simp [h, h9]
end
theorem opens_eq (k : Int) : zbo.f k = some (opn k) := by
 unfold zbo.f opn
 by_cases h : k = 7
 ·
  simp [h]
 ·
  rw [if_neg h]
  by_cases h9 : k = 9 <;> simp [h, h9]
theorem parse_cyc {l : List UInt8} (h : (parseL l).2 = 0) : cycL l = (0, 0, 2) := by
 unfold parseL at h
 split at h
 ·
  exact cyc_no _ (by simp)
 ·
  cases h
theorem span_eq {a : ByteArray} (ha : a.size ≤ 1000) : zbx.f a = some (((parseL a.data.toList).1 : Int), ((parseL a.data.toList).2 : Int)) := by
 unfold zbx.f
 rw [if_pos (by omega)]
theorem rspan_eq {a : ByteArray} (ha : a.size ≤ 1000) (k : Nat) (hk : 5000 ≤ k) : zaa.f k a = some (((parseL a.data.toList).1 : Int), ((parseL a.data.toList).2 : Int)) := by
 have e := S_of a
 have hs : a.data.toList.length = a.size := Array.length_toList
 have := ref_parse a.data.toList (by omega) k (by omega)
 rw [e] at this
 exact this
theorem cyc_eq {a : ByteArray} (ha : a.size ≤ 1000) (k : Nat) (hk : 5000 ≤ k) : zav.f k a = some (((cycL a.data.toList).1 : Int), ((cycL a.data.toList).2.1 : Int), ((cycL a.data.toList).2.2 : Int)) := by
 have e := S_of a
 have hs : a.data.toList.length = a.size := Array.length_toList
 have := cyc_parse a.data.toList (by omega) k (by omega)
 rw [e] at this
 exact this
theorem rcyc_eq {a : ByteArray} (ha : a.size ≤ 1000) (k : Nat) (hk : 5000 ≤ k) : zab.f k a = some (((cycL a.data.toList).1 : Int), ((cycL a.data.toList).2.1 : Int), ((cycL a.data.toList).2.2 : Int)) := by
 have e := S_of a
 have hs : a.data.toList.length = a.size := Array.length_toList
 have := ref_cyc a.data.toList (by omega) k (by omega)
 rw [e] at this
 exact this
theorem waits_eq (x : S38) (hx : x.f0 = 4 ∨ x.f0 = 8 ∨ x.f0 = 9) (ha : x.f4.size ≤ 1000) (k : Nat) (hk : 5001 ≤ k) : ∃ c1 c2, zbl.f k x.f0 x.f1 x.f2 x.f3 x.f4 = some (c1, c2, timeV x) := by
 obtain ⟨k, rfl⟩ : ∃ m, k = m + 1 := ⟨k - 1, by omega⟩
 have e : zbl.f (k + 1) x.f0 x.f1 x.f2 x.f3 x.f4 = zbl.j0 (k + 1) x.f0 x.f1 x.f2 x.f3 x.f4 := by
  unfold zbl.f
  rcases hx with h | h | h <;> simp [h]
 rw [e, zbl.j0, span_eq ha]
 simp only [Option.bind_some]
 unfold timeV
 have hc := @parse_cyc x.f4.data.toList
 by_cases h : (parseL x.f4.data.toList).2 = 0
 ·
  have h' : (((parseL x.f4.data.toList).2 : Nat) : Int) = 0 := by omega
  rw [if_pos h']
  by_cases hv : (parseL x.f4.data.toList).1 = 0
  ·
   exact ⟨1, (((parseL x.f4.data.toList).1 : Nat) : Int), by simp [h, hv, hc h]⟩
  ·
   refine ⟨1, (((parseL x.f4.data.toList).1 : Nat) : Int), ?_⟩
   have hv' : decide ((((parseL x.f4.data.toList).1 : Nat) : Int) > 0) = true := decide_eq_true (by omega)
   rw [hv', if_pos ⟨h, hv⟩]
 ·
  have h' : ¬ (((parseL x.f4.data.toList).2 : Nat) : Int) = 0 := by omega
  rw [if_neg h', cyc_eq ha _ (by omega), if_neg (fun e => h e.1)]
  simp only [Option.bind_some]
  by_cases h9 : x.f0 = 9
  ·
   rw [if_pos h9, if_pos h9]
   by_cases he : (cycL x.f4.data.toList).2.2 = 0
   ·
    have he' : (((cycL x.f4.data.toList).2.2 : Nat) : Int) = 0 := by omega
    rw [if_pos he']
    by_cases hn : (cycL x.f4.data.toList).1 ≤ 9
    ·
     rw [if_neg (by omega)]
     exact ⟨_, _, by simp [he, hn]; exact ⟨rfl, rfl⟩⟩
    ·
     rw [if_pos (by omega)]
     exact ⟨_, _, by simp [he, hn]; exact ⟨rfl, rfl⟩⟩
   ·
    rw [if_neg (by omega)]
    exact ⟨_, _, by simp [he]; exact ⟨rfl, rfl⟩⟩
  ·
   rw [if_neg h9, if_neg h9]
   exact ⟨_, _, rfl⟩
theorem rtime_eq {l1 : List S38} {l2 : List S40} {s : ByteArray} (hl : l1.length ≤ 1000000) {n : Int} (hn : inL l1 n) (hx : (nd l1 n).f0 = 4 ∨ (nd l1 n).f0 = 8 ∨ (nd l1 n).f0 = 9) (ha : (nd l1 n).f4.size ≤ 1000) (k : Nat) (hk : 5003 ≤ k) :
  ∃ c1 c2, zag.f k s l1 l2 n = some (c1, c2, timeV (nd l1 n)) := by
 obtain ⟨k, rfl⟩ : ∃ m, k = m + 2 := ⟨k - 2, by omega⟩
 obtain ⟨_, p, q⟩ := in_w hl hn
 have hk0 : kindAt l1 n = (nd l1 n).f0 := if_pos hn
 have e : zag.f (k + 2) s l1 l2 n = zag.j0 (k + 2) n (nd l1 n).f0 false s l1 l2 := by
  unfold zag.f
  rw [kind_eq hl, hk0]
  simp only [Option.bind_some]
  rcases hx with h | h | h <;> simp [h]
 rw [e, zag.j0, if_neg (by decide), if_pos p, if_pos q]
 show ∃ c1 c2, ((zar.f (k + 1) (nd l1 n).f4).bind _) = _
 unfold zar.f
 rw [rspan_eq ha _ (by omega)]
 simp only [Option.bind_some]
 unfold timeV
 by_cases h : (parseL (nd l1 n).f4.data.toList).2 = 0 ∧ (parseL (nd l1 n).f4.data.toList).1 ≠ 0
 ·
  rw [if_pos (by omega), if_neg (by omega), if_pos h]
  simp only [Option.bind_some, if_true, zag.j1]
  exact ⟨_, _, rfl⟩
 ·
  have e1 : (if (((parseL (nd l1 n).f4.data.toList).2 : Nat) : Int) = 0 then (if (((parseL (nd l1 n).f4.data.toList).1 : Nat) : Int) = 0 then some ((0 : Int), (0 : Int), false) else some (1, (((parseL (nd l1 n).f4.data.toList).1 : Nat) : Int), true)) else some (0, 0, false)) = some (0, 0, false) := by
   split
   ·
    rw [if_pos (by omega)]
   ·
    rfl
  rw [e1, if_neg h]
  simp only [Option.bind_some, Bool.false_eq_true, if_false, zag.j1]
  by_cases h9 : (nd l1 n).f0 = 9
  ·
   rw [if_pos h9]
   have : ((nd l1 n).f0 != 9) = false := by simp [h9]
   simp only [show zba l1 (wrap64 (n - 1)) = nd l1 n from rfl]
   rw [this, rcyc_eq ha _ (by omega)]
   simp only [Bool.false_eq_true, if_false, Option.bind_some]
   by_cases he : (cycL (nd l1 n).f4.data.toList).2.2 = 0
   ·
    rw [if_pos (by omega)]
    by_cases hc : (cycL (nd l1 n).f4.data.toList).1 ≤ 9
    ·
     rw [if_neg (by omega)]
     exact ⟨_, _, by simp [he, hc]; exact ⟨rfl, rfl⟩⟩
    ·
     rw [if_pos (by omega)]
     exact ⟨_, _, by simp [he, hc]; exact ⟨rfl, rfl⟩⟩
   ·
    rw [if_neg (by omega)]
    exact ⟨_, _, by simp [he]; exact ⟨rfl, rfl⟩⟩
  ·
   rw [if_neg h9]
   have : ((nd l1 n).f0 != 9) = true := by simp [h9]
   rw [this]
   exact ⟨_, _, rfl⟩
/-! ### node -/
theorem hangs_eq (k : Int) : zbk.f k = some (decide (k = 8 ∨ k = 9)) := by
 unfold zbk.f
 by_cases h : k = 8
 ·
  simp [h]
 ·
  rw [if_neg h]
  by_cases h9 : k = 9 <;> simp [h, h9]
theorem active_eq (k : Int) : zbn.f k = some (decide (k = 3 ∨ k = 7)) := by
 unfold zbn.f
 by_cases h : k = 3
 ·
  simp [h]
 ·
  rw [if_neg h]
  by_cases h9 : k = 7 <;> simp [h, h9]
theorem in_eq (n a b : Int) : zbt.f n a b = some (decide (a ≤ n ∧ n ≤ b)) := by
 unfold zbt.f
 by_cases h : n ≥ a
 ·
  rw [if_pos h]
  have : a ≤ n := h
  simp [this]
 ·
  rw [if_neg h]
  have : ¬ a ≤ n := h
  simp [this]
def nE (x0 x1 x2 x3 n : Int) (ob act : Bool) (os : Int) (tv em : Bool) : Int :=
 if x0 < 1 ∨ 9 < x0 then 16
 else if x1 ≠ 0 ∧ (n ≤ x1 ∨ ob = false) then 16
 else if (x0 ≠ 3 ∧ x2 ≠ 0) ∨ x2 < 0 ∨ 8 ≤ x2 then 16
 else if x0 = 8 ∨ x0 = 9 then (if x3 < n ∧ act = true ∧ os = x1 then (if tv = true then 0 else 6) else 16)
 else if x3 ≠ 0 then 16
 else if x0 = 4 then (if tv = true then 0 else 6) else if em = true then 0 else 6
theorem nodeE_at (l : List S38) (n : Int) (x : S38) : nodeE l n x = nE x.f0 x.f1 x.f2 x.f3 n (opn (atS l x.f1).f0) (decide ((atS l x.f3).f0 = 3 ∨ (atS l x.f3).f0 = 7)) (atS l x.f3).f1 (timeV x) (x.f4.toList == []) := by
 unfold nodeE nE tmE
 rw [at_kind, at_kind]
 simp only [decide_eq_true_eq, beq_iff_eq]
 by_cases h : kindAt l x.f3 = 3 ∨ kindAt l x.f3 = 7
 ·
  have hi : inL l x.f3 := kind_in (by omega)
  rw [at_nd hi]
 ·
  simp only [h, false_and, and_false]
end Go.Proofs.YtcaegaljhogbjaaGreatDoor.Gr
