/- graph.Check, walked by hand: it computes what the reference's Check does. -/
import Derived.Test.YtcaegaljhogbjaaGreatDoorGraphMore
import Derived.Test.YtcaegaljhogbjaaGreatDoorGraphNode
import Derived.Test.YtcaegaljhogbjaaGreatDoorRefNode
import Derived.Test.YtcaegaljhogbjaaGreatDoorYx5
set_option linter.unusedVariables false
set_option linter.unusedSimpArgs false
namespace Go.Proofs.YtcaegaljhogbjaaGreatDoor.Gr
open Go.RowKit Go.Lib Go.Sort Go.Proofs.YtcaegaljhogbjaaGreatDoorW.PrintWords Go.Proofs.YtcaegaljhogbjaaGreatDoorW.PrintLast Go.Proofs.YtcaegaljhogbjaaGreatDoorW.PrintMore Go.Proofs.YtcaegaljhogbjaaGreatDoor.Y Go.Proofs.YtcaegaljhogbjaaGreatDoor.Z Go.Proofs.YtcaegaljhogbjaaGreatDoor.Gd

/-- What holds while the definition is checked. -/
def CI (w : World) (s : ByteArray) (v1 v2 : Value) (bg b1 b2 : Nat) (l2 : List S40) (W : World) : Prop :=
 Aside0 (Below w.heap.size w W) ∧ Aside0 (W.heap[w.heap.size]? = some (.cells #[.string s, v1, v2] 25 (0, 0))) ∧
 Aside0 (W.heap[bg]? = some (.cells #[.string s, v1, v2, .map (some b1), .map (some b2)] 53 (0, 0))) ∧ Aside0 (GM W b1 b2 l2) ∧ Aside0 (Wrong W)
section
variable {w W W' : World} {s : ByteArray} {v1 v2 : Value} {bg b1 b2 : Nat} {l2 : List S40}
theorem CI.below (h : CI w s v1 v2 bg b1 b2 l2 W) (hb : Below W.heap.size W W') : CI w s v1 v2 bg b1 b2 l2 W' :=
 ⟨⟨below_step h.1.out hb⟩, ⟨blk_below h.2.1.out hb⟩, ⟨blk_below h.2.2.1.out hb⟩, ⟨h.2.2.2.1.out.below hb⟩, ⟨h.2.2.2.2.out.below hb⟩⟩
theorem CI.drewN (h : CI w s v1 v2 bg b1 b2 l2 W) (n : Nat) : CI w s v1 v2 bg b1 b2 l2 (W.drewN n) := h.below (pw_below_drewN (Below.refl _ _) _)
theorem CI.drew (h : CI w s v1 v2 bg b1 b2 l2 W) : CI w s v1 v2 bg b1 b2 l2 W.drew := h.below (below_drew1 (Below.refl _ _))
theorem CI.alloc (h : CI w s v1 v2 bg b1 b2 l2 W) (o : Obj) : CI w s v1 v2 bg b1 b2 l2 (W.alloc o) := h.below (below_alloc (Below.refl _ _) _)
theorem CI.low (h : CI w s v1 v2 bg b1 b2 l2 W) : Below w.heap.size w W := h.1.out
theorem CI.cells (h : CI w s v1 v2 bg b1 b2 l2 W) : (W.cell? ⟨w.heap.size, 0, none⟩ = some (.string s) ∧ W.cell? ⟨w.heap.size, 1, none⟩ = some v1 ∧ W.cell? ⟨w.heap.size, 2, none⟩ = some v2) ∧
  W.cell? ⟨bg, 0, none⟩ = some (.string s) ∧ W.cell? ⟨bg, 1, none⟩ = some v1 ∧ W.cell? ⟨bg, 2, none⟩ = some v2 ∧ W.cell? ⟨bg, 3, none⟩ = some (.map (some b1)) ∧ W.cell? ⟨bg, 4, none⟩ = some (.map (some b2)) :=
 ⟨zbh h.2.1.out, zbg h.2.2.1.out⟩
end
/-- Sizes within which all is told. -/
def sized (l1 : List S38) (l2 : List S40) : Bool := decide (l1.length ≤ 1000000) && decide (l2.length ≤ 1000000) && l1.all (fun x => decide (x.f4.size ≤ 1000))
def zbm.f (k : Nat) (a0_0 : ByteArray) (l0_1 : List S38) (l0_2 : List S40) : Option (Int × Int) := if sized l0_1 l0_2 = true then zac.f k a0_0 l0_1 l0_2 else none
theorem zbm.mono : ∀ a0 a1 a2 k, LeO (zbm.f k a0 a1 a2) (zbm.f (k + 1) a0 a1 a2) := by
 intro a0 a1 a2 k
 unfold zbm.f
 exact LeO.ite (zac.mono a0 a1 a2 k) (LeO.none _)
theorem LeO_up {α : Type} {f : Nat → Option α} (hm : ∀ k, LeO (f k) (f (k + 1))) {k : Nat} {r : α} (h : f k = some r) : ∀ m, f (k + m) = some r
 | 0 => h
 | m + 1 => hm (k + m) r (LeO_up hm h m)
theorem LeO_max {α : Type} {f : Nat → Option α} (hm : ∀ k, LeO (f k) (f (k + 1))) {k m : Nat} {r : α} (h : f k = some r) (hk : k ≤ m) : f m = some r := by
 obtain ⟨d, rfl⟩ : ∃ d, m = k + d := ⟨m - k, by omega⟩
 exact LeO_up hm h d
theorem node_go {k : Nat} {s : ByteArray} {l1 : List S38} {l2 : List S40} {n t : Int} (h : zao.f k s l1 l2 n = some t) :
  (l1.length ≤ 1000000 ∧ inL l1 n ∧ (nd l1 n).f4.size ≤ 1000 ∧ nodeE l1 n (nd l1 n) = t) ∧ (t = 0 → (nd l1 n).f0 ≠ 0) := by
 unfold zao.f at h
 split at h
 case isFalse => cases h
 rename_i hc
 simp only [Bool.and_eq_true, decide_eq_true_eq] at hc
 have e3 := Option.some.inj h
 refine ⟨⟨hc.1.1, hc.1.2, hc.2, e3⟩, fun e => ?_⟩
 rw [e] at e3
 unfold nodeE at e3
 intro e0
 rw [if_pos (by omega)] at e3
 cases e3
--WALK
theorem gone_calls (k : Nat) (a0 : ByteArray) (A1 : Option Addr) (c1 : Nat) (l1 : List S38) (A2 : Option Addr) (c2 : Nat) (l2 : List S40) (b1 b2 : Nat) (n : Int) (r : Bool) (w : World) (hr1 : Kd.C k38 w A1 l1.length l1) (hc1 : l1.length ≤ c1) (hr2 : Kd.C k40 w A2 l2.length l2) (hc2 : l2.length ≤ c2) (h : zau.f k a0 l1 l2 b1 b2 n = some r) :
  Calls Tryz.prog 26 #[.agg #[.string a0, .slice A1 l1.length c1, .slice A2 l2.length c2, .map (some b1), .map (some b2)], .int .i64 n] w fun e w' => e = .returned (.bool r) ∧ Below w.heap.size w w' :=
 zau.calls k a0 A1 c1 l1 A2 c2 l2 b1 b2 n r w hr1 hc1 hr2 hc2 h
theorem in60 (l : List S38) : zbt.f (l.length : Int) 1 60 = some (decide (1 ≤ l.length ∧ l.length ≤ 60)) := by
 rw [in_eq]
 congr 1
 rw [Bool.eq_iff_iff, decide_eq_true_eq, decide_eq_true_eq]
 omega
set_option maxHeartbeats 8000000 in
set_option maxRecDepth 100000 in
theorem zbm.calls (k : Nat) (a0_0 : ByteArray) (A0_1 : Option Addr) (c0_1 : Nat) (l0_1 : List (S38)) (A0_2 : Option Addr) (c0_2 : Nat) (l0_2 : List (S40)) (r1 : Int) (r2 : Int) (w : World) (hTab : Wrong w) (hr0_1 : Kd.C k38 w A0_1 l0_1.length l0_1) (hc0_1 : l0_1.length ≤ c0_1) (hr0_2 : Kd.C k40 w A0_2 l0_2.length l0_2) (hc0_2 : l0_2.length ≤ c0_2) (h : zbm.f k a0_0 l0_1 l0_2 = some (r1, r2)) :
  Calls Tryz.prog 9 #[.agg #[.string a0_0, .slice A0_1 l0_1.length c0_1, .slice A0_2 l0_2.length c0_2]] w fun e w' => e = .returned (.tuple #[.int .i64 r1, .int .i64 r2]) ∧ Below w.heap.size w w' := by
 unfold zbm.f at h
 by_cases hsz : sized l0_1 l0_2 = true
 case neg => rw [if_neg hsz] at h; cases h
 rw [if_pos hsz] at h
 have HSZ := Aside0.mk hsz
 clear hsz
 obtain ⟨hl, hf⟩ : l0_1.length ≤ 1000000 ∧ l0_2.length ≤ 1000000 := by
  have := HSZ.out; unfold sized at this; simp only [Bool.and_eq_true, decide_eq_true_eq] at this; exact this.1
 have HL := Aside0.mk hl
 have HF := Aside0.mk hf
 have HC1 := Aside0.mk hr0_1
 have HC2 := Aside0.mk hr0_2
 have HL1 := Aside0.mk hc0_1
 have HL2 := Aside0.mk hc0_2
 have HW := Aside0.mk hTab
 have HH := Aside0.mk h
 clear hl hf hr0_1 hr0_2 hc0_1 hc0_2 hTab h
 have HB := Aside0.mk (below_alloc (Below.refl w.heap.size w) (.cells #[.string a0_0, .slice A0_1 l0_1.length c0_1, .slice A0_2 l0_2.length c0_2] 25))
 have HIN := Aside0.mk (in60 l0_1)
 by_cases hin : 1 ≤ l0_1.length ∧ l0_1.length ≤ 60
 case neg =>
  rw [decide_eq_false hin] at HIN
  have H := HH.out
  unfold zac.f at H
  have H' : zac.j0 k true a0_0 l0_1 l0_2 = some (r1, r2) := by
   by_cases e0 : (l0_1.length : Int) = 0
   ·
    rw [if_pos e0] at H; exact H
   ·
    rw [if_neg e0, if_pos (by omega)] at H; exact H
  cases k with
  | zero => simp [zac.j0] at H'
  | succ k =>
   rw [zac.j0, if_pos rfl] at H'
   obtain ⟨rfl, rfl⟩ := Prod.mk.inj (Option.some.inj H')
   clear H H' HH
   go_enter Tryz.func9, Tryz.ntmps9
   go_wp2_with (go_at_call 21; (with_reducible refine (zbt.calls _ 1 60 _ _ HIN.out).mono ?_); rintro e w7 ⟨rfl, ⟨nq, rfl⟩⟩)
   go_ret2
   exact ⟨rfl, by repeat (first | exact HB.out | apply pw_below_drewN | apply below_drew1)⟩
 rw [decide_eq_true hin] at HIN
 have H := HH.out
 unfold zac.f at H
 rw [if_neg (by omega), if_neg (by omega)] at H
 cases k with
 | zero => simp [zac.j0] at H
 | succ k =>
 rw [zac.j0] at H
 by_cases h90 : (l0_2.length : Int) > 90
 ·
  have h90b : decide ((l0_2.length : Int) > 90) = true := decide_eq_true h90
  rw [h90b, if_pos rfl] at H
  obtain ⟨rfl, rfl⟩ := Prod.mk.inj (Option.some.inj H)
  clear H HH h90
  go_enter Tryz.func9, Tryz.ntmps9
  go_wp2_with (go_at_call 21; (with_reducible refine (zbt.calls _ 1 60 _ _ HIN.out).mono ?_); rintro e w7 ⟨rfl, ⟨nq, rfl⟩⟩)
  go_ret2
  exact ⟨rfl, by repeat (first | exact HB.out | apply pw_below_drewN | apply below_drew1)⟩
 have h90b : decide ((l0_2.length : Int) > 90) = false := decide_eq_false h90
 rw [h90b, if_neg (by decide)] at H
 clear HH h90
 have HH := Aside0.mk H
 clear H hin
 go_enter Tryz.func9, Tryz.ntmps9
 have HBK := Aside0.mk (blk_new w (.cells #[.string a0_0, .slice A0_1 l0_1.length c0_1, .slice A0_2 l0_2.length c0_2] 25))
 go_wp2_with (go_at_call 21; (with_reducible refine (zbt.calls _ 1 60 _ _ HIN.out).mono ?_); rintro e w7 ⟨rfl, ⟨nq, rfl⟩⟩)
 have HB1 := Aside0.mk (pw_below_drewN HB.out nq)
 refine (graph_of_calls a0_0 _ _ l0_1 _ _ l0_2 _ (Kd.C_below HC2.out HB1.out) (by have := HF.out; omega)).mono ?_
 rintro e w3 ⟨b1, b2, rfl, hg, hb⟩
 have HCI := Aside0.mk (show CI w a0_0 (.slice A0_1 l0_1.length c0_1) (.slice A0_2 l0_2.length c0_2) w3.heap.size b1 b2 l0_2 (w3.alloc (.cells #[.string a0_0, .slice A0_1 l0_1.length c0_1, .slice A0_2 l0_2.length c0_2, .map (some b1), .map (some b2)] 53)) from
  ⟨⟨below_alloc (below_step HB1.out hb) _⟩, ⟨blk_alloc (blk_below (blk_drewN HBK.out nq) hb) _⟩, ⟨blk_new _ _⟩, ⟨hg.below (below_alloc (Below.refl _ _) _)⟩, ⟨(HW.out.below (below_step HB1.out hb)).below (below_alloc (Below.refl _ _) _)⟩⟩)
 clear HB HB1 HBK hg hb HIN HW
 obtain ⟨⟨d0, d1, d2⟩, g0, g1, g2, g3, g4⟩ := HCI.out.cells
 go_wp2_with fail
 clear d0 d1 d2 g0 g1 g2 g3 g4
 generalize w3.alloc (.cells #[.string a0_0, .slice A0_1 l0_1.length c0_1, .slice A0_2 l0_2.length c0_2, .map (some b1), .map (some b2)] 53) = w4 at *
 generalize w3.heap.size = bg at *
 go_loopg [29] k (fun kq v29 wr => ∃ i : Nat, v29 = .int .i64 (i : Int) ∧ Aside0 (i ≤ l0_1.length) ∧ Aside0 (zac.l0 kq ((i : Int) + 1) a0_0 l0_1 l0_2 = some (r1, r2)) ∧ Aside0 (∀ m : Int, inL l0_1 m → m ≤ i → (nd l0_1 m).f0 ≠ 0) ∧ Aside0 (CI w a0_0 (.slice A0_1 l0_1.length c0_1) (.slice A0_2 l0_2.length c0_2) bg b1 b2 l0_2 wr))
 case atStart => exact ⟨0, rfl, ⟨Nat.zero_le _⟩, HH, ⟨fun m hm h0 => absurd hm.1 (by omega)⟩, HCI⟩
 case round =>
  clear HH HCI
  obtain ⟨i, rfl, HI, HH, HK, HCI⟩ := hrel
  obtain ⟨⟨d0, d1, d2⟩, g0, g1, g2, g3, g4⟩ := HCI.out.cells
  cases gk with
  | zero => exact absurd HH.out (by simp [zac.l0])
  | succ k1 =>
   have H := HH.out
   clear HH
   rw [zac.l0] at H
   by_cases hi : i < l0_1.length
   ·
    have hlt : decide ((i : Int) < (l0_1.length : Int)) = true := decide_eq_true (by omega)
    rw [if_pos (by omega)] at H
    obtain ⟨tt, ht, H⟩ := Option.bind_eq_some_iff.mp H
    have hno := node_go ht
    have HNO := Aside0.mk hno.2
    have HCA := Aside0.mk (show ∀ W, CI w a0_0 (.slice A0_1 l0_1.length c0_1) (.slice A0_2 l0_2.length c0_2) bg b1 b2 l0_2 W → Calls Tryz.prog 23 #[.agg #[.string a0_0, .slice A0_1 l0_1.length c0_1, .slice A0_2 l0_2.length c0_2, .map (some b1), .map (some b2)], .int .i64 ((i : Int) + 1)] W fun e w' => e = .returned (.int .i64 tt) ∧ Below W.heap.size W w' from fun W HCI => by have hc := gnode_calls a0_0 A0_1 c0_1 l0_1 A0_2 c0_2 l0_2 b1 b2 ((i : Int) + 1) W hno.1.1 (Kd.C_below HC1.out HCI.low) HL1.out (Kd.C_below HC2.out HCI.low) HL2.out hno.1.2.1 hno.1.2.2.1; rw [hno.1.2.2.2] at hc; exact hc)
    clear hno ht
    have hwi : IntKind.i64.wrap ((i : Int) + 1) = (i : Int) + 1 := by rw [i64_w, wrapS i (by have := HL.out; omega)]; omega
    have hwi2 : wrap64 ((i : Int) + 1) = (i : Int) + 1 := by rw [wrapS i (by have := HL.out; omega)]; omega
    by_cases h0 : tt = 0
    ·
     subst h0
     rw [if_pos rfl, show wrap64 ((i : Int) + 1 + 1) = ((i + 1 : Nat) : Int) + 1 by have := HL.out; unfold wrap64; omega] at H
     have HH := Aside0.mk H
     clear H
     go_wp2_with (go_at_call 23; (with_reducible refine (HCA.out _ HCI.out).mono ?_); rintro e w9 ⟨rfl, hb9⟩; have n0 := Aside0.mk (HCI.out.below hb9); clear HCI hb9; have HCI := n0; clear n0)
     go_roundg k1
     case measure => omega
     case rel => exact ⟨i + 1, by first | rfl | (rw [show ((i + 1 : Nat) : Int) = (i : Int) + 1 by omega]) | simp, ⟨hi⟩, HH, ⟨fun m hm hle => by
      by_cases e : m = (i : Int) + 1
      ·
       subst e; exact HNO.out (by simp)
      ·
       exact HK.out m hm (by omega)⟩, HCI⟩
    ·
     rw [if_neg h0] at H
     obtain ⟨rfl, rfl⟩ := Prod.mk.inj (Option.some.inj H)
     clear H
     have h0b : (tt != 0) = true := bne_iff_ne.mpr h0
     go_wp2_with (go_at_call 23; (with_reducible refine (HCA.out _ HCI.out).mono ?_); rintro e w9 ⟨rfl, hb9⟩; have n0 := Aside0.mk (HCI.out.below hb9); clear HCI hb9; have HCI := n0; clear n0)
     go_ret2
     exact ⟨rfl, HCI.out.low⟩
   ·
    have hlt : decide ((i : Int) < (l0_1.length : Int)) = false := decide_eq_false (by omega)
    rw [if_neg (by omega)] at H
    have HKD := Aside0.mk (fun (m : Int) (hm : inL l0_1 m) => HK.out m hm (by have := hm.2; omega))
    have HH := Aside0.mk H
    clear H HK HI
    go_wp2_with fail
    --LOOPS
    clear d0 d1 d2 g0 g1 g2 g3 g4
    go_loopg [45] k1 (fun kq v45 wr => ∃ i : Nat, v45 = .int .i64 (i : Int) ∧ Aside0 (i ≤ l0_2.length) ∧ Aside0 (zac.l1 kq ((i : Int) + 1) a0_0 l0_1 l0_2 = some (r1, r2)) ∧ Aside0 (CI w a0_0 (.slice A0_1 l0_1.length c0_1) (.slice A0_2 l0_2.length c0_2) bg b1 b2 l0_2 wr))
    case atStart => exact ⟨0, rfl, ⟨Nat.zero_le _⟩, HH, HCI⟩
    case round =>
     clear HH HCI
     obtain ⟨i, rfl, HI, HH, HCI⟩ := hrel
     obtain ⟨⟨d0, d1, d2⟩, g0, g1, g2, g3, g4⟩ := HCI.out.cells
     cases gk with
     | zero => exact absurd HH.out (by simp [zac.l1])
     | succ k1 =>
      have H := HH.out
      clear HH
      rw [zac.l1] at H
      by_cases hi : i < l0_2.length
      ·
       have hlt : decide ((i : Int) < (l0_2.length : Int)) = true := decide_eq_true (by omega)
       rw [if_pos (by omega)] at H
       have hwi : IntKind.i64.wrap ((i : Int) + 1) = (i : Int) + 1 := by rw [i64_w, wrapS i (by have := HL.out; have := HF.out; omega)]; omega
       have hwi2 : wrap64 ((i : Int) + 1) = (i : Int) + 1 := by rw [wrapS i (by have := HL.out; have := HF.out; omega)]; omega
       obtain ⟨tt, ht, H⟩ := Option.bind_eq_some_iff.mp H
       obtain ⟨p, q, x, y, is, has, hx, hy, he⟩ := flow_go HL.out HF.out HKD.out ht
       have HCA := Aside0.mk (show ∀ W, CI w a0_0 (.slice A0_1 l0_1.length c0_1) (.slice A0_2 l0_2.length c0_2) bg b1 b2 l0_2 W → Calls Tryz.prog 24 #[.agg #[.string a0_0, .slice A0_1 l0_1.length c0_1, .slice A0_2 l0_2.length c0_2, .map (some b1), .map (some b2)], .int .i64 ((i : Int) + 1)] W fun e w' => e = .returned (.int .i64 tt) ∧ Below W.heap.size W w' from fun W HCI => by have hc := gflow_calls a0_0 A0_1 c0_1 l0_1 A0_2 c0_2 l0_2 b1 b2 ((i : Int) + 1) W (Kd.C_below HC1.out HCI.low) HL1.out (Kd.C_below HC2.out HCI.low) HL2.out HCI.2.2.2.1.out HCI.2.2.2.2.out p q x y is has hx hy; rw [he] at hc; exact hc)
       clear ht p q hx hy he
       by_cases h0 : tt = 0
       ·
        subst h0
        rw [if_pos rfl, show wrap64 ((i : Int) + 1 + 1) = ((i + 1 : Nat) : Int) + 1 by have := HL.out; have := HF.out; unfold wrap64; omega] at H
        have HH := Aside0.mk H
        clear H
        go_wp2_with (go_at_call 24; (with_reducible refine (HCA.out _ HCI.out).mono ?_); rintro e w9 ⟨rfl, hb9⟩; have n0 := Aside0.mk (HCI.out.below hb9); clear HCI hb9; have HCI := n0; clear n0)
        go_roundg k1
        case measure => omega
        case rel => exact ⟨i + 1, by first | rfl | (rw [show ((i + 1 : Nat) : Int) = (i : Int) + 1 by omega]) | simp, ⟨hi⟩, HH, HCI⟩
       ·
        rw [if_neg h0] at H
        obtain ⟨rfl, rfl⟩ := Prod.mk.inj (Option.some.inj H)
        clear H
        have h0b : (tt != 0) = true := bne_iff_ne.mpr h0
        go_wp2_with (go_at_call 24; (with_reducible refine (HCA.out _ HCI.out).mono ?_); rintro e w9 ⟨rfl, hb9⟩; have n0 := Aside0.mk (HCI.out.below hb9); clear HCI hb9; have HCI := n0; clear n0)
        go_ret2
        exact ⟨rfl, HCI.out.low⟩
      ·
       have hlt : decide ((i : Int) < (l0_2.length : Int)) = false := decide_eq_false (by omega)
       rw [if_neg (by omega)] at H
       have HH := Aside0.mk H
       clear H HI
       go_wp2_with fail
       clear d0 d1 d2 g0 g1 g2 g3 g4
       go_loopg [61] k1 (fun kq v61 wr => ∃ i : Nat, v61 = .int .i64 (i : Int) ∧ Aside0 (i ≤ l0_1.length) ∧ Aside0 (zac.l2 kq ((i : Int) + 1) a0_0 l0_1 l0_2 = some (r1, r2)) ∧ Aside0 (CI w a0_0 (.slice A0_1 l0_1.length c0_1) (.slice A0_2 l0_2.length c0_2) bg b1 b2 l0_2 wr))
       case atStart => exact ⟨0, rfl, ⟨Nat.zero_le _⟩, HH, HCI⟩
       case round =>
        clear HH HCI
        obtain ⟨i, rfl, HI, HH, HCI⟩ := hrel
        obtain ⟨⟨d0, d1, d2⟩, g0, g1, g2, g3, g4⟩ := HCI.out.cells
        cases gk with
        | zero => exact absurd HH.out (by simp [zac.l2])
        | succ k1 =>
         have H := HH.out
         clear HH
         rw [zac.l2] at H
         by_cases hi : i < l0_1.length
         ·
          have hlt : decide ((i : Int) < (l0_1.length : Int)) = true := decide_eq_true (by omega)
          rw [if_pos (by omega)] at H
          have hwi : IntKind.i64.wrap ((i : Int) + 1) = (i : Int) + 1 := by rw [i64_w, wrapS i (by have := HL.out; have := HF.out; omega)]; omega
          have hwi2 : wrap64 ((i : Int) + 1) = (i : Int) + 1 := by rw [wrapS i (by have := HL.out; have := HF.out; omega)]; omega
          obtain ⟨tt, ht, H⟩ := Option.bind_eq_some_iff.mp H
          have hin : inL l0_1 ((i : Int) + 1) := ⟨by omega, by omega⟩
          have hsh := shape_go HL.out HF.out hin ht
          have hpq := in_w HL.out hin
          have HCA := Aside0.mk (show ∀ W, CI w a0_0 (.slice A0_1 l0_1.length c0_1) (.slice A0_2 l0_2.length c0_2) bg b1 b2 l0_2 W → Calls Tryz.prog 25 #[.agg #[.string a0_0, .slice A0_1 l0_1.length c0_1, .slice A0_2 l0_2.length c0_2, .map (some b1), .map (some b2)], .int .i64 ((i : Int) + 1)] W fun e w' => e = .returned (.bool tt) ∧ Below W.heap.size W w' from fun W HCI => by have hc := gshape_calls a0_0 _ c0_1 l0_1 A0_2 c0_2 l0_2 b1 b2 ((i : Int) + 1) W (Kd.C_below HC1.out HCI.low) HCI.2.2.2.1.out hpq.2.1 hpq.2.2; rw [hsh] at hc; exact hc)
          clear ht hin hsh hpq
          cases tt with
          | true =>
           rw [if_pos rfl, show wrap64 ((i : Int) + 1 + 1) = ((i + 1 : Nat) : Int) + 1 by have := HL.out; have := HF.out; unfold wrap64; omega] at H
           have HH := Aside0.mk H
           clear H
           go_wp2_with (go_at_call 25; (with_reducible refine (HCA.out _ HCI.out).mono ?_); rintro e w9 ⟨rfl, hb9⟩; have n0 := Aside0.mk (HCI.out.below hb9); clear HCI hb9; have HCI := n0; clear n0)
           go_roundg k1
           case measure => omega
           case rel => exact ⟨i + 1, by first | rfl | (rw [show ((i + 1 : Nat) : Int) = (i : Int) + 1 by omega]) | simp, ⟨hi⟩, HH, HCI⟩
          | false =>
           rw [if_neg (by decide)] at H
           obtain ⟨rfl, rfl⟩ := Prod.mk.inj (Option.some.inj H)
           clear H
           go_wp2_with (go_at_call 25; (with_reducible refine (HCA.out _ HCI.out).mono ?_); rintro e w9 ⟨rfl, hb9⟩; have n0 := Aside0.mk (HCI.out.below hb9); clear HCI hb9; have HCI := n0; clear n0)
           go_ret2
           exact ⟨rfl, HCI.out.low⟩
         ·
          have hlt : decide ((i : Int) < (l0_1.length : Int)) = false := decide_eq_false (by omega)
          rw [if_neg (by omega)] at H
          have HH := Aside0.mk H
          clear H HI
          go_wp2_with fail
          have H := HH.out
          clear HH
          cases k1 with
          | zero => exact absurd H (by simp [zac.l3])
          | succ k2 =>
           rw [zac.l3, if_pos (by omega), if_pos rfl] at H
           obtain ⟨tt, ht, H⟩ := Option.bind_eq_some_iff.mp H
           have HE := Aside0.mk (one_go HL.out (b1 : Int) (b2 : Int) ht)
           clear ht
           cases tt with
           | false =>
            rw [if_neg (by decide)] at H
            obtain ⟨rfl, rfl⟩ := Prod.mk.inj (Option.some.inj H)
            clear H
            go_wp2_with (go_at_call 26; (with_reducible refine (gone_calls k2 a0_0 _ _ l0_1 _ _ l0_2 b1 b2 _ _ _ (Kd.C_below HC1.out HCI.out.low) HL1.out (Kd.C_below HC2.out HCI.out.low) HL2.out HE.out).mono ?_); rintro e w9 ⟨rfl, hb9⟩; have n0 := Aside0.mk (HCI.out.below hb9); clear HCI hb9; have HCI := n0; clear n0)
            go_ret2
            exact ⟨rfl, HCI.out.low⟩
           | true =>
            rw [if_pos rfl] at H
            have HH := Aside0.mk (show zac.l3 k2 ((0 : Nat) + 1 : Int) a0_0 l0_1 l0_2 = some (r1, r2) from (show wrap64 (0 + 1) = ((0 : Nat) : Int) + 1 by unfold wrap64; omega) ▸ H)
            clear H
            go_wp2_with fail
            with_reducible refine (gone_calls k2 a0_0 _ _ l0_1 _ _ l0_2 b1 b2 _ _ _ (Kd.C_below HC1.out HCI.out.low) HL1.out (Kd.C_below HC2.out HCI.out.low) HL2.out HE.out).mono ?_
            rintro e w9 ⟨rfl, hb9⟩
            have n0 := Aside0.mk (HCI.out.below hb9)
            clear HCI hb9
            have HCI := n0
            clear n0
            clear d0 d1 d2 g0 g1 g2 g3 g4 HE
            obtain ⟨⟨d0, d1, d2⟩, g0, g1, g2, g3, g4⟩ := HCI.out.cells
            go_wp2_with fail
            clear d0 d1 d2 g0 g1 g2 g3 g4
            go_loopg [78] k2 (fun kq v78 wr => ∃ i : Nat, v78 = .int .i64 (i : Int) ∧ Aside0 (i ≤ l0_1.length) ∧ Aside0 (zac.l3 kq ((i : Int) + 1) a0_0 l0_1 l0_2 = some (r1, r2)) ∧ Aside0 (CI w a0_0 (.slice A0_1 l0_1.length c0_1) (.slice A0_2 l0_2.length c0_2) bg b1 b2 l0_2 wr))
            case atStart => exact ⟨0, rfl, ⟨Nat.zero_le _⟩, HH, HCI⟩
            case round =>
             clear HH HCI
             obtain ⟨i, rfl, HI, HH, HCI⟩ := hrel
             obtain ⟨⟨d0, d1, d2⟩, g0, g1, g2, g3, g4⟩ := HCI.out.cells
             cases gk with
             | zero => exact absurd HH.out (by simp [zac.l3])
             | succ k1 =>
              have H := HH.out
              clear HH
              rw [zac.l3] at H
              by_cases hi : i < l0_1.length
              ·
               have hlt : decide ((i : Int) < (l0_1.length : Int)) = true := decide_eq_true (by omega)
               rw [if_pos (by omega)] at H
               have hwi : IntKind.i64.wrap ((i : Int) + 1) = (i : Int) + 1 := by rw [i64_w, wrapS i (by have := HL.out; have := HF.out; omega)]; omega
               have hwi2 : wrap64 ((i : Int) + 1) = (i : Int) + 1 := by rw [wrapS i (by have := HL.out; have := HF.out; omega)]; omega
               obtain ⟨ad, rfl, e0, e1, e2, e3, e4⟩ := zbc (Kd.C_below HC1.out HCI.out.low) (i : Int) (by omega) (by omega)
               rw [Int.toNat_natCast] at e0 e1 e2 e3 e4
               have hin : inL l0_1 ((i : Int) + 1) := ⟨by omega, by omega⟩
               have hk : kindAt l0_1 ((i : Int) + 1) = (zba l0_1 (i : Int)).f0 := by rw [kindAt, if_pos hin, nd, show wrap64 ((i : Int) + 1 - 1) = (i : Int) by have := HL.out; unfold wrap64; omega]
               rw [if_neg (by omega), ropens_eq HL.out, hk] at H
               simp only [Option.bind_some] at H
               have HO := Aside0.mk (opens_eq (zba l0_1 (i : Int)).f0)
               clear hk hin
               generalize zba l0_1 (i : Int) = x at *
               obtain ⟨x0, x1, x2, x3, x4⟩ := x
               dsimp only at e0 e1 e2 e3 e4 HO H
               have n0 := Aside0.mk (CI.alloc HCI.out (.cells #[.int .i64 x0, .int .i64 x1, .int .i64 x2, .int .i64 x3, .string x4] 38))
               clear HCI
               have HCI := n0
               clear n0
               obtain ⟨_, z0, z1, z2, z3, z4⟩ := HCI.out.cells
               cases hop : opn x0 with
               | false =>
                rw [hop] at HO
                rw [hop, if_neg (by decide), show wrap64 ((i : Int) + 1 + 1) = ((i + 1 : Nat) : Int) + 1 by have := HL.out; have := HF.out; unfold wrap64; omega] at H
                clear hop
                have HH := Aside0.mk H
                clear H
                go_wp2_with (first | (go_at_call 27; (with_reducible refine (zbo.calls _ _ _ HO.out).mono ?_); rintro e w8 ⟨rfl, ⟨nq, rfl⟩⟩; have n0 := Aside0.mk (CI.drewN HCI.out nq); clear HCI; have HCI := n0; clear n0) | (go_at_call 26; (with_reducible refine (gone_calls k1 a0_0 _ _ l0_1 _ _ l0_2 b1 b2 _ _ _ (Kd.C_below HC1.out HCI.out.low) HL1.out (Kd.C_below HC2.out HCI.out.low) HL2.out HE.out).mono ?_); rintro e w9 ⟨rfl, hb9⟩; have n0 := Aside0.mk (HCI.out.below hb9); clear HCI hb9; have HCI := n0; clear n0))
                go_roundg k1
                case measure => omega
                case rel => exact ⟨i + 1, by first | rfl | (rw [show ((i + 1 : Nat) : Int) = (i : Int) + 1 by omega]) | simp, ⟨hi⟩, HH, HCI⟩
               | true =>
                rw [hop] at HO
                rw [hop, if_pos rfl] at H
                clear hop
                obtain ⟨tt, ht, H⟩ := Option.bind_eq_some_iff.mp H
                have HE := Aside0.mk (one_go HL.out (b1 : Int) (b2 : Int) ht)
                clear ht
                cases tt with
                | true =>
                 rw [if_pos rfl, show wrap64 ((i : Int) + 1 + 1) = ((i + 1 : Nat) : Int) + 1 by have := HL.out; have := HF.out; unfold wrap64; omega] at H
                 have HH := Aside0.mk H
                 clear H
                 go_wp2_with (first | (go_at_call 27; (with_reducible refine (zbo.calls _ _ _ HO.out).mono ?_); rintro e w8 ⟨rfl, ⟨nq, rfl⟩⟩; have n0 := Aside0.mk (CI.drewN HCI.out nq); clear HCI; have HCI := n0; clear n0) | (go_at_call 26; (with_reducible refine (gone_calls k1 a0_0 _ _ l0_1 _ _ l0_2 b1 b2 _ _ _ (Kd.C_below HC1.out HCI.out.low) HL1.out (Kd.C_below HC2.out HCI.out.low) HL2.out HE.out).mono ?_); rintro e w9 ⟨rfl, hb9⟩; have n0 := Aside0.mk (HCI.out.below hb9); clear HCI hb9; have HCI := n0; clear n0))
                 go_roundg k1
                 case measure => omega
                 case rel => exact ⟨i + 1, by first | rfl | (rw [show ((i + 1 : Nat) : Int) = (i : Int) + 1 by omega]) | simp, ⟨hi⟩, HH, HCI⟩
                | false =>
                 rw [if_neg (by decide)] at H
                 obtain ⟨rfl, rfl⟩ := Prod.mk.inj (Option.some.inj H)
                 clear H
                 go_wp2_with (first | (go_at_call 27; (with_reducible refine (zbo.calls _ _ _ HO.out).mono ?_); rintro e w8 ⟨rfl, ⟨nq, rfl⟩⟩; have n0 := Aside0.mk (CI.drewN HCI.out nq); clear HCI; have HCI := n0; clear n0) | (go_at_call 26; (with_reducible refine (gone_calls k1 a0_0 _ _ l0_1 _ _ l0_2 b1 b2 _ _ _ (Kd.C_below HC1.out HCI.out.low) HL1.out (Kd.C_below HC2.out HCI.out.low) HL2.out HE.out).mono ?_); rintro e w9 ⟨rfl, hb9⟩; have n0 := Aside0.mk (HCI.out.below hb9); clear HCI hb9; have HCI := n0; clear n0))
                 go_ret2
                 exact ⟨rfl, HCI.out.low⟩
              ·
               have hlt : decide ((i : Int) < (l0_1.length : Int)) = false := decide_eq_false (by omega)
               rw [if_neg (by omega)] at H
               have HH := Aside0.mk H
               clear H HI
               go_wp2_with fail
               clear d0 d1 d2 g0 g1 g2 g3 g4
               go_loopg [99] k1 (fun kq v99 wr => ∃ i : Nat, v99 = .int .i64 (i : Int) ∧ Aside0 (i ≤ l0_1.length) ∧ Aside0 (zac.l4 kq ((i : Int) + 1) a0_0 l0_1 l0_2 = some (r1, r2)) ∧ Aside0 (CI w a0_0 (.slice A0_1 l0_1.length c0_1) (.slice A0_2 l0_2.length c0_2) bg b1 b2 l0_2 wr))
               case atStart => exact ⟨0, rfl, ⟨Nat.zero_le _⟩, HH, HCI⟩
               case round =>
                clear HH HCI
                obtain ⟨i, rfl, HI, HH, HCI⟩ := hrel
                obtain ⟨⟨d0, d1, d2⟩, g0, g1, g2, g3, g4⟩ := HCI.out.cells
                cases gk with
                | zero => exact absurd HH.out (by simp [zac.l4])
                | succ k1 =>
                 have H := HH.out
                 clear HH
                 rw [zac.l4] at H
                 by_cases hi : i < l0_1.length
                 ·
                  have hlt : decide ((i : Int) < (l0_1.length : Int)) = true := decide_eq_true (by omega)
                  rw [if_pos (by omega)] at H
                  have hwi : IntKind.i64.wrap ((i : Int) + 1) = (i : Int) + 1 := by rw [i64_w, wrapS i (by have := HL.out; have := HF.out; omega)]; omega
                  have hwi2 : wrap64 ((i : Int) + 1) = (i : Int) + 1 := by rw [wrapS i (by have := HL.out; have := HF.out; omega)]; omega
                  obtain ⟨tt, ht, H⟩ := Option.bind_eq_some_iff.mp H
                  have HT := Aside0.mk (show zbs.f k1 a0_0 l0_1 l0_2 ((i : Int) + 1) = some tt from ht)
                  clear ht
                  by_cases h5 : tt > 5
                  ·
                   rw [if_pos h5] at H
                   obtain ⟨rfl, rfl⟩ := Prod.mk.inj (Option.some.inj H)
                   clear H
                   have h5b : decide (tt > 5) = true := decide_eq_true h5
                   go_wp2_with (go_at_call 17; (with_reducible refine (zbs.calls k1 a0_0 _ _ l0_1 _ _ l0_2 _ tt _ (Kd.C_below HC1.out HCI.out.low) HL1.out (Kd.C_below HC2.out HCI.out.low) HL2.out HT.out).mono ?_); rintro e w9 ⟨rfl, hb9⟩; have n0 := Aside0.mk (HCI.out.below hb9); clear HCI hb9; have HCI := n0; clear n0)
                   go_ret2
                   exact ⟨rfl, HCI.out.low⟩
                  ·
                   rw [if_neg h5, show wrap64 ((i : Int) + 1 + 1) = ((i + 1 : Nat) : Int) + 1 by have := HL.out; have := HF.out; unfold wrap64; omega] at H
                   have h5b : decide (tt > 5) = false := decide_eq_false h5
                   have HH := Aside0.mk H
                   clear H
                   go_wp2_with (go_at_call 17; (with_reducible refine (zbs.calls k1 a0_0 _ _ l0_1 _ _ l0_2 _ tt _ (Kd.C_below HC1.out HCI.out.low) HL1.out (Kd.C_below HC2.out HCI.out.low) HL2.out HT.out).mono ?_); rintro e w9 ⟨rfl, hb9⟩; have n0 := Aside0.mk (HCI.out.below hb9); clear HCI hb9; have HCI := n0; clear n0)
                   go_roundg k1
                   case measure => omega
                   case rel => exact ⟨i + 1, by first | rfl | (rw [show ((i + 1 : Nat) : Int) = (i : Int) + 1 by omega]) | simp, ⟨hi⟩, HH, HCI⟩
                 ·
                  have hlt : decide ((i : Int) < (l0_1.length : Int)) = false := decide_eq_false (by omega)
                  rw [if_neg (by omega)] at H
                  obtain ⟨rfl, rfl⟩ := Prod.mk.inj (Option.some.inj H)
                  clear H
                  go_wp2
                  go_ret2
                  exact ⟨rfl, HCI.out.low⟩
end Go.Proofs.YtcaegaljhogbjaaGreatDoor.Gr
