/- The guard's reader, its methods together: whatever the plain words tell of signs, each method comes to. -/
import Derived.Test.YtcaegaljhogbjaaGreatDoorGuardWalk
set_option linter.unusedVariables false
set_option linter.unusedSimpArgs false
namespace Go.Proofs.YtcaegaljhogbjaaGreatDoor.Gd
open Go.RowKit Go.Lib Go.Sort Go.Proofs.YtcaegaljhogbjaaGreatDoorW.PrintWords Go.Proofs.YtcaegaljhogbjaaGreatDoorW.PrintLast Go.Proofs.YtcaegaljhogbjaaGreatDoorW.PrintMore Go.Proofs.YtcaegaljhogbjaaGreatDoor.G

theorem Ends.from {w1 wc wd : World} {B n : Nat} {r : Option (List S118)} {e : Ending} {w' : World} (ho : Lib.OthersKept 118 (some B) wc wd) (h : Ends w1 wd B n r e w') : Ends w1 wc B n r e w' := by
 cases r with
 | none => exact h
 | some l => exact ⟨h.1, h.2.1, ho.trans h.2.2⟩
theorem St.pos {w1 wc : World} {B n : Nat} {x : S118} {l : List S118} (h : St w1 B n (x :: l) wc) : ∃ n', n = n' + 1 := by
 obtain ⟨A, c, v, xs, h1, h2, h3, h4, h5, h6, h7⟩ := h
 exact ⟨n - 1, by have := h5.out; rw [List.length_cons] at this; omega⟩
theorem St.mono {w1 wc : World} {B n m : Nat} {L : List S118} (h : St w1 B n L wc) (hm : n ≤ m) : St w1 B m L wc := by
  obtain ⟨A, c, v, xs, h1, h2, h3, h4, h5, h6, h7⟩ := h
  exact ⟨A, c, v, xs, h1, h2, h3, h4, ⟨Nat.le_trans h5.out hm⟩, h6, h7⟩
theorem St.head {w1 wc : World} {B n : Nat} {x : S118} {l : List S118} (h : St w1 B n (x :: l) wc) : ∃ (ad : Addr) (m c : Nat), ((m : Int) == 0) = false ∧ (0 : Int) < (m : Int) ∧ 0 < m ∧ wc.cell? ⟨B, 0, none⟩ = some (.slice (some ad) m c) ∧ wc.cell? ad = some (.int .i64 x.f0) := by
 obtain ⟨A, c, v, xs, h1, h2, h3, h4, h5, h6, h7⟩ := h
 obtain ⟨ad, rfl, e0, e1⟩ := at_T118 (Kd.C_below h3.out h7.out) 0 (by omega) (by rw [List.length_cons]; omega)
 exact ⟨ad, (x :: l).length, c, beq_eq_false_iff_ne.mpr (by rw [List.length_cons]; omega), by rw [List.length_cons]; omega, by rw [List.length_cons]; omega, blk_cell h1.out 0, e0⟩
theorem compares_calls (x : Int) (w : World) : Calls Tryz.prog 132 #[.int .i64 x] w fun e w' => e = .returned (.bool (compares x)) ∧ w' = w := by
 unfold compares
 cases h1 : decide (6 ≤ x) with
 | false =>
  go_enter Tryz.func132, Tryz.ntmps132
  go_wp2
  go_ret
  exact ⟨rfl, rfl⟩
 | true =>
  go_enter Tryz.func132, Tryz.ntmps132
  go_wp2
  go_ret
  exact ⟨rfl, rfl⟩
/-- The function of each. -/
def fid : NT → FuncId
 | .guard => 61
 | .some => 84
 | .one => 109
 | .sum => 131
 | .product => 149
 | .factor => 154
/-- So far: with so many rounds each method comes to what is told. -/
def Told (w1 : World) (B : Nat) (k : Nat) : Prop :=
 ∀ (nt : NT) (L : List S118) (r : Option (List S118)) (wc : World) (n : Nat), n ≤ 999 → St w1 B n L wc → gd k nt L = some r → Calls Tryz.prog (fid nt) #[.pointer (some ⟨B, 0, none⟩)] wc (Ends w1 wc B n r)
theorem makes (fn : Fn) (first cap : Array Value) (w : World) : (Instr.makeFunc fn first cap).run Tryz.prog w = .ok (.func fn first cap) w := rfl

set_option maxHeartbeats 8000000 in
theorem guard_calls {w1 : World} {B k : Nat} (hw : Wrong w1) (ih : Told w1 B k) (L : List S118) (r : Option (List S118)) (wc : World) (n : Nat) (hn : n ≤ 999) (h : St w1 B n L wc) (hr : gd (k + 1) .guard L = some r) :
  Calls Tryz.prog 61 #[.pointer (some ⟨B, 0, none⟩)] wc (Ends w1 wc B n r) := by
 have ho1 : Lib.OthersKept 118 (some B) wc (wc.alloc (.cells #[.int .i64 13] 3)) := others_below ((Below.refl _ _).alloc (Nat.le_refl _) _)
 have HR := Aside0.mk (row_calls (gd k .some) 84 (enters_of Tryz.func84 (by kernel_rfl) rfl) [13] (B := B) hw (fun L r wc n hn hs ht => ih .some L r wc n hn hs ht) k L r (wc.alloc (.cells #[.int .i64 13] 3)) n wc.heap.size hn (by decide) (h.below ((Below.refl _ _).alloc (Nat.le_refl _) _)) (blk_new wc _) hr)
 have hmf := makes
 clear hr ih h
 cases r with
 | none =>
  go_enter Tryz.func61, Tryz.ntmps61
  go_wp2_with (go_at_call 83; refine HR.out.mono ?_; rintro e w2 ⟨⟨T, p, rfl⟩, hb⟩)
  exact ⟨rfl, ⟨T, p, rfl⟩, hb⟩
 | some l =>
  go_enter Tryz.func61, Tryz.ntmps61
  go_wp2_with (go_at_call 83; refine HR.out.mono ?_; rintro e w2 ⟨rfl, hs, ho⟩)
  go_end0
  exact ⟨rfl, hs, ho1.trans ho⟩
set_option maxHeartbeats 8000000 in
theorem some_calls {w1 : World} {B k : Nat} (hw : Wrong w1) (ih : Told w1 B k) (L : List S118) (r : Option (List S118)) (wc : World) (n : Nat) (hn : n ≤ 999) (h : St w1 B n L wc) (hr : gd (k + 1) .some L = some r) :
  Calls Tryz.prog 84 #[.pointer (some ⟨B, 0, none⟩)] wc (Ends w1 wc B n r) := by
 have ho1 : Lib.OthersKept 118 (some B) wc (wc.alloc (.cells #[.int .i64 12] 3)) := others_below ((Below.refl _ _).alloc (Nat.le_refl _) _)
 have HR := Aside0.mk (row_calls (gd k .one) 109 (enters_of Tryz.func109 (by kernel_rfl) rfl) [12] (B := B) hw (fun L r wc n hn hs ht => ih .one L r wc n hn hs ht) k L r (wc.alloc (.cells #[.int .i64 12] 3)) n wc.heap.size hn (by decide) (h.below ((Below.refl _ _).alloc (Nat.le_refl _) _)) (blk_new wc _) hr)
 have hmf := makes
 clear hr ih h
 cases r with
 | none =>
  go_enter Tryz.func84, Tryz.ntmps84
  go_wp2_with (go_at_call 83; refine HR.out.mono ?_; rintro e w2 ⟨⟨T, p, rfl⟩, hb⟩)
  exact ⟨rfl, ⟨T, p, rfl⟩, hb⟩
 | some l =>
  go_enter Tryz.func84, Tryz.ntmps84
  go_wp2_with (go_at_call 83; refine HR.out.mono ?_; rintro e w2 ⟨rfl, hs, ho⟩)
  go_end0
  exact ⟨rfl, hs, ho1.trans ho⟩
set_option maxHeartbeats 8000000 in
theorem sum_calls {w1 : World} {B k : Nat} (hw : Wrong w1) (ih : Told w1 B k) (L : List S118) (r : Option (List S118)) (wc : World) (n : Nat) (hn : n ≤ 999) (h : St w1 B n L wc) (hr : gd (k + 1) .sum L = some r) :
  Calls Tryz.prog 131 #[.pointer (some ⟨B, 0, none⟩)] wc (Ends w1 wc B n r) := by
 have ho1 : Lib.OthersKept 118 (some B) wc (wc.alloc (.cells #[.int .i64 3, .int .i64 4] 3)) := others_below ((Below.refl _ _).alloc (Nat.le_refl _) _)
 have HR := Aside0.mk (row_calls (gd k .product) 149 (enters_of Tryz.func149 (by kernel_rfl) rfl) [3, 4] (B := B) hw (fun L r wc n hn hs ht => ih .product L r wc n hn hs ht) k L r (wc.alloc (.cells #[.int .i64 3, .int .i64 4] 3)) n wc.heap.size hn (by decide) (h.below ((Below.refl _ _).alloc (Nat.le_refl _) _)) (blk_new wc _) hr)
 have hmf := makes
 clear hr ih h
 cases r with
 | none =>
  go_enter Tryz.func131, Tryz.ntmps131
  go_wp2_with (go_at_call 83; refine HR.out.mono ?_; rintro e w2 ⟨⟨T, p, rfl⟩, hb⟩)
  exact ⟨rfl, ⟨T, p, rfl⟩, hb⟩
 | some l =>
  go_enter Tryz.func131, Tryz.ntmps131
  go_wp2_with (go_at_call 83; refine HR.out.mono ?_; rintro e w2 ⟨rfl, hs, ho⟩)
  go_end0
  exact ⟨rfl, hs, ho1.trans ho⟩
set_option maxHeartbeats 8000000 in
theorem product_calls {w1 : World} {B k : Nat} (hw : Wrong w1) (ih : Told w1 B k) (L : List S118) (r : Option (List S118)) (wc : World) (n : Nat) (hn : n ≤ 999) (h : St w1 B n L wc) (hr : gd (k + 1) .product L = some r) :
  Calls Tryz.prog 149 #[.pointer (some ⟨B, 0, none⟩)] wc (Ends w1 wc B n r) := by
 have ho1 : Lib.OthersKept 118 (some B) wc (wc.alloc (.cells #[.int .i64 5] 3)) := others_below ((Below.refl _ _).alloc (Nat.le_refl _) _)
 have HR := Aside0.mk (row_calls (gd k .factor) 154 (enters_of Tryz.func154 (by kernel_rfl) rfl) [5] (B := B) hw (fun L r wc n hn hs ht => ih .factor L r wc n hn hs ht) k L r (wc.alloc (.cells #[.int .i64 5] 3)) n wc.heap.size hn (by decide) (h.below ((Below.refl _ _).alloc (Nat.le_refl _) _)) (blk_new wc _) hr)
 have hmf := makes
 clear hr ih h
 cases r with
 | none =>
  go_enter Tryz.func149, Tryz.ntmps149
  go_wp2_with (go_at_call 83; refine HR.out.mono ?_; rintro e w2 ⟨⟨T, p, rfl⟩, hb⟩)
  exact ⟨rfl, ⟨T, p, rfl⟩, hb⟩
 | some l =>
  go_enter Tryz.func149, Tryz.ntmps149
  go_wp2_with (go_at_call 83; refine HR.out.mono ?_; rintro e w2 ⟨rfl, hs, ho⟩)
  go_end0
  exact ⟨rfl, hs, ho1.trans ho⟩
set_option maxHeartbeats 8000000 in
theorem one_calls {w1 : World} {B k : Nat} (hw : Wrong w1) (ih : Told w1 B k) (L : List S118) (r : Option (List S118)) (wc : World) (n : Nat) (hn : n ≤ 999) (h : St w1 B n L wc) (hr : gd (k + 1) .one L = some r) :
  Calls Tryz.prog 109 #[.pointer (some ⟨B, 0, none⟩)] wc (Ends w1 wc B n r) := by
 unfold gd at hr
 have HS := Aside0.mk h
 have S14 := sees_calls 14 h
 cases h14 : sees 14 L with
 | true =>
  rw [if_pos h14] at hr
  rw [h14] at S14
  have HS14 := Aside0.mk S14
  obtain ⟨x, l, rfl, hx, hps⟩ := pass_yes h14
  obtain ⟨n', rfl⟩ := h.pos
  have HT := Aside0.mk (fun w' (hs : St w1 B (n' + 1) (x :: l) w') => take_calls 14 hw hs)
  rw [hps] at HT
  have HI := Aside0.mk (fun w' (hs : St w1 B n' l w') => ih .one l r w' n' (by omega) hs hr)
  clear h hr S14 h14 hx hps ih
  cases r with
  | none =>
   go_enter Tryz.func109, Tryz.ntmps109
   go_wp2_with (first | (go_at_call 130; (with_reducible refine HS14.out.mono ?_); rintro e w2 ⟨rfl, hb2⟩; have HS2 := Aside0.mk (HS.out.below hb2)) | (go_at_call 107; (with_reducible refine (HT.out w2 HS2.out).mono ?_); rintro e w3 ⟨rfl, hs3, ho3⟩; have HS3 := Aside0.mk hs3; clear hs3 ho3) | (go_at_call 109; (refine (HI.out w3 HS3.out).mono ?_); rintro e w4 ⟨⟨T, p, rfl⟩, hb4⟩))
   exact ⟨rfl, ⟨T, p, rfl⟩, hb4⟩
  | some l2 =>
   go_enter Tryz.func109, Tryz.ntmps109
   go_wp2_with (first | (go_at_call 130; (with_reducible refine HS14.out.mono ?_); rintro e w2 ⟨rfl, hb2⟩; have HS2 := Aside0.mk (HS.out.below hb2); have HO2 := Aside0.mk (others_below (e := 118) (b := some B) hb2)) | (go_at_call 107; (with_reducible refine (HT.out w2 HS2.out).mono ?_); rintro e w3 ⟨rfl, hs3, ho3⟩; have HS3 := Aside0.mk hs3; have HO3 := Aside0.mk (HO2.out.trans ho3); clear hs3 ho3) | (go_at_call 109; (refine (HI.out w3 HS3.out).mono ?_); rintro e w4 ⟨rfl, hs4, ho4⟩; have HS4 := Aside0.mk hs4; have HO4 := Aside0.mk (HO3.out.trans ho4); clear hs4 ho4) | (go_at_call 108; (with_reducible refine (put_calls 14 (by omega) HS4.out).mono ?_); rintro e w5 ⟨rfl, hs5, ho5⟩; have HS5 := Aside0.mk hs5; have HO5 := Aside0.mk (HO4.out.trans ho5); clear hs5 ho5))
   first | go_end0 | refine bodyPost_ret (results_none rfl _ _ _) rfl ?_
   exact ⟨rfl, HS5.out, HO5.out⟩
 | false =>
  rw [if_neg (by rw [h14]; exact Bool.false_ne_true)] at hr
  rw [h14] at S14
  have HS14 := Aside0.mk S14
  clear S14 h14
  have S15 := fun w' (hs : St w1 B n L w') => sees_calls 15 hs
  cases h15 : sees 15 L with
  | true =>
   rw [if_pos h15] at hr
   obtain ⟨x, l, rfl, hx, hps⟩ := pass_yes h15
   have HS15 := Aside0.mk S15
   rw [h15] at HS15
   obtain ⟨n', rfl⟩ := h.pos
   have HT := Aside0.mk (fun w' (hs : St w1 B (n' + 1) (x :: l) w') => take_calls 15 hw hs)
   rw [hps] at HT
   clear h S15 h15 hx hps
   cases hg : gd k .guard l with
   | none => rw [show gd k .guard ((x :: l).drop 1) = none from hg] at hr; cases hr
   | some r1 =>
    rw [show gd k .guard ((x :: l).drop 1) = some r1 from hg] at hr
    have HI := Aside0.mk (fun w' (hs : St w1 B n' l w') => ih .guard l r1 w' n' (by omega) hs hg)
    clear hg ih
    cases r1 with
    | none =>
     cases hr
     go_enter Tryz.func109, Tryz.ntmps109
     go_wp2_with (first | (go_at_call 130; first | ((with_reducible refine HS14.out.mono ?_); rintro e w2 ⟨rfl, hb2⟩; have HS2 := Aside0.mk (HS.out.below hb2); have HO2 := Aside0.mk (others_below (e := 118) (b := some B) hb2)) | ((with_reducible refine (HS15.out w2 HS2.out).mono ?_); rintro e w3 ⟨rfl, hb3⟩; have HS3 := Aside0.mk (HS2.out.below hb3); have HO3 := Aside0.mk (HO2.out.trans (others_below hb3)))) | (go_at_call 107; (with_reducible refine (HT.out w3 HS3.out).mono ?_); rintro e w4 ⟨rfl, hs4, ho4⟩; have HS4 := Aside0.mk hs4; clear hs4 ho4) | (go_at_call 61; (refine (HI.out w4 HS4.out).mono ?_); rintro e w5 ⟨⟨T, p, rfl⟩, hb5⟩))
     exact ⟨rfl, ⟨T, p, rfl⟩, hb5⟩
    | some l2 =>
     have hr2 : pass 16 l2 = r := by cases hr; rfl
     have HT2 := Aside0.mk (fun w' (hs : St w1 B (n' + 1) l2 w') => take_calls 16 hw hs)
     rw [hr2] at HT2
     clear hr hr2
     cases r with
     | none =>
      go_enter Tryz.func109, Tryz.ntmps109
      go_wp2_with (first | (go_at_call 130; first | ((with_reducible refine HS14.out.mono ?_); rintro e w2 ⟨rfl, hb2⟩; have HS2 := Aside0.mk (HS.out.below hb2); have HO2 := Aside0.mk (others_below (e := 118) (b := some B) hb2)) | ((with_reducible refine (HS15.out w2 HS2.out).mono ?_); rintro e w3 ⟨rfl, hb3⟩; have HS3 := Aside0.mk (HS2.out.below hb3); have HO3 := Aside0.mk (HO2.out.trans (others_below hb3)))) | (go_at_call 107; first | ((with_reducible refine (HT.out w3 HS3.out).mono ?_); rintro e w4 ⟨rfl, hs4, ho4⟩; have HS4 := Aside0.mk hs4; clear hs4 ho4) | ((with_reducible refine (HT2.out w5 (HS5.out.mono (Nat.le_succ _))).mono ?_); rintro e w6 ⟨⟨T, p, rfl⟩, hb6⟩)) | (go_at_call 61; (refine (HI.out w4 HS4.out).mono ?_); rintro e w5 ⟨rfl, hs5, ho5⟩; have HS5 := Aside0.mk hs5; clear hs5 ho5))
      exact ⟨rfl, ⟨T, p, rfl⟩, hb6⟩
     | some l3 =>
      go_enter Tryz.func109, Tryz.ntmps109
      go_wp2_with (first | (go_at_call 130; first | ((with_reducible refine HS14.out.mono ?_); rintro e w2 ⟨rfl, hb2⟩; have HS2 := Aside0.mk (HS.out.below hb2); have HO2 := Aside0.mk (others_below (e := 118) (b := some B) hb2)) | ((with_reducible refine (HS15.out w2 HS2.out).mono ?_); rintro e w3 ⟨rfl, hb3⟩; have HS3 := Aside0.mk (HS2.out.below hb3); have HO3 := Aside0.mk (HO2.out.trans (others_below hb3)))) | (go_at_call 107; first | ((with_reducible refine (HT.out w3 HS3.out).mono ?_); rintro e w4 ⟨rfl, hs4, ho4⟩; have HS4 := Aside0.mk hs4; have HO4 := Aside0.mk (HO3.out.trans ho4); clear hs4 ho4) | ((with_reducible refine (HT2.out w5 (HS5.out.mono (Nat.le_succ _))).mono ?_); rintro e w6 ⟨rfl, hs6, ho6⟩; have HS6 := Aside0.mk (hs6.mono (Nat.le_succ _)); have HO6 := Aside0.mk (HO5.out.trans ho6); clear hs6 ho6)) | (go_at_call 61; (refine (HI.out w4 HS4.out).mono ?_); rintro e w5 ⟨rfl, hs5, ho5⟩; have HS5 := Aside0.mk hs5; have HO5 := Aside0.mk (HO4.out.trans ho5); clear hs5 ho5))
      first | go_end0 | refine bodyPost_ret (results_none rfl _ _ _) rfl ?_
      exact ⟨rfl, HS6.out, HO6.out⟩
  | false =>
   rw [if_neg (by rw [h15]; exact Bool.false_ne_true)] at hr
   have HS15 := Aside0.mk S15
   rw [h15] at HS15
   clear h S15 h15
   cases hg : gd k .sum L with
   | none => rw [hg] at hr; cases hr
   | some r1 =>
    rw [hg] at hr
    have HI := Aside0.mk (fun w' (hs : St w1 B n L w') => ih .sum L r1 w' n (by omega) hs hg)
    clear hg
    cases r1 with
    | none =>
     cases hr
     go_enter Tryz.func109, Tryz.ntmps109
     go_wp2_with (first | (go_at_call 130; first | ((with_reducible refine HS14.out.mono ?_); rintro e w2 ⟨rfl, hb2⟩; have HS2 := Aside0.mk (HS.out.below hb2); have HO2 := Aside0.mk (others_below (e := 118) (b := some B) hb2)) | ((with_reducible refine (HS15.out w2 HS2.out).mono ?_); rintro e w3 ⟨rfl, hb3⟩; have HS3 := Aside0.mk (HS2.out.below hb3); have HO3 := Aside0.mk (HO2.out.trans (others_below hb3)))) | (go_at_call 131; (refine (HI.out w3 HS3.out).mono ?_); rintro e w4 ⟨⟨T, p, rfl⟩, hb4⟩))
     exact ⟨rfl, ⟨T, p, rfl⟩, hb4⟩
    | some l2 =>
     cases l2 with
     | nil =>
      cases hr
      go_enter Tryz.func109, Tryz.ntmps109
      go_wp2_with (first | (go_at_call 130; first | ((with_reducible refine HS14.out.mono ?_); rintro e w2 ⟨rfl, hb2⟩; have HS2 := Aside0.mk (HS.out.below hb2); have HO2 := Aside0.mk (others_below (e := 118) (b := some B) hb2)) | ((with_reducible refine (HS15.out w2 HS2.out).mono ?_); rintro e w3 ⟨rfl, hb3⟩; have HS3 := Aside0.mk (HS2.out.below hb3); have HO3 := Aside0.mk (HO2.out.trans (others_below hb3)))) | (go_at_call 131; (refine (HI.out w3 HS3.out).mono ?_); rintro e w4 ⟨rfl, hs4, ho4⟩; have HS4 := Aside0.mk hs4; obtain ⟨T, p, hp⟩ := hs4.wrong hw; obtain ⟨A, c, v, xs, h1, h2, h3, h4, h5, h6, h7⟩ := hs4; have c0 : w4.cell? ⟨B, 0, none⟩ = some (.slice A ([] : List S118).length c) := blk_cell h1.out 0; clear ho4))
      exact ⟨rfl, ⟨T, p, rfl⟩, HS4.out.old⟩
     | cons x l3 =>
      have HCP := Aside0.mk (compares_calls x.f0)
      have hxx : ∀ w' : World, St w1 B n (x :: l3) w' → ∃ (ad : Addr) (m c : Nat), ((m : Int) == 0) = false ∧ (0 : Int) < (m : Int) ∧ 0 < m ∧ w'.cell? ⟨B, 0, none⟩ = some (.slice (some ad) m c) ∧ w'.cell? ad = some (.int .i64 x.f0) := fun w' hs => hs.head
      cases hc : compares x.f0 with
      | false =>
       have hr0 : r = none := by
        have e : (match (some (some (x :: l3)) : R) with | none => none | some none => some none | some (some []) => some none | some (some (c :: r)) => if compares c.f0 = true then gd k .sum r else some none) = some none := if_neg (by rw [hc]; exact Bool.false_ne_true)
        exact Option.some.inj (hr.symm.trans e)
       subst hr0
       rw [hc] at HCP
       clear hr hc
       go_enter Tryz.func109, Tryz.ntmps109
       go_wp2_with (first | (go_at_call 130; first | ((with_reducible refine HS14.out.mono ?_); rintro e w2 ⟨rfl, hb2⟩; have HS2 := Aside0.mk (HS.out.below hb2); have HO2 := Aside0.mk (others_below (e := 118) (b := some B) hb2)) | ((with_reducible refine (HS15.out w2 HS2.out).mono ?_); rintro e w3 ⟨rfl, hb3⟩; have HS3 := Aside0.mk (HS2.out.below hb3); have HO3 := Aside0.mk (HO2.out.trans (others_below hb3)))) | (go_at_call 131; (refine (HI.out w3 HS3.out).mono ?_); rintro e w4 ⟨rfl, hs4, ho4⟩; have HS4 := Aside0.mk hs4; obtain ⟨T, p, hp⟩ := hs4.wrong hw; obtain ⟨ad, m, c, hne, hi, hi', c0, e2⟩ := hxx w4 hs4; clear hs4 ho4) | (go_at_call 132; (with_reducible refine (HCP.out _).mono ?_); rintro e w5 ⟨rfl, rfl⟩))
       exact ⟨rfl, ⟨T, p, rfl⟩, HS4.out.old⟩
      | true =>
       rw [hc] at HCP
       have hr0 : gd k .sum l3 = some r := by
        have e : (match (some (some (x :: l3)) : R) with | none => none | some none => some none | some (some []) => some none | some (some (c :: r)) => if compares c.f0 = true then gd k .sum r else some none) = gd k .sum l3 := if_pos hc
        exact e.symm.trans hr
       have HT : Aside0 (∀ n' w', St w1 B (n' + 1) (x :: l3) w' → Calls Tryz.prog 107 #[.pointer (some ⟨B, 0, none⟩), .int .i64 x.f0] w' (Ends w1 w' B n' (some l3))) := ⟨fun n' w' hs => by
        have h := take_calls x.f0 hw hs
        rw [show pass x.f0 (x :: l3) = some l3 from if_pos rfl] at h
        exact h⟩
       have HJ := Aside0.mk (fun n' w' (hn : n' + 1 ≤ 999) (hs : St w1 B n' l3 w') => ih .sum l3 r w' n' (by omega) hs hr0)
       clear hr hc hr0 ih
       cases r with
       | none =>
        go_enter Tryz.func109, Tryz.ntmps109
        go_wp2_with (first | (go_at_call 130; first | ((with_reducible refine HS14.out.mono ?_); rintro e w2 ⟨rfl, hb2⟩; have HS2 := Aside0.mk (HS.out.below hb2); have HO2 := Aside0.mk (others_below (e := 118) (b := some B) hb2)) | ((with_reducible refine (HS15.out w2 HS2.out).mono ?_); rintro e w3 ⟨rfl, hb3⟩; have HS3 := Aside0.mk (HS2.out.below hb3); have HO3 := Aside0.mk (HO2.out.trans (others_below hb3)))) | (go_at_call 131; first | ((refine (HI.out w3 HS3.out).mono ?_); rintro e w4 ⟨rfl, hs4, ho4⟩; obtain ⟨n', rfl⟩ := hs4.pos; have HS4 := Aside0.mk hs4; obtain ⟨ad, m, c, hne, hi, hi', c0, e2⟩ := hxx w4 hs4; clear hs4 ho4) | ((refine (HJ.out n' w6 hn HS6.out).mono ?_); rintro e w7 ⟨⟨T, p, rfl⟩, hb7⟩)) | (go_at_call 132; (with_reducible refine (HCP.out _).mono ?_); rintro e w5 ⟨rfl, rfl⟩) | (go_at_call 107; (with_reducible refine (HT.out n' w5 HS4.out).mono ?_); rintro e w6 ⟨rfl, hs6, ho6⟩; have HS6 := Aside0.mk hs6; clear hs6 ho6))
        exact ⟨rfl, ⟨T, p, rfl⟩, hb7⟩
       | some l4 =>
        go_enter Tryz.func109, Tryz.ntmps109
        go_wp2_with (first | (go_at_call 130; first | ((with_reducible refine HS14.out.mono ?_); rintro e w2 ⟨rfl, hb2⟩; have HS2 := Aside0.mk (HS.out.below hb2); have HO2 := Aside0.mk (others_below (e := 118) (b := some B) hb2)) | ((with_reducible refine (HS15.out w2 HS2.out).mono ?_); rintro e w3 ⟨rfl, hb3⟩; have HS3 := Aside0.mk (HS2.out.below hb3); have HO3 := Aside0.mk (HO2.out.trans (others_below hb3)))) | (go_at_call 131; first | ((refine (HI.out w3 HS3.out).mono ?_); rintro e w4 ⟨rfl, hs4, ho4⟩; obtain ⟨n', rfl⟩ := hs4.pos; have HS4 := Aside0.mk hs4; have HO4 := Aside0.mk (HO3.out.trans ho4); obtain ⟨ad, m, c, hne, hi, hi', c0, e2⟩ := hxx w4 hs4; clear hs4 ho4) | ((refine (HJ.out n' w6 hn HS6.out).mono ?_); rintro e w7 ⟨rfl, hs7, ho7⟩; have HS7 := Aside0.mk hs7; have HO7 := Aside0.mk (HO6.out.trans ho7); clear hs7 ho7)) | (go_at_call 132; (with_reducible refine (HCP.out _).mono ?_); rintro e w5 ⟨rfl, rfl⟩) | (go_at_call 107; (with_reducible refine (HT.out n' w5 HS4.out).mono ?_); rintro e w6 ⟨rfl, hs6, ho6⟩; have HS6 := Aside0.mk hs6; have HO6 := Aside0.mk (HO4.out.trans ho6); clear hs6 ho6) | (go_at_call 108; (with_reducible refine (put_calls x.f0 (by omega) HS7.out).mono ?_); rintro e w8 ⟨rfl, hs8, ho8⟩; have HS8 := Aside0.mk hs8; have HO8 := Aside0.mk (HO7.out.trans ho8); clear hs8 ho8))
        go_end0
        exact ⟨rfl, HS8.out, HO8.out⟩
set_option maxHeartbeats 8000000 in
theorem factor_calls {w1 : World} {B k : Nat} (hw : Wrong w1) (ih : Told w1 B k) (L : List S118) (r : Option (List S118)) (wc : World) (n : Nat) (hn : n ≤ 999) (h : St w1 B n L wc) (hr : gd (k + 1) .factor L = some r) :
  Calls Tryz.prog 154 #[.pointer (some ⟨B, 0, none⟩)] wc (Ends w1 wc B n r) := by
 unfold gd at hr
 have HS := Aside0.mk h
 have S1 := sees_calls 1 h
 have HS1 := Aside0.mk S1
 have HS2 := Aside0.mk (fun w' (hs : St w1 B n L w') => sees_calls 2 hs)
 have HS4 := Aside0.mk (fun w' (hs : St w1 B n L w') => sees_calls 4 hs)
 clear S1
 cases h12 : (sees 1 L || sees 2 L) with
 | true =>
  rw [if_pos h12] at hr
  obtain ⟨x, l, rfl⟩ : ∃ x l, L = x :: l := by
   cases L with
   | nil => cases h12
   | cons x l => exact ⟨x, l, rfl⟩
  cases hr
  obtain ⟨n', rfl⟩ := h.pos
  clear h HS4
  go_enter Tryz.func154, Tryz.ntmps154
  cases h1 : sees 1 (x :: l) with
  | true =>
   rw [h1] at HS1
   clear h12 h1 HS2
   go_wp2_with (go_at_call 130; (with_reducible refine HS1.out.mono ?_); rintro e w2 ⟨rfl, hb2⟩; have HT2 := Aside0.mk (HS.out.below hb2); have HO2 := Aside0.mk (others_below (e := 118) (b := some B) hb2); obtain ⟨A, c, v, xs, h1, h2, h3, h4, h5, h6, h7⟩ := HT2.out; obtain ⟨ad, rfl, e0, e1⟩ := at_T118 (Kd.C_below h3.out h7.out) 0 (by omega) (by rw [List.length_cons]; omega))
   have BNE := Aside0.mk (Kd.R_ne h4.out h1.out (by decide))
   have HT3 := HT2.out.below (below_drew1 (Below.refl _ _))
   have HX := Aside0.mk (Kd.R_drew h4.out)
   have HY := Aside0.mk (below_drew1 h7.out)
   have b1 := Aside0.mk (blk_drew h1.out)
   have hlen : xs.length ≤ 1000 := by have := h5.out; omega
   have hsz : w1.heap.size ≤ w2.drew.heap.size := below_size HY.out
   obtain ⟨m, hm⟩ : ∃ m, (x :: l).length = m := ⟨_, rfl⟩
   have hi : (0 : Int) < (m : Int) := by rw [← hm, List.length_cons]; omega
   have hi' : 0 < m := by rw [← hm, List.length_cons]; omega
   have hx : rd_T118 (x :: l) 0 = x := rfl
   have q0 : w2.drew.cell? ⟨B, 0, none⟩ = some (.slice (some ad) m c) := by rw [← hm]; exact blk_cell b1.out 0
   have q1 : w2.drew.cell? ⟨B, 1, none⟩ = some v := blk_cell b1.out 1
   obtain ⟨ad2, had, d0, d1⟩ := at_T118 (Kd.C_below h3.out HY.out) 0 (by omega) (by rw [List.length_cons]; omega)
   cases had
   rw [hx] at d0 d1
   have d2 : w2.drew.cell? ad = some (.int .i64 x.f0) := d0
   have d3 : w2.drew.cell? ⟨ad.block, ad.off + 1, none⟩ = some (.int .i64 x.f1) := d1
   have q2 : (w2.alloc (.cells #[.int .i64 x.f0, .int .i64 x.f1] 118)).cell? ⟨B, 1, none⟩ = some v := blk_cell (blk_alloc h1.out _) 1
   clear e0 e1 d0 d1 hx
   have HM := Aside0.mk hm
   clear hm
   go_region_law (first | ((refine Kd.R_append_step k118 (w0 := w1) (W := w2.drew) w1.heap.size rfl (.tmp 17) (.tmp 24) 71 118 (.agg #[(.int .i64 0), (.int .i64 0)]) 16 rfl Tryz.underlying71 info118 rfl (by decide) (by omega) v xs x [.int .i64 x.f0, .int .i64 x.f1] (fun _ => True) (fun _ => False) (by simp [Act.eval, Act.put]) (by simp [Act.eval, Act.put]) (k118_mkM _ _ _ x) (fun _ hk => hk.elim) (fun _ _ => trivial) HX.out HY.out hsz (by omega) ?_); intro v1 w3 ho hb hg hat; obtain ⟨A3, c3, rfl⟩ := Kd.R_slice ho; have HR3 : Aside0 (k118.R 118 w3 w1.heap.size (fun _ => True) (.slice A3 (xs.length + 1) c3) (xs ++ [x])) := ⟨by rw [List.length_append, List.length_singleton] at ho; exact ho⟩; have HB3 := Aside0.mk hb; have HG3 := Aside0.mk (Lib.OthersKept.grown (Lib.OthersKept.refl 118 (some B) w2.drew) hg (fun g hg1 => by obtain ⟨cells, hc⟩ := Kd.R_typed HX.out g hg1; exact ⟨cells, _, hc⟩)); have h13 := Aside0.mk (blk_grown b1.out hg BNE.out); have c13 : w3.cell? ⟨B, 1, none⟩ = some v := blk_cell h13.out 1; have f13 : w3.frozen? ⟨B, 1, none⟩ = false := blk_frozen h13.out 1) | go_simp)
   all_goals
    have h14 : (w3.setCell ⟨B, 1, none⟩ (.slice A3 (xs.length + 1) c3)).heap[B]? = some (.cells #[.slice (some ad) (x :: l).length c, .slice A3 (xs.length + 1) c3] 87 (0, 0)) := blk_put h13.out 1 _ rfl
    have HS4 : St w1 B (n' + 1 + 1) (x :: l) (w3.setCell ⟨B, 1, none⟩ (.slice A3 (xs.length + 1) c3)) := ⟨some ad, c, _, xs ++ [x], ⟨h14⟩, h2, h3, ⟨Kd.R_set HR3.out h13.out k118_far 1 _⟩, ⟨by have := h5.out; rw [List.length_append, List.length_singleton]; omega⟩, h6, ⟨below_set HB3.out h6.out⟩⟩
    have H14 := Aside0.mk h14
    have HS5 := Aside0.mk HS4
    have HO5 : Aside0 (Lib.OthersKept 118 (some B) wc (w3.setCell ⟨B, 1, none⟩ (.slice A3 (xs.length + 1) c3))) := ⟨Lib.OthersKept.setCell (HO2.out.trans HG3.out) ⟨B, 1, none⟩ rfl _⟩
    have c04 : (w3.setCell ⟨B, 1, none⟩ (.slice A3 (xs.length + 1) c3)).cell? ⟨B, 0, none⟩ = some (.slice (some ad) (l.length + 1) c) := blk_cell h14 0
    have f04 : (w3.setCell ⟨B, 1, none⟩ (.slice A3 (xs.length + 1) c3)).frozen? ⟨B, 0, none⟩ = false := blk_frozen h14 0
    obtain ⟨w4, hw4⟩ : ∃ w4, w3.setCell ⟨B, 1, none⟩ (.slice A3 (xs.length + 1) c3) = w4 := ⟨_, rfl⟩
    rw [hw4] at c04 f04 HO5 HS5 H14 ⊢
    have h2c := h2.out
    rw [List.length_cons] at h2c
    clear h14 HS4 c13 f13 h13 HR3 HB3 HG3 q0 q1 q2 d2 d3 HX HY b1 h1 h2 h3 h4 h5 h7 hw4 hi hi'
    go_wp2
    all_goals go_end0
   all_goals (have e := St.drop HS5.out H14.out; first | (rw [if_neg h] at e; exact ⟨rfl, e, Lib.OthersKept.setCell HO5.out ⟨B, 0, none⟩ rfl _⟩) | (subst h; exact ⟨rfl, e, Lib.OthersKept.setCell HO5.out ⟨B, 0, none⟩ rfl _⟩))
  | false =>
   rw [h1] at HS1
   have h2s : sees 2 (x :: l) = true := by rw [h1] at h12; exact h12
   rw [h2s] at HS2
   clear h12 h1 h2s
   go_wp2_with (go_at_call 130; first | ((with_reducible refine HS1.out.mono ?_); rintro e wa ⟨rfl, hba⟩; have HTa := Aside0.mk (HS.out.below hba); have HOa := Aside0.mk (others_below (e := 118) (b := some B) hba)) | ((with_reducible refine (HS2.out wa HTa.out).mono ?_); rintro e w2 ⟨rfl, hb2⟩; have HT2 := Aside0.mk (HTa.out.below hb2); have HO2 := Aside0.mk (HOa.out.trans (others_below (e := 118) (b := some B) hb2)); obtain ⟨A, c, v, xs, h1, h2, h3, h4, h5, h6, h7⟩ := HT2.out; obtain ⟨ad, rfl, e0, e1⟩ := at_T118 (Kd.C_below h3.out h7.out) 0 (by omega) (by rw [List.length_cons]; omega)))
   have BNE := Aside0.mk (Kd.R_ne h4.out h1.out (by decide))
   have HT3 := HT2.out.below (below_drew1 (Below.refl _ _))
   have HX := Aside0.mk (Kd.R_drew h4.out)
   have HY := Aside0.mk (below_drew1 h7.out)
   have b1 := Aside0.mk (blk_drew h1.out)
   have hlen : xs.length ≤ 1000 := by have := h5.out; omega
   have hsz : w1.heap.size ≤ w2.drew.heap.size := below_size HY.out
   obtain ⟨m, hm⟩ : ∃ m, (x :: l).length = m := ⟨_, rfl⟩
   have hi : (0 : Int) < (m : Int) := by rw [← hm, List.length_cons]; omega
   have hi' : 0 < m := by rw [← hm, List.length_cons]; omega
   have hx : rd_T118 (x :: l) 0 = x := rfl
   have q0 : w2.drew.cell? ⟨B, 0, none⟩ = some (.slice (some ad) m c) := by rw [← hm]; exact blk_cell b1.out 0
   have q1 : w2.drew.cell? ⟨B, 1, none⟩ = some v := blk_cell b1.out 1
   obtain ⟨ad2, had, d0, d1⟩ := at_T118 (Kd.C_below h3.out HY.out) 0 (by omega) (by rw [List.length_cons]; omega)
   cases had
   rw [hx] at d0 d1
   have d2 : w2.drew.cell? ad = some (.int .i64 x.f0) := d0
   have d3 : w2.drew.cell? ⟨ad.block, ad.off + 1, none⟩ = some (.int .i64 x.f1) := d1
   have q2 : (w2.alloc (.cells #[.int .i64 x.f0, .int .i64 x.f1] 118)).cell? ⟨B, 1, none⟩ = some v := blk_cell (blk_alloc h1.out _) 1
   clear e0 e1 d0 d1 hx
   have HM := Aside0.mk hm
   clear hm
   go_region_law (first | ((refine Kd.R_append_step k118 (w0 := w1) (W := w2.drew) w1.heap.size rfl (.tmp 17) (.tmp 24) 71 118 (.agg #[(.int .i64 0), (.int .i64 0)]) 16 rfl Tryz.underlying71 info118 rfl (by decide) (by omega) v xs x [.int .i64 x.f0, .int .i64 x.f1] (fun _ => True) (fun _ => False) (by simp [Act.eval, Act.put]) (by simp [Act.eval, Act.put]) (k118_mkM _ _ _ x) (fun _ hk => hk.elim) (fun _ _ => trivial) HX.out HY.out hsz (by omega) ?_); intro v1 w3 ho hb hg hat; obtain ⟨A3, c3, rfl⟩ := Kd.R_slice ho; have HR3 : Aside0 (k118.R 118 w3 w1.heap.size (fun _ => True) (.slice A3 (xs.length + 1) c3) (xs ++ [x])) := ⟨by rw [List.length_append, List.length_singleton] at ho; exact ho⟩; have HB3 := Aside0.mk hb; have HG3 := Aside0.mk (Lib.OthersKept.grown (Lib.OthersKept.refl 118 (some B) w2.drew) hg (fun g hg1 => by obtain ⟨cells, hc⟩ := Kd.R_typed HX.out g hg1; exact ⟨cells, _, hc⟩)); have h13 := Aside0.mk (blk_grown b1.out hg BNE.out); have c13 : w3.cell? ⟨B, 1, none⟩ = some v := blk_cell h13.out 1; have f13 : w3.frozen? ⟨B, 1, none⟩ = false := blk_frozen h13.out 1) | go_simp)
   all_goals
    have h14 : (w3.setCell ⟨B, 1, none⟩ (.slice A3 (xs.length + 1) c3)).heap[B]? = some (.cells #[.slice (some ad) (x :: l).length c, .slice A3 (xs.length + 1) c3] 87 (0, 0)) := blk_put h13.out 1 _ rfl
    have HS4 : St w1 B (n' + 1 + 1) (x :: l) (w3.setCell ⟨B, 1, none⟩ (.slice A3 (xs.length + 1) c3)) := ⟨some ad, c, _, xs ++ [x], ⟨h14⟩, h2, h3, ⟨Kd.R_set HR3.out h13.out k118_far 1 _⟩, ⟨by have := h5.out; rw [List.length_append, List.length_singleton]; omega⟩, h6, ⟨below_set HB3.out h6.out⟩⟩
    have H14 := Aside0.mk h14
    have HS5 := Aside0.mk HS4
    have HO5 : Aside0 (Lib.OthersKept 118 (some B) wc (w3.setCell ⟨B, 1, none⟩ (.slice A3 (xs.length + 1) c3))) := ⟨Lib.OthersKept.setCell (HO2.out.trans HG3.out) ⟨B, 1, none⟩ rfl _⟩
    have c04 : (w3.setCell ⟨B, 1, none⟩ (.slice A3 (xs.length + 1) c3)).cell? ⟨B, 0, none⟩ = some (.slice (some ad) (l.length + 1) c) := blk_cell h14 0
    have f04 : (w3.setCell ⟨B, 1, none⟩ (.slice A3 (xs.length + 1) c3)).frozen? ⟨B, 0, none⟩ = false := blk_frozen h14 0
    obtain ⟨w4, hw4⟩ : ∃ w4, w3.setCell ⟨B, 1, none⟩ (.slice A3 (xs.length + 1) c3) = w4 := ⟨_, rfl⟩
    rw [hw4] at c04 f04 HO5 HS5 H14 ⊢
    have h2c := h2.out
    rw [List.length_cons] at h2c
    clear h14 HS4 c13 f13 h13 HR3 HB3 HG3 q0 q1 q2 d2 d3 HX HY b1 h1 h2 h3 h4 h5 h7 hw4 hi hi'
    go_wp2
    all_goals go_end0
   all_goals (have e := St.drop HS5.out H14.out; first | (rw [if_neg h] at e; exact ⟨rfl, e, Lib.OthersKept.setCell HO5.out ⟨B, 0, none⟩ rfl _⟩) | (subst h; exact ⟨rfl, e, Lib.OthersKept.setCell HO5.out ⟨B, 0, none⟩ rfl _⟩))
 | false =>
  rw [if_neg (by rw [h12]; exact Bool.false_ne_true)] at hr
  have h1 : sees 1 L = false := by cases h : sees 1 L with | false => rfl | true => rw [h] at h12; cases h12
  have h2 : sees 2 L = false := by cases h : sees 2 L with | false => rfl | true => rw [h, Bool.or_true] at h12; cases h12
  rw [h1] at HS1
  rw [h2] at HS2
  clear h12 h1 h2
  cases h4 : sees 4 L with
  | true =>
   rw [if_pos h4] at hr
   rw [h4] at HS4
   obtain ⟨x, l, rfl, hx, hps⟩ := pass_yes h4
   obtain ⟨n', rfl⟩ := h.pos
   have HT := Aside0.mk (fun w' (hs : St w1 B (n' + 1) (x :: l) w') => take_calls 4 hw hs)
   rw [hps] at HT
   have HI := Aside0.mk (fun w' (hs : St w1 B n' l w') => ih .factor l r w' n' (by omega) hs hr)
   clear h hr h4 hx hps ih
   cases r with
   | none =>
    go_enter Tryz.func154, Tryz.ntmps154
    go_wp2_with (first | (go_at_call 130; first | ((with_reducible refine HS1.out.mono ?_); rintro e w2 ⟨rfl, hb2⟩; have HT2a := Aside0.mk (HS.out.below hb2); have HO2 := Aside0.mk (others_below (e := 118) (b := some B) hb2)) | ((with_reducible refine (HS2.out w2 HT2a.out).mono ?_); rintro e w3 ⟨rfl, hb3⟩; have HT3 := Aside0.mk (HT2a.out.below hb3); have HO3 := Aside0.mk (HO2.out.trans (others_below hb3))) | ((with_reducible refine (HS4.out w3 HT3.out).mono ?_); rintro e w4 ⟨rfl, hb4⟩; have HT4 := Aside0.mk (HT3.out.below hb4); have HO4 := Aside0.mk (HO3.out.trans (others_below hb4)))) | (go_at_call 107; (with_reducible refine (HT.out w4 HT4.out).mono ?_); rintro e w5 ⟨rfl, hs5, ho5⟩; have HT5 := Aside0.mk hs5; clear hs5 ho5) | (go_at_call 154; (refine (HI.out w5 HT5.out).mono ?_); rintro e w6 ⟨⟨T, p, rfl⟩, hb6⟩))
    exact ⟨rfl, ⟨T, p, rfl⟩, hb6⟩
   | some l2 =>
    go_enter Tryz.func154, Tryz.ntmps154
    go_wp2_with (first | (go_at_call 130; first | ((with_reducible refine HS1.out.mono ?_); rintro e w2 ⟨rfl, hb2⟩; have HT2a := Aside0.mk (HS.out.below hb2); have HO2 := Aside0.mk (others_below (e := 118) (b := some B) hb2)) | ((with_reducible refine (HS2.out w2 HT2a.out).mono ?_); rintro e w3 ⟨rfl, hb3⟩; have HT3 := Aside0.mk (HT2a.out.below hb3); have HO3 := Aside0.mk (HO2.out.trans (others_below hb3))) | ((with_reducible refine (HS4.out w3 HT3.out).mono ?_); rintro e w4 ⟨rfl, hb4⟩; have HT4 := Aside0.mk (HT3.out.below hb4); have HO4 := Aside0.mk (HO3.out.trans (others_below hb4)))) | (go_at_call 107; (with_reducible refine (HT.out w4 HT4.out).mono ?_); rintro e w5 ⟨rfl, hs5, ho5⟩; have HT5 := Aside0.mk hs5; have HO5 := Aside0.mk (HO4.out.trans ho5); clear hs5 ho5) | (go_at_call 154; (refine (HI.out w5 HT5.out).mono ?_); rintro e w6 ⟨rfl, hs6, ho6⟩; have HT6 := Aside0.mk hs6; have HO6 := Aside0.mk (HO5.out.trans ho6); clear hs6 ho6) | (go_at_call 108; (with_reducible refine (put_calls 19 (by omega) HT6.out).mono ?_); rintro e w7 ⟨rfl, hs7, ho7⟩; have HT7 := Aside0.mk hs7; have HO7 := Aside0.mk (HO6.out.trans ho7); clear hs7 ho7))
    go_end0
    exact ⟨rfl, HT7.out, HO7.out⟩
  | false =>
   rw [if_neg (by rw [h4]; exact Bool.false_ne_true)] at hr
   rw [h4] at HS4
   clear h4
   cases h17 : sees 17 L with
   | false =>
    rw [if_neg (by rw [h17]; exact Bool.false_ne_true)] at hr
    cases hr
    have HT := Aside0.mk (fun w' (hs : St w1 B (n + 1) L w') => take_calls 17 hw hs)
    rw [pass_no h17] at HT
    clear h h17 ih
    go_enter Tryz.func154, Tryz.ntmps154
    go_wp2_with (first | (go_at_call 130; first | ((with_reducible refine HS1.out.mono ?_); rintro e w2 ⟨rfl, hb2⟩; have HT2a := Aside0.mk (HS.out.below hb2); have HO2 := Aside0.mk (others_below (e := 118) (b := some B) hb2)) | ((with_reducible refine (HS2.out w2 HT2a.out).mono ?_); rintro e w3 ⟨rfl, hb3⟩; have HT3 := Aside0.mk (HT2a.out.below hb3); have HO3 := Aside0.mk (HO2.out.trans (others_below hb3))) | ((with_reducible refine (HS4.out w3 HT3.out).mono ?_); rintro e w4 ⟨rfl, hb4⟩; have HT4 := Aside0.mk (HT3.out.below hb4); have HO4 := Aside0.mk (HO3.out.trans (others_below hb4)))) | (go_at_call 107; (with_reducible refine (HT.out w4 (HT4.out.mono (Nat.le_succ _))).mono ?_); rintro e w5 ⟨⟨T, p, rfl⟩, hb5⟩))
    exact ⟨rfl, ⟨T, p, rfl⟩, hb5⟩
   | true =>
    rw [if_pos h17] at hr
    obtain ⟨x, l, rfl, hx, hps⟩ := pass_yes h17
    obtain ⟨n', rfl⟩ := h.pos
    have HT := Aside0.mk (fun w' (hs : St w1 B (n' + 1) (x :: l) w') => take_calls 17 hw hs)
    rw [hps] at HT
    clear h h17 hx hps
    cases hg : gd k .sum l with
    | none => rw [show gd k .sum ((x :: l).drop 1) = none from hg] at hr; cases hr
    | some r1 =>
     rw [show gd k .sum ((x :: l).drop 1) = some r1 from hg] at hr
     have HI := Aside0.mk (fun w' (hs : St w1 B n' l w') => ih .sum l r1 w' n' (by omega) hs hg)
     clear hg ih
     cases r1 with
     | none =>
      cases hr
      go_enter Tryz.func154, Tryz.ntmps154
      go_wp2_with (first | (go_at_call 130; first | ((with_reducible refine HS1.out.mono ?_); rintro e w2 ⟨rfl, hb2⟩; have HT2a := Aside0.mk (HS.out.below hb2); have HO2 := Aside0.mk (others_below (e := 118) (b := some B) hb2)) | ((with_reducible refine (HS2.out w2 HT2a.out).mono ?_); rintro e w3 ⟨rfl, hb3⟩; have HT3 := Aside0.mk (HT2a.out.below hb3); have HO3 := Aside0.mk (HO2.out.trans (others_below hb3))) | ((with_reducible refine (HS4.out w3 HT3.out).mono ?_); rintro e w4 ⟨rfl, hb4⟩; have HT4 := Aside0.mk (HT3.out.below hb4); have HO4 := Aside0.mk (HO3.out.trans (others_below hb4)))) | (go_at_call 107; (with_reducible refine (HT.out w4 HT4.out).mono ?_); rintro e w5 ⟨rfl, hs5, ho5⟩; have HT5 := Aside0.mk hs5; clear hs5 ho5) | (go_at_call 131; (refine (HI.out w5 HT5.out).mono ?_); rintro e w6 ⟨⟨T, p, rfl⟩, hb6⟩))
      exact ⟨rfl, ⟨T, p, rfl⟩, hb6⟩
     | some l2 =>
      have hr2 : pass 18 l2 = r := by cases hr; rfl
      have HT2 := Aside0.mk (fun w' (hs : St w1 B (n' + 1) l2 w') => take_calls 18 hw hs)
      rw [hr2] at HT2
      clear hr hr2
      cases r with
      | none =>
       go_enter Tryz.func154, Tryz.ntmps154
       go_wp2_with (first | (go_at_call 130; first | ((with_reducible refine HS1.out.mono ?_); rintro e w2 ⟨rfl, hb2⟩; have HT2a := Aside0.mk (HS.out.below hb2); have HO2 := Aside0.mk (others_below (e := 118) (b := some B) hb2)) | ((with_reducible refine (HS2.out w2 HT2a.out).mono ?_); rintro e w3 ⟨rfl, hb3⟩; have HT3 := Aside0.mk (HT2a.out.below hb3); have HO3 := Aside0.mk (HO2.out.trans (others_below hb3))) | ((with_reducible refine (HS4.out w3 HT3.out).mono ?_); rintro e w4 ⟨rfl, hb4⟩; have HT4 := Aside0.mk (HT3.out.below hb4); have HO4 := Aside0.mk (HO3.out.trans (others_below hb4)))) | (go_at_call 107; first | ((with_reducible refine (HT.out w4 HT4.out).mono ?_); rintro e w5 ⟨rfl, hs5, ho5⟩; have HT5 := Aside0.mk hs5; clear hs5 ho5) | ((with_reducible refine (HT2.out w6 (HT6.out.mono (Nat.le_succ _))).mono ?_); rintro e w7 ⟨⟨T, p, rfl⟩, hb7⟩)) | (go_at_call 131; (refine (HI.out w5 HT5.out).mono ?_); rintro e w6 ⟨rfl, hs6, ho6⟩; have HT6 := Aside0.mk hs6; clear hs6 ho6))
       exact ⟨rfl, ⟨T, p, rfl⟩, hb7⟩
      | some l3 =>
       go_enter Tryz.func154, Tryz.ntmps154
       go_wp2_with (first | (go_at_call 130; first | ((with_reducible refine HS1.out.mono ?_); rintro e w2 ⟨rfl, hb2⟩; have HT2a := Aside0.mk (HS.out.below hb2); have HO2 := Aside0.mk (others_below (e := 118) (b := some B) hb2)) | ((with_reducible refine (HS2.out w2 HT2a.out).mono ?_); rintro e w3 ⟨rfl, hb3⟩; have HT3 := Aside0.mk (HT2a.out.below hb3); have HO3 := Aside0.mk (HO2.out.trans (others_below hb3))) | ((with_reducible refine (HS4.out w3 HT3.out).mono ?_); rintro e w4 ⟨rfl, hb4⟩; have HT4 := Aside0.mk (HT3.out.below hb4); have HO4 := Aside0.mk (HO3.out.trans (others_below hb4)))) | (go_at_call 107; first | ((with_reducible refine (HT.out w4 HT4.out).mono ?_); rintro e w5 ⟨rfl, hs5, ho5⟩; have HT5 := Aside0.mk hs5; have HO5 := Aside0.mk (HO4.out.trans ho5); clear hs5 ho5) | ((with_reducible refine (HT2.out w6 (HT6.out.mono (Nat.le_succ _))).mono ?_); rintro e w7 ⟨rfl, hs7, ho7⟩; have HT7 := Aside0.mk (hs7.mono (Nat.le_succ _)); have HO7 := Aside0.mk (HO6.out.trans ho7); clear hs7 ho7)) | (go_at_call 131; (refine (HI.out w5 HT5.out).mono ?_); rintro e w6 ⟨rfl, hs6, ho6⟩; have HT6 := Aside0.mk hs6; have HO6 := Aside0.mk (HO5.out.trans ho6); clear hs6 ho6))
       go_end0
       exact ⟨rfl, HT7.out, HO7.out⟩
/-- Every method, with however many rounds. -/
theorem told {w1 : World} {B : Nat} (hw : Wrong w1) : ∀ k, Told w1 B k := by
 intro k
 induction k with
 | zero => intro nt L r wc n hn h hr; cases hr
 | succ k ih =>
  intro nt L r wc n hn h hr
  cases nt with
  | guard => exact guard_calls hw ih L r wc n hn h hr
  | some => exact some_calls hw ih L r wc n hn h hr
  | one => exact one_calls hw ih L r wc n hn h hr
  | sum => exact sum_calls hw ih L r wc n hn h hr
  | product => exact product_calls hw ih L r wc n hn h hr
  | factor => exact factor_calls hw ih L r wc n hn h hr
end Go.Proofs.YtcaegaljhogbjaaGreatDoor.Gd
