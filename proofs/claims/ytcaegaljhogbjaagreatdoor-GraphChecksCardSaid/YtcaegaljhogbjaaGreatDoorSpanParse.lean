/- span.Parse: the walk over its labels. -/
import Derived.Test.YtcaegaljhogbjaaGreatDoorSpanNext
import Derived.Test.YtcaegaljhogbjaaGreatDoorGoto
import Derived.WalkMore
import Derived.Outline
import Derived.Lib.Hide
namespace Go.Proofs.YtcaegaljhogbjaaGreatDoor.Span
open Go.RowKit Go.Proofs.YtcaegaljhogbjaaGreatDoorW.PrintWords Go.Proofs.YtcaegaljhogbjaaGreatDoor.Ext Go.Proofs.YtcaegaljhogbjaaGreatDoor.B Go.Proofs.YtcaegaljhogbjaaGreatDoor.Goto
set_option linter.unusedVariables false

theorem cut_yes (c : UInt8) (r : List UInt8) (w : World) :
  Calls Tryz.prog 73 #[.string (S (c :: r)), .string ⟨#[c]⟩] w fun e w' => e = .returned (.tuple #[.string (S r), .bool true]) ∧ Drawn0 w w' := by
 refine (Tryz.strings_CutPrefix (S (c :: r)) ⟨#[c]⟩ w).mono ?_
 rintro e w' ⟨rfl, rfl⟩
 refine ⟨?_, Drawn0.refl _⟩
 simp [S, Lib.trimPrefix, Lib.hasPrefix]
theorem cut_no (c : UInt8) (l : List UInt8) (h : l.head? ≠ some c) (w : World) :
  Calls Tryz.prog 73 #[.string (S l), .string ⟨#[c]⟩] w fun e w' => e = .returned (.tuple #[.string (S l), .bool false]) ∧ Drawn0 w w' := by
 refine (Tryz.strings_CutPrefix (S l) ⟨#[c]⟩ w).mono ?_
 rintro e w' ⟨rfl, rfl⟩
 refine ⟨?_, Drawn0.refl _⟩
 cases l with
 | nil => simp [S, Lib.trimPrefix, Lib.hasPrefix]
 | cons d l =>
  have h1 : ¬ c = d := by intro e; apply h; rw [e]; rfl
  have h2 : [c].isPrefixOf (d :: l) = false := by simp [List.isPrefixOf, h1]
  simp [S, Lib.trimPrefix, Lib.hasPrefix, h2]
theorem pre_is (c : UInt8) (l : List UInt8) (b : Bool) (h : (l.head? == some c) = b) (w : World) :
  Calls Tryz.prog 74 #[.string (S l), .string ⟨#[c]⟩] w fun e w' => e = .returned (.bool b) ∧ Drawn0 w w' := by
 refine (Tryz.strings_HasPrefix (S l) ⟨#[c]⟩ w).mono ?_
 rintro e w' ⟨rfl, rfl⟩
 refine ⟨?_, Drawn0.refl _⟩
 rw [← h]
 cases l with
 | nil => simp [S, Lib.hasPrefix]
 | cons d l =>
  have h2 : [c].isPrefixOf (d :: l) = (d == c) := by simp [List.isPrefixOf, BEq.comm]
  simp [S, Lib.hasPrefix, h2]
theorem place_calls (u : Nat) (hu : u < 256) (w : World) :
  Calls Tryz.prog 77 #[.string ⟨#[72, 77, 83]⟩, .int .u8 u] w fun e w' => e = .returned (.int .i64 (place u)) ∧ Drawn0 w w' := by
 refine (Tryz.strings_IndexByte ⟨#[72, 77, 83]⟩ u w).mono ?_
 rintro e w' ⟨rfl, rfl⟩
 refine ⟨?_, Drawn0.refl _⟩
 have : ∀ u : Nat, u < 256 → Lib.indexByte [72, 77, 83] (u : Int).toNat.toUInt8 = place u := by decide +kernel
 rw [this u hu]

/-- The frame at a label: the sum, the last place, the rest of the text. -/
def Fr (total last rest : Value) (a : Act) : Prop := ∃ u0 u1 u2 u3 u5 u6 u7 u10 u11 u12 u13 u14 u15 u16 u17 u18 u19 u20 u21 u22 u23 u24 u25 u26 u27 u28 u29 u30 u31 u32 u33 u34 u35 u36 u37 u38 u39 u40 u41 u42 u43 u44 u45 u46 u47 u48 u49 u50 u51 u52 u53 u54 u55 u56 u57 u58 u59 u60 u61 u62 u63 u64 u65 u66 u67 u68 u69 u70 u71 u72 u73 : Value, a = { tmps := #[u0, u1, u2, u3, total, u5, u6, u7, last, rest, u10, u11, u12, u13, u14, u15, u16, u17, u18, u19, u20, u21, u22, u23, u24, u25, u26, u27, u28, u29, u30, u31, u32, u33, u34, u35, u36, u37, u38, u39, u40, u41, u42, u43, u44, u45, u46, u47, u48, u49, u50, u51, u52, u53, u54, u55, u56, u57, u58, u59, u60, u61, u62, u63, u64, u65, u66, u67, u68, u69, u70, u71, u72, u73], defers := [] }
def J (l : List UInt8) (w : World) (lab : Nat) (a : Act) (w' : World) : Prop :=
 Below w.heap.size w w' ∧
  ((lab = 0 ∧ parseL l = (0, 2) ∧ ∃ x y z, Fr x y z a) ∨
   (lab = 1 ∧ ∃ (r : List UInt8) (t : Nat), timeL r t = parseL l ∧ r.length ≤ l.length ∧ t < 18446744073709551616 ∧ Fr (.int .u64 t) (.int .i64 (-1)) (.string (S r)) a) ∨
   (lab = 2 ∧ ∃ (r : List UInt8) (t : Nat) (y : Value), (if r = [] then finN t else (0, 2)) = parseL l ∧ r.length ≤ l.length ∧ t < 18446744073709551616 ∧ Fr (.int .u64 t) y (.string (S r)) a) ∨
   (lab = 3 ∧ ∃ (r : List UInt8) (t k : Nat) (p : Int), partL (k + 1) r t p = parseL l ∧ -1 ≤ p ∧ p ≤ 2 ∧ 2 ≤ k + p ∧ r.length ≤ l.length ∧ t < 18446744073709551616 ∧ Fr (.int .u64 t) (.int .i64 p) (.string (S r)) a))
def μ (lab : Nat) (a : Act) : Nat := if lab = 1 then 20 else if lab = 3 then (10 - intOf (a.tmps.getD 8 undef)).toNat else if lab = 2 then 3 else 1
theorem b_dr {w w' : World} (h : Below w.heap.size w w') (n : Nat) : Below w.heap.size w (w'.drewN n) := below_drewN h n
theorem b_tr {w w1 w2 : World} (h : Below w.heap.size w w1) (h2 : Below w1.heap.size w1 w2) : Below w.heap.size w w2 := h.trans (h2.mono h.size)
/-- What next hands back, under names. -/
theorem next_named (r : List UInt8) (hr : r.length ≤ 140737488351232) : ∃ (n u : Nat) (r' : List UInt8), nextL r = (n, u, r') ∧ n < 1000000000000000 ∧ u < 256 ∧ r'.length ≤ r.length ∧
  ∀ w, Calls Tryz.prog 75 #[.string (S r)] w fun e w' => e = .returned (.tuple #[.int .u64 n, .int .u8 u, .string (S r')]) ∧ Below w.heap.size w w' :=
 ⟨(nextL r).1, (nextL r).2.1, (nextL r).2.2, rfl, (nextL_lt r).1, (nextL_lt r).2.1, (nextL_lt r).2.2, fun w => next_calls r hr w⟩
theorem S_empty (r : List UInt8) : (S r).toList.isEmpty = r.isEmpty := by rw [Lib.toList_data, S_list]
theorem empty_yes : (S ([] : List UInt8)).toList.isEmpty = true := S_empty []
theorem empty_no (r : List UInt8) (h : r ≠ []) : (S r).toList.isEmpty = false := by
 rw [S_empty]; cases r with
 | nil => exact absurd rfl h
 | cons c r => rfl
theorem u_ne (u k : Nat) (h : u ≠ k) : ((u : Int) == (k : Int)) = false := by rw [beq_eq_false_iff_ne]; omega
theorem of_head {l : List UInt8} {c : UInt8} (h : l.head? = some c) : ∃ r, l = c :: r := by
 cases l with
 | nil => cases h
 | cons d r => exact ⟨r, by rw [Option.some.inj h]⟩
theorem parse_time (r : List UInt8) (h : r.head? = some 84) : parseL (80 :: r) = timeL r 0 := if_pos h
theorem parse_date (r : List UInt8) (h : ¬ r.head? = some 84) : parseL (80 :: r) = dateL r := if_neg h
theorem parse_no (l : List UInt8) (h : ¬ l.head? = some 80) : parseL l = (0, 2) := by
 unfold parseL
 split
 ·
  exact absurd rfl h
 ·
  rfl
theorem time_no (l : List UInt8) (t : Nat) (h : ¬ l.head? = some 84) : timeL l t = (0, 2) := by
 unfold timeL
 split
 ·
  exact absurd rfl h
 ·
  rfl
theorem place_at (u : Nat) (p : Int) (h : place u = p) (hu : u < 256) (w : World) :
  Calls Tryz.prog 77 #[.string ⟨#[72, 77, 83]⟩, .int .u8 u] w fun e w' => e = .returned (.int .i64 p) ∧ Drawn0 w w' := h ▸ place_calls u hu w
theorem part_no (k : Nat) (l : List UInt8) (t : Nat) (p : Int) (h : place (nextL l).2.1 ≤ p) : partL (k + 1) l t p = (0, 2) := if_pos h
theorem part_fin (k : Nat) (l : List UInt8) (t : Nat) (p : Int) (h : p < place (nextL l).2.1) (h2 : (nextL l).2.2 = []) : partL (k + 1) l t p = finN (moreN t (nextL l).1 (unitN (place (nextL l).2.1))) := by
 unfold partL; rw [if_neg (by omega), if_pos h2]
theorem part_more (k : Nat) (l : List UInt8) (t : Nat) (p : Int) (h : p < place (nextL l).2.1) (h2 : (nextL l).2.2 ≠ []) : partL (k + 1) l t p = partL k (nextL l).2.2 (moreN t (nextL l).1 (unitN (place (nextL l).2.1))) (place (nextL l).2.1) := by
 rw [partL]; rw [if_neg (by omega), if_neg h2]
theorem fin_over (t : Nat) (h : 1125899906842624 < t) : finN t = (0, 3) := if_pos h
theorem fin_ok (t : Nat) (h : t ≤ 1125899906842624) : finN t = (t, 0) := if_neg (by omega)
theorem idx0 (W : World) : (Instr.index 111 (.agg #[.int .u64 3600, .int .u64 60, .int .u64 1]) (.int .i64 0)).run Tryz.prog W = .ok (.int .u64 3600) W := by kernel_rfl
theorem idx1 (W : World) : (Instr.index 111 (.agg #[.int .u64 3600, .int .u64 60, .int .u64 1]) (.int .i64 1)).run Tryz.prog W = .ok (.int .u64 60) W := by kernel_rfl
theorem idx2 (W : World) : (Instr.index 111 (.agg #[.int .u64 3600, .int .u64 60, .int .u64 1]) (.int .i64 2)).run Tryz.prog W = .ok (.int .u64 1) W := by kernel_rfl
set_option maxRecDepth 100000 in
set_option maxHeartbeats 40000000 in
theorem parse_calls (l : List UInt8) (hl : l.length ≤ 140737488351232) (w : World) :
  Calls Tryz.prog 57 #[.string (S l)] w fun e w' => e = .returned (.tuple #[.int .u64 (parseL l).1, .int .i64 (parseL l).2]) ∧ Below w.heap.size w w' := by
 go_enter Tryz.func57, Tryz.ntmps57
 go_wp2
 refine wp_scope_labels4 (J l w) (fun lab a _ => μ lab a) rfl rfl rfl rfl ?hl ?first ?p0 ?p1 ?p2 ?p3
 case hl => rintro lab a w' ⟨_, ⟨rfl, _⟩ | ⟨rfl, _⟩ | ⟨rfl, _⟩ | ⟨rfl, _⟩⟩ <;> omega
 case first =>
  by_cases h80 : l.head? = some 80
  ·
   obtain ⟨r, el⟩ := of_head h80
   have hc := fun w => el ▸ cut_yes 80 r w
   have hrl : r.length ≤ l.length := by rw [el, List.length_cons]; omega
   have HL := Lib.hid el
   clear el h80
   cases hT : (r.head? == some 84) with
   | true =>
    have hh := fun w => pre_is 84 r true hT w
    have hp : timeL r 0 = parseL l := by rw [HL.out]; exact (parse_time r (by simpa using hT)).symm
    have HP := Lib.hid hp
    clear hp hT
    go_wp2_with (first | (go_at_call 73; refine (hc _).mono ?_; rintro e w' ⟨rfl, ⟨n_hc, rfl⟩⟩) | (go_at_call 74; refine (hh _).mono ?_; rintro e w' ⟨rfl, ⟨n_hh, rfl⟩⟩))
    go_step3
    show J _ w 1 _ _
    refine ⟨(by repeat (first | exact Below.refl _ _ | with_reducible assumption | refine b_dr ?_ _ | refine b_tr ?_ (by with_reducible assumption))), Or.inr (Or.inl ⟨rfl, r, 0, HP.out, hrl, by omega, ?_⟩)⟩
    exact ⟨_, _, _, _, _, _, _, _, _, _, _, _, _, _, _, _, _, _, _, _, _, _, _, _, _, _, _, _, _, _, _, _, _, _, _, _, _, _, _, _, _, _, _, _, _, _, _, _, _, _, _, _, _, _, _, _, _, _, _, _, _, _, _, _, _, _, _, _, _, _, _, rfl⟩
   | false =>
    have hh := fun w => pre_is 84 r false hT w
    have hp : parseL l = dateL r := by rw [HL.out]; exact parse_date r (by simpa using hT)
    have HP := Lib.hid hp
    clear hp hT
    obtain ⟨n, u, r1, hn, hnl, hul, hr1, hnx⟩ := next_named r (by omega)
    have HN := Lib.hid hn
    clear hn
    by_cases c89 : u = 89
    ·
     subst c89
     have hE : parseL l = (0, 4) := by rw [HP.out]; unfold dateL; rw [HN.out]; rfl
     have HE := Lib.hid hE
     clear hE
     go_wp2_with (first | (go_at_call 73; refine (hc _).mono ?_; rintro e w' ⟨rfl, ⟨n_hc, rfl⟩⟩) | (go_at_call 74; refine (hh _).mono ?_; rintro e w' ⟨rfl, ⟨n_hh, rfl⟩⟩) | (go_at_call 75; refine (hnx _).mono ?_; rintro e w' ⟨rfl, hb_hnx⟩))
     simp only [jumps]
     go_ret2
     exact ⟨by rw [HE.out]; rfl, (by repeat (first | exact Below.refl _ _ | with_reducible assumption | refine b_dr ?_ _ | refine b_tr ?_ (by with_reducible assumption)))⟩
    ·
     skip
     by_cases c77 : u = 77
     ·
      subst c77
      have hE : parseL l = (0, 4) := by rw [HP.out]; unfold dateL; rw [HN.out]; rfl
      have HE := Lib.hid hE
      clear hE
      go_wp2_with (first | (go_at_call 73; refine (hc _).mono ?_; rintro e w' ⟨rfl, ⟨n_hc, rfl⟩⟩) | (go_at_call 74; refine (hh _).mono ?_; rintro e w' ⟨rfl, ⟨n_hh, rfl⟩⟩) | (go_at_call 75; refine (hnx _).mono ?_; rintro e w' ⟨rfl, hb_hnx⟩))
      simp only [jumps]
      go_ret2
      exact ⟨by rw [HE.out]; rfl, (by repeat (first | exact Below.refl _ _ | with_reducible assumption | refine b_dr ?_ _ | refine b_tr ?_ (by with_reducible assumption)))⟩
     ·
      skip
      by_cases c87 : u = 87
      ·
       subst c87
       have hE : (if r1 = [] then finN (moreN 0 n 604800) else (0, 2)) = parseL l := by rw [HP.out]; unfold dateL; rw [HN.out]; rfl
       have HE := Lib.hid hE
       clear hE
       have hm := fun w => more_calls 0 n 604800 (by omega) (by omega) (by omega) w
       have hm64 := Lib.hid (moreN_lt 0 n 604800)
       generalize moreN 0 n 604800 = t at *
       go_wp2_with (first | (go_at_call 73; refine (hc _).mono ?_; rintro e w' ⟨rfl, ⟨n_hc, rfl⟩⟩) | (go_at_call 74; refine (hh _).mono ?_; rintro e w' ⟨rfl, ⟨n_hh, rfl⟩⟩) | (go_at_call 75; refine (hnx _).mono ?_; rintro e w' ⟨rfl, hb_hnx⟩) | (go_at_call 76; refine (hm _).mono ?_; rintro e w' ⟨rfl, ⟨n_hm, rfl⟩⟩))
       go_step3
       show J _ w 2 _ _
       refine ⟨(by repeat (first | exact Below.refl _ _ | with_reducible assumption | refine b_dr ?_ _ | refine b_tr ?_ (by with_reducible assumption))), Or.inr (Or.inr (Or.inl ⟨rfl, r1, t, ?_⟩))⟩
       exact ⟨_, HE.out, by omega, hm64.out, ⟨_, _, _, _, _, _, _, _, _, _, _, _, _, _, _, _, _, _, _, _, _, _, _, _, _, _, _, _, _, _, _, _, _, _, _, _, _, _, _, _, _, _, _, _, _, _, _, _, _, _, _, _, _, _, _, _, _, _, _, _, _, _, _, _, _, _, _, _, _, _, _, rfl⟩⟩
      ·
       skip
       by_cases c68 : u = 68
       ·
        subst c68
        have hE : (if r1 = [] then finN (moreN 0 n 86400) else timeL r1 (moreN 0 n 86400)) = parseL l := by rw [HP.out]; unfold dateL; rw [HN.out]; rfl
        have HE := Lib.hid hE
        clear hE
        have hm := fun w => more_calls 0 n 86400 (by omega) (by omega) (by omega) w
        have ht64 := Lib.hid (moreN_lt 0 n 86400)
        generalize moreN 0 n 86400 = t at *
        by_cases hz : r1 = []
        ·
         subst hz
         have hG : (if ([] : List UInt8) = [] then finN t else (0, 2)) = parseL l := HE.out
         have HG := Lib.hid hG
         clear hG
         have hemp := empty_yes
         go_wp2_with (first | (go_at_call 73; refine (hc _).mono ?_; rintro e w' ⟨rfl, ⟨n_hc, rfl⟩⟩) | (go_at_call 74; refine (hh _).mono ?_; rintro e w' ⟨rfl, ⟨n_hh, rfl⟩⟩) | (go_at_call 75; refine (hnx _).mono ?_; rintro e w' ⟨rfl, hb_hnx⟩) | (go_at_call 76; refine (hm _).mono ?_; rintro e w' ⟨rfl, ⟨n_hm, rfl⟩⟩))
         go_step3
         show J _ w 2 _ _
         refine ⟨(by repeat (first | exact Below.refl _ _ | with_reducible assumption | refine b_dr ?_ _ | refine b_tr ?_ (by with_reducible assumption))), Or.inr (Or.inr (Or.inl ⟨rfl, [], t, ?_⟩))⟩
         exact ⟨_, HG.out, by simp, ht64.out, ⟨_, _, _, _, _, _, _, _, _, _, _, _, _, _, _, _, _, _, _, _, _, _, _, _, _, _, _, _, _, _, _, _, _, _, _, _, _, _, _, _, _, _, _, _, _, _, _, _, _, _, _, _, _, _, _, _, _, _, _, _, _, _, _, _, _, _, _, _, _, _, _, rfl⟩⟩
        ·
         have hG : timeL r1 t = parseL l := by rw [← HE.out, if_neg hz]
         have HG := Lib.hid hG
         clear hG
         have hemp := empty_no r1 hz
         clear hz
         by_cases h84 : r1.head? = some 84
         ·
          obtain ⟨r2, e2⟩ := of_head h84
          have hd := fun w => e2 ▸ cut_yes 84 r2 w
          have hr2 : r2.length ≤ 140737488351232 := by rw [e2, List.length_cons] at hr1; omega
          have hG : partL (3 + 1) r2 t (-1) = parseL l := by rw [← HG.out, e2]; rfl
          have HQ := Lib.hid hG
          have hrr : r2.length ≤ l.length := by rw [e2, List.length_cons] at hr1; omega
          clear hG e2 h84
          obtain ⟨n2, u2, r3, hn2, hnl2, hul2, hr3, hny⟩ := next_named r2 hr2
          have HM := Lib.hid hn2
          clear hn2
          by_cases q72 : u2 = 72
          ·
           subst q72
           have hi := fun w => place_at 72 0 rfl (by omega) w
           have hix := idx0
           have hk := fun w => more_calls t n2 3600 ht64.out (by omega) (by omega) w
           have hplt : (-1 : Int) < place (nextL r2).2.1 := by rw [HM.out]; show (-1 : Int) < (0 : Int); omega
           have HPL := Lib.hid hplt
           clear hplt
           by_cases hz : r3 = []
           ·
            subst hz
            have hE : parseL l = finN (moreN t n2 3600) := by
             rw [← HQ.out]; exact (part_fin _ _ _ _ HPL.out (by rw [HM.out])).trans (by rw [HM.out]; rfl)
            have HE := Lib.hid hE
            clear hE
            have hemp := empty_yes
            have hm64 := Lib.hid (moreN_lt t n2 3600)
            generalize moreN t n2 3600 = t2 at *
            by_cases hgt : 1125899906842624 < t2
            ·
             have HF := Lib.hid (HE.out.trans (fin_over _ hgt))
             go_wp2_with (first | (go_at_call 73; refine (hc _).mono ?_; rintro e w' ⟨rfl, ⟨n_hc, rfl⟩⟩) | (go_at_call 74; refine (hh _).mono ?_; rintro e w' ⟨rfl, ⟨n_hh, rfl⟩⟩) | (go_at_call 75; refine (hnx _).mono ?_; rintro e w' ⟨rfl, hb_hnx⟩) | (go_at_call 76; refine (hm _).mono ?_; rintro e w' ⟨rfl, ⟨n_hm, rfl⟩⟩))
             go_step3
             go_wp2_with (first | (go_at_call 73; refine (hd _).mono ?_; rintro e w' ⟨rfl, ⟨n_hd, rfl⟩⟩) | (go_at_call 75; refine (hny _).mono ?_; rintro e w' ⟨rfl, hb_hny⟩) | (go_at_call 77; refine (hi _).mono ?_; rintro e w' ⟨rfl, ⟨n_hi, rfl⟩⟩) | (go_at_call 76; refine (hk _).mono ?_; rintro e w' ⟨rfl, ⟨n_hk, rfl⟩⟩))
             go_step3
             go_wp2_with (first | (go_at_call 73; refine (hd _).mono ?_; rintro e w' ⟨rfl, ⟨n_hd, rfl⟩⟩) | (go_at_call 75; refine (hny _).mono ?_; rintro e w' ⟨rfl, hb_hny⟩) | (go_at_call 77; refine (hi _).mono ?_; rintro e w' ⟨rfl, ⟨n_hi, rfl⟩⟩) | (go_at_call 76; refine (hk _).mono ?_; rintro e w' ⟨rfl, ⟨n_hk, rfl⟩⟩))
             go_step3
             go_wp2_with fail
             simp only [jumps]
             go_ret2
             exact ⟨by rw [HF.out]; rfl, (by repeat (first | exact Below.refl _ _ | with_reducible assumption | refine b_dr ?_ _ | refine b_tr ?_ (by with_reducible assumption)))⟩
            ·
             have hgt' : t2 ≤ 1125899906842624 := by omega
             clear hgt
             have HF := Lib.hid (HE.out.trans (fin_ok _ hgt'))
             go_wp2_with (first | (go_at_call 73; refine (hc _).mono ?_; rintro e w' ⟨rfl, ⟨n_hc, rfl⟩⟩) | (go_at_call 74; refine (hh _).mono ?_; rintro e w' ⟨rfl, ⟨n_hh, rfl⟩⟩) | (go_at_call 75; refine (hnx _).mono ?_; rintro e w' ⟨rfl, hb_hnx⟩) | (go_at_call 76; refine (hm _).mono ?_; rintro e w' ⟨rfl, ⟨n_hm, rfl⟩⟩))
             go_step3
             go_wp2_with (first | (go_at_call 73; refine (hd _).mono ?_; rintro e w' ⟨rfl, ⟨n_hd, rfl⟩⟩) | (go_at_call 75; refine (hny _).mono ?_; rintro e w' ⟨rfl, hb_hny⟩) | (go_at_call 77; refine (hi _).mono ?_; rintro e w' ⟨rfl, ⟨n_hi, rfl⟩⟩) | (go_at_call 76; refine (hk _).mono ?_; rintro e w' ⟨rfl, ⟨n_hk, rfl⟩⟩))
             go_step3
             go_wp2_with (first | (go_at_call 73; refine (hd _).mono ?_; rintro e w' ⟨rfl, ⟨n_hd, rfl⟩⟩) | (go_at_call 75; refine (hny _).mono ?_; rintro e w' ⟨rfl, hb_hny⟩) | (go_at_call 77; refine (hi _).mono ?_; rintro e w' ⟨rfl, ⟨n_hi, rfl⟩⟩) | (go_at_call 76; refine (hk _).mono ?_; rintro e w' ⟨rfl, ⟨n_hk, rfl⟩⟩))
             go_step3
             go_wp2_with fail
             simp only [jumps]
             go_ret2
             exact ⟨by rw [HF.out]; rfl, (by repeat (first | exact Below.refl _ _ | with_reducible assumption | refine b_dr ?_ _ | refine b_tr ?_ (by with_reducible assumption)))⟩
           ·
            have hemp := empty_no r3 hz
            have hE : partL 3 r3 (moreN t n2 3600) 0 = parseL l := by
             rw [← HQ.out]; exact ((part_more _ _ _ _ HPL.out (by rw [HM.out]; exact hz)).trans (by rw [HM.out]; rfl)).symm
            have HE := Lib.hid hE
            clear hE hz
            have hm64 := Lib.hid (moreN_lt t n2 3600)
            generalize moreN t n2 3600 = t2 at *
            go_wp2_with (first | (go_at_call 73; refine (hc _).mono ?_; rintro e w' ⟨rfl, ⟨n_hc, rfl⟩⟩) | (go_at_call 74; refine (hh _).mono ?_; rintro e w' ⟨rfl, ⟨n_hh, rfl⟩⟩) | (go_at_call 75; refine (hnx _).mono ?_; rintro e w' ⟨rfl, hb_hnx⟩) | (go_at_call 76; refine (hm _).mono ?_; rintro e w' ⟨rfl, ⟨n_hm, rfl⟩⟩))
            go_step3
            go_wp2_with (first | (go_at_call 73; refine (hd _).mono ?_; rintro e w' ⟨rfl, ⟨n_hd, rfl⟩⟩) | (go_at_call 75; refine (hny _).mono ?_; rintro e w' ⟨rfl, hb_hny⟩) | (go_at_call 77; refine (hi _).mono ?_; rintro e w' ⟨rfl, ⟨n_hi, rfl⟩⟩) | (go_at_call 76; refine (hk _).mono ?_; rintro e w' ⟨rfl, ⟨n_hk, rfl⟩⟩))
            go_step3
            go_wp2_with (first | (go_at_call 73; refine (hd _).mono ?_; rintro e w' ⟨rfl, ⟨n_hd, rfl⟩⟩) | (go_at_call 75; refine (hny _).mono ?_; rintro e w' ⟨rfl, hb_hny⟩) | (go_at_call 77; refine (hi _).mono ?_; rintro e w' ⟨rfl, ⟨n_hi, rfl⟩⟩) | (go_at_call 76; refine (hk _).mono ?_; rintro e w' ⟨rfl, ⟨n_hk, rfl⟩⟩))
            go_step3
            show J _ w 3 _ _
            refine ⟨(by repeat (first | exact Below.refl _ _ | with_reducible assumption | refine b_dr ?_ _ | refine b_tr ?_ (by with_reducible assumption))), Or.inr (Or.inr (Or.inr ⟨rfl, r3, t2, 2, 0, HE.out, by omega, by omega, by omega, by omega, hm64.out, ?_⟩))⟩
            exact ⟨_, _, _, _, _, _, _, _, _, _, _, _, _, _, _, _, _, _, _, _, _, _, _, _, _, _, _, _, _, _, _, _, _, _, _, _, _, _, _, _, _, _, _, _, _, _, _, _, _, _, _, _, _, _, _, _, _, _, _, _, _, _, _, _, _, _, _, _, _, _, _, rfl⟩
          ·
           skip
           by_cases q77 : u2 = 77
           ·
            subst q77
            have hi := fun w => place_at 77 1 rfl (by omega) w
            have hix := idx1
            have hk := fun w => more_calls t n2 60 ht64.out (by omega) (by omega) w
            have hplt : (-1 : Int) < place (nextL r2).2.1 := by rw [HM.out]; show (-1 : Int) < (1 : Int); omega
            have HPL := Lib.hid hplt
            clear hplt
            by_cases hz : r3 = []
            ·
             subst hz
             have hE : parseL l = finN (moreN t n2 60) := by
              rw [← HQ.out]; exact (part_fin _ _ _ _ HPL.out (by rw [HM.out])).trans (by rw [HM.out]; rfl)
             have HE := Lib.hid hE
             clear hE
             have hemp := empty_yes
             have hm64 := Lib.hid (moreN_lt t n2 60)
             generalize moreN t n2 60 = t2 at *
             by_cases hgt : 1125899906842624 < t2
             ·
              have HF := Lib.hid (HE.out.trans (fin_over _ hgt))
              go_wp2_with (first | (go_at_call 73; refine (hc _).mono ?_; rintro e w' ⟨rfl, ⟨n_hc, rfl⟩⟩) | (go_at_call 74; refine (hh _).mono ?_; rintro e w' ⟨rfl, ⟨n_hh, rfl⟩⟩) | (go_at_call 75; refine (hnx _).mono ?_; rintro e w' ⟨rfl, hb_hnx⟩) | (go_at_call 76; refine (hm _).mono ?_; rintro e w' ⟨rfl, ⟨n_hm, rfl⟩⟩))
              go_step3
              go_wp2_with (first | (go_at_call 73; refine (hd _).mono ?_; rintro e w' ⟨rfl, ⟨n_hd, rfl⟩⟩) | (go_at_call 75; refine (hny _).mono ?_; rintro e w' ⟨rfl, hb_hny⟩) | (go_at_call 77; refine (hi _).mono ?_; rintro e w' ⟨rfl, ⟨n_hi, rfl⟩⟩) | (go_at_call 76; refine (hk _).mono ?_; rintro e w' ⟨rfl, ⟨n_hk, rfl⟩⟩))
              go_step3
              go_wp2_with (first | (go_at_call 73; refine (hd _).mono ?_; rintro e w' ⟨rfl, ⟨n_hd, rfl⟩⟩) | (go_at_call 75; refine (hny _).mono ?_; rintro e w' ⟨rfl, hb_hny⟩) | (go_at_call 77; refine (hi _).mono ?_; rintro e w' ⟨rfl, ⟨n_hi, rfl⟩⟩) | (go_at_call 76; refine (hk _).mono ?_; rintro e w' ⟨rfl, ⟨n_hk, rfl⟩⟩))
              go_step3
              go_wp2_with fail
              simp only [jumps]
              go_ret2
              exact ⟨by rw [HF.out]; rfl, (by repeat (first | exact Below.refl _ _ | with_reducible assumption | refine b_dr ?_ _ | refine b_tr ?_ (by with_reducible assumption)))⟩
             ·
              have hgt' : t2 ≤ 1125899906842624 := by omega
              clear hgt
              have HF := Lib.hid (HE.out.trans (fin_ok _ hgt'))
              go_wp2_with (first | (go_at_call 73; refine (hc _).mono ?_; rintro e w' ⟨rfl, ⟨n_hc, rfl⟩⟩) | (go_at_call 74; refine (hh _).mono ?_; rintro e w' ⟨rfl, ⟨n_hh, rfl⟩⟩) | (go_at_call 75; refine (hnx _).mono ?_; rintro e w' ⟨rfl, hb_hnx⟩) | (go_at_call 76; refine (hm _).mono ?_; rintro e w' ⟨rfl, ⟨n_hm, rfl⟩⟩))
              go_step3
              go_wp2_with (first | (go_at_call 73; refine (hd _).mono ?_; rintro e w' ⟨rfl, ⟨n_hd, rfl⟩⟩) | (go_at_call 75; refine (hny _).mono ?_; rintro e w' ⟨rfl, hb_hny⟩) | (go_at_call 77; refine (hi _).mono ?_; rintro e w' ⟨rfl, ⟨n_hi, rfl⟩⟩) | (go_at_call 76; refine (hk _).mono ?_; rintro e w' ⟨rfl, ⟨n_hk, rfl⟩⟩))
              go_step3
              go_wp2_with (first | (go_at_call 73; refine (hd _).mono ?_; rintro e w' ⟨rfl, ⟨n_hd, rfl⟩⟩) | (go_at_call 75; refine (hny _).mono ?_; rintro e w' ⟨rfl, hb_hny⟩) | (go_at_call 77; refine (hi _).mono ?_; rintro e w' ⟨rfl, ⟨n_hi, rfl⟩⟩) | (go_at_call 76; refine (hk _).mono ?_; rintro e w' ⟨rfl, ⟨n_hk, rfl⟩⟩))
              go_step3
              go_wp2_with fail
              simp only [jumps]
              go_ret2
              exact ⟨by rw [HF.out]; rfl, (by repeat (first | exact Below.refl _ _ | with_reducible assumption | refine b_dr ?_ _ | refine b_tr ?_ (by with_reducible assumption)))⟩
            ·
             have hemp := empty_no r3 hz
             have hE : partL 3 r3 (moreN t n2 60) 1 = parseL l := by
              rw [← HQ.out]; exact ((part_more _ _ _ _ HPL.out (by rw [HM.out]; exact hz)).trans (by rw [HM.out]; rfl)).symm
             have HE := Lib.hid hE
             clear hE hz
             have hm64 := Lib.hid (moreN_lt t n2 60)
             generalize moreN t n2 60 = t2 at *
             go_wp2_with (first | (go_at_call 73; refine (hc _).mono ?_; rintro e w' ⟨rfl, ⟨n_hc, rfl⟩⟩) | (go_at_call 74; refine (hh _).mono ?_; rintro e w' ⟨rfl, ⟨n_hh, rfl⟩⟩) | (go_at_call 75; refine (hnx _).mono ?_; rintro e w' ⟨rfl, hb_hnx⟩) | (go_at_call 76; refine (hm _).mono ?_; rintro e w' ⟨rfl, ⟨n_hm, rfl⟩⟩))
             go_step3
             go_wp2_with (first | (go_at_call 73; refine (hd _).mono ?_; rintro e w' ⟨rfl, ⟨n_hd, rfl⟩⟩) | (go_at_call 75; refine (hny _).mono ?_; rintro e w' ⟨rfl, hb_hny⟩) | (go_at_call 77; refine (hi _).mono ?_; rintro e w' ⟨rfl, ⟨n_hi, rfl⟩⟩) | (go_at_call 76; refine (hk _).mono ?_; rintro e w' ⟨rfl, ⟨n_hk, rfl⟩⟩))
             go_step3
             go_wp2_with (first | (go_at_call 73; refine (hd _).mono ?_; rintro e w' ⟨rfl, ⟨n_hd, rfl⟩⟩) | (go_at_call 75; refine (hny _).mono ?_; rintro e w' ⟨rfl, hb_hny⟩) | (go_at_call 77; refine (hi _).mono ?_; rintro e w' ⟨rfl, ⟨n_hi, rfl⟩⟩) | (go_at_call 76; refine (hk _).mono ?_; rintro e w' ⟨rfl, ⟨n_hk, rfl⟩⟩))
             go_step3
             show J _ w 3 _ _
             refine ⟨(by repeat (first | exact Below.refl _ _ | with_reducible assumption | refine b_dr ?_ _ | refine b_tr ?_ (by with_reducible assumption))), Or.inr (Or.inr (Or.inr ⟨rfl, r3, t2, 2, 1, HE.out, by omega, by omega, by omega, by omega, hm64.out, ?_⟩))⟩
             exact ⟨_, _, _, _, _, _, _, _, _, _, _, _, _, _, _, _, _, _, _, _, _, _, _, _, _, _, _, _, _, _, _, _, _, _, _, _, _, _, _, _, _, _, _, _, _, _, _, _, _, _, _, _, _, _, _, _, _, _, _, _, _, _, _, _, _, _, _, _, _, _, _, rfl⟩
           ·
            skip
            by_cases q83 : u2 = 83
            ·
             subst q83
             have hi := fun w => place_at 83 2 rfl (by omega) w
             have hix := idx2
             have hk := fun w => more_calls t n2 1 ht64.out (by omega) (by omega) w
             have hplt : (-1 : Int) < place (nextL r2).2.1 := by rw [HM.out]; show (-1 : Int) < (2 : Int); omega
             have HPL := Lib.hid hplt
             clear hplt
             by_cases hz : r3 = []
             ·
              subst hz
              have hE : parseL l = finN (moreN t n2 1) := by
               rw [← HQ.out]; exact (part_fin _ _ _ _ HPL.out (by rw [HM.out])).trans (by rw [HM.out]; rfl)
              have HE := Lib.hid hE
              clear hE
              have hemp := empty_yes
              have hm64 := Lib.hid (moreN_lt t n2 1)
              generalize moreN t n2 1 = t2 at *
              by_cases hgt : 1125899906842624 < t2
              ·
               have HF := Lib.hid (HE.out.trans (fin_over _ hgt))
               go_wp2_with (first | (go_at_call 73; refine (hc _).mono ?_; rintro e w' ⟨rfl, ⟨n_hc, rfl⟩⟩) | (go_at_call 74; refine (hh _).mono ?_; rintro e w' ⟨rfl, ⟨n_hh, rfl⟩⟩) | (go_at_call 75; refine (hnx _).mono ?_; rintro e w' ⟨rfl, hb_hnx⟩) | (go_at_call 76; refine (hm _).mono ?_; rintro e w' ⟨rfl, ⟨n_hm, rfl⟩⟩))
               go_step3
               go_wp2_with (first | (go_at_call 73; refine (hd _).mono ?_; rintro e w' ⟨rfl, ⟨n_hd, rfl⟩⟩) | (go_at_call 75; refine (hny _).mono ?_; rintro e w' ⟨rfl, hb_hny⟩) | (go_at_call 77; refine (hi _).mono ?_; rintro e w' ⟨rfl, ⟨n_hi, rfl⟩⟩) | (go_at_call 76; refine (hk _).mono ?_; rintro e w' ⟨rfl, ⟨n_hk, rfl⟩⟩))
               go_step3
               go_wp2_with (first | (go_at_call 73; refine (hd _).mono ?_; rintro e w' ⟨rfl, ⟨n_hd, rfl⟩⟩) | (go_at_call 75; refine (hny _).mono ?_; rintro e w' ⟨rfl, hb_hny⟩) | (go_at_call 77; refine (hi _).mono ?_; rintro e w' ⟨rfl, ⟨n_hi, rfl⟩⟩) | (go_at_call 76; refine (hk _).mono ?_; rintro e w' ⟨rfl, ⟨n_hk, rfl⟩⟩))
               go_step3
               go_wp2_with fail
               simp only [jumps]
               go_ret2
               exact ⟨by rw [HF.out]; rfl, (by repeat (first | exact Below.refl _ _ | with_reducible assumption | refine b_dr ?_ _ | refine b_tr ?_ (by with_reducible assumption)))⟩
              ·
               have hgt' : t2 ≤ 1125899906842624 := by omega
               clear hgt
               have HF := Lib.hid (HE.out.trans (fin_ok _ hgt'))
               go_wp2_with (first | (go_at_call 73; refine (hc _).mono ?_; rintro e w' ⟨rfl, ⟨n_hc, rfl⟩⟩) | (go_at_call 74; refine (hh _).mono ?_; rintro e w' ⟨rfl, ⟨n_hh, rfl⟩⟩) | (go_at_call 75; refine (hnx _).mono ?_; rintro e w' ⟨rfl, hb_hnx⟩) | (go_at_call 76; refine (hm _).mono ?_; rintro e w' ⟨rfl, ⟨n_hm, rfl⟩⟩))
               go_step3
               go_wp2_with (first | (go_at_call 73; refine (hd _).mono ?_; rintro e w' ⟨rfl, ⟨n_hd, rfl⟩⟩) | (go_at_call 75; refine (hny _).mono ?_; rintro e w' ⟨rfl, hb_hny⟩) | (go_at_call 77; refine (hi _).mono ?_; rintro e w' ⟨rfl, ⟨n_hi, rfl⟩⟩) | (go_at_call 76; refine (hk _).mono ?_; rintro e w' ⟨rfl, ⟨n_hk, rfl⟩⟩))
               go_step3
               go_wp2_with (first | (go_at_call 73; refine (hd _).mono ?_; rintro e w' ⟨rfl, ⟨n_hd, rfl⟩⟩) | (go_at_call 75; refine (hny _).mono ?_; rintro e w' ⟨rfl, hb_hny⟩) | (go_at_call 77; refine (hi _).mono ?_; rintro e w' ⟨rfl, ⟨n_hi, rfl⟩⟩) | (go_at_call 76; refine (hk _).mono ?_; rintro e w' ⟨rfl, ⟨n_hk, rfl⟩⟩))
               go_step3
               go_wp2_with fail
               simp only [jumps]
               go_ret2
               exact ⟨by rw [HF.out]; rfl, (by repeat (first | exact Below.refl _ _ | with_reducible assumption | refine b_dr ?_ _ | refine b_tr ?_ (by with_reducible assumption)))⟩
             ·
              have hemp := empty_no r3 hz
              have hE : partL 3 r3 (moreN t n2 1) 2 = parseL l := by
               rw [← HQ.out]; exact ((part_more _ _ _ _ HPL.out (by rw [HM.out]; exact hz)).trans (by rw [HM.out]; rfl)).symm
              have HE := Lib.hid hE
              clear hE hz
              have hm64 := Lib.hid (moreN_lt t n2 1)
              generalize moreN t n2 1 = t2 at *
              go_wp2_with (first | (go_at_call 73; refine (hc _).mono ?_; rintro e w' ⟨rfl, ⟨n_hc, rfl⟩⟩) | (go_at_call 74; refine (hh _).mono ?_; rintro e w' ⟨rfl, ⟨n_hh, rfl⟩⟩) | (go_at_call 75; refine (hnx _).mono ?_; rintro e w' ⟨rfl, hb_hnx⟩) | (go_at_call 76; refine (hm _).mono ?_; rintro e w' ⟨rfl, ⟨n_hm, rfl⟩⟩))
              go_step3
              go_wp2_with (first | (go_at_call 73; refine (hd _).mono ?_; rintro e w' ⟨rfl, ⟨n_hd, rfl⟩⟩) | (go_at_call 75; refine (hny _).mono ?_; rintro e w' ⟨rfl, hb_hny⟩) | (go_at_call 77; refine (hi _).mono ?_; rintro e w' ⟨rfl, ⟨n_hi, rfl⟩⟩) | (go_at_call 76; refine (hk _).mono ?_; rintro e w' ⟨rfl, ⟨n_hk, rfl⟩⟩))
              go_step3
              go_wp2_with (first | (go_at_call 73; refine (hd _).mono ?_; rintro e w' ⟨rfl, ⟨n_hd, rfl⟩⟩) | (go_at_call 75; refine (hny _).mono ?_; rintro e w' ⟨rfl, hb_hny⟩) | (go_at_call 77; refine (hi _).mono ?_; rintro e w' ⟨rfl, ⟨n_hi, rfl⟩⟩) | (go_at_call 76; refine (hk _).mono ?_; rintro e w' ⟨rfl, ⟨n_hk, rfl⟩⟩))
              go_step3
              show J _ w 3 _ _
              refine ⟨(by repeat (first | exact Below.refl _ _ | with_reducible assumption | refine b_dr ?_ _ | refine b_tr ?_ (by with_reducible assumption))), Or.inr (Or.inr (Or.inr ⟨rfl, r3, t2, 2, 2, HE.out, by omega, by omega, by omega, by omega, hm64.out, ?_⟩))⟩
              exact ⟨_, _, _, _, _, _, _, _, _, _, _, _, _, _, _, _, _, _, _, _, _, _, _, _, _, _, _, _, _, _, _, _, _, _, _, _, _, _, _, _, _, _, _, _, _, _, _, _, _, _, _, _, _, _, _, _, _, _, _, _, _, _, _, _, _, _, _, _, _, _, _, rfl⟩
            ·
             skip
             have hpl : place u2 = -1 := by unfold place; rw [if_neg q72, if_neg q77, if_neg q83]
             have hi := fun w => place_at u2 (-1) hpl hul2 w
             have hE : parseL l = (0, 2) := by
              rw [← HQ.out]; exact part_no _ _ _ _ (by rw [HM.out]; show place u2 ≤ -1; rw [hpl]; omega)
             have HE := Lib.hid hE
             clear hE hpl q72 q77 q83
             go_wp2_with (first | (go_at_call 73; refine (hc _).mono ?_; rintro e w' ⟨rfl, ⟨n_hc, rfl⟩⟩) | (go_at_call 74; refine (hh _).mono ?_; rintro e w' ⟨rfl, ⟨n_hh, rfl⟩⟩) | (go_at_call 75; refine (hnx _).mono ?_; rintro e w' ⟨rfl, hb_hnx⟩) | (go_at_call 76; refine (hm _).mono ?_; rintro e w' ⟨rfl, ⟨n_hm, rfl⟩⟩))
             go_step3
             go_wp2_with (first | (go_at_call 73; refine (hd _).mono ?_; rintro e w' ⟨rfl, ⟨n_hd, rfl⟩⟩) | (go_at_call 75; refine (hny _).mono ?_; rintro e w' ⟨rfl, hb_hny⟩) | (go_at_call 77; refine (hi _).mono ?_; rintro e w' ⟨rfl, ⟨n_hi, rfl⟩⟩))
             go_step3
             go_wp2_with (first | (go_at_call 73; refine (hd _).mono ?_; rintro e w' ⟨rfl, ⟨n_hd, rfl⟩⟩) | (go_at_call 75; refine (hny _).mono ?_; rintro e w' ⟨rfl, hb_hny⟩) | (go_at_call 77; refine (hi _).mono ?_; rintro e w' ⟨rfl, ⟨n_hi, rfl⟩⟩))
             go_step3
             show J _ w 0 _ _
             refine ⟨(by repeat (first | exact Below.refl _ _ | with_reducible assumption | refine b_dr ?_ _ | refine b_tr ?_ (by with_reducible assumption))), Or.inl ⟨rfl, HE.out, ?_⟩⟩
             exact ⟨_, _, _, ⟨_, _, _, _, _, _, _, _, _, _, _, _, _, _, _, _, _, _, _, _, _, _, _, _, _, _, _, _, _, _, _, _, _, _, _, _, _, _, _, _, _, _, _, _, _, _, _, _, _, _, _, _, _, _, _, _, _, _, _, _, _, _, _, _, _, _, _, _, _, _, _, rfl⟩⟩
         ·
          have hd := fun w => cut_no 84 r1 h84 w
          have hE : parseL l = (0, 2) := by rw [← HG.out]; exact time_no r1 t h84
          have HF := Lib.hid hE
          clear hE h84
          go_wp2_with (first | (go_at_call 73; refine (hc _).mono ?_; rintro e w' ⟨rfl, ⟨n_hc, rfl⟩⟩) | (go_at_call 74; refine (hh _).mono ?_; rintro e w' ⟨rfl, ⟨n_hh, rfl⟩⟩) | (go_at_call 75; refine (hnx _).mono ?_; rintro e w' ⟨rfl, hb_hnx⟩) | (go_at_call 76; refine (hm _).mono ?_; rintro e w' ⟨rfl, ⟨n_hm, rfl⟩⟩))
          go_step3
          go_wp2_with (first | (go_at_call 73; refine (hd _).mono ?_; rintro e w' ⟨rfl, ⟨n_hd, rfl⟩⟩))
          go_step3
          show J _ w 0 _ _
          refine ⟨(by repeat (first | exact Below.refl _ _ | with_reducible assumption | refine b_dr ?_ _ | refine b_tr ?_ (by with_reducible assumption))), Or.inl ⟨rfl, HF.out, ?_⟩⟩
          exact ⟨_, _, _, ⟨_, _, _, _, _, _, _, _, _, _, _, _, _, _, _, _, _, _, _, _, _, _, _, _, _, _, _, _, _, _, _, _, _, _, _, _, _, _, _, _, _, _, _, _, _, _, _, _, _, _, _, _, _, _, _, _, _, _, _, _, _, _, _, _, _, _, _, _, _, _, _, rfl⟩⟩
       ·
        have hE : parseL l = (0, 2) := by
         rw [HP.out]; unfold dateL; rw [HN.out]; dsimp only; rw [if_neg (by omega), if_neg c87, if_neg c68]
        have HE := Lib.hid hE
        clear hE
        have d89 := u_ne u 89 c89
        have d77 := u_ne u 77 c77
        have d87 := u_ne u 87 c87
        have d68 := u_ne u 68 c68
        clear c89 c77 c87 c68
        go_wp2_with (first | (go_at_call 73; refine (hc _).mono ?_; rintro e w' ⟨rfl, ⟨n_hc, rfl⟩⟩) | (go_at_call 74; refine (hh _).mono ?_; rintro e w' ⟨rfl, ⟨n_hh, rfl⟩⟩) | (go_at_call 75; refine (hnx _).mono ?_; rintro e w' ⟨rfl, hb_hnx⟩))
        go_step3
        show J _ w 0 _ _
        refine ⟨(by repeat (first | exact Below.refl _ _ | with_reducible assumption | refine b_dr ?_ _ | refine b_tr ?_ (by with_reducible assumption))), Or.inl ⟨rfl, HE.out, ?_⟩⟩
        exact ⟨_, _, _, ⟨_, _, _, _, _, _, _, _, _, _, _, _, _, _, _, _, _, _, _, _, _, _, _, _, _, _, _, _, _, _, _, _, _, _, _, _, _, _, _, _, _, _, _, _, _, _, _, _, _, _, _, _, _, _, _, _, _, _, _, _, _, _, _, _, _, _, _, _, _, _, _, rfl⟩⟩
  ·
   have hc := fun w => cut_no 80 l h80 w
   have HP := Lib.hid (parse_no l h80)
   clear h80
   go_wp2_with (first | (go_at_call 73; refine (hc _).mono ?_; rintro e w' ⟨rfl, ⟨n_hc, rfl⟩⟩))
   go_step3
   show J _ w 0 _ _
   refine ⟨(by repeat (first | exact Below.refl _ _ | with_reducible assumption | refine b_dr ?_ _ | refine b_tr ?_ (by with_reducible assumption))), Or.inl ⟨rfl, HP.out, ?_⟩⟩
   exact ⟨_, _, _, ⟨_, _, _, _, _, _, _, _, _, _, _, _, _, _, _, _, _, _, _, _, _, _, _, _, _, _, _, _, _, _, _, _, _, _, _, _, _, _, _, _, _, _, _, _, _, _, _, _, _, _, _, _, _, _, _, _, _, _, _, _, _, _, _, _, _, _, _, _, _, _, _, rfl⟩⟩
 case p0 =>
  rintro a w1 ⟨hB, ⟨_, hp, x, y, z, hF⟩ | ⟨h, _⟩ | ⟨h, _⟩ | ⟨h, _⟩⟩
  ·
   obtain ⟨u0, u1, u2, u3, u5, u6, u7, u10, u11, u12, u13, u14, u15, u16, u17, u18, u19, u20, u21, u22, u23, u24, u25, u26, u27, u28, u29, u30, u31, u32, u33, u34, u35, u36, u37, u38, u39, u40, u41, u42, u43, u44, u45, u46, u47, u48, u49, u50, u51, u52, u53, u54, u55, u56, u57, u58, u59, u60, u61, u62, u63, u64, u65, u66, u67, u68, u69, u70, u71, u72, u73, rfl⟩ := hF
   have HP := Lib.hid hp
   clear hp
   go_wp2
   simp only [jumps]
   go_ret2
   exact ⟨by rw [HP.out]; rfl, (by repeat (first | exact Below.refl _ _ | with_reducible assumption | refine b_dr ?_ _ | refine b_tr ?_ (by with_reducible assumption)))⟩
  ·
   cases h
  ·
   cases h
  ·
   cases h
 case p2 =>
  rintro a w1 ⟨hB, ⟨h, _⟩ | ⟨h, _⟩ | ⟨_, r, t, y, hp, hr, ht, hF⟩ | ⟨h, _⟩⟩
  ·
   cases h
  ·
   cases h
  ·
   obtain ⟨u0, u1, u2, u3, u5, u6, u7, u10, u11, u12, u13, u14, u15, u16, u17, u18, u19, u20, u21, u22, u23, u24, u25, u26, u27, u28, u29, u30, u31, u32, u33, u34, u35, u36, u37, u38, u39, u40, u41, u42, u43, u44, u45, u46, u47, u48, u49, u50, u51, u52, u53, u54, u55, u56, u57, u58, u59, u60, u61, u62, u63, u64, u65, u66, u67, u68, u69, u70, u71, u72, u73, rfl⟩ := hF
   have HP := Lib.hid hp
   have ht64 := Lib.hid ht
   clear hp ht
   by_cases hz : r = []
   ·
    subst hz
    have hemp := empty_yes
    have hE : parseL l = finN t := HP.out.symm.trans (if_pos rfl)
    by_cases hgt : 1125899906842624 < t
    ·
     have HF := Lib.hid (hE.trans (fin_over _ hgt))
     clear hE
     go_wp2
     simp only [jumps]
     go_ret2
     exact ⟨by rw [HF.out]; rfl, (by repeat (first | exact Below.refl _ _ | with_reducible assumption | refine b_dr ?_ _ | refine b_tr ?_ (by with_reducible assumption)))⟩
    ·
     have hgt' : t ≤ 1125899906842624 := by omega
     clear hgt
     have HF := Lib.hid (hE.trans (fin_ok _ hgt'))
     clear hE
     go_wp2
     simp only [jumps]
     go_ret2
     exact ⟨by rw [HF.out]; rfl, (by repeat (first | exact Below.refl _ _ | with_reducible assumption | refine b_dr ?_ _ | refine b_tr ?_ (by with_reducible assumption)))⟩
   ·
    have hemp := empty_no r hz
    have HF := Lib.hid (HP.out.symm.trans (if_neg hz))
    clear hz
    go_wp2
    go_step3
    go_wp2
    simp only [jumps]
    go_ret2
    exact ⟨by rw [HF.out]; rfl, (by repeat (first | exact Below.refl _ _ | with_reducible assumption | refine b_dr ?_ _ | refine b_tr ?_ (by with_reducible assumption)))⟩
  ·
   cases h
 case p1 =>
  rintro a w1 ⟨hB, ⟨h, _⟩ | ⟨_, r, t, hp, hr, ht, hF⟩ | ⟨h, _⟩ | ⟨h, _⟩⟩
  ·
   cases h
  ·
   obtain ⟨u0, u1, u2, u3, u5, u6, u7, u10, u11, u12, u13, u14, u15, u16, u17, u18, u19, u20, u21, u22, u23, u24, u25, u26, u27, u28, u29, u30, u31, u32, u33, u34, u35, u36, u37, u38, u39, u40, u41, u42, u43, u44, u45, u46, u47, u48, u49, u50, u51, u52, u53, u54, u55, u56, u57, u58, u59, u60, u61, u62, u63, u64, u65, u66, u67, u68, u69, u70, u71, u72, u73, rfl⟩ := hF
   have HP := Lib.hid hp
   have ht64 := Lib.hid ht
   clear hp ht
   by_cases h84 : r.head? = some 84
   ·
    obtain ⟨r2, e2⟩ := of_head h84
    have hd := fun w => e2 ▸ cut_yes 84 r2 w
    have hr2 : r2.length ≤ 140737488351232 := by rw [e2, List.length_cons] at hr; omega
    have hG : partL (3 + 1) r2 t (-1) = parseL l := by rw [← HP.out, e2]; rfl
    have HQ := Lib.hid hG
    have hrr : r2.length ≤ l.length := by rw [e2, List.length_cons] at hr; omega
    clear hG e2 h84
    obtain ⟨n2, u2, r3, hn2, hnl2, hul2, hr3, hny⟩ := next_named r2 hr2
    have HM := Lib.hid hn2
    clear hn2
    by_cases q72 : u2 = 72
    ·
     subst q72
     have hi := fun w => place_at 72 0 rfl (by omega) w
     have hix := idx0
     have hk := fun w => more_calls t n2 3600 ht64.out (by omega) (by omega) w
     have hplt : (-1 : Int) < place (nextL r2).2.1 := by rw [HM.out]; show (-1 : Int) < (0 : Int); omega
     have HPL := Lib.hid hplt
     clear hplt
     by_cases hz : r3 = []
     ·
      subst hz
      have hE : parseL l = finN (moreN t n2 3600) := by
       rw [← HQ.out]; exact (part_fin _ _ _ _ HPL.out (by rw [HM.out])).trans (by rw [HM.out]; rfl)
      have HE := Lib.hid hE
      clear hE
      have hemp := empty_yes
      have hm64 := Lib.hid (moreN_lt t n2 3600)
      generalize moreN t n2 3600 = t2 at *
      by_cases hgt : 1125899906842624 < t2
      ·
       have HF := Lib.hid (HE.out.trans (fin_over _ hgt))
       go_wp2_with (first | (go_at_call 73; refine (hd _).mono ?_; rintro e w' ⟨rfl, ⟨n_hd, rfl⟩⟩) | (go_at_call 75; refine (hny _).mono ?_; rintro e w' ⟨rfl, hb_hny⟩) | (go_at_call 77; refine (hi _).mono ?_; rintro e w' ⟨rfl, ⟨n_hi, rfl⟩⟩) | (go_at_call 76; refine (hk _).mono ?_; rintro e w' ⟨rfl, ⟨n_hk, rfl⟩⟩))
       go_step3
       go_wp2_with (first | (go_at_call 73; refine (hd _).mono ?_; rintro e w' ⟨rfl, ⟨n_hd, rfl⟩⟩) | (go_at_call 75; refine (hny _).mono ?_; rintro e w' ⟨rfl, hb_hny⟩) | (go_at_call 77; refine (hi _).mono ?_; rintro e w' ⟨rfl, ⟨n_hi, rfl⟩⟩) | (go_at_call 76; refine (hk _).mono ?_; rintro e w' ⟨rfl, ⟨n_hk, rfl⟩⟩))
       go_step3
       go_wp2_with fail
       simp only [jumps]
       go_ret2
       exact ⟨by rw [HF.out]; rfl, (by repeat (first | exact Below.refl _ _ | with_reducible assumption | refine b_dr ?_ _ | refine b_tr ?_ (by with_reducible assumption)))⟩
      ·
       have hgt' : t2 ≤ 1125899906842624 := by omega
       clear hgt
       have HF := Lib.hid (HE.out.trans (fin_ok _ hgt'))
       go_wp2_with (first | (go_at_call 73; refine (hd _).mono ?_; rintro e w' ⟨rfl, ⟨n_hd, rfl⟩⟩) | (go_at_call 75; refine (hny _).mono ?_; rintro e w' ⟨rfl, hb_hny⟩) | (go_at_call 77; refine (hi _).mono ?_; rintro e w' ⟨rfl, ⟨n_hi, rfl⟩⟩) | (go_at_call 76; refine (hk _).mono ?_; rintro e w' ⟨rfl, ⟨n_hk, rfl⟩⟩))
       go_step3
       go_wp2_with (first | (go_at_call 73; refine (hd _).mono ?_; rintro e w' ⟨rfl, ⟨n_hd, rfl⟩⟩) | (go_at_call 75; refine (hny _).mono ?_; rintro e w' ⟨rfl, hb_hny⟩) | (go_at_call 77; refine (hi _).mono ?_; rintro e w' ⟨rfl, ⟨n_hi, rfl⟩⟩) | (go_at_call 76; refine (hk _).mono ?_; rintro e w' ⟨rfl, ⟨n_hk, rfl⟩⟩))
       go_step3
       go_wp2_with fail
       simp only [jumps]
       go_ret2
       exact ⟨by rw [HF.out]; rfl, (by repeat (first | exact Below.refl _ _ | with_reducible assumption | refine b_dr ?_ _ | refine b_tr ?_ (by with_reducible assumption)))⟩
     ·
      have hemp := empty_no r3 hz
      have hE : partL 3 r3 (moreN t n2 3600) 0 = parseL l := by
       rw [← HQ.out]; exact ((part_more _ _ _ _ HPL.out (by rw [HM.out]; exact hz)).trans (by rw [HM.out]; rfl)).symm
      have HE := Lib.hid hE
      clear hE hz
      have hm64 := Lib.hid (moreN_lt t n2 3600)
      generalize moreN t n2 3600 = t2 at *
      go_wp2_with (first | (go_at_call 73; refine (hd _).mono ?_; rintro e w' ⟨rfl, ⟨n_hd, rfl⟩⟩) | (go_at_call 75; refine (hny _).mono ?_; rintro e w' ⟨rfl, hb_hny⟩) | (go_at_call 77; refine (hi _).mono ?_; rintro e w' ⟨rfl, ⟨n_hi, rfl⟩⟩) | (go_at_call 76; refine (hk _).mono ?_; rintro e w' ⟨rfl, ⟨n_hk, rfl⟩⟩))
      go_step3
      go_wp2_with (first | (go_at_call 73; refine (hd _).mono ?_; rintro e w' ⟨rfl, ⟨n_hd, rfl⟩⟩) | (go_at_call 75; refine (hny _).mono ?_; rintro e w' ⟨rfl, hb_hny⟩) | (go_at_call 77; refine (hi _).mono ?_; rintro e w' ⟨rfl, ⟨n_hi, rfl⟩⟩) | (go_at_call 76; refine (hk _).mono ?_; rintro e w' ⟨rfl, ⟨n_hk, rfl⟩⟩))
      go_step3
      show J _ w 3 _ _ ∧ _
      refine ⟨⟨(by repeat (first | exact Below.refl _ _ | with_reducible assumption | refine b_dr ?_ _ | refine b_tr ?_ (by with_reducible assumption))), Or.inr (Or.inr (Or.inr ⟨rfl, r3, t2, 2, 0, HE.out, by omega, by omega, by omega, by omega, hm64.out, ?_⟩))⟩, (by show (10 - (0 : Int)).toNat < 20; omega)⟩
      exact ⟨_, _, _, _, _, _, _, _, _, _, _, _, _, _, _, _, _, _, _, _, _, _, _, _, _, _, _, _, _, _, _, _, _, _, _, _, _, _, _, _, _, _, _, _, _, _, _, _, _, _, _, _, _, _, _, _, _, _, _, _, _, _, _, _, _, _, _, _, _, _, _, rfl⟩
    ·
     skip
     by_cases q77 : u2 = 77
     ·
      subst q77
      have hi := fun w => place_at 77 1 rfl (by omega) w
      have hix := idx1
      have hk := fun w => more_calls t n2 60 ht64.out (by omega) (by omega) w
      have hplt : (-1 : Int) < place (nextL r2).2.1 := by rw [HM.out]; show (-1 : Int) < (1 : Int); omega
      have HPL := Lib.hid hplt
      clear hplt
      by_cases hz : r3 = []
      ·
       subst hz
       have hE : parseL l = finN (moreN t n2 60) := by
        rw [← HQ.out]; exact (part_fin _ _ _ _ HPL.out (by rw [HM.out])).trans (by rw [HM.out]; rfl)
       have HE := Lib.hid hE
       clear hE
       have hemp := empty_yes
       have hm64 := Lib.hid (moreN_lt t n2 60)
       generalize moreN t n2 60 = t2 at *
       by_cases hgt : 1125899906842624 < t2
       ·
        have HF := Lib.hid (HE.out.trans (fin_over _ hgt))
        go_wp2_with (first | (go_at_call 73; refine (hd _).mono ?_; rintro e w' ⟨rfl, ⟨n_hd, rfl⟩⟩) | (go_at_call 75; refine (hny _).mono ?_; rintro e w' ⟨rfl, hb_hny⟩) | (go_at_call 77; refine (hi _).mono ?_; rintro e w' ⟨rfl, ⟨n_hi, rfl⟩⟩) | (go_at_call 76; refine (hk _).mono ?_; rintro e w' ⟨rfl, ⟨n_hk, rfl⟩⟩))
        go_step3
        go_wp2_with (first | (go_at_call 73; refine (hd _).mono ?_; rintro e w' ⟨rfl, ⟨n_hd, rfl⟩⟩) | (go_at_call 75; refine (hny _).mono ?_; rintro e w' ⟨rfl, hb_hny⟩) | (go_at_call 77; refine (hi _).mono ?_; rintro e w' ⟨rfl, ⟨n_hi, rfl⟩⟩) | (go_at_call 76; refine (hk _).mono ?_; rintro e w' ⟨rfl, ⟨n_hk, rfl⟩⟩))
        go_step3
        go_wp2_with fail
        simp only [jumps]
        go_ret2
        exact ⟨by rw [HF.out]; rfl, (by repeat (first | exact Below.refl _ _ | with_reducible assumption | refine b_dr ?_ _ | refine b_tr ?_ (by with_reducible assumption)))⟩
       ·
        have hgt' : t2 ≤ 1125899906842624 := by omega
        clear hgt
        have HF := Lib.hid (HE.out.trans (fin_ok _ hgt'))
        go_wp2_with (first | (go_at_call 73; refine (hd _).mono ?_; rintro e w' ⟨rfl, ⟨n_hd, rfl⟩⟩) | (go_at_call 75; refine (hny _).mono ?_; rintro e w' ⟨rfl, hb_hny⟩) | (go_at_call 77; refine (hi _).mono ?_; rintro e w' ⟨rfl, ⟨n_hi, rfl⟩⟩) | (go_at_call 76; refine (hk _).mono ?_; rintro e w' ⟨rfl, ⟨n_hk, rfl⟩⟩))
        go_step3
        go_wp2_with (first | (go_at_call 73; refine (hd _).mono ?_; rintro e w' ⟨rfl, ⟨n_hd, rfl⟩⟩) | (go_at_call 75; refine (hny _).mono ?_; rintro e w' ⟨rfl, hb_hny⟩) | (go_at_call 77; refine (hi _).mono ?_; rintro e w' ⟨rfl, ⟨n_hi, rfl⟩⟩) | (go_at_call 76; refine (hk _).mono ?_; rintro e w' ⟨rfl, ⟨n_hk, rfl⟩⟩))
        go_step3
        go_wp2_with fail
        simp only [jumps]
        go_ret2
        exact ⟨by rw [HF.out]; rfl, (by repeat (first | exact Below.refl _ _ | with_reducible assumption | refine b_dr ?_ _ | refine b_tr ?_ (by with_reducible assumption)))⟩
      ·
       have hemp := empty_no r3 hz
       have hE : partL 3 r3 (moreN t n2 60) 1 = parseL l := by
        rw [← HQ.out]; exact ((part_more _ _ _ _ HPL.out (by rw [HM.out]; exact hz)).trans (by rw [HM.out]; rfl)).symm
       have HE := Lib.hid hE
       clear hE hz
       have hm64 := Lib.hid (moreN_lt t n2 60)
       generalize moreN t n2 60 = t2 at *
       go_wp2_with (first | (go_at_call 73; refine (hd _).mono ?_; rintro e w' ⟨rfl, ⟨n_hd, rfl⟩⟩) | (go_at_call 75; refine (hny _).mono ?_; rintro e w' ⟨rfl, hb_hny⟩) | (go_at_call 77; refine (hi _).mono ?_; rintro e w' ⟨rfl, ⟨n_hi, rfl⟩⟩) | (go_at_call 76; refine (hk _).mono ?_; rintro e w' ⟨rfl, ⟨n_hk, rfl⟩⟩))
       go_step3
       go_wp2_with (first | (go_at_call 73; refine (hd _).mono ?_; rintro e w' ⟨rfl, ⟨n_hd, rfl⟩⟩) | (go_at_call 75; refine (hny _).mono ?_; rintro e w' ⟨rfl, hb_hny⟩) | (go_at_call 77; refine (hi _).mono ?_; rintro e w' ⟨rfl, ⟨n_hi, rfl⟩⟩) | (go_at_call 76; refine (hk _).mono ?_; rintro e w' ⟨rfl, ⟨n_hk, rfl⟩⟩))
       go_step3
       show J _ w 3 _ _ ∧ _
       refine ⟨⟨(by repeat (first | exact Below.refl _ _ | with_reducible assumption | refine b_dr ?_ _ | refine b_tr ?_ (by with_reducible assumption))), Or.inr (Or.inr (Or.inr ⟨rfl, r3, t2, 2, 1, HE.out, by omega, by omega, by omega, by omega, hm64.out, ?_⟩))⟩, (by show (10 - (1 : Int)).toNat < 20; omega)⟩
       exact ⟨_, _, _, _, _, _, _, _, _, _, _, _, _, _, _, _, _, _, _, _, _, _, _, _, _, _, _, _, _, _, _, _, _, _, _, _, _, _, _, _, _, _, _, _, _, _, _, _, _, _, _, _, _, _, _, _, _, _, _, _, _, _, _, _, _, _, _, _, _, _, _, rfl⟩
     ·
      skip
      by_cases q83 : u2 = 83
      ·
       subst q83
       have hi := fun w => place_at 83 2 rfl (by omega) w
       have hix := idx2
       have hk := fun w => more_calls t n2 1 ht64.out (by omega) (by omega) w
       have hplt : (-1 : Int) < place (nextL r2).2.1 := by rw [HM.out]; show (-1 : Int) < (2 : Int); omega
       have HPL := Lib.hid hplt
       clear hplt
       by_cases hz : r3 = []
       ·
        subst hz
        have hE : parseL l = finN (moreN t n2 1) := by
         rw [← HQ.out]; exact (part_fin _ _ _ _ HPL.out (by rw [HM.out])).trans (by rw [HM.out]; rfl)
        have HE := Lib.hid hE
        clear hE
        have hemp := empty_yes
        have hm64 := Lib.hid (moreN_lt t n2 1)
        generalize moreN t n2 1 = t2 at *
        by_cases hgt : 1125899906842624 < t2
        ·
         have HF := Lib.hid (HE.out.trans (fin_over _ hgt))
         go_wp2_with (first | (go_at_call 73; refine (hd _).mono ?_; rintro e w' ⟨rfl, ⟨n_hd, rfl⟩⟩) | (go_at_call 75; refine (hny _).mono ?_; rintro e w' ⟨rfl, hb_hny⟩) | (go_at_call 77; refine (hi _).mono ?_; rintro e w' ⟨rfl, ⟨n_hi, rfl⟩⟩) | (go_at_call 76; refine (hk _).mono ?_; rintro e w' ⟨rfl, ⟨n_hk, rfl⟩⟩))
         go_step3
         go_wp2_with (first | (go_at_call 73; refine (hd _).mono ?_; rintro e w' ⟨rfl, ⟨n_hd, rfl⟩⟩) | (go_at_call 75; refine (hny _).mono ?_; rintro e w' ⟨rfl, hb_hny⟩) | (go_at_call 77; refine (hi _).mono ?_; rintro e w' ⟨rfl, ⟨n_hi, rfl⟩⟩) | (go_at_call 76; refine (hk _).mono ?_; rintro e w' ⟨rfl, ⟨n_hk, rfl⟩⟩))
         go_step3
         go_wp2_with fail
         simp only [jumps]
         go_ret2
         exact ⟨by rw [HF.out]; rfl, (by repeat (first | exact Below.refl _ _ | with_reducible assumption | refine b_dr ?_ _ | refine b_tr ?_ (by with_reducible assumption)))⟩
        ·
         have hgt' : t2 ≤ 1125899906842624 := by omega
         clear hgt
         have HF := Lib.hid (HE.out.trans (fin_ok _ hgt'))
         go_wp2_with (first | (go_at_call 73; refine (hd _).mono ?_; rintro e w' ⟨rfl, ⟨n_hd, rfl⟩⟩) | (go_at_call 75; refine (hny _).mono ?_; rintro e w' ⟨rfl, hb_hny⟩) | (go_at_call 77; refine (hi _).mono ?_; rintro e w' ⟨rfl, ⟨n_hi, rfl⟩⟩) | (go_at_call 76; refine (hk _).mono ?_; rintro e w' ⟨rfl, ⟨n_hk, rfl⟩⟩))
         go_step3
         go_wp2_with (first | (go_at_call 73; refine (hd _).mono ?_; rintro e w' ⟨rfl, ⟨n_hd, rfl⟩⟩) | (go_at_call 75; refine (hny _).mono ?_; rintro e w' ⟨rfl, hb_hny⟩) | (go_at_call 77; refine (hi _).mono ?_; rintro e w' ⟨rfl, ⟨n_hi, rfl⟩⟩) | (go_at_call 76; refine (hk _).mono ?_; rintro e w' ⟨rfl, ⟨n_hk, rfl⟩⟩))
         go_step3
         go_wp2_with fail
         simp only [jumps]
         go_ret2
         exact ⟨by rw [HF.out]; rfl, (by repeat (first | exact Below.refl _ _ | with_reducible assumption | refine b_dr ?_ _ | refine b_tr ?_ (by with_reducible assumption)))⟩
       ·
        have hemp := empty_no r3 hz
        have hE : partL 3 r3 (moreN t n2 1) 2 = parseL l := by
         rw [← HQ.out]; exact ((part_more _ _ _ _ HPL.out (by rw [HM.out]; exact hz)).trans (by rw [HM.out]; rfl)).symm
        have HE := Lib.hid hE
        clear hE hz
        have hm64 := Lib.hid (moreN_lt t n2 1)
        generalize moreN t n2 1 = t2 at *
        go_wp2_with (first | (go_at_call 73; refine (hd _).mono ?_; rintro e w' ⟨rfl, ⟨n_hd, rfl⟩⟩) | (go_at_call 75; refine (hny _).mono ?_; rintro e w' ⟨rfl, hb_hny⟩) | (go_at_call 77; refine (hi _).mono ?_; rintro e w' ⟨rfl, ⟨n_hi, rfl⟩⟩) | (go_at_call 76; refine (hk _).mono ?_; rintro e w' ⟨rfl, ⟨n_hk, rfl⟩⟩))
        go_step3
        go_wp2_with (first | (go_at_call 73; refine (hd _).mono ?_; rintro e w' ⟨rfl, ⟨n_hd, rfl⟩⟩) | (go_at_call 75; refine (hny _).mono ?_; rintro e w' ⟨rfl, hb_hny⟩) | (go_at_call 77; refine (hi _).mono ?_; rintro e w' ⟨rfl, ⟨n_hi, rfl⟩⟩) | (go_at_call 76; refine (hk _).mono ?_; rintro e w' ⟨rfl, ⟨n_hk, rfl⟩⟩))
        go_step3
        show J _ w 3 _ _ ∧ _
        refine ⟨⟨(by repeat (first | exact Below.refl _ _ | with_reducible assumption | refine b_dr ?_ _ | refine b_tr ?_ (by with_reducible assumption))), Or.inr (Or.inr (Or.inr ⟨rfl, r3, t2, 2, 2, HE.out, by omega, by omega, by omega, by omega, hm64.out, ?_⟩))⟩, (by show (10 - (2 : Int)).toNat < 20; omega)⟩
        exact ⟨_, _, _, _, _, _, _, _, _, _, _, _, _, _, _, _, _, _, _, _, _, _, _, _, _, _, _, _, _, _, _, _, _, _, _, _, _, _, _, _, _, _, _, _, _, _, _, _, _, _, _, _, _, _, _, _, _, _, _, _, _, _, _, _, _, _, _, _, _, _, _, rfl⟩
      ·
       skip
       have hpl : place u2 = -1 := by unfold place; rw [if_neg q72, if_neg q77, if_neg q83]
       have hi := fun w => place_at u2 (-1) hpl hul2 w
       have hE : parseL l = (0, 2) := by
        rw [← HQ.out]; exact part_no _ _ _ _ (by rw [HM.out]; show place u2 ≤ -1; rw [hpl]; omega)
       have HE := Lib.hid hE
       clear hE hpl q72 q77 q83
       go_wp2_with (first | (go_at_call 73; refine (hd _).mono ?_; rintro e w' ⟨rfl, ⟨n_hd, rfl⟩⟩) | (go_at_call 75; refine (hny _).mono ?_; rintro e w' ⟨rfl, hb_hny⟩) | (go_at_call 77; refine (hi _).mono ?_; rintro e w' ⟨rfl, ⟨n_hi, rfl⟩⟩))
       go_step3
       go_wp2_with (first | (go_at_call 73; refine (hd _).mono ?_; rintro e w' ⟨rfl, ⟨n_hd, rfl⟩⟩) | (go_at_call 75; refine (hny _).mono ?_; rintro e w' ⟨rfl, hb_hny⟩) | (go_at_call 77; refine (hi _).mono ?_; rintro e w' ⟨rfl, ⟨n_hi, rfl⟩⟩))
       go_step3
       show J _ w 0 _ _ ∧ _
       refine ⟨⟨(by repeat (first | exact Below.refl _ _ | with_reducible assumption | refine b_dr ?_ _ | refine b_tr ?_ (by with_reducible assumption))), Or.inl ⟨rfl, HE.out, ?_⟩⟩, (by show (1 : Nat) < 20; omega)⟩
       exact ⟨_, _, _, ⟨_, _, _, _, _, _, _, _, _, _, _, _, _, _, _, _, _, _, _, _, _, _, _, _, _, _, _, _, _, _, _, _, _, _, _, _, _, _, _, _, _, _, _, _, _, _, _, _, _, _, _, _, _, _, _, _, _, _, _, _, _, _, _, _, _, _, _, _, _, _, _, rfl⟩⟩
   ·
    have hd := fun w => cut_no 84 r h84 w
    have hE : parseL l = (0, 2) := by rw [← HP.out]; exact time_no r t h84
    have HF := Lib.hid hE
    clear hE h84
    go_wp2_with (first | (go_at_call 73; refine (hd _).mono ?_; rintro e w' ⟨rfl, ⟨n_hd, rfl⟩⟩))
    go_step3
    show J _ w 0 _ _ ∧ _
    refine ⟨⟨(by repeat (first | exact Below.refl _ _ | with_reducible assumption | refine b_dr ?_ _ | refine b_tr ?_ (by with_reducible assumption))), Or.inl ⟨rfl, HF.out, ?_⟩⟩, (by show (1 : Nat) < 20; omega)⟩
    exact ⟨_, _, _, ⟨_, _, _, _, _, _, _, _, _, _, _, _, _, _, _, _, _, _, _, _, _, _, _, _, _, _, _, _, _, _, _, _, _, _, _, _, _, _, _, _, _, _, _, _, _, _, _, _, _, _, _, _, _, _, _, _, _, _, _, _, _, _, _, _, _, _, _, _, _, _, _, rfl⟩⟩
  ·
   cases h
  ·
   cases h
 case p3 =>
  rintro a w1 ⟨hB, ⟨h, _⟩ | ⟨h, _⟩ | ⟨h, _⟩ | ⟨_, r2, t, k, p, hp, hp1, hp2, hk2, hr, ht, hF⟩⟩
  ·
   cases h
  ·
   cases h
  ·
   cases h
  ·
   obtain ⟨u0, u1, u2, u3, u5, u6, u7, u10, u11, u12, u13, u14, u15, u16, u17, u18, u19, u20, u21, u22, u23, u24, u25, u26, u27, u28, u29, u30, u31, u32, u33, u34, u35, u36, u37, u38, u39, u40, u41, u42, u43, u44, u45, u46, u47, u48, u49, u50, u51, u52, u53, u54, u55, u56, u57, u58, u59, u60, u61, u62, u63, u64, u65, u66, u67, u68, u69, u70, u71, u72, u73, rfl⟩ := hF
   have HQ := Lib.hid hp
   have ht64 := Lib.hid ht
   have hr2 : r2.length ≤ 140737488351232 := by omega
   have hrr : r2.length ≤ l.length := hr
   clear hp ht hr
   obtain ⟨n2, u2, r3, hn2, hnl2, hul2, hr3, hny⟩ := next_named r2 hr2
   have HM := Lib.hid hn2
   clear hn2
   by_cases q72 : u2 = 72
   ·
    subst q72
    have hi := fun w => place_at 72 0 rfl (by omega) w
    have hix := idx0
    have hk := fun w => more_calls t n2 3600 ht64.out (by omega) (by omega) w
    by_cases hp : (0 : Int) ≤ p
    ·
     have hE : parseL l = (0, 2) := by
      rw [← HQ.out]; exact part_no _ _ _ _ (by rw [HM.out]; show (0 : Int) ≤ p; exact hp)
     have HE := Lib.hid hE
     clear hE
     go_wp2_with (first | (go_at_call 75; refine (hny _).mono ?_; rintro e w' ⟨rfl, hb_hny⟩) | (go_at_call 77; refine (hi _).mono ?_; rintro e w' ⟨rfl, ⟨n_hi, rfl⟩⟩))
     go_step3
     show J _ w 0 _ _ ∧ _
     refine ⟨⟨(by repeat (first | exact Below.refl _ _ | with_reducible assumption | refine b_dr ?_ _ | refine b_tr ?_ (by with_reducible assumption))), Or.inl ⟨rfl, HE.out, ?_⟩⟩, (by show (1 : Nat) < (10 - p).toNat; omega)⟩
     exact ⟨_, _, _, ⟨_, _, _, _, _, _, _, _, _, _, _, _, _, _, _, _, _, _, _, _, _, _, _, _, _, _, _, _, _, _, _, _, _, _, _, _, _, _, _, _, _, _, _, _, _, _, _, _, _, _, _, _, _, _, _, _, _, _, _, _, _, _, _, _, _, _, _, _, _, _, _, rfl⟩⟩
    ·
     have hp' : p < (0 : Int) := by omega
     clear hp
     have hplt : p < place (nextL r2).2.1 := by rw [HM.out]; show p < (0 : Int); omega
     have HPL := Lib.hid hplt
     clear hplt
     by_cases hz : r3 = []
     ·
      subst hz
      have hE : parseL l = finN (moreN t n2 3600) := by
       rw [← HQ.out]; exact (part_fin _ _ _ _ HPL.out (by rw [HM.out])).trans (by rw [HM.out]; rfl)
      have HE := Lib.hid hE
      clear hE
      have hemp := empty_yes
      have hm64 := Lib.hid (moreN_lt t n2 3600)
      generalize moreN t n2 3600 = t2 at *
      by_cases hgt : 1125899906842624 < t2
      ·
       have HF := Lib.hid (HE.out.trans (fin_over _ hgt))
       go_wp2_with (first | (go_at_call 75; refine (hny _).mono ?_; rintro e w' ⟨rfl, hb_hny⟩) | (go_at_call 77; refine (hi _).mono ?_; rintro e w' ⟨rfl, ⟨n_hi, rfl⟩⟩) | (go_at_call 76; refine (hk _).mono ?_; rintro e w' ⟨rfl, ⟨n_hk, rfl⟩⟩))
       go_step3
       go_wp2_with fail
       simp only [jumps]
       go_ret2
       exact ⟨by rw [HF.out]; rfl, (by repeat (first | exact Below.refl _ _ | with_reducible assumption | refine b_dr ?_ _ | refine b_tr ?_ (by with_reducible assumption)))⟩
      ·
       have hgt' : t2 ≤ 1125899906842624 := by omega
       clear hgt
       have HF := Lib.hid (HE.out.trans (fin_ok _ hgt'))
       go_wp2_with (first | (go_at_call 75; refine (hny _).mono ?_; rintro e w' ⟨rfl, hb_hny⟩) | (go_at_call 77; refine (hi _).mono ?_; rintro e w' ⟨rfl, ⟨n_hi, rfl⟩⟩) | (go_at_call 76; refine (hk _).mono ?_; rintro e w' ⟨rfl, ⟨n_hk, rfl⟩⟩))
       go_step3
       go_wp2_with fail
       simp only [jumps]
       go_ret2
       exact ⟨by rw [HF.out]; rfl, (by repeat (first | exact Below.refl _ _ | with_reducible assumption | refine b_dr ?_ _ | refine b_tr ?_ (by with_reducible assumption)))⟩
     ·
      have hemp := empty_no r3 hz
      have hE : partL k r3 (moreN t n2 3600) 0 = parseL l := by
       rw [← HQ.out]; exact ((part_more _ _ _ _ HPL.out (by rw [HM.out]; exact hz)).trans (by rw [HM.out]; rfl)).symm
      have HE := Lib.hid hE
      clear hE hz
      have hm64 := Lib.hid (moreN_lt t n2 3600)
      generalize moreN t n2 3600 = t2 at *
      obtain ⟨k', rfl⟩ : ∃ k', k = k' + 1 := ⟨k - 1, by omega⟩
      go_wp2_with (first | (go_at_call 75; refine (hny _).mono ?_; rintro e w' ⟨rfl, hb_hny⟩) | (go_at_call 77; refine (hi _).mono ?_; rintro e w' ⟨rfl, ⟨n_hi, rfl⟩⟩) | (go_at_call 76; refine (hk _).mono ?_; rintro e w' ⟨rfl, ⟨n_hk, rfl⟩⟩))
      go_step3
      show J _ w 3 _ _ ∧ _
      refine ⟨⟨(by repeat (first | exact Below.refl _ _ | with_reducible assumption | refine b_dr ?_ _ | refine b_tr ?_ (by with_reducible assumption))), Or.inr (Or.inr (Or.inr ⟨rfl, r3, t2, k', 0, HE.out, by omega, by omega, by omega, by omega, hm64.out, ?_⟩))⟩, (by show (10 - (0 : Int)).toNat < (10 - p).toNat; omega)⟩
      exact ⟨_, _, _, _, _, _, _, _, _, _, _, _, _, _, _, _, _, _, _, _, _, _, _, _, _, _, _, _, _, _, _, _, _, _, _, _, _, _, _, _, _, _, _, _, _, _, _, _, _, _, _, _, _, _, _, _, _, _, _, _, _, _, _, _, _, _, _, _, _, _, _, rfl⟩
   ·
    skip
    by_cases q77 : u2 = 77
    ·
     subst q77
     have hi := fun w => place_at 77 1 rfl (by omega) w
     have hix := idx1
     have hk := fun w => more_calls t n2 60 ht64.out (by omega) (by omega) w
     by_cases hp : (1 : Int) ≤ p
     ·
      have hE : parseL l = (0, 2) := by
       rw [← HQ.out]; exact part_no _ _ _ _ (by rw [HM.out]; show (1 : Int) ≤ p; exact hp)
      have HE := Lib.hid hE
      clear hE
      go_wp2_with (first | (go_at_call 75; refine (hny _).mono ?_; rintro e w' ⟨rfl, hb_hny⟩) | (go_at_call 77; refine (hi _).mono ?_; rintro e w' ⟨rfl, ⟨n_hi, rfl⟩⟩))
      go_step3
      show J _ w 0 _ _ ∧ _
      refine ⟨⟨(by repeat (first | exact Below.refl _ _ | with_reducible assumption | refine b_dr ?_ _ | refine b_tr ?_ (by with_reducible assumption))), Or.inl ⟨rfl, HE.out, ?_⟩⟩, (by show (1 : Nat) < (10 - p).toNat; omega)⟩
      exact ⟨_, _, _, ⟨_, _, _, _, _, _, _, _, _, _, _, _, _, _, _, _, _, _, _, _, _, _, _, _, _, _, _, _, _, _, _, _, _, _, _, _, _, _, _, _, _, _, _, _, _, _, _, _, _, _, _, _, _, _, _, _, _, _, _, _, _, _, _, _, _, _, _, _, _, _, _, rfl⟩⟩
     ·
      have hp' : p < (1 : Int) := by omega
      clear hp
      have hplt : p < place (nextL r2).2.1 := by rw [HM.out]; show p < (1 : Int); omega
      have HPL := Lib.hid hplt
      clear hplt
      by_cases hz : r3 = []
      ·
       subst hz
       have hE : parseL l = finN (moreN t n2 60) := by
        rw [← HQ.out]; exact (part_fin _ _ _ _ HPL.out (by rw [HM.out])).trans (by rw [HM.out]; rfl)
       have HE := Lib.hid hE
       clear hE
       have hemp := empty_yes
       have hm64 := Lib.hid (moreN_lt t n2 60)
       generalize moreN t n2 60 = t2 at *
       by_cases hgt : 1125899906842624 < t2
       ·
        have HF := Lib.hid (HE.out.trans (fin_over _ hgt))
        go_wp2_with (first | (go_at_call 75; refine (hny _).mono ?_; rintro e w' ⟨rfl, hb_hny⟩) | (go_at_call 77; refine (hi _).mono ?_; rintro e w' ⟨rfl, ⟨n_hi, rfl⟩⟩) | (go_at_call 76; refine (hk _).mono ?_; rintro e w' ⟨rfl, ⟨n_hk, rfl⟩⟩))
        go_step3
        go_wp2_with fail
        simp only [jumps]
        go_ret2
        exact ⟨by rw [HF.out]; rfl, (by repeat (first | exact Below.refl _ _ | with_reducible assumption | refine b_dr ?_ _ | refine b_tr ?_ (by with_reducible assumption)))⟩
       ·
        have hgt' : t2 ≤ 1125899906842624 := by omega
        clear hgt
        have HF := Lib.hid (HE.out.trans (fin_ok _ hgt'))
        go_wp2_with (first | (go_at_call 75; refine (hny _).mono ?_; rintro e w' ⟨rfl, hb_hny⟩) | (go_at_call 77; refine (hi _).mono ?_; rintro e w' ⟨rfl, ⟨n_hi, rfl⟩⟩) | (go_at_call 76; refine (hk _).mono ?_; rintro e w' ⟨rfl, ⟨n_hk, rfl⟩⟩))
        go_step3
        go_wp2_with fail
        simp only [jumps]
        go_ret2
        exact ⟨by rw [HF.out]; rfl, (by repeat (first | exact Below.refl _ _ | with_reducible assumption | refine b_dr ?_ _ | refine b_tr ?_ (by with_reducible assumption)))⟩
      ·
       have hemp := empty_no r3 hz
       have hE : partL k r3 (moreN t n2 60) 1 = parseL l := by
        rw [← HQ.out]; exact ((part_more _ _ _ _ HPL.out (by rw [HM.out]; exact hz)).trans (by rw [HM.out]; rfl)).symm
       have HE := Lib.hid hE
       clear hE hz
       have hm64 := Lib.hid (moreN_lt t n2 60)
       generalize moreN t n2 60 = t2 at *
       obtain ⟨k', rfl⟩ : ∃ k', k = k' + 1 := ⟨k - 1, by omega⟩
       go_wp2_with (first | (go_at_call 75; refine (hny _).mono ?_; rintro e w' ⟨rfl, hb_hny⟩) | (go_at_call 77; refine (hi _).mono ?_; rintro e w' ⟨rfl, ⟨n_hi, rfl⟩⟩) | (go_at_call 76; refine (hk _).mono ?_; rintro e w' ⟨rfl, ⟨n_hk, rfl⟩⟩))
       go_step3
       show J _ w 3 _ _ ∧ _
       refine ⟨⟨(by repeat (first | exact Below.refl _ _ | with_reducible assumption | refine b_dr ?_ _ | refine b_tr ?_ (by with_reducible assumption))), Or.inr (Or.inr (Or.inr ⟨rfl, r3, t2, k', 1, HE.out, by omega, by omega, by omega, by omega, hm64.out, ?_⟩))⟩, (by show (10 - (1 : Int)).toNat < (10 - p).toNat; omega)⟩
       exact ⟨_, _, _, _, _, _, _, _, _, _, _, _, _, _, _, _, _, _, _, _, _, _, _, _, _, _, _, _, _, _, _, _, _, _, _, _, _, _, _, _, _, _, _, _, _, _, _, _, _, _, _, _, _, _, _, _, _, _, _, _, _, _, _, _, _, _, _, _, _, _, _, rfl⟩
    ·
     skip
     by_cases q83 : u2 = 83
     ·
      subst q83
      have hi := fun w => place_at 83 2 rfl (by omega) w
      have hix := idx2
      have hk := fun w => more_calls t n2 1 ht64.out (by omega) (by omega) w
      by_cases hp : (2 : Int) ≤ p
      ·
       have hE : parseL l = (0, 2) := by
        rw [← HQ.out]; exact part_no _ _ _ _ (by rw [HM.out]; show (2 : Int) ≤ p; exact hp)
       have HE := Lib.hid hE
       clear hE
       go_wp2_with (first | (go_at_call 75; refine (hny _).mono ?_; rintro e w' ⟨rfl, hb_hny⟩) | (go_at_call 77; refine (hi _).mono ?_; rintro e w' ⟨rfl, ⟨n_hi, rfl⟩⟩))
       go_step3
       show J _ w 0 _ _ ∧ _
       refine ⟨⟨(by repeat (first | exact Below.refl _ _ | with_reducible assumption | refine b_dr ?_ _ | refine b_tr ?_ (by with_reducible assumption))), Or.inl ⟨rfl, HE.out, ?_⟩⟩, (by show (1 : Nat) < (10 - p).toNat; omega)⟩
       exact ⟨_, _, _, ⟨_, _, _, _, _, _, _, _, _, _, _, _, _, _, _, _, _, _, _, _, _, _, _, _, _, _, _, _, _, _, _, _, _, _, _, _, _, _, _, _, _, _, _, _, _, _, _, _, _, _, _, _, _, _, _, _, _, _, _, _, _, _, _, _, _, _, _, _, _, _, _, rfl⟩⟩
      ·
       have hp' : p < (2 : Int) := by omega
       clear hp
       have hplt : p < place (nextL r2).2.1 := by rw [HM.out]; show p < (2 : Int); omega
       have HPL := Lib.hid hplt
       clear hplt
       by_cases hz : r3 = []
       ·
        subst hz
        have hE : parseL l = finN (moreN t n2 1) := by
         rw [← HQ.out]; exact (part_fin _ _ _ _ HPL.out (by rw [HM.out])).trans (by rw [HM.out]; rfl)
        have HE := Lib.hid hE
        clear hE
        have hemp := empty_yes
        have hm64 := Lib.hid (moreN_lt t n2 1)
        generalize moreN t n2 1 = t2 at *
        by_cases hgt : 1125899906842624 < t2
        ·
         have HF := Lib.hid (HE.out.trans (fin_over _ hgt))
         go_wp2_with (first | (go_at_call 75; refine (hny _).mono ?_; rintro e w' ⟨rfl, hb_hny⟩) | (go_at_call 77; refine (hi _).mono ?_; rintro e w' ⟨rfl, ⟨n_hi, rfl⟩⟩) | (go_at_call 76; refine (hk _).mono ?_; rintro e w' ⟨rfl, ⟨n_hk, rfl⟩⟩))
         go_step3
         go_wp2_with fail
         simp only [jumps]
         go_ret2
         exact ⟨by rw [HF.out]; rfl, (by repeat (first | exact Below.refl _ _ | with_reducible assumption | refine b_dr ?_ _ | refine b_tr ?_ (by with_reducible assumption)))⟩
        ·
         have hgt' : t2 ≤ 1125899906842624 := by omega
         clear hgt
         have HF := Lib.hid (HE.out.trans (fin_ok _ hgt'))
         go_wp2_with (first | (go_at_call 75; refine (hny _).mono ?_; rintro e w' ⟨rfl, hb_hny⟩) | (go_at_call 77; refine (hi _).mono ?_; rintro e w' ⟨rfl, ⟨n_hi, rfl⟩⟩) | (go_at_call 76; refine (hk _).mono ?_; rintro e w' ⟨rfl, ⟨n_hk, rfl⟩⟩))
         go_step3
         go_wp2_with fail
         simp only [jumps]
         go_ret2
         exact ⟨by rw [HF.out]; rfl, (by repeat (first | exact Below.refl _ _ | with_reducible assumption | refine b_dr ?_ _ | refine b_tr ?_ (by with_reducible assumption)))⟩
       ·
        have hemp := empty_no r3 hz
        have hE : partL k r3 (moreN t n2 1) 2 = parseL l := by
         rw [← HQ.out]; exact ((part_more _ _ _ _ HPL.out (by rw [HM.out]; exact hz)).trans (by rw [HM.out]; rfl)).symm
        have HE := Lib.hid hE
        clear hE hz
        have hm64 := Lib.hid (moreN_lt t n2 1)
        generalize moreN t n2 1 = t2 at *
        obtain ⟨k', rfl⟩ : ∃ k', k = k' + 1 := ⟨k - 1, by omega⟩
        go_wp2_with (first | (go_at_call 75; refine (hny _).mono ?_; rintro e w' ⟨rfl, hb_hny⟩) | (go_at_call 77; refine (hi _).mono ?_; rintro e w' ⟨rfl, ⟨n_hi, rfl⟩⟩) | (go_at_call 76; refine (hk _).mono ?_; rintro e w' ⟨rfl, ⟨n_hk, rfl⟩⟩))
        go_step3
        show J _ w 3 _ _ ∧ _
        refine ⟨⟨(by repeat (first | exact Below.refl _ _ | with_reducible assumption | refine b_dr ?_ _ | refine b_tr ?_ (by with_reducible assumption))), Or.inr (Or.inr (Or.inr ⟨rfl, r3, t2, k', 2, HE.out, by omega, by omega, by omega, by omega, hm64.out, ?_⟩))⟩, (by show (10 - (2 : Int)).toNat < (10 - p).toNat; omega)⟩
        exact ⟨_, _, _, _, _, _, _, _, _, _, _, _, _, _, _, _, _, _, _, _, _, _, _, _, _, _, _, _, _, _, _, _, _, _, _, _, _, _, _, _, _, _, _, _, _, _, _, _, _, _, _, _, _, _, _, _, _, _, _, _, _, _, _, _, _, _, _, _, _, _, _, rfl⟩
     ·
      skip
      have hpl : place u2 = -1 := by unfold place; rw [if_neg q72, if_neg q77, if_neg q83]
      have hi := fun w => place_at u2 (-1) hpl hul2 w
      have hE : parseL l = (0, 2) := by
       rw [← HQ.out]; exact part_no _ _ _ _ (by rw [HM.out]; show place u2 ≤ p; rw [hpl]; omega)
      have HE := Lib.hid hE
      clear hE hpl q72 q77 q83
      go_wp2_with (first | (go_at_call 75; refine (hny _).mono ?_; rintro e w' ⟨rfl, hb_hny⟩) | (go_at_call 77; refine (hi _).mono ?_; rintro e w' ⟨rfl, ⟨n_hi, rfl⟩⟩))
      go_step3
      show J _ w 0 _ _ ∧ _
      refine ⟨⟨(by repeat (first | exact Below.refl _ _ | with_reducible assumption | refine b_dr ?_ _ | refine b_tr ?_ (by with_reducible assumption))), Or.inl ⟨rfl, HE.out, ?_⟩⟩, (by show (1 : Nat) < (10 - p).toNat; omega)⟩
      exact ⟨_, _, _, ⟨_, _, _, _, _, _, _, _, _, _, _, _, _, _, _, _, _, _, _, _, _, _, _, _, _, _, _, _, _, _, _, _, _, _, _, _, _, _, _, _, _, _, _, _, _, _, _, _, _, _, _, _, _, _, _, _, _, _, _, _, _, _, _, _, _, _, _, _, _, _, _, rfl⟩⟩
end Go.Proofs.YtcaegaljhogbjaaGreatDoor.Span
