/- The law SpanSums, walked by hand (an array with a variable index): it comes to true for every input. -/
import Derived.Test.YtmjabkegnpinoaaDoorQx1
import Derived.Test.YtmjabkegnpinoaaDoorPureSpan
import Derived.Test.YtmjabkegnpinoaaDoorSpanCutLaws
import Derived.Test.YtmjabkegnpinoaaDoorRefDigits
import Derived.LoopTactic
import Derived.Lib.SmallJoins
import Derived.WalkKit
set_option linter.unusedVariables false
set_option linter.unusedSimpArgs false
namespace Go.Proofs.YtmjabkegnpinoaaDoor.Pure
open Go.RowKit Go.Lib Go.Sort Go.Proofs.YtmjabkegnpinoaaDoorW.PrintWords Go.Proofs.YtmjabkegnpinoaaDoorW.PrintLast Go.Proofs.YtmjabkegnpinoaaDoorW.PrintMore Go.Proofs.YtmjabkegnpinoaaDoor.Ext Go.Proofs.YtmjabkegnpinoaaDoor.B Go.Proofs.YtmjabkegnpinoaaDoor.Q Go.Proofs.YtmjabkegnpinoaaDoor.Span

/-- A number, if its bit is set. -/
def oB (b : Bool) (n : Nat) : Option Nat := if b then some n else none
def sOpt (b : Bool) (n : Nat) (c : UInt8) : List UInt8 := if b then Lib.decDigits n ++ [c] else []
theorem sOpt_eq (b : Bool) (n : Nat) (c : UInt8) : sOpt b n c = optU (oB b n) c := by cases b <;> rfl
/-- The text behind so many rounds. -/
def sT (b0 b1 b2 b3 t : Bool) (n0 n1 n2 n3 : Nat) : Nat → List UInt8
  | 0 => [80]
  | 1 => [80] ++ sOpt b0 n0 68
  | 2 => [80] ++ sOpt b0 n0 68 ++ (if t then [84] else []) ++ sOpt b1 n1 72
  | 3 => [80] ++ sOpt b0 n0 68 ++ (if t then [84] else []) ++ sOpt b1 n1 72 ++ sOpt b2 n2 77
  | _ => [80] ++ sOpt b0 n0 68 ++ (if t then [84] else []) ++ sOpt b1 n1 72 ++ sOpt b2 n2 77 ++ sOpt b3 n3 83
def sB (b : Bool) (n : Nat) : Nat := if b then n else 0
def sN (b0 b1 b2 b3 : Bool) (n0 n1 n2 n3 : Nat) : Nat → Nat
  | 0 => 0
  | 1 => sB b0 n0 * 86400
  | 2 => sB b0 n0 * 86400 + sB b1 n1 * 3600
  | 3 => sB b0 n0 * 86400 + sB b1 n1 * 3600 + sB b2 n2 * 60
  | _ => sB b0 n0 * 86400 + sB b1 n1 * 3600 + sB b2 n2 * 60 + sB b3 n3 * 1
theorem sB_le (b : Bool) (n : Nat) (h : n < 4294967296) : sB b n < 4294967296 := by unfold sB; split <;> omega
theorem sOpt_len (b : Bool) (n : Nat) (c : UInt8) (h : n < 4294967296) : (sOpt b n c).length ≤ 21 := by
  unfold sOpt
  split
  · have := digits_len n (by omega); rw [List.length_append]; simp only [List.length_cons, List.length_nil]; omega
  · exact Nat.zero_le _
theorem sT_len (b0 b1 b2 b3 t : Bool) (n0 n1 n2 n3 i : Nat) (h0 : n0 < 4294967296) (h1 : n1 < 4294967296) (h2 : n2 < 4294967296) (h3 : n3 < 4294967296) : (sT b0 b1 b2 b3 t n0 n1 n2 n3 i).length ≤ 200 := by
  have a0 := sOpt_len b0 n0 68 h0
  have a1 := sOpt_len b1 n1 72 h1
  have a2 := sOpt_len b2 n2 77 h2
  have a3 := sOpt_len b3 n3 83 h3
  have at' : (if t then [84] else [] : List UInt8).length ≤ 1 := by cases t <;> decide
  match i with
  | 0 => simp only [sT, List.length_cons, List.length_nil]; omega
  | 1 => simp only [sT, List.length_append, List.length_cons, List.length_nil]; omega
  | 2 => simp only [sT, List.length_append, List.length_cons, List.length_nil]; omega
  | 3 => simp only [sT, List.length_append, List.length_cons, List.length_nil]; omega
  | k + 4 => simp only [sT, List.length_append, List.length_cons, List.length_nil]; omega
theorem oN_oB (b : Bool) (n : Nat) : oN (oB b n) = sB b n := by cases b <;> rfl
theorem small_oB (b : Bool) (n : Nat) (h : n < 4294967296) : small (oB b n) := by
  intro k hk
  cases b with
  | false => cases hk
  | true => cases hk; omega
theorem oB_ne {b : Bool} {n : Nat} (h : b = true) : oB b n ≠ none := by subst h; simp [oB]
/-- The whole text is read as the sum. -/
theorem sums_parse (b0 b1 b2 b3 t : Bool) (n0 n1 n2 n3 : Nat) (h0 : n0 < 4294967296) (h1 : n1 < 4294967296) (h2 : n2 < 4294967296) (h3 : n3 < 4294967296) (ht : t = (b1 || b2 || b3)) (hne : (b0 || (b1 || b2 || b3)) = true) :
    parseL (sT b0 b1 b2 b3 t n0 n1 n2 n3 4) = (sN b0 b1 b2 b3 n0 n1 n2 n3 4, 0) := by
  have g0 := sB_le b0 n0 h0
  have g1 := sB_le b1 n1 h1
  have g2 := sB_le b2 n2 h2
  have g3 := sB_le b3 n3 h3
  cases t with
  | true =>
    have hor : b1 = true ∨ b2 = true ∨ b3 = true := by revert ht; cases b1 <;> cases b2 <;> cases b3 <;> simp
    have e := parse_opt (oB b0 n0) (oB b1 n1) (oB b2 n2) (oB b3 n3) (fun k hk => by have := small_oB b0 n0 h0 k hk; cases b0 <;> cases hk; omega) (small_oB b1 n1 h1) (small_oB b2 n2 h2) (small_oB b3 n3 h3)
      (by rcases hor with h | h | h
          · exact Or.inl (oB_ne h)
          · exact Or.inr (Or.inl (oB_ne h))
          · exact Or.inr (Or.inr (oB_ne h)))
    rw [oN_oB, oN_oB, oN_oB, oN_oB, fin_of _ (by omega)] at e
    have e2 : sT b0 b1 b2 b3 true n0 n1 n2 n3 4 = 80 :: (optU (oB b0 n0) 68 ++ 84 :: (optU (oB b1 n1) 72 ++ (optU (oB b2 n2) 77 ++ optU (oB b3 n3) 83))) := by
      simp [sT, sOpt_eq]
    rw [e2, e]
    simp [sN]
  | false =>
    have hall : b1 = false ∧ b2 = false ∧ b3 = false := by revert ht; cases b1 <;> cases b2 <;> cases b3 <;> simp
    obtain ⟨rfl, rfl, rfl⟩ := hall
    have hb : b0 = true := by simpa using hne
    subst hb
    have e2 : sT true false false false false n0 n1 n2 n3 4 = 80 :: (Lib.decDigits n0 ++ [68]) := by simp [sT, sOpt]
    rw [e2, parse_day n0 (by omega), fin_of _ (by omega)]
    simp [sN, sB]
/-- The bits of a number below 256, as the code asks for them. -/
theorem bits_say : ∀ n : Fin 256, (bits BinOp.and IntKind.u8 ((n.val : Nat) : Int) 14 != 0) = ((bits BinOp.and IntKind.u8 (((n.val : Nat) : Int) / 2) 1 == 1) || (bits BinOp.and IntKind.u8 (((n.val : Nat) : Int) / 4) 1 == 1) || (bits BinOp.and IntKind.u8 (((n.val : Nat) : Int) / 8) 1 == 1)) ∧ (((n.val : Nat) : Int) % 16 == 0) = !((bits BinOp.and IntKind.u8 ((n.val : Nat) : Int) 1 == 1) || ((bits BinOp.and IntKind.u8 (((n.val : Nat) : Int) / 2) 1 == 1) || (bits BinOp.and IntKind.u8 (((n.val : Nat) : Int) / 4) 1 == 1) || (bits BinOp.and IntKind.u8 (((n.val : Nat) : Int) / 8) 1 == 1))) := by decide +kernel

def BaseS (w : World) (n0 n1 n2 n3 : Nat) (wc : World) : Prop :=
  Aside0 (wc.heap[w.heap.size]? = some (.cells #[.int .u32 (n0 : Int), .int .u32 (n1 : Int), .int .u32 (n2 : Int), .int .u32 (n3 : Int)] 34 (0, 0))) ∧ Aside0 (wc.heap[w.heap.size + 1]? = some (.cells #[.int .u64 86400, .int .u64 3600, .int .u64 60, .int .u64 1] 23 (0, 0))) ∧ Aside0 (Below w.heap.size w wc)
theorem BaseS.below {w wc w' : World} {n0 n1 n2 n3 : Nat} (h : BaseS w n0 n1 n2 n3 wc) (hb : Below wc.heap.size wc w') : BaseS w n0 n1 n2 n3 w' :=
  ⟨⟨blk_below h.1.out hb⟩, ⟨blk_below h.2.1.out hb⟩, ⟨h.2.2.out.trans (Joins.below_le hb h.2.2.out.size)⟩⟩
theorem BaseS.drew {w wc : World} {n0 n1 n2 n3 : Nat} (h : BaseS w n0 n1 n2 n3 wc) : BaseS w n0 n1 n2 n3 wc.drew := h.below (below_drew1 (Below.refl _ _))

set_option maxHeartbeats 8000000 in
set_option maxRecDepth 100000 in
theorem sums_walk (n0 n1 n2 n3 : Nat) (a : Int) (w : World) (hTab : Tab w) (h0 : n0 < 4294967296) (h1 : n1 < 4294967296) (h2 : n2 < 4294967296) (h3 : n3 < 4294967296) (ha : 0 ≤ a ∧ a < 256) :
    Calls Tryd.prog 6 #[.agg #[.int .u32 (n0 : Int), .int .u32 (n1 : Int), .int .u32 (n2 : Int), .int .u32 (n3 : Int)], .int .u8 a] w fun e w' => e = .returned (.bool true) ∧ Below w.heap.size w w' := by
  obtain ⟨an, rfl⟩ := Int.eq_ofNat_of_zero_le ha.1
  have hbits := bits_say ⟨an, by omega⟩
  obtain ⟨b0, hb0⟩ : ∃ b, (bits BinOp.and IntKind.u8 (an : Int) 1 == 1) = b := ⟨_, rfl⟩
  obtain ⟨b1, hb1⟩ : ∃ b, (bits BinOp.and IntKind.u8 ((an : Int) / 2) 1 == 1) = b := ⟨_, rfl⟩
  obtain ⟨b2, hb2⟩ : ∃ b, (bits BinOp.and IntKind.u8 ((an : Int) / 4) 1 == 1) = b := ⟨_, rfl⟩
  obtain ⟨b3, hb3⟩ : ∃ b, (bits BinOp.and IntKind.u8 ((an : Int) / 8) 1 == 1) = b := ⟨_, rfl⟩
  obtain ⟨t, ht⟩ : ∃ b, (bits BinOp.and IntKind.u8 (an : Int) 14 != 0) = b := ⟨_, rfl⟩
  obtain ⟨z, hz⟩ : ∃ b, ((an : Int) % 16 == 0) = b := ⟨_, rfl⟩
  have HB0 := Aside0.mk hb0
  have HB1 := Aside0.mk hb1
  have HB2 := Aside0.mk hb2
  have HB3 := Aside0.mk hb3
  have HBT := Aside0.mk ht
  have HBZ := Aside0.mk hz
  have HTB := Aside0.mk (show t = (b1 || b2 || b3) by rw [← ht, ← hb1, ← hb2, ← hb3]; exact hbits.1)
  have HZB := Aside0.mk (show z = !(b0 || (b1 || b2 || b3)) by rw [← hz, ← hb0, ← hb1, ← hb2, ← hb3]; exact hbits.2)
  have HT := Aside0.mk hTab
  have H0 := Aside0.mk h0
  have H1 := Aside0.mk h1
  have H2 := Aside0.mk h2
  have H3 := Aside0.mk h3
  clear hb0 hb1 hb2 hb3 ht hz hbits hTab h0 h1 h2 h3
  go_enter Tryd.func6, Tryd.ntmps6
  go_wp2
  go_loopg [6, 7, 8] (4) (fun kq v6 v7 v8 wr => ∃ i : Nat, v8 = .int .i64 (i : Int) ∧ v6 = .string (S (sT b0 b1 b2 b3 t n0 n1 n2 n3 i)) ∧ v7 = .int .u64 ((sN b0 b1 b2 b3 n0 n1 n2 n3 i : Nat) : Int) ∧ Aside0 (kq + i = 4) ∧ BaseS w n0 n1 n2 n3 wr)
  case atStart =>
    have b1 := blk_new w (.cells #[.int .u32 (n0 : Int), .int .u32 (n1 : Int), .int .u32 (n2 : Int), .int .u32 (n3 : Int)] 34)
    have s1 : (w.alloc (.cells #[.int .u32 (n0 : Int), .int .u32 (n1 : Int), .int .u32 (n2 : Int), .int .u32 (n3 : Int)] 34)).heap.size = w.heap.size + 1 := by simp
    have bl : Below w.heap.size w (w.alloc (.cells #[.int .u32 (n0 : Int), .int .u32 (n1 : Int), .int .u32 (n2 : Int), .int .u32 (n3 : Int)] 34)) := (Below.refl _ _).alloc (Nat.le_refl _) _
    have b2 := blk_new (w.alloc (.cells #[.int .u32 (n0 : Int), .int .u32 (n1 : Int), .int .u32 (n2 : Int), .int .u32 (n3 : Int)] 34)) (.cells #[.int .u64 86400, .int .u64 3600, .int .u64 60, .int .u64 1] 23)
    rw [s1] at b2
    exact ⟨0, rfl, rfl, rfl, ⟨rfl⟩, ⟨blk_below b1 ((Below.refl _ _).alloc (Nat.le_refl _) _)⟩, ⟨b2⟩, ⟨bl.alloc (by rw [s1]; omega) _⟩⟩
  case round =>
    obtain ⟨i, rfl, rfl, rfl, HF, HBs⟩ := hrel
    have wi1 : IntKind.i64.wrap 1 = 1 := by rw [i64_w]; unfold wrap64; omega
    have wi2 : IntKind.i64.wrap 2 = 2 := by rw [i64_w]; unfold wrap64; omega
    have wi3 : IntKind.i64.wrap 3 = 3 := by rw [i64_w]; unfold wrap64; omega
    have wi4 : IntKind.i64.wrap 4 = 4 := by rw [i64_w]; unfold wrap64; omega
    have LS := Aside0.mk (sT_len b0 b1 b2 b3 t n0 n1 n2 n3 i H0.out H1.out H2.out H3.out)
    have g0 := sB_le b0 n0 H0.out
    have g1 := sB_le b1 n1 H1.out
    have g2 := sB_le b2 n2 H2.out
    have g3 := sB_le b3 n3 H3.out
    have G := Aside0.mk (And.intro g0 (And.intro g1 (And.intro g2 g3)))
    clear g0 g1 g2 g3
    obtain ⟨tx, htx⟩ : ∃ tx, S (sT b0 b1 b2 b3 t n0 n1 n2 n3 i) = tx := ⟨_, rfl⟩
    obtain ⟨sm, hsm⟩ : ∃ sm : Int, ((sN b0 b1 b2 b3 n0 n1 n2 n3 i : Nat) : Int) = sm := ⟨_, rfl⟩
    have HTX := Aside0.mk htx
    have HSM := Aside0.mk hsm
    have LTX : tx.size ≤ 200 := by rw [← htx, S_size]; exact LS.out
    rw [htx, hsm]
    clear htx hsm LS
    rcases (show i = 0 ∨ i = 1 ∨ i = 2 ∨ i = 3 ∨ i = 4 by have := HF.out; omega) with e | e | e | e | e
    · subst e
      cases hb : b0 with
      | false =>
        have hbk := HB0.out.trans hb
        go_wp2
        go_roundg (gk - 1)
        case measure => have := HF.out; omega
        case rel => exact ⟨1, rfl, by rw [← HTX.out]; simp [sT, sOpt, hb], by rw [← HSM.out]; simp [sN, sB, hb], ⟨by have := HF.out; omega⟩, HBs⟩
      | true =>
        have hbk := HB0.out.trans hb
        have w0 : IntKind.u64.wrap (n0 : Int) = (n0 : Int) := by rw [IntKind.wrap_u64]; have := H0.out; omega
        have c0 : wr.cell? ⟨w.heap.size, 0, none⟩ = some (.int .u32 (n0 : Int)) := blk_cell HBs.1.out 0
        have HD := HBs.drew
        have d0 : wr.drew.cell? ⟨w.heap.size, 0, none⟩ = some (.int .u32 (n0 : Int)) := blk_cell HD.1.out 0
        obtain ⟨dg, hdg⟩ : ∃ dg, S (Lib.decDigits n0) = dg := ⟨_, rfl⟩
        have hcall : Calls Tryd.prog 14 #[.int .u64 (n0 : Int)] wr.drew _ := remontoirref02_Digits.calls 20 (n0 : Int) _ wr.drew (digits_f n0 (by have := H0.out; omega))
        rw [hdg] at hcall
        have LDG : dg.size ≤ 20 := by rw [← hdg, S_size]; exact digits_len n0 (by have := H0.out; omega)
        have HDG := Aside0.mk hdg
        have HC := Aside0.mk hcall
        have z1 : (9223372036854775807 < dg.size + 1) = False := eq_false (by omega)
        have z2 : (9223372036854775807 < tx.size + (dg.size + 1)) = False := eq_false (by omega)
        clear hdg hcall
        go_upto_region 9 with fail
        go_region_with (go_at_call 14; (with_reducible refine HC.out.mono ?_); rintro e w1 ⟨rfl, hb1⟩; have HE := HD.below hb1)
        have e0 : w1.cell? ⟨w.heap.size, 0, none⟩ = some (.int .u32 (n0 : Int)) := blk_cell HE.1.out 0
        have f0 : w1.cell? ⟨w.heap.size + 1, 0, none⟩ = some (.int .u64 86400) := blk_cell HE.2.1.out 0
        have HF1 := HE.drew
        have e1 : w1.drew.cell? ⟨w.heap.size, 0, none⟩ = some (.int .u32 (n0 : Int)) := blk_cell HF1.1.out 0
        have f1 : w1.drew.cell? ⟨w.heap.size + 1, 0, none⟩ = some (.int .u64 86400) := blk_cell HF1.2.1.out 0
        go_upto_region 10 with fail
        go_region
        all_goals (go_wp2; go_roundg (gk - 1))
        case measure => have := HF.out; omega
        case measure => have := HF.out; omega
        all_goals
          have hs : sB b0 n0 = n0 := by rw [hb]; rfl
          have hG := G.out
          have hX := HSM.out
          refine ⟨1, rfl, by rw [← HTX.out, ← HDG.out, show (⟨#[68, 72, 77, 83]⟩ : ByteArray).extract 0 1 = S [68] from rfl, S_append, S_append]; simp [sT, sOpt, hb], ?_, ⟨by have := HF.out; omega⟩, HF1⟩
          congr 1
          (rw [IntKind.wrap_u64]; try rw [IntKind.wrap_u64])
          simp only [sN, hs] at hX ⊢
          omega
    · subst e
      cases hbt : t with
      | false =>
        have hbt0 := HBT.out.trans hbt
        cases hb : b1 with
        | false =>
          have hbk := HB1.out.trans hb
          go_wp2
          go_roundg (gk - 1)
          case measure => have := HF.out; omega
          case rel => exact ⟨2, rfl, by rw [← HTX.out]; simp [sT, sOpt, hb, hbt], by rw [← HSM.out]; simp [sN, sB, hb], ⟨by have := HF.out; omega⟩, HBs⟩
        | true =>
          have hbk := HB1.out.trans hb
          have w0 : IntKind.u64.wrap (n1 : Int) = (n1 : Int) := by rw [IntKind.wrap_u64]; have := H1.out; omega
          have c0 : wr.cell? ⟨w.heap.size, 1, none⟩ = some (.int .u32 (n1 : Int)) := blk_cell HBs.1.out 1
          have HD := HBs.drew
          have d0 : wr.drew.cell? ⟨w.heap.size, 1, none⟩ = some (.int .u32 (n1 : Int)) := blk_cell HD.1.out 1
          obtain ⟨dg, hdg⟩ : ∃ dg, S (Lib.decDigits n1) = dg := ⟨_, rfl⟩
          have hcall : Calls Tryd.prog 14 #[.int .u64 (n1 : Int)] wr.drew _ := remontoirref02_Digits.calls 20 (n1 : Int) _ wr.drew (digits_f n1 (by have := H1.out; omega))
          rw [hdg] at hcall
          have LDG : dg.size ≤ 20 := by rw [← hdg, S_size]; exact digits_len n1 (by have := H1.out; omega)
          have HDG := Aside0.mk hdg
          have HC := Aside0.mk hcall
          have z1 : (9223372036854775807 < dg.size + 1) = False := eq_false (by omega)
          have z2 : (9223372036854775807 < tx.size + (dg.size + 1)) = False := eq_false (by omega)
          clear hdg hcall
          go_upto_region 9 with fail
          go_region_with (go_at_call 14; (with_reducible refine HC.out.mono ?_); rintro e w1 ⟨rfl, hb1⟩; have HE := HD.below hb1)
          have e0 : w1.cell? ⟨w.heap.size, 1, none⟩ = some (.int .u32 (n1 : Int)) := blk_cell HE.1.out 1
          have f0 : w1.cell? ⟨w.heap.size + 1, 1, none⟩ = some (.int .u64 3600) := blk_cell HE.2.1.out 1
          have HF1 := HE.drew
          have e1 : w1.drew.cell? ⟨w.heap.size, 1, none⟩ = some (.int .u32 (n1 : Int)) := blk_cell HF1.1.out 1
          have f1 : w1.drew.cell? ⟨w.heap.size + 1, 1, none⟩ = some (.int .u64 3600) := blk_cell HF1.2.1.out 1
          go_upto_region 10 with fail
          go_region
          all_goals (go_wp2; go_roundg (gk - 1))
          case measure => have := HF.out; omega
          case measure => have := HF.out; omega
          all_goals
            have hs : sB b1 n1 = n1 := by rw [hb]; rfl
            have hG := G.out
            have hX := HSM.out
            refine ⟨2, rfl, by rw [← HTX.out, ← HDG.out, show (⟨#[68, 72, 77, 83]⟩ : ByteArray).extract 1 2 = S [72] from rfl, S_append, S_append]; simp [sT, sOpt, hb, hbt], ?_, ⟨by have := HF.out; omega⟩, HF1⟩
            congr 1
            (rw [IntKind.wrap_u64]; try rw [IntKind.wrap_u64])
            simp only [sN, hs] at hX ⊢
            omega
      | true =>
        have hbt0 := HBT.out.trans hbt
        cases hb : b1 with
        | false =>
          have hbk := HB1.out.trans hb
          go_wp2
          go_roundg (gk - 1)
          case measure => have := HF.out; omega
          case rel => exact ⟨2, rfl, by rw [← HTX.out, show (⟨#[84]⟩ : ByteArray) = S [84] from rfl, S_append]; simp [sT, sOpt, hb, hbt], by rw [← HSM.out]; simp [sN, sB, hb], ⟨by have := HF.out; omega⟩, HBs⟩
        | true =>
          have hbk := HB1.out.trans hb
          have w0 : IntKind.u64.wrap (n1 : Int) = (n1 : Int) := by rw [IntKind.wrap_u64]; have := H1.out; omega
          have c0 : wr.cell? ⟨w.heap.size, 1, none⟩ = some (.int .u32 (n1 : Int)) := blk_cell HBs.1.out 1
          have HD := HBs.drew
          have d0 : wr.drew.cell? ⟨w.heap.size, 1, none⟩ = some (.int .u32 (n1 : Int)) := blk_cell HD.1.out 1
          obtain ⟨dg, hdg⟩ : ∃ dg, S (Lib.decDigits n1) = dg := ⟨_, rfl⟩
          have hcall : Calls Tryd.prog 14 #[.int .u64 (n1 : Int)] wr.drew _ := remontoirref02_Digits.calls 20 (n1 : Int) _ wr.drew (digits_f n1 (by have := H1.out; omega))
          rw [hdg] at hcall
          have LDG : dg.size ≤ 20 := by rw [← hdg, S_size]; exact digits_len n1 (by have := H1.out; omega)
          have HDG := Aside0.mk hdg
          have HC := Aside0.mk hcall
          have z1 : (9223372036854775807 < dg.size + 1) = False := eq_false (by omega)
          have z0 : (9223372036854775807 < tx.size + 1) = False := eq_false (by omega)
          have z2 : (9223372036854775807 < tx.size + 1 + (dg.size + 1)) = False := eq_false (by omega)
          clear hdg hcall
          go_upto_region 9 with fail
          go_region_with (go_at_call 14; (with_reducible refine HC.out.mono ?_); rintro e w1 ⟨rfl, hb1⟩; have HE := HD.below hb1)
          have e0 : w1.cell? ⟨w.heap.size, 1, none⟩ = some (.int .u32 (n1 : Int)) := blk_cell HE.1.out 1
          have f0 : w1.cell? ⟨w.heap.size + 1, 1, none⟩ = some (.int .u64 3600) := blk_cell HE.2.1.out 1
          have HF1 := HE.drew
          have e1 : w1.drew.cell? ⟨w.heap.size, 1, none⟩ = some (.int .u32 (n1 : Int)) := blk_cell HF1.1.out 1
          have f1 : w1.drew.cell? ⟨w.heap.size + 1, 1, none⟩ = some (.int .u64 3600) := blk_cell HF1.2.1.out 1
          go_upto_region 10 with fail
          go_region
          all_goals (go_wp2; go_roundg (gk - 1))
          case measure => have := HF.out; omega
          case measure => have := HF.out; omega
          all_goals
            have hs : sB b1 n1 = n1 := by rw [hb]; rfl
            have hG := G.out
            have hX := HSM.out
            refine ⟨2, rfl, by rw [← HTX.out, ← HDG.out, show (⟨#[84]⟩ : ByteArray) = S [84] from rfl, show (⟨#[68, 72, 77, 83]⟩ : ByteArray).extract 1 2 = S [72] from rfl, S_append, S_append, S_append]; simp [sT, sOpt, hb, hbt], ?_, ⟨by have := HF.out; omega⟩, HF1⟩
            congr 1
            (rw [IntKind.wrap_u64]; try rw [IntKind.wrap_u64])
            simp only [sN, hs] at hX ⊢
            omega
    · subst e
      cases hb : b2 with
      | false =>
        have hbk := HB2.out.trans hb
        go_wp2
        go_roundg (gk - 1)
        case measure => have := HF.out; omega
        case rel => exact ⟨3, rfl, by rw [← HTX.out]; simp [sT, sOpt, hb], by rw [← HSM.out]; simp [sN, sB, hb], ⟨by have := HF.out; omega⟩, HBs⟩
      | true =>
        have hbk := HB2.out.trans hb
        have w0 : IntKind.u64.wrap (n2 : Int) = (n2 : Int) := by rw [IntKind.wrap_u64]; have := H2.out; omega
        have c0 : wr.cell? ⟨w.heap.size, 2, none⟩ = some (.int .u32 (n2 : Int)) := blk_cell HBs.1.out 2
        have HD := HBs.drew
        have d0 : wr.drew.cell? ⟨w.heap.size, 2, none⟩ = some (.int .u32 (n2 : Int)) := blk_cell HD.1.out 2
        obtain ⟨dg, hdg⟩ : ∃ dg, S (Lib.decDigits n2) = dg := ⟨_, rfl⟩
        have hcall : Calls Tryd.prog 14 #[.int .u64 (n2 : Int)] wr.drew _ := remontoirref02_Digits.calls 20 (n2 : Int) _ wr.drew (digits_f n2 (by have := H2.out; omega))
        rw [hdg] at hcall
        have LDG : dg.size ≤ 20 := by rw [← hdg, S_size]; exact digits_len n2 (by have := H2.out; omega)
        have HDG := Aside0.mk hdg
        have HC := Aside0.mk hcall
        have z1 : (9223372036854775807 < dg.size + 1) = False := eq_false (by omega)
        have z2 : (9223372036854775807 < tx.size + (dg.size + 1)) = False := eq_false (by omega)
        clear hdg hcall
        go_upto_region 9 with fail
        go_region_with (go_at_call 14; (with_reducible refine HC.out.mono ?_); rintro e w1 ⟨rfl, hb1⟩; have HE := HD.below hb1)
        have e0 : w1.cell? ⟨w.heap.size, 2, none⟩ = some (.int .u32 (n2 : Int)) := blk_cell HE.1.out 2
        have f0 : w1.cell? ⟨w.heap.size + 1, 2, none⟩ = some (.int .u64 60) := blk_cell HE.2.1.out 2
        have HF1 := HE.drew
        have e1 : w1.drew.cell? ⟨w.heap.size, 2, none⟩ = some (.int .u32 (n2 : Int)) := blk_cell HF1.1.out 2
        have f1 : w1.drew.cell? ⟨w.heap.size + 1, 2, none⟩ = some (.int .u64 60) := blk_cell HF1.2.1.out 2
        go_upto_region 10 with fail
        go_region
        all_goals (go_wp2; go_roundg (gk - 1))
        case measure => have := HF.out; omega
        case measure => have := HF.out; omega
        all_goals
          have hs : sB b2 n2 = n2 := by rw [hb]; rfl
          have hG := G.out
          have hX := HSM.out
          refine ⟨3, rfl, by rw [← HTX.out, ← HDG.out, show (⟨#[68, 72, 77, 83]⟩ : ByteArray).extract 2 3 = S [77] from rfl, S_append, S_append]; simp [sT, sOpt, hb], ?_, ⟨by have := HF.out; omega⟩, HF1⟩
          congr 1
          (rw [IntKind.wrap_u64]; try rw [IntKind.wrap_u64])
          simp only [sN, hs] at hX ⊢
          omega
    · subst e
      cases hb : b3 with
      | false =>
        have hbk := HB3.out.trans hb
        go_wp2
        go_roundg (gk - 1)
        case measure => have := HF.out; omega
        case rel => exact ⟨4, rfl, by rw [← HTX.out]; simp [sT, sOpt, hb], by rw [← HSM.out]; simp [sN, sB, hb], ⟨by have := HF.out; omega⟩, HBs⟩
      | true =>
        have hbk := HB3.out.trans hb
        have w0 : IntKind.u64.wrap (n3 : Int) = (n3 : Int) := by rw [IntKind.wrap_u64]; have := H3.out; omega
        have c0 : wr.cell? ⟨w.heap.size, 3, none⟩ = some (.int .u32 (n3 : Int)) := blk_cell HBs.1.out 3
        have HD := HBs.drew
        have d0 : wr.drew.cell? ⟨w.heap.size, 3, none⟩ = some (.int .u32 (n3 : Int)) := blk_cell HD.1.out 3
        obtain ⟨dg, hdg⟩ : ∃ dg, S (Lib.decDigits n3) = dg := ⟨_, rfl⟩
        have hcall : Calls Tryd.prog 14 #[.int .u64 (n3 : Int)] wr.drew _ := remontoirref02_Digits.calls 20 (n3 : Int) _ wr.drew (digits_f n3 (by have := H3.out; omega))
        rw [hdg] at hcall
        have LDG : dg.size ≤ 20 := by rw [← hdg, S_size]; exact digits_len n3 (by have := H3.out; omega)
        have HDG := Aside0.mk hdg
        have HC := Aside0.mk hcall
        have z1 : (9223372036854775807 < dg.size + 1) = False := eq_false (by omega)
        have z2 : (9223372036854775807 < tx.size + (dg.size + 1)) = False := eq_false (by omega)
        clear hdg hcall
        go_upto_region 9 with fail
        go_region_with (go_at_call 14; (with_reducible refine HC.out.mono ?_); rintro e w1 ⟨rfl, hb1⟩; have HE := HD.below hb1)
        have e0 : w1.cell? ⟨w.heap.size, 3, none⟩ = some (.int .u32 (n3 : Int)) := blk_cell HE.1.out 3
        have f0 : w1.cell? ⟨w.heap.size + 1, 3, none⟩ = some (.int .u64 1) := blk_cell HE.2.1.out 3
        have HF1 := HE.drew
        have e1 : w1.drew.cell? ⟨w.heap.size, 3, none⟩ = some (.int .u32 (n3 : Int)) := blk_cell HF1.1.out 3
        have f1 : w1.drew.cell? ⟨w.heap.size + 1, 3, none⟩ = some (.int .u64 1) := blk_cell HF1.2.1.out 3
        go_upto_region 10 with fail
        go_region
        all_goals (go_wp2; go_roundg (gk - 1))
        case measure => have := HF.out; omega
        case measure => have := HF.out; omega
        all_goals
          have hs : sB b3 n3 = n3 := by rw [hb]; rfl
          have hG := G.out
          have hX := HSM.out
          refine ⟨4, rfl, by rw [← HTX.out, ← HDG.out, show (⟨#[68, 72, 77, 83]⟩ : ByteArray).extract 3 4 = S [83] from rfl, S_append, S_append]; simp [sT, sOpt, hb], ?_, ⟨by have := HF.out; omega⟩, HF1⟩
          congr 1
          (rw [IntKind.wrap_u64]; try rw [IntKind.wrap_u64])
          simp only [sN, hs] at hX ⊢
          omega
    · subst e
      have HTb := Aside0.mk (HT.out.below HBs.2.2.out)
      clear wi1 wi2 wi3 wi4
      obtain ⟨px, hpx⟩ : ∃ px : Int, ((parseL (sT b0 b1 b2 b3 t n0 n1 n2 n3 4)).1 : Int) = px := ⟨_, rfl⟩
      obtain ⟨pe, hpe⟩ : ∃ pe : Int, ((parseL (sT b0 b1 b2 b3 t n0 n1 n2 n3 4)).2 : Int) = pe := ⟨_, rfl⟩
      have hcall := span_Parse.calls (S (sT b0 b1 b2 b3 t n0 n1 n2 n3 4)) _ _ wr (parse_at _ (by have := LTX; rw [← HTX.out, S_size] at this; omega))
      rw [hpx, hpe, HTX.out] at hcall
      have HC := Aside0.mk hcall
      have HPX := Aside0.mk hpx
      have HPE := Aside0.mk hpe
      clear hcall hpx hpe
      have hw : remontoirlaw02_wakes.f = some true := wakes_ok
      have HW := Aside0.mk hw
      clear hw
      cases hz : z with
      | true =>
        have hz0 := HBZ.out.trans hz
        have hp : px = 0 ∧ pe = 2 := by
          have h := HZB.out
          have hT := HTB.out
          rw [hz] at h
          have q : b0 = false ∧ b1 = false ∧ b2 = false ∧ b3 = false := by revert h; cases b0 <;> cases b1 <;> cases b2 <;> cases b3 <;> simp
          obtain ⟨q0, q1, q2, q3⟩ := q
          rw [← HPX.out, ← HPE.out, hT, q0, q1, q2, q3]
          exact ⟨rfl, rfl⟩
        obtain ⟨rfl, rfl⟩ := hp
        go_wp2_with (first | (go_at_call 10; (with_reducible refine HC.out.mono ?_); rintro e w1 ⟨rfl, hb1⟩; have HS1 := HBs.below hb1; have TB1 := Aside0.mk (HTb.out.below hb1)) | (go_at_call 9; (with_reducible refine (remontoirlaw02_wakes.calls true _ TB1.out HW.out).mono ?_); rintro e w2 ⟨rfl, hb2⟩; have HS2 := HS1.below hb2))
        go_ret
        exact ⟨rfl, HS2.2.2.out⟩
      | false =>
        have hz0 := HBZ.out.trans hz
        have hp : px = sm ∧ pe = 0 := by
          have h := HZB.out
          have hT := HTB.out
          rw [hz] at h
          have hG := G.out
          rw [← HPX.out, ← HPE.out, ← HSM.out, sums_parse b0 b1 b2 b3 t n0 n1 n2 n3 H0.out H1.out H2.out H3.out hT (by revert h; cases b0 <;> cases (b1 || b2 || b3) <;> simp)]
          exact ⟨rfl, rfl⟩
        obtain ⟨rfl, rfl⟩ := hp
        obtain ⟨m, hm⟩ : ∃ m, n0 % 1000000 = m := ⟨_, rfl⟩
        have wm : (n0 : Int) % 1000000 = (m : Int) := by omega
        have hml : m < 1000000 := by omega
        obtain ⟨dg, hdg⟩ : ∃ dg, S (Lib.decDigits m) = dg := ⟨_, rfl⟩
        have LDG : dg.size ≤ 20 := by rw [← hdg, S_size]; exact digits_len m (by omega)
        have hD : ∀ w' : World, Calls Tryd.prog 14 #[.int .u64 (m : Int)] w' _ := fun w' => remontoirref02_Digits.calls 20 (m : Int) _ w' (digits_f m (by omega))
        have hP : ∀ w' : World, Calls Tryd.prog 10 #[.string (S (80 :: (Lib.decDigits m ++ [87])))] w' _ := fun w' => span_Parse.calls _ _ _ w' (parse_at (80 :: (Lib.decDigits m ++ [87])) (by have := digits_len m (by omega); simp only [List.length_cons, List.length_append, List.length_nil]; omega))
        rw [parse_week m (by omega), fin_of _ (by omega), show S (80 :: (Lib.decDigits m ++ [87])) = ⟨#[80]⟩ ++ S (Lib.decDigits m) ++ ⟨#[87]⟩ by rw [show (⟨#[80]⟩ : ByteArray) = S [80] from rfl, show (⟨#[87]⟩ : ByteArray) = S [87] from rfl, S_append, S_append]; rfl] at hP
        rw [hdg] at hD hP
        have w7 : IntKind.u64.wrap (m : Int) = (m : Int) := by rw [IntKind.wrap_u64]; omega
        have w8 : IntKind.u64.wrap ((m : Int) * 604800) = ((m * 604800 : Nat) : Int) := by rw [IntKind.wrap_u64]; omega
        have z1 : (9223372036854775807 < 1 + dg.size) = False := eq_false (by omega)
        have z2 : (9223372036854775807 < 1 + dg.size + 1) = False := eq_false (by omega)
        have HDD := Aside0.mk hD
        have HPP := Aside0.mk hP
        clear hD hP hdg hm
        go_wp2_with (first | (go_at_call 10; (with_reducible refine HC.out.mono ?_); rintro e w1 ⟨rfl, hb1⟩; have HS1 := HBs.below hb1; have TB1 := Aside0.mk (HTb.out.below hb1); have c0 : w1.cell? ⟨w.heap.size, 0, none⟩ = some (.int .u32 (n0 : Int)) := blk_cell HS1.1.out 0; clear HC) | (go_at_call 14; (with_reducible refine (HDD.out w1).mono ?_); rintro e w2 ⟨rfl, hb2⟩; have HS2 := HS1.below hb2; have TB2 := Aside0.mk (TB1.out.below hb2)) | (go_at_call 10; (with_reducible refine (HPP.out w2).mono ?_); rintro e w3 ⟨rfl, hb3⟩; have HS3 := HS2.below hb3; have c3 : w3.cell? ⟨w.heap.size, 0, none⟩ = some (.int .u32 (n0 : Int)) := blk_cell HS3.1.out 0; have TB3 := Aside0.mk (TB2.out.below hb3)) | (go_at_call 9; (with_reducible refine (remontoirlaw02_wakes.calls true _ TB3.out HW.out).mono ?_); rintro e w4 ⟨rfl, hb4⟩; have HS4 := HS3.below hb4))
        go_ret
        exact ⟨rfl, HS4.2.2.out⟩
theorem wf32 {n : Int} (h : (Lit.int .u32 n).wf = true) : 0 ≤ n ∧ n < 4294967296 := by
  have e1 : IntKind.u32.min = 0 := rfl
  have e2 : IntKind.u32.max = 4294967295 := rfl
  simp [Lit.wf, e1, e2] at h
  omega
theorem wf8 {n : Int} (h : (Lit.int .u8 n).wf = true) : 0 ≤ n ∧ n < 256 := by
  have e1 : IntKind.u8.min = 0 := rfl
  have e2 : IntKind.u8.max = 255 := rfl
  simp [Lit.wf, e1, e2] at h
  omega
theorem sums_row (n0 n1 n2 n3 a : Int) (w : World) (hTab : Tab w) (h0 : (Lit.int .u32 n0).wf = true) (h1 : (Lit.int .u32 n1).wf = true) (h2 : (Lit.int .u32 n2).wf = true) (h3 : (Lit.int .u32 n3).wf = true) (ha : (Lit.int .u8 a).wf = true) :
    Calls Tryd.prog 6 #[.agg #[.int .u32 n0, .int .u32 n1, .int .u32 n2, .int .u32 n3], .int .u8 a] w fun e w' => e = .returned (.bool true) ∧ Below w.heap.size w w' := by
  have b0 := wf32 h0
  have b1 := wf32 h1
  have b2 := wf32 h2
  have b3 := wf32 h3
  obtain ⟨m0, rfl⟩ := Int.eq_ofNat_of_zero_le b0.1
  obtain ⟨m1, rfl⟩ := Int.eq_ofNat_of_zero_le b1.1
  obtain ⟨m2, rfl⟩ := Int.eq_ofNat_of_zero_le b2.1
  obtain ⟨m3, rfl⟩ := Int.eq_ofNat_of_zero_le b3.1
  exact sums_walk m0 m1 m2 m3 a w hTab (by omega) (by omega) (by omega) (by omega) (wf8 ha)
end Go.Proofs.YtmjabkegnpinoaaDoor.Pure
