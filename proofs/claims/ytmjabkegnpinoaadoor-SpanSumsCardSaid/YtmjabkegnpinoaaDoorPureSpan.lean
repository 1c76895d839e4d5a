/- The examples of the chapter, and plain facts on span's functions, for the laws' plain statements. -/
import Derived.Test.YtmjabkegnpinoaaDoorQx1
namespace Go.Proofs.YtmjabkegnpinoaaDoor.Pure
open Go.RowKit Go.Proofs.YtmjabkegnpinoaaDoorW.PrintWords Go.Proofs.YtmjabkegnpinoaaDoor.Ext Go.Proofs.YtmjabkegnpinoaaDoor.B Go.Proofs.YtmjabkegnpinoaaDoor.Q Go.Proofs.YtmjabkegnpinoaaDoor.Span
set_option linter.unusedVariables false

theorem wf_u64 {n : Int} (h : (Lit.int .u64 n).wf = true) : 0 ≤ n ∧ n < 18446744073709551616 := by
  have e1 : IntKind.u64.min = 0 := rfl
  have e2 : IntKind.u64.max = 18446744073709551615 := rfl
  simp [Lit.wf, e1, e2] at h
  omega
theorem wf_u32 {n : Int} (h : (Lit.int .u32 n).wf = true) : 0 ≤ n ∧ n < 4294967296 := by
  have e1 : IntKind.u32.min = 0 := rfl
  have e2 : IntKind.u32.max = 4294967295 := rfl
  simp [Lit.wf, e1, e2] at h
  omega
theorem wf_u8 {n : Int} (h : (Lit.int .u8 n).wf = true) : 0 ≤ n ∧ n < 256 := by
  have e1 : IntKind.u8.min = 0 := rfl
  have e2 : IntKind.u8.max = 255 := rfl
  simp [Lit.wf, e1, e2] at h
  omega
theorem parse_at (l : List UInt8) (hl : l.length ≤ 140737488351232) : span_Parse.f (S l) = some (((parseL l).1 : Int), ((parseL l).2 : Int)) := by
  unfold span_Parse.f; rw [if_pos (by rw [S_size]; exact hl), S_list]
theorem print_at (x : Nat) (h : x < 18446744073709551616) : span_Print.f x = some (S (printL x), decide (x ≤ 1125899906842624)) := by
  unfold span_Print.f; rw [if_pos ⟨by omega, by omega⟩, Int.toNat_natCast]
theorem rprint_at (x : Nat) (h : x < 18446744073709551616) : remontoirref02_Print.f x = some (S (printL x)) := by
  unfold remontoirref02_Print.f; rw [if_pos ⟨by omega, by omega⟩, Int.toNat_natCast]
theorem print_ex : printL 90061 = [80, 49, 68, 84, 49, 72, 49, 77, 49, 83] := by
  simp [printL, partU, Lib.decDigits_one]
theorem wakes_ok : remontoirlaw02_wakes.f = some true := by
  have p1 := parse_at [80, 49, 68, 84, 50, 72] (by decide)
  have p2 := parse_at [80, 53, 77] (by decide)
  have p3 := parse_at [80, 84, 53, 77] (by decide)
  have p4 := parse_at [80, 49, 87, 49, 68] (by decide)
  have p5 := print_at 90061 (by omega)
  have e1 : parseL [80, 49, 68, 84, 50, 72] = (93600, 0) := by decide +kernel
  have e2 : parseL [80, 53, 77] = (0, 4) := by decide +kernel
  have e3 : parseL [80, 84, 53, 77] = (300, 0) := by decide +kernel
  have e4 : parseL [80, 49, 87, 49, 68] = (0, 2) := by decide +kernel
  rw [e1] at p1; rw [e2] at p2; rw [e3] at p3; rw [e4] at p4; rw [print_ex] at p5
  have p5' : span_Print.f 90061 = some (S [80, 49, 68, 84, 49, 72, 49, 77, 49, 83], true) := p5.trans (congrArg some (Prod.ext rfl (decide_eq_true (by omega))))
  unfold remontoirlaw02_wakes.f
  have q1 : span_Parse.f ⟨#[80, 49, 68, 84, 50, 72]⟩ = some (93600, 0) := p1
  have q2 : span_Parse.f ⟨#[80, 53, 77]⟩ = some (0, 4) := p2
  have q3 : span_Parse.f ⟨#[80, 84, 53, 77]⟩ = some (300, 0) := p3
  have q4 : span_Parse.f ⟨#[80, 49, 87, 49, 68]⟩ = some (0, 2) := p4
  rw [q1, q2, q3, q4, p5']
  simp only [Option.bind_some, if_true]
  rw [if_pos (by rw [Lib.toList_data, S_list])]
end Go.Proofs.YtmjabkegnpinoaaDoor.Pure
