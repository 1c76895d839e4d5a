/- The examples of the chapter on cycles. -/
import Derived.Test.YtjkdibkgmfnkdaaDoorQx3
import Derived.Test.YtjkdibkgmfnkdaaDoorCycParse
import Derived.Test.YtjkdibkgmfnkdaaDoorCycTimes
namespace Go.Proofs.YtjkdibkgmfnkdaaDoor.Pure
open Go.RowKit Go.Proofs.YtjkdibkgmfnkdaaDoorW.PrintWords Go.Proofs.YtjkdibkgmfnkdaaDoor.Ext Go.Proofs.YtjkdibkgmfnkdaaDoor.B Go.Proofs.YtjkdibkgmfnkdaaDoor.Q Go.Proofs.YtjkdibkgmfnkdaaDoor.Span Go.Proofs.YtjkdibkgmfnkdaaDoor.Cyc
set_option linter.unusedVariables false

theorem wf_u64 {n : Int} (h : (Lit.int .u64 n).wf = true) : 0 ≤ n ∧ n < 18446744073709551616 := by
  have e1 : IntKind.u64.min = 0 := rfl
  have e2 : IntKind.u64.max = 18446744073709551615 := rfl
  simp [Lit.wf, e1, e2] at h
  omega
theorem wf_u32 {n : Int} (h : (Lit.int .u32 n).wf = true) : 0 ≤ n ∧ n < 4294967296 := by
  have e1 : IntKind.u32.min = 0 := rfl
  have e2 : IntKind.u32.max = 4294967295 := rfl
  simp [Lit.wf, e1, e2] at h
  omega
theorem wf_u16 {n : Int} (h : (Lit.int .u16 n).wf = true) : 0 ≤ n ∧ n < 65536 := by
  have e1 : IntKind.u16.min = 0 := rfl
  have e2 : IntKind.u16.max = 65535 := rfl
  simp [Lit.wf, e1, e2] at h
  omega
theorem wakes_ok (k : Nat) (hk : 30 ≤ k) : remontoirlaw03_wakes.f k = some true := by
  have p1 := cyc_parse [82, 51, 47, 80, 84, 49, 48, 83] (by decide) k (by simp only [List.length_cons, List.length_nil]; omega)
  have p2 := cyc_parse [82, 47, 80, 84, 49, 83] (by decide) k (by simp only [List.length_cons, List.length_nil]; omega)
  have p3 := cyc_parse [82, 48, 47, 80, 84, 49, 83] (by decide) k (by simp only [List.length_cons, List.length_nil]; omega)
  have p4 := cyc_parse [82, 50, 47, 80, 84, 48, 83] (by decide) k (by simp only [List.length_cons, List.length_nil]; omega)
  have e1 : cycL [82, 51, 47, 80, 84, 49, 48, 83] = (3, 10, 0) := by decide +kernel
  have e2 : cycL [82, 47, 80, 84, 49, 83] = (0, 0, 5) := by decide +kernel
  have e3 : cycL [82, 48, 47, 80, 84, 49, 83] = (0, 0, 2) := by decide +kernel
  have e4 : cycL [82, 50, 47, 80, 84, 48, 83] = (0, 0, 6) := by decide +kernel
  rw [e1] at p1; rw [e2] at p2; rw [e3] at p3; rw [e4] at p4
  have q1 : cycle_Parse.f k ⟨#[82, 51, 47, 80, 84, 49, 48, 83]⟩ = some (3, 10, 0) := p1
  have q2 : cycle_Parse.f k ⟨#[82, 47, 80, 84, 49, 83]⟩ = some (0, 0, 5) := p2
  have q3 : cycle_Parse.f k ⟨#[82, 48, 47, 80, 84, 49, 83]⟩ = some (0, 0, 2) := p3
  have q4 : cycle_Parse.f k ⟨#[82, 50, 47, 80, 84, 48, 83]⟩ = some (0, 0, 6) := p4
  have hg : goodN 3 10 := ⟨by omega, by omega, by omega, by omega⟩
  have w : cycle_When.f k 3 10 5 2 = some (25, true) := when_f 3 10 5 2 hg (by omega) (by omega) (by omega) (by omega) k (by omega)
  have t : cycle_Past.f 3 10 5 25 = some 2 := past_f 3 10 5 25 hg (by omega) (by omega)
  unfold remontoirlaw03_wakes.f
  rw [q1, q2, q3, q4]
  simp only [Option.bind_some]
  rw [w, t]
  rfl
end Go.Proofs.YtjkdibkgmfnkdaaDoor.Pure
