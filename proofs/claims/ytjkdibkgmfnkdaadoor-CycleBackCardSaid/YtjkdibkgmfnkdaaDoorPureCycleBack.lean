/- CycleBack, in plain words: what is printed is read as it was; what can be read is good, is printed and read again. -/
import Derived.Test.YtjkdibkgmfnkdaaDoorVx2
import Derived.Test.YtjkdibkgmfnkdaaDoorPureCycleMore
namespace Go.Proofs.YtjkdibkgmfnkdaaDoor.Pure
open Go.RowKit Go.Proofs.YtjkdibkgmfnkdaaDoorW.PrintWords Go.Proofs.YtjkdibkgmfnkdaaDoor.Ext Go.Proofs.YtjkdibkgmfnkdaaDoor.B Go.Proofs.YtjkdibkgmfnkdaaDoor.Q Go.Proofs.YtjkdibkgmfnkdaaDoor.T Go.Proofs.YtjkdibkgmfnkdaaDoor.V Go.Proofs.YtjkdibkgmfnkdaaDoor.Span Go.Proofs.YtjkdibkgmfnkdaaDoor.Cyc
set_option linter.unusedVariables false

theorem cback_j (l : List UInt8) (hl : l.length ≤ 300) (k : Nat) (hk : 500 ≤ k) : remontoirlaw03_CycleBack.j0 k (S l) = some true := by
  obtain ⟨k, rfl⟩ : ∃ i, k = i + 1 := ⟨k - 1, by omega⟩
  have hw := wakes_ok k (by omega)
  simp only [remontoirlaw03_CycleBack.j0]
  rw [cyc_parse l (by omega) k (by omega), V_eq, Option.bind_some]
  obtain ⟨⟨n, e, c⟩, hr⟩ : ∃ r, cycL l = r := ⟨_, rfl⟩
  rw [hr]
  dsimp only
  by_cases hc : c = 0
  · subst hc
    have g := cyc_good l n e hr
    have hlen := cycP_len n e g
    rw [if_pos (show ((0 : Nat) : Int) = 0 from rfl), cprint_f n e g, Option.bind_some]
    dsimp only
    rw [cyc_parse _ (by omega) k (by omega), V_eq, cyc_round n e g, Option.bind_some, good_f n e g, Option.bind_some, if_pos rfl, if_pos rfl]
    dsimp only
    rw [if_pos (show ((0 : Nat) : Int) = 0 from rfl), beq_self_eq_true, beq_self_eq_true, hw]; rfl
  · rw [if_neg (by omega), hw]; rfl
theorem cback (n e : Int) (l : List UInt8) : remontoirlaw03_CycleBack.f 1001 n e (S l) = some true := by
  have hw := wakes_ok 1001 (by omega)
  unfold remontoirlaw03_CycleBack.f
  rw [S_size]
  by_cases h3 : l.length ≤ 300
  · have hj := cback_j l h3 1001 (by omega)
    rw [if_neg (by omega)]
    by_cases g : 1 ≤ n ∧ n ≤ 1000000 ∧ 1 ≤ e ∧ e ≤ 1125899906842624
    · obtain ⟨n, e, rfl, rfl, gn⟩ := good_nat n e g
      clear g
      have g := gn
      have hlen := cycP_len n e g
      rw [cprint_f n e g, Option.bind_some]
      dsimp only
      rw [if_pos rfl, cyc_parse _ (by omega) 1001 (by omega), V_eq, cyc_round n e g, Option.bind_some]
      dsimp only
      rw [if_pos (show ((0 : Nat) : Int) = 0 from rfl), beq_self_eq_true, beq_self_eq_true, if_neg (by decide), good_f n e g, Option.bind_some, if_pos rfl]
      exact hj
    · rw [cprint_no n e g, Option.bind_some]
      dsimp only
      rw [if_neg (by decide)]
      exact hj
  · rw [if_pos (by omega), hw]; rfl
theorem cback_walk (n e : Int) (a1 : ByteArray) (w : World) (hTab : Tab w) (h0 : (Lit.int .i64 n).wf = true) (h1 : (Lit.int .u64 e).wf = true) (h2 : a1.size ≤ 140737488351232) :
    Calls Tryd.prog 7 #[.agg #[.int .i64 n, .int .u64 e], .string a1] w fun e w' => e = .returned (.bool true) ∧ Below w.heap.size w w' := by
  obtain ⟨l, rfl⟩ : ∃ l, a1 = S l := ⟨_, (S_of a1).symm⟩
  exact remontoirlaw03_CycleBack.calls 1001 n e _ true w hTab (cback n e l)
end Go.Proofs.YtjkdibkgmfnkdaaDoor.Pure
