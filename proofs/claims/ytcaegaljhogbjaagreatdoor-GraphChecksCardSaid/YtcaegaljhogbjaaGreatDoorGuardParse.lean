/- guard.Parse, walked by hand: it reads a guard, or recovers from the reader's panic: the error that it comes to. -/
import Derived.Test.YtcaegaljhogbjaaGreatDoorGuardGd
import Derived.Test.YtcaegaljhogbjaaGreatDoorLexLex
import Derived.Defers
import Derived.Recover
import Derived.Tactics
import Derived.Laws.Pointers
set_option linter.unusedVariables false
set_option linter.unusedSimpArgs false
namespace Go.Proofs.YtcaegaljhogbjaaGreatDoor.Gd
open Go.RowKit Go.Lib Go.Sort Go.Proofs.YtcaegaljhogbjaaGreatDoorW.PrintWords Go.Proofs.YtcaegaljhogbjaaGreatDoorW.PrintLast Go.Proofs.YtcaegaljhogbjaaGreatDoorW.PrintMore Go.Proofs.YtcaegaljhogbjaaGreatDoor.G Go.Proofs.YtcaegaljhogbjaaGreatDoor.Lx Go.Proofs.YtcaegaljhogbjaaGreatDoor.Span

/-- The closure behind a panic: nothing is handed back, but the error. -/
theorem catch_panicking (b c : Nat) (x0 x1 : Value) (u : TypeId) (pv : Value) (older : List PanicEntry) (w : World) (hb : w.heap[b]? = some (.cells #[x0] 71 (0, 0))) (hc : w.heap[c]? = some (.cells #[x1] 28 (0, 0))) :
  CallsD Tryz.prog 60 #[.pointer (some ⟨b, 0, none⟩), .pointer (some ⟨c, 0, none⟩)] (.panicking ({ v := .iface u pv, recovered := false } :: older)) w fun e u' w' =>
   e = .returned (.tuple #[]) ∧ u' = .panicking ({ v := .iface u pv, recovered := true } :: older) ∧ w' = (w.setCell ⟨b, 0, none⟩ (.slice none 0 0)).setCell ⟨c, 0, none⟩ (.int .i64 2) := by
 have b0 : w.cell? ⟨b, 0, none⟩ = some x0 := blk_cell hb 0
 have f0 : w.frozen? ⟨b, 0, none⟩ = false := blk_frozen hb 0
 have hne : c ≠ b := blk_ne hc hb (by decide)
 have hc2 := blk_far hc (p := ⟨b, 0, none⟩) hne (.slice none 0 0)
 have c0 : (w.setCell ⟨b, 0, none⟩ (.slice none 0 0)).cell? ⟨c, 0, none⟩ = some x1 := blk_cell hc2 0
 have g0 : (w.setCell ⟨b, 0, none⟩ (.slice none 0 0)).frozen? ⟨c, 0, none⟩ = false := blk_frozen hc2 0
 refine callsD_of_wpS Tryz.func60 rfl fun c₀ cs hu => ?_
 apply wpS_seq
 apply wpS_region
 simp [wpOpsS, go_sem, recoverD, hu, Tryz.ntmps60, Exit.thenS]
 refine wpS_cond (t := true) (by simp [Act.eval, Array.replicate]) ?_
 simp only [if_true]
 apply wpS_region
 simp [wpOpsS, go_sem, b0, f0, c0, g0, bodyPostS, results, Tryz.results60]
theorem catch_idle (b c : Nat) (w : World) :
  CallsD Tryz.prog 60 #[.pointer (some ⟨b, 0, none⟩), .pointer (some ⟨c, 0, none⟩)] .returning w fun e u' w' => e = .returned (.tuple #[]) ∧ u' = .returning ∧ w' = w := by
 refine callsD_of_wpS Tryz.func60 rfl fun c₀ cs hu => ?_
 apply wpS_seq
 apply wpS_region
 simp [wpOpsS, go_sem, recoverD, hu, Tryz.ntmps60, Exit.thenS]
 refine wpS_cond (t := false) (by simp [Act.eval, Array.replicate]) ?_
 simp only [Bool.false_eq_true, if_false]
 refine wpS_of_wp (wp_skip ?_)
 cases c₀
 simp_all [bodyPostS, results, Tryz.results60]
theorem Wrong.keep {w : World} {b : Nat} {u : Value} (hW : Wrong w) (hb : 0 ≠ b) : Wrong (w.setCell ⟨b, 0, none⟩ u) := by
 obtain ⟨T, p, h⟩ := hW
 refine ⟨T, p, ?_⟩
 rw [World.cell?_setCell_other]
 ·
  exact h
 ·
  intro e2; exact hb (congrArg Addr.block e2).symm
/-- What reading signs comes to: no error, or the text's. -/
def outE (r : Option (List S118)) : Int := match r with | some [] => 0 | _ => 2
def zbw.f (k : Nat) (a0 : ByteArray) : Option Int :=
 (lex_Lex.f a0).bind fun t => if t.2 = 0 then (if t.1.length ≤ 900 then (gd k .guard t.1).bind fun r => some (outE r) else none) else some t.2
/-- The reader is laid, and reads. -/
theorem guard_in {w2 : World} {b base : Nat} {x : Value} {A : Option Addr} {c k : Nat} {xs : List S118} {g : Option (List S118)} (hW : Wrong w2) (hb : w2.heap[b]? = some (.cells #[x] 28 (0, 0))) (hR : k118.R 118 w2 base (fun _ => True) (.slice A xs.length c) xs) (hl : xs.length ≤ 900) (hg : gd k .guard xs = some g) (hpos : 0 ≠ b) :
  Calls Tryz.prog 61 #[.pointer (some ⟨w2.heap.size, 0, none⟩)] ((w2.setCell ⟨b, 0, none⟩ (.int .i64 0)).alloc (.cells #[.slice A xs.length c, .slice none 0 0] 87)) (Ends (w2.setCell ⟨b, 0, none⟩ (.int .i64 0)) ((w2.setCell ⟨b, 0, none⟩ (.int .i64 0)).alloc (.cells #[.slice A xs.length c, .slice none 0 0] 87)) w2.heap.size 900 g) := by
 have hfar : ∀ q, q ∈ 118 :: k118.E → q ≠ 28 := by
  intro q hq
  have e : q = 118 := by simpa [show k118.E = [] from rfl] using hq
  subst e; decide
 have hR3 := Kd.R_set hR hb hfar 0 (.int .i64 0)
 have hs : (w2.setCell ⟨b, 0, none⟩ (.int .i64 0)).heap.size = w2.heap.size := by simp
 obtain ⟨A', c', he, hcc, hC⟩ := Kd.R_reads hR3
 cases he
 have hW3 : Wrong (w2.setCell ⟨b, 0, none⟩ (.int .i64 0)) := by
  obtain ⟨T, p, h⟩ := hW
  exact ⟨T, p, by rw [World.cell?_setCell_other]; exact h; intro e; exact hpos (congrArg Addr.block e).symm⟩
 obtain ⟨w3, hw3⟩ : ∃ w3, w2.setCell ⟨b, 0, none⟩ (.int .i64 0) = w3 := ⟨_, rfl⟩
 rw [hw3] at hs hC hW3 ⊢
 have hn := blk_new w3 (.cells #[.slice A xs.length c, .slice none 0 0] 87)
 rw [hs] at hn
 exact told hW3 k .guard xs g _ 900 (by omega) ⟨A, c, .slice none 0 0, [], ⟨hn⟩, ⟨hcc, trivial⟩, ⟨hC⟩, ⟨Kd.R_nil _ _ _ _ _⟩, ⟨by simpa using hl⟩, ⟨by omega⟩, ⟨(Below.refl _ _).alloc (Nat.le_refl _) _⟩⟩ hg
set_option maxHeartbeats 8000000 in
theorem zbw.calls (k : Nat) (a0 : ByteArray) (r : Int) (w : World) (hW : Wrong w) (h : zbw.f k a0 = some r) :
  Calls Tryz.prog 46 #[.string a0] w fun e w' => ∃ v0 : Value, e = .returned (.tuple #[v0, .int .i64 r]) ∧ Below w.heap.size w w' := by
 obtain ⟨⟨xs, er⟩, hl, h2⟩ := Option.bind_eq_some_iff.mp h
 clear h
 dsimp only at h2
 obtain ⟨wa, hwa⟩ : ∃ wa, (w.alloc (.cells #[.slice none 0 0] 71)).alloc (.cells #[.int .i64 0] 28) = wa := ⟨_, rfl⟩
 have hcl := lex_Lex.calls a0 xs er wa hl
 have s1 : (w.alloc (.cells #[.slice none 0 0] 71)).heap.size = w.heap.size + 1 := by simp
 have hba : Below w.heap.size w wa := by
  rw [← hwa]
  exact ((Below.refl _ _).alloc (Nat.le_refl _) _).alloc (by rw [s1]; omega) _
 have b0 : wa.heap[w.heap.size]? = some (.cells #[.slice none 0 0] 71 (0, 0)) := by
  rw [← hwa]; exact blk_alloc (blk_new w _) _
 have b1 : wa.heap[w.heap.size + 1]? = some (.cells #[.int .i64 0] 28 (0, 0)) := by
  rw [← hwa]
  have := blk_new (w.alloc (.cells #[.slice none 0 0] 71)) (.cells #[.int .i64 0] 28)
  rw [s1] at this
  exact this
 have HBA := Aside0.mk hba
 have B0 := Aside0.mk b0
 have B1 := Aside0.mk b1
 have HCL := Aside0.mk hcl
 have hmf := makes
 clear hl hba b0 b1 hcl
 go_enter_defers Tryz.func46, Tryz.ntmps46
 by_cases he : er = 0
 ·
  subst he
  rw [if_pos rfl] at h2
  split at h2
  case isFalse => cases h2
  rename_i hlen
  obtain ⟨g, hg, h3⟩ := Option.bind_eq_some_iff.mp h2
  have hr : outE g = r := Option.some.inj h3
  have HG := Aside0.mk hg
  have HLEN := Aside0.mk hlen
  clear h2 h3 hg hlen
  have hW := hW
  cases g with
  | none =>
   go_upto_region 1 with fail
   go_wp2_with (first | (go_at_call 59; (with_reducible refine HCL.out.mono ?_); rintro e w2 ⟨v0, rfl, hr0, hb⟩; obtain ⟨A, c, rfl⟩ := Kd.R_slice hr0; have HB := Aside0.mk hb; have b1 := Aside0.mk (blk_below B1.out hb); have b0 := Aside0.mk (blk_below B0.out hb); have HI := Aside0.mk (guard_in (hW.below (below_step HBA.out hb)) b1.out hr0 HLEN.out HG.out (by omega)); have c1 : w2.cell? ⟨w.heap.size + 1, 0, none⟩ = some (.int .i64 0) := blk_cell b1.out 0; have f1 : w2.frozen? ⟨w.heap.size + 1, 0, none⟩ = false := blk_frozen b1.out 0; clear hb hr0) | (go_at_call 61; (with_reducible refine HI.out.mono ?_); rintro e w5 ⟨⟨T, p, rfl⟩, hb5⟩))
   have b0' := blk_below (blk_far b0.out (p := ⟨w.heap.size + 1, 0, none⟩) (by simp) (.int .i64 0)) hb5
   have b1' := blk_below (blk_put b1.out 0 (.int .i64 0) rfl) hb5
   have HB5 : Below w.heap.size w w5 := below_then (below_set (below_step HBA.out HB.out) (by omega)) (by have := HB.out.size; have := HBA.out.size; simp; omega) hb5
   refine leaves_cons (f := 60) (args := #[.pointer (some ⟨w.heap.size, 0, none⟩), .pointer (some ⟨w.heap.size + 1, 0, none⟩)]) (by simp) (by simp [go_sem]) ?_
   refine (catch_panicking _ _ _ _ T p [] w5 b0' b1').mono ?_
   rintro e u' w6 ⟨rfl, rfl, rfl⟩
   have k0 := blk_far (blk_put b0' 0 (.slice none 0 0) rfl) (p := ⟨w.heap.size + 1, 0, none⟩) (by simp) (.int .i64 2)
   have k1 := blk_put (blk_far b1' (p := ⟨w.heap.size, 0, none⟩) (by simp) (.slice none 0 0)) 0 (.int .i64 2) rfl
   have HB6 : Below w.heap.size w ((w5.setCell ⟨w.heap.size, 0, none⟩ (.slice none 0 0)).setCell ⟨w.heap.size + 1, 0, none⟩ (.int .i64 2)) := below_set (below_set HB5 (Nat.le_refl _)) (by omega)
   generalize (w5.setCell ⟨w.heap.size, 0, none⟩ (.slice none 0 0)).setCell ⟨w.heap.size + 1, 0, none⟩ (.int .i64 2) = w7 at k0 k1 HB6 ⊢
   have d0 : w7.cell? ⟨w.heap.size, 0, none⟩ = some (.slice none 0 0) := blk_cell k0 0
   have d1 : w7.cell? ⟨w.heap.size + 1, 0, none⟩ = some (.int .i64 2) := blk_cell k1 0
   subst hr
   refine ⟨.tuple #[.slice none 0 0, .int .i64 2], ?_, ⟨.slice none 0 0, rfl, HB6⟩⟩
   simp [results, Tryz.results46, go_sem, d0, d1]
  | some l =>
   cases l with
   | nil =>
    go_upto_region 1 with fail
    go_wp2_with (first | (go_at_call 59; (with_reducible refine HCL.out.mono ?_); rintro e w2 ⟨v0, rfl, hr0, hb⟩; obtain ⟨A, c, rfl⟩ := Kd.R_slice hr0; have HB := Aside0.mk hb; have b1 := Aside0.mk (blk_below B1.out hb); have b0 := Aside0.mk (blk_below B0.out hb); have HI := Aside0.mk (guard_in (hW.below (below_step HBA.out hb)) b1.out hr0 HLEN.out HG.out (by omega)); have c1 : w2.cell? ⟨w.heap.size + 1, 0, none⟩ = some (.int .i64 0) := blk_cell b1.out 0; have f1 : w2.frozen? ⟨w.heap.size + 1, 0, none⟩ = false := blk_frozen b1.out 0; clear hb hr0) | (go_at_call 61; (with_reducible refine HI.out.mono ?_); rintro e w5 ⟨rfl, hs5, ho5⟩; obtain ⟨A5, c5, v5, xs5, h1, h2, h3, h4, h5, h6, h7⟩ := hs5; have e0 : w5.cell? ⟨w2.heap.size, 0, none⟩ = some (.slice A5 0 c5) := blk_cell h1.out 0; have e1 : w5.cell? ⟨w2.heap.size, 1, none⟩ = some v5 := blk_cell h1.out 1; have p0 := Aside0.mk (blk_below (blk_far b0.out (p := ⟨w.heap.size + 1, 0, none⟩) (by simp) (.int .i64 0)) h7.out); have p1 := Aside0.mk (blk_below (blk_put b1.out 0 (.int .i64 0) rfl) h7.out); have q0 : w5.cell? ⟨w.heap.size, 0, none⟩ = some (.slice none 0 0) := blk_cell p0.out 0; have q1 : w5.cell? ⟨w.heap.size + 1, 0, none⟩ = some (.int .i64 0) := blk_cell p1.out 0; have g0 : w5.frozen? ⟨w.heap.size, 0, none⟩ = false := blk_frozen p0.out 0; have g1 : w5.frozen? ⟨w.heap.size + 1, 0, none⟩ = false := blk_frozen p1.out 0; obtain ⟨A6, c6, rfl⟩ := Kd.R_slice h4.out; clear ho5))
    refine leaves_cons (f := 60) (args := #[.pointer (some ⟨w.heap.size, 0, none⟩), .pointer (some ⟨w.heap.size + 1, 0, none⟩)]) (by simp) (by simp [go_sem]) ?_
    refine (catch_idle _ _ _).mono ?_
    rintro e u' w6 ⟨rfl, rfl, rfl⟩
    have HB5 : Below w.heap.size w w5 := below_then (below_set (below_step HBA.out HB.out) (by omega)) (by have := HB.out.size; have := HBA.out.size; simp; omega) h7.out
    have k0 := blk_far (blk_put p0.out 0 (.slice A6 xs5.length c6) rfl) (p := ⟨w.heap.size + 1, 0, none⟩) (by simp) (.int .i64 0)
    have k1 := blk_put (blk_far p1.out (p := ⟨w.heap.size, 0, none⟩) (by simp) (.slice A6 xs5.length c6)) 0 (.int .i64 0) rfl
    have HB6 : Below w.heap.size w ((w5.setCell ⟨w.heap.size, 0, none⟩ (.slice A6 xs5.length c6)).setCell ⟨w.heap.size + 1, 0, none⟩ (.int .i64 0)) := below_set (below_set HB5 (Nat.le_refl _)) (by omega)
    generalize (w5.setCell ⟨w.heap.size, 0, none⟩ (.slice A6 xs5.length c6)).setCell ⟨w.heap.size + 1, 0, none⟩ (.int .i64 0) = w7 at k0 k1 HB6 ⊢
    have d0 : w7.cell? ⟨w.heap.size, 0, none⟩ = some (.slice A6 xs5.length c6) := blk_cell k0 0
    have d1 : w7.cell? ⟨w.heap.size + 1, 0, none⟩ = some (.int .i64 0) := blk_cell k1 0
    subst hr
    refine ⟨.tuple #[.slice A6 xs5.length c6, .int .i64 0], ?_, ⟨.slice A6 xs5.length c6, rfl, HB6⟩⟩
    simp [results, Tryz.results46, go_sem, d0, d1]
   | cons x l =>
    go_upto_region 1 with fail
    go_wp2_with (first | (go_at_call 59; (with_reducible refine HCL.out.mono ?_); rintro e w2 ⟨v0, rfl, hr0, hb⟩; obtain ⟨A, c, rfl⟩ := Kd.R_slice hr0; have HB := Aside0.mk hb; have b1 := Aside0.mk (blk_below B1.out hb); have b0 := Aside0.mk (blk_below B0.out hb); have HI := Aside0.mk (guard_in (hW.below (below_step HBA.out hb)) b1.out hr0 HLEN.out HG.out (by omega)); have c1 : w2.cell? ⟨w.heap.size + 1, 0, none⟩ = some (.int .i64 0) := blk_cell b1.out 0; have f1 : w2.frozen? ⟨w.heap.size + 1, 0, none⟩ = false := blk_frozen b1.out 0; clear hb hr0) | (go_at_call 61; (with_reducible refine HI.out.mono ?_); rintro e w5 ⟨rfl, hs5, ho5⟩; obtain ⟨T, p, hwr⟩ := hs5.wrong (Wrong.keep (hW.below (below_step HBA.out HB.out)) (by omega)); obtain ⟨A5, c5, v5, xs5, h1, h2, h3, h4, h5, h6, h7⟩ := hs5; have e0 : w5.cell? ⟨w2.heap.size, 0, none⟩ = some (.slice A5 (l.length + 1) c5) := blk_cell h1.out 0; clear ho5))
    have hb5 := h7.out
    have b0' := blk_below (blk_far b0.out (p := ⟨w.heap.size + 1, 0, none⟩) (by simp) (.int .i64 0)) hb5
    have b1' := blk_below (blk_put b1.out 0 (.int .i64 0) rfl) hb5
    have HB5 : Below w.heap.size w w5 := below_then (below_set (below_step HBA.out HB.out) (by omega)) (by have := HB.out.size; have := HBA.out.size; simp; omega) hb5
    refine leaves_cons (f := 60) (args := #[.pointer (some ⟨w.heap.size, 0, none⟩), .pointer (some ⟨w.heap.size + 1, 0, none⟩)]) (by simp) (by simp [go_sem]) ?_
    refine (catch_panicking _ _ _ _ T p [] w5 b0' b1').mono ?_
    rintro e u' w6 ⟨rfl, rfl, rfl⟩
    have k0 := blk_far (blk_put b0' 0 (.slice none 0 0) rfl) (p := ⟨w.heap.size + 1, 0, none⟩) (by simp) (.int .i64 2)
    have k1 := blk_put (blk_far b1' (p := ⟨w.heap.size, 0, none⟩) (by simp) (.slice none 0 0)) 0 (.int .i64 2) rfl
    have HB6 : Below w.heap.size w ((w5.setCell ⟨w.heap.size, 0, none⟩ (.slice none 0 0)).setCell ⟨w.heap.size + 1, 0, none⟩ (.int .i64 2)) := below_set (below_set HB5 (Nat.le_refl _)) (by omega)
    generalize (w5.setCell ⟨w.heap.size, 0, none⟩ (.slice none 0 0)).setCell ⟨w.heap.size + 1, 0, none⟩ (.int .i64 2) = w7 at k0 k1 HB6 ⊢
    have d0 : w7.cell? ⟨w.heap.size, 0, none⟩ = some (.slice none 0 0) := blk_cell k0 0
    have d1 : w7.cell? ⟨w.heap.size + 1, 0, none⟩ = some (.int .i64 2) := blk_cell k1 0
    subst hr
    refine ⟨.tuple #[.slice none 0 0, .int .i64 2], ?_, ⟨.slice none 0 0, rfl, HB6⟩⟩
    simp [results, Tryz.results46, go_sem, d0, d1]
 ·
  rw [if_neg he] at h2
  cases h2
  have hne : (r == 0) = false := beq_eq_false_iff_ne.mpr he
  go_upto_region 1 with fail
  go_upto_region 3 with (go_at_call 59; (with_reducible refine HCL.out.mono ?_); rintro e w2 ⟨v0, rfl, hr, hb⟩; have HB := Aside0.mk hb; have b1 := Aside0.mk (blk_below B1.out hb); have b0 := Aside0.mk (blk_below B0.out hb); have c1 : w2.cell? ⟨w.heap.size + 1, 0, none⟩ = some (.int .i64 0) := blk_cell b1.out 0; have f1 : w2.frozen? ⟨w.heap.size + 1, 0, none⟩ = false := blk_frozen b1.out 0; clear hb hr)
  have a1 := blk_put b1.out 0 (.int .i64 r) rfl
  have a0 := blk_far b0.out (p := ⟨w.heap.size + 1, 0, none⟩) (by simp) (.int .i64 r)
  have hbl : Below w.heap.size w (w2.setCell ⟨w.heap.size + 1, 0, none⟩ (.int .i64 r)) := below_set (below_step HBA.out HB.out) (by omega)
  obtain ⟨w3, hw3⟩ : ∃ w3, w2.setCell ⟨w.heap.size + 1, 0, none⟩ (.int .i64 r) = w3 := ⟨_, rfl⟩
  rw [hw3] at a1 a0 hbl ⊢
  have c10 : w3.cell? ⟨w.heap.size + 1, 0, none⟩ = some (.int .i64 r) := blk_cell a1 0
  have c00 : w3.cell? ⟨w.heap.size, 0, none⟩ = some (.slice none 0 0) := blk_cell a0 0
  have f00 : w3.frozen? ⟨w.heap.size, 0, none⟩ = false := blk_frozen a0 0
  have f10 : w3.frozen? ⟨w.heap.size + 1, 0, none⟩ = false := blk_frozen a1 0
  have d10 : w3.drew.cell? ⟨w.heap.size + 1, 0, none⟩ = some (.int .i64 r) := c10
  have d00 : w3.drew.cell? ⟨w.heap.size, 0, none⟩ = some (.slice none 0 0) := c00
  have g00 : w3.drew.frozen? ⟨w.heap.size, 0, none⟩ = false := f00
  have g10 : w3.drew.frozen? ⟨w.heap.size + 1, 0, none⟩ = false := f10
  have HBL := Aside0.mk hbl
  clear hw3 c1 f1 a1 a0 hbl
  go_region
  go_wp2
  refine ⟨.tuple #[.slice none 0 0, .int .i64 r], ?_, ⟨.slice none 0 0, rfl, below_drew1 (below_set (below_set HBL.out (Nat.le_refl _)) (by omega))⟩⟩
  simp [results, Tryz.results46, go_sem, c10, c00]
end Go.Proofs.YtcaegaljhogbjaaGreatDoor.Gd
