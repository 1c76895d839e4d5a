/- Flows, shapes, scopes: what graph finds wrong is what the reference finds wrong. -/
import Derived.Test.YtcaegaljhogbjaaGreatDoorGraphFlow
import Derived.Test.YtcaegaljhogbjaaGreatDoorNodeE
import Derived.Test.YtcaegaljhogbjaaGreatDoorZx3
import Derived.Test.YtcaegaljhogbjaaGreatDoorRefFlow
set_option linter.unusedVariables false
set_option linter.unusedSimpArgs false
namespace Go.Proofs.YtcaegaljhogbjaaGreatDoor.Gr
open Go.RowKit Go.Lib Go.Sort Go.Proofs.YtcaegaljhogbjaaGreatDoorW.PrintWords Go.Proofs.YtcaegaljhogbjaaGreatDoorW.PrintLast Go.Proofs.YtcaegaljhogbjaaGreatDoorW.PrintMore Go.Proofs.YtcaegaljhogbjaaGreatDoor.Y Go.Proofs.YtcaegaljhogbjaaGreatDoor.Gd

/-- Are there as many flows in and out of a node as there may be? -/
def shE (kind : Int) (i o : Nat) : Bool :=
 if kind = 5 ∨ kind = 6 then (i == 1 && decide (2 ≤ o)) || (decide (2 ≤ i) && o == 1)
 else if kind = 1 ∨ kind = 8 then i == 0 && o == 1
 else if kind = 2 then i == 1 && o == 0
 else if kind = 9 then i == 0 && o == 0
 else i == 1 && o == 1
theorem forks_true {b : Int} (h : zbp.f b = some true) : b = 5 ∨ b = 6 := by
 unfold zbp.f at h
 split at h
 ·
  exact Or.inl (by assumption)
 ·
  exact Or.inr (beq_iff_eq.mp (Option.some.inj h))
theorem forks_false {b : Int} (h : zbp.f b = some false) : b ≠ 5 ∧ b ≠ 6 := by
 unfold zbp.f at h
 split at h
 ·
  cases h
 ·
  exact ⟨by assumption, beq_eq_false_iff_ne.mp (Option.some.inj h)⟩
set_option maxHeartbeats 8000000 in
set_option maxRecDepth 100000 in
theorem gshape_calls (a0 : ByteArray) (A1 : Option Addr) (c1 : Nat) (l1 : List S38) (A2 : Option Addr) (c2 : Nat) (l2 : List S40) (b1 b2 : Nat) (n : Int) (w : World)
  (hC1 : Kd.C k38 w A1 l1.length l1) (hG : GM w b1 b2 l2) (p : 0 ≤ wrap64 (n - 1)) (q : wrap64 (n - 1) < (l1.length : Int)) :
  Calls Tryz.prog 25 #[.agg #[.string a0, .slice A1 l1.length c1, .slice A2 l2.length c2, .map (some b1), .map (some b2)], .int .i64 n] w fun e w' => e = .returned (.bool (shE (zba l1 (wrap64 (n - 1))).f0 (cnt l2 (false, n)) (cnt l2 (true, n)))) ∧ Below w.heap.size w w' := by
 have hjw : (IntKind.i64.wrap (n - 1)) = wrap64 (n - 1) := i64_w _
 generalize wrap64 (n - 1) = j at *
 obtain ⟨ad, e, hx0, _, _, _, _⟩ := zbc hC1 j p q
 subst e
 have hbl := World.block_lt_of_cell? w _ hx0
 have hne : (ad.add (j.toNat * 5)).block ≠ w.heap.size := Nat.ne_of_lt hbl
 have p' := eq_true p
 have q' := eq_true q
 generalize zba l1 j = x at *
 obtain ⟨kd, _, _, _, _⟩ := x
 dsimp only at hx0 ⊢
 obtain ⟨Ai, ci, hli⟩ := hG.look1 (w' := w) n
 obtain ⟨Ao, co, hlo⟩ := hG.look (w' := w) n
 generalize cnt l2 (false, n) = i at *
 generalize cnt l2 (true, n) = o at *
 have HLI := Aside0.mk hli
 have HLO := Aside0.mk hlo
 clear hC1 hG hli hlo
 go_enter Tryz.func25, Tryz.ntmps25
 go_wp2_with fail
 have HB := Aside0.mk (below_alloc (Below.refl w.heap.size w) (.cells #[.string a0, .slice (some ad) l1.length c1, .slice A2 l2.length c2, .map (some b1), .map (some b2)] 53))
 have li0 := fun k1 => HLI.out _ (pw_below_drewN HB.out k1)
 have lo0 := fun k1 => HLO.out _ (pw_below_drewN HB.out k1)
 have li1 := HLI.out _ (below_drew1 HB.out)
 have lo1 := HLO.out _ (below_drew1 HB.out)
 have li2 := HLI.out _ HB.out
 have lo2 := HLO.out _ HB.out
 go_quiet (fail)
 --ARMS
 obtain ⟨fk, hfk⟩ : ∃ fk, zbp.f kd = some fk := by unfold zbp.f; split <;> exact ⟨_, rfl⟩
 have HFK := Aside0.mk hfk
 clear hfk li0 lo0 li1 lo1 li2 lo2 HLI HLO
 have ho1 : ((o : Int) == 1) = (o == 1) := by rw [Bool.eq_iff_iff, beq_iff_eq, beq_iff_eq]; omega
 have ho0 : ((o : Int) == 0) = (o == 0) := by rw [Bool.eq_iff_iff, beq_iff_eq, beq_iff_eq]; omega
 cases fk with
 | false =>
  obtain ⟨h5, h6⟩ := forks_false HFK.out
  by_cases k1 : kd = 1
  ·
   subst k1
   by_cases hi : i = 0
   ·
    subst hi
    go_wp2_with (go_at_call 47; (with_reducible refine (zbp.calls _ _ _ HFK.out).mono ?_); rintro e w7 ⟨rfl, ⟨nd, rfl⟩⟩)
    go_ret
    exact ⟨by simp [shE, ], by repeat (first | exact HB.out | apply pw_below_drewN | apply below_drew1)⟩
   ·
    have hib : ((i : Int) == 0) = false := by rw [beq_eq_false_iff_ne]; omega
    go_wp2_with (go_at_call 47; (with_reducible refine (zbp.calls _ _ _ HFK.out).mono ?_); rintro e w7 ⟨rfl, ⟨nd, rfl⟩⟩)
    go_ret
    exact ⟨by simp [shE, hi], by repeat (first | exact HB.out | apply pw_below_drewN | apply below_drew1)⟩
  ·
   have k1b : (kd == 1) = false := beq_eq_false_iff_ne.mpr k1
   have k1c : (kd != 1) = true := bne_iff_ne.mpr k1
   by_cases k8 : kd = 8
   ·
    subst k8
    by_cases hi : i = 0
    ·
     subst hi
     go_wp2_with (go_at_call 47; (with_reducible refine (zbp.calls _ _ _ HFK.out).mono ?_); rintro e w7 ⟨rfl, ⟨nd, rfl⟩⟩)
     go_ret
     exact ⟨by simp [shE, ], by repeat (first | exact HB.out | apply pw_below_drewN | apply below_drew1)⟩
    ·
     have hib : ((i : Int) == 0) = false := by rw [beq_eq_false_iff_ne]; omega
     go_wp2_with (go_at_call 47; (with_reducible refine (zbp.calls _ _ _ HFK.out).mono ?_); rintro e w7 ⟨rfl, ⟨nd, rfl⟩⟩)
     go_ret
     exact ⟨by simp [shE, hi], by repeat (first | exact HB.out | apply pw_below_drewN | apply below_drew1)⟩
   ·
    have k8b : (kd == 8) = false := beq_eq_false_iff_ne.mpr k8
    have k8c : (kd != 8) = true := bne_iff_ne.mpr k8
    by_cases k2 : kd = 2
    ·
     subst k2
     by_cases hi : i = 1
     ·
      subst hi
      go_wp2_with (go_at_call 47; (with_reducible refine (zbp.calls _ _ _ HFK.out).mono ?_); rintro e w7 ⟨rfl, ⟨nd, rfl⟩⟩)
      go_ret
      exact ⟨by simp [shE, ], by repeat (first | exact HB.out | apply pw_below_drewN | apply below_drew1)⟩
     ·
      have hib : ((i : Int) == 1) = false := by rw [beq_eq_false_iff_ne]; omega
      go_wp2_with (go_at_call 47; (with_reducible refine (zbp.calls _ _ _ HFK.out).mono ?_); rintro e w7 ⟨rfl, ⟨nd, rfl⟩⟩)
      go_ret
      exact ⟨by simp [shE, hi], by repeat (first | exact HB.out | apply pw_below_drewN | apply below_drew1)⟩
    ·
     have k2b : (kd == 2) = false := beq_eq_false_iff_ne.mpr k2
     have k2c : (kd != 2) = true := bne_iff_ne.mpr k2
     by_cases k9 : kd = 9
     ·
      subst k9
      by_cases hi : i = 0
      ·
       subst hi
       go_wp2_with (go_at_call 47; (with_reducible refine (zbp.calls _ _ _ HFK.out).mono ?_); rintro e w7 ⟨rfl, ⟨nd, rfl⟩⟩)
       go_ret
       exact ⟨by simp [shE, ], by repeat (first | exact HB.out | apply pw_below_drewN | apply below_drew1)⟩
      ·
       have hib : ((i : Int) == 0) = false := by rw [beq_eq_false_iff_ne]; omega
       go_wp2_with (go_at_call 47; (with_reducible refine (zbp.calls _ _ _ HFK.out).mono ?_); rintro e w7 ⟨rfl, ⟨nd, rfl⟩⟩)
       go_ret
       exact ⟨by simp [shE, hi], by repeat (first | exact HB.out | apply pw_below_drewN | apply below_drew1)⟩
     ·
      have k9b : (kd == 9) = false := beq_eq_false_iff_ne.mpr k9
      have k9c : (kd != 9) = true := bne_iff_ne.mpr k9
      by_cases hi : i = 1
      ·
       subst hi
       go_wp2_with (go_at_call 47; (with_reducible refine (zbp.calls _ _ _ HFK.out).mono ?_); rintro e w7 ⟨rfl, ⟨nd, rfl⟩⟩)
       go_ret
       exact ⟨by simp [shE, h5, h6, k1, k8, k2, k9], by repeat (first | exact HB.out | apply pw_below_drewN | apply below_drew1)⟩
      ·
       have hib : ((i : Int) == 1) = false := by rw [beq_eq_false_iff_ne]; omega
       go_wp2_with (go_at_call 47; (with_reducible refine (zbp.calls _ _ _ HFK.out).mono ?_); rintro e w7 ⟨rfl, ⟨nd, rfl⟩⟩)
       go_ret
       exact ⟨by simp [shE, hi, h5, h6, k1, k8, k2, k9], by repeat (first | exact HB.out | apply pw_below_drewN | apply below_drew1)⟩
 | true =>
  have hk := forks_true HFK.out
  by_cases hi : i = 1
  ·
   subst hi
   by_cases h2 : 2 ≤ o
   ·
    have h2b : decide ((o : Int) ≥ 2) = true := decide_eq_true (by omega)
    go_wp2_with (go_at_call 47; (with_reducible refine (zbp.calls _ _ _ HFK.out).mono ?_); rintro e w7 ⟨rfl, ⟨nd, rfl⟩⟩)
    go_ret
    exact ⟨by simp [shE, hk, h2], by repeat (first | exact HB.out | apply pw_below_drewN | apply below_drew1)⟩
   ·
    have h2b : decide ((o : Int) ≥ 2) = false := decide_eq_false (by omega)
    go_wp2_with (go_at_call 47; (with_reducible refine (zbp.calls _ _ _ HFK.out).mono ?_); rintro e w7 ⟨rfl, ⟨nd, rfl⟩⟩)
    go_ret
    exact ⟨by simp [shE, hk, h2], by repeat (first | exact HB.out | apply pw_below_drewN | apply below_drew1)⟩
  ·
   have hib : ((i : Int) == 1) = false := by rw [beq_eq_false_iff_ne]; omega
   by_cases h3 : 2 ≤ i
   ·
    have h3b : decide ((i : Int) ≥ 2) = true := decide_eq_true (by omega)
    go_wp2_with (go_at_call 47; (with_reducible refine (zbp.calls _ _ _ HFK.out).mono ?_); rintro e w7 ⟨rfl, ⟨nd, rfl⟩⟩)
    go_ret
    exact ⟨by simp [shE, hk, hi, h3], by repeat (first | exact HB.out | apply pw_below_drewN | apply below_drew1)⟩
   ·
    have h3b : decide ((i : Int) ≥ 2) = false := decide_eq_false (by omega)
    go_wp2_with (go_at_call 47; (with_reducible refine (zbp.calls _ _ _ HFK.out).mono ?_); rintro e w7 ⟨rfl, ⟨nd, rfl⟩⟩)
    go_ret
    exact ⟨by simp [shE, hk, hi, h3], by repeat (first | exact HB.out | apply pw_below_drewN | apply below_drew1)⟩
--TAIL
end Go.Proofs.YtcaegaljhogbjaaGreatDoor.Gr

set_option linter.unusedVariables false
set_option linter.unusedSectionVars false
namespace Go.Proofs.YtcaegaljhogbjaaGreatDoor.Gr
open Go.RowKit Go.Lib Go.Proofs.YtcaegaljhogbjaaGreatDoorW.PrintWords Go.Proofs.YtcaegaljhogbjaaGreatDoor.Y Go.Proofs.YtcaegaljhogbjaaGreatDoor.Z Go.Proofs.YtcaegaljhogbjaaGreatDoor.Ext Go.Proofs.YtcaegaljhogbjaaGreatDoor.B Go.Proofs.YtcaegaljhogbjaaGreatDoor.Q

theorem rd40 {l2 : List S40} {i : Nat} (h : i < l2.length) : zbb l2 (i : Int) = l2[i] := by
 unfold zbb; rw [Int.toNat_natCast, List.getD_eq_getElem?_getD, List.getElem?_eq_getElem h]; rfl
theorem rd38 {l1 : List S38} {i : Nat} (h : i < l1.length) : zba l1 (i : Int) = l1[i] := by
 unfold zba; rw [Int.toNat_natCast, List.getD_eq_getElem?_getD, List.getElem?_eq_getElem h]; rfl
theorem cnt_drop {l2 : List S40} {i : Nat} (h : i < l2.length) (p : Bool × Int) : cnt (l2.drop i) p = (if (if p.1 then l2[i].f0 else l2[i].f1) = p.2 then 1 else 0) + cnt (l2.drop (i + 1)) p := by
 rw [List.drop_eq_getElem_cons h]
 unfold cnt
 rw [List.filter_cons]
 by_cases e : (if p.1 then l2[i].f0 else l2[i].f1) = p.2
 ·
  rw [if_pos (decide_eq_true e), if_pos e, List.length_cons]; omega
 ·
  rw [if_neg (by rw [decide_eq_false e]; decide), if_neg e]; omega
theorem cnt_end {l2 : List S40} {i : Nat} (h : l2.length ≤ i) (p : Bool × Int) : cnt (l2.drop i) p = 0 := by rw [List.drop_of_length_le h]; rfl
section
variable {l1 : List S38} {l2 : List S40} {s : ByteArray}
theorem outs_len (hf : l2.length ≤ 1000000) (x : Int) : ∀ (k i : Nat) (xs ys : List Int), i ≤ l2.length → zaf.l0 k x xs i s l1 l2 = some ys → ys.length = xs.length + cnt (l2.drop i) (true, x)
 | 0, i, xs, ys, _, h => by simp [zaf.l0] at h
 | k + 1, i, xs, ys, hi, h => by
  rw [zaf.l0] at h
  by_cases c : i < l2.length
  ·
   rw [if_pos (by omega), if_pos (by omega), rd40 c, wrapS i (by omega)] at h
   rw [cnt_drop c]
   by_cases e : l2[i].f0 = x
   ·
    rw [if_pos e] at h
    split at h
    case isFalse => cases h
    have := outs_len hf x k (i + 1) _ ys c h
    simp [e] at this ⊢
    omega
   ·
    rw [if_neg e] at h
    have := outs_len hf x k (i + 1) _ ys c h
    simp [e] at this ⊢
    omega
  ·
   rw [if_neg (by omega)] at h
   rw [cnt_end (by omega), ← Option.some.inj h]; rfl
theorem ins_len (hf : l2.length ≤ 1000000) (x : Int) : ∀ (k i : Nat) (xs ys : List Int), i ≤ l2.length → zan.l0 k x xs i s l1 l2 = some ys → ys.length = xs.length + cnt (l2.drop i) (false, x)
 | 0, i, xs, ys, _, h => by simp [zan.l0] at h
 | k + 1, i, xs, ys, hi, h => by
  rw [zan.l0] at h
  by_cases c : i < l2.length
  ·
   rw [if_pos (by omega), if_pos (by omega), rd40 c, wrapS i (by omega)] at h
   rw [cnt_drop c]
   by_cases e : l2[i].f1 = x
   ·
    rw [if_pos e] at h
    split at h
    case isFalse => cases h
    have := ins_len hf x k (i + 1) _ ys c h
    simp [e] at this ⊢
    omega
   ·
    rw [if_neg e] at h
    have := ins_len hf x k (i + 1) _ ys c h
    simp [e] at this ⊢
    omega
  ·
   rw [if_neg (by omega)] at h
   rw [cnt_end (by omega), ← Option.some.inj h]; rfl
theorem outs_eq (hf : l2.length ≤ 1000000) {k : Nat} {x : Int} {ys : List Int} (h : zaf.f k s l1 l2 x = some ys) : ys.length = cnt l2 (true, x) := by
 have := outs_len hf x k 0 [] ys (Nat.zero_le _) h
 simpa using this
theorem ins_eq (hf : l2.length ≤ 1000000) {k : Nat} {x : Int} {ys : List Int} (h : zan.f k s l1 l2 x = some ys) : ys.length = cnt l2 (false, x) := by
 have := ins_len hf x k 0 [] ys (Nat.zero_le _) h
 simpa using this
theorem flow_go (hl : l1.length ≤ 1000000) (hf : l2.length ≤ 1000000) (hk : ∀ m : Int, inL l1 m → (nd l1 m).f0 ≠ 0) {k : Nat} {n t : Int} (h : zap.f k s l1 l2 n = some t) :
  0 ≤ wrap64 (n - 1) ∧ wrap64 (n - 1) < (l2.length : Int) ∧ ∃ x y is has,
   zbu.f s l1 l2 (zbb l2 (wrap64 (n - 1))).f0 = some (x.f0, x.f1, x.f2, x.f3, x.f4, is) ∧ zbu.f s l1 l2 (zbb l2 (wrap64 (n - 1))).f1 = some (y.f0, y.f1, y.f2, y.f3, y.f4, has) ∧
   gfE is has x y (zbb l2 (wrap64 (n - 1))) (cnt l2 (true, (zbb l2 (wrap64 (n - 1))).f0)) = t := by
 unfold zap.f at h
 split at h
 case isFalse => cases h
 rename_i hpq
 refine ⟨hpq.1, hpq.2, ?_⟩
 generalize zbb l2 (wrap64 (n - 1)) = f at *
 rw [kind_eq hl, kind_eq hl] at h
 simp only [Option.bind_some] at h
 obtain ⟨os, ho, h⟩ := Option.bind_eq_some_iff.mp h
 rw [outs_eq hf ho] at h
 refine ⟨atS l1 f.f0, atS l1 f.f1, decide (inL l1 f.f0), decide (inL l1 f.f1), at_eq hl _, at_eq hl _, ?_⟩
 rw [← Option.some.inj h, fE_eq]
 unfold gfE
 by_cases h1 : inL l1 f.f0
 ·
  have k1 : kindAt l1 f.f0 = (nd l1 f.f0).f0 := if_pos h1
  have n1 := hk _ h1
  by_cases h2 : inL l1 f.f1
  ·
   have k2 : kindAt l1 f.f1 = (nd l1 f.f1).f0 := if_pos h2
   have n2 := hk _ h2
   rw [at_nd h1, at_nd h2, k1, k2, if_neg n1, if_neg n2]
   simp only [h1, h2, decide_true, Bool.true_eq_false, if_false]
   rfl
  ·
   have k2 : kindAt l1 f.f1 = 0 := if_neg h2
   rw [k1, k2, if_neg n1]
   simp [h1, h2]
 ·
  have k1 : kindAt l1 f.f0 = 0 := if_neg h1
  rw [k1]
  simp [h1]
theorem shape_go (hl : l1.length ≤ 1000000) (hf : l2.length ≤ 1000000) {k : Nat} {n : Int} (hn : inL l1 n) {t : Bool} (h : zah.f k s l1 l2 n = some t) : shE (zba l1 (wrap64 (n - 1))).f0 (cnt l2 (false, n)) (cnt l2 (true, n)) = t := by
 unfold zah.f at h
 obtain ⟨is, hi, h⟩ := Option.bind_eq_some_iff.mp h
 obtain ⟨os, ho, h⟩ := Option.bind_eq_some_iff.mp h
 rw [kind_eq hl] at h
 simp only [Option.bind_some] at h
 rw [ins_eq hf hi, outs_eq hf ho] at h
 have k1 : kindAt l1 n = (zba l1 (wrap64 (n - 1))).f0 := if_pos hn
 rw [k1] at h
 generalize (zba l1 (wrap64 (n - 1))).f0 = a at *
 generalize cnt l2 (false, n) = i at *
 generalize cnt l2 (true, n) = o at *
 have hb0 : ∀ m : Nat, ((m : Int) == 0) = (m == 0) := fun m => by rw [Bool.eq_iff_iff, beq_iff_eq, beq_iff_eq]; omega
 have hb1 : ∀ m : Nat, ((m : Int) == 1) = (m == 1) := fun m => by rw [Bool.eq_iff_iff, beq_iff_eq, beq_iff_eq]; omega
 have he0 : ∀ m : Nat, ((m : Int) = 0) = (m = 0) := fun m => by rw [eq_iff_iff]; omega
 have he1 : ∀ m : Nat, ((m : Int) = 1) = (m = 1) := fun m => by rw [eq_iff_iff]; omega
 have he2 : ∀ m : Nat, ((m : Int) ≥ 2) = (2 ≤ m) := fun m => by rw [eq_iff_iff]; omega
 cases k with
 | zero => split at h <;> simp [zah.j0] at h
 | succ k =>
  simp only [zah.j0, hb0, hb1, he0, he1, he2] at h
  unfold shE
  by_cases a1 : a = 1
  ·
   subst a1
   by_cases e : i = 0
   ·
    simp [e] at h ⊢; exact h
   ·
    have eb : (i == 0) = false := beq_eq_false_iff_ne.mpr e
    simp [e, eb] at h ⊢; exact h
  ·
   by_cases a8 : a = 8
   ·
    subst a8
    by_cases e : i = 0
    ·
     simp [e] at h ⊢; exact h
    ·
     have eb : (i == 0) = false := beq_eq_false_iff_ne.mpr e
     simp [e, eb] at h ⊢; exact h
   ·
    by_cases a2 : a = 2
    ·
     subst a2
     by_cases e : i = 1
     ·
      simp [e] at h ⊢; exact h
     ·
      have eb : (i == 1) = false := beq_eq_false_iff_ne.mpr e
      simp [e, eb] at h ⊢; exact h
    ·
     by_cases a9 : a = 9
     ·
      subst a9
      by_cases e : i = 0
      ·
       simp [e] at h ⊢; exact h
      ·
       have eb : (i == 0) = false := beq_eq_false_iff_ne.mpr e
       simp [e, eb] at h ⊢; exact h
     ·
      by_cases a5 : a = 5
      ·
       subst a5
       by_cases e : i = 1
       ·
        by_cases e2 : 2 ≤ o <;> simp [e, e2] at h ⊢ <;> exact h
       ·
        have eb : (i == 1) = false := beq_eq_false_iff_ne.mpr e
        by_cases e2 : 2 ≤ i <;> simp [e, e2, eb] at h ⊢ <;> exact h
      ·
       by_cases a6 : a = 6
       ·
        subst a6
        by_cases e : i = 1
        ·
         by_cases e2 : 2 ≤ o <;> simp [e, e2] at h ⊢ <;> exact h
        ·
         have eb : (i == 1) = false := beq_eq_false_iff_ne.mpr e
         by_cases e2 : 2 ≤ i <;> simp [e, e2, eb] at h ⊢ <;> exact h
       ·
        by_cases e : i = 1
        ·
         simp [e, a1, a8, a2, a9, a5, a6] at h ⊢; exact h
        ·
         have eb : (i == 1) = false := beq_eq_false_iff_ne.mpr e
         simp [e, eb, a1, a8, a2, a9, a5, a6] at h ⊢; exact h
theorem inside_in (hl : l1.length ≤ 1000000) (x : Int) : ∀ (k i : Nat) (xs ys : List Int), i ≤ l1.length → (∀ z ∈ xs, inL l1 z) → zam.l0 k x xs i s l1 l2 = some ys → ∀ z ∈ ys, inL l1 z
 | 0, i, xs, ys, _, _, h => by simp [zam.l0] at h
 | k + 1, i, xs, ys, hi, hx, h => by
  rw [zam.l0] at h
  by_cases c : i < l1.length
  ·
   rw [if_pos (by omega), if_pos (by omega), wrapS i (by omega)] at h
   split at h
   ·
    split at h
    case isFalse => cases h
    refine inside_in hl x k (i + 1) _ ys c (fun z hz => ?_) h
    rcases List.mem_append.mp hz with hz | hz
    ·
     exact hx z hz
    ·
     rw [List.mem_singleton.mp hz]; exact ⟨by omega, by omega⟩
   ·
    exact inside_in hl x k (i + 1) _ ys c hx h
  ·
   rw [if_neg (by omega)] at h
   rw [← Option.some.inj h]; exact hx
theorem one_l0 (hl : l1.length ≤ 1000000) (b1 b2 : Int) (L : List Int) (hL : ∀ z ∈ L, inL l1 z) : ∀ (k : Nat) (a b m j : Int), zaj.l0 k a b L m j s l1 l2 = zau.l0 k a b L m j s l1 l2 b1 b2
 | 0, _, _, _, _ => by simp [zaj.l0, zau.l0]
 | k + 1, a, b, m, j => by
  simp only [zaj.l0, zau.l0, kind_eq hl, Option.bind_some, one_l0 hl b1 b2 L hL k]
  by_cases c1 : j < m
  ·
   rw [if_pos c1, if_pos c1]
   by_cases c2 : 0 ≤ j
   ·
    rw [if_pos c2, if_pos c2]
    by_cases c3 : j < (L.length : Int)
    ·
     rw [if_pos c3, if_pos c3]
     have hz : rd L j ∈ L := by
      unfold rd
      rw [List.getD_eq_getElem?_getD, List.getElem?_eq_getElem (show j.toNat < L.length by omega)]
      exact List.getElem_mem _
     have hi := hL _ hz
     obtain ⟨_, p, q⟩ := in_w hl hi
     rw [if_pos p, if_pos q]
     have k1 : kindAt l1 (rd L j) = (zba l1 (wrap64 (rd L j - 1))).f0 := if_pos hi
     rw [k1]
     generalize (zba l1 (wrap64 (rd L j - 1))).f0 = v
     by_cases v1 : v = 1
     ·
      subst v1; simp
     ·
      simp [v1]
    ·
     rw [if_neg c3, if_neg c3]
   ·
    rw [if_neg c2, if_neg c2]
  ·
   rw [if_neg c1, if_neg c1]
theorem one_go (hl : l1.length ≤ 1000000) (b1 b2 : Int) {k : Nat} {n : Int} {t : Bool} (h : zaj.f k s l1 l2 n = some t) : zau.f k s l1 l2 b1 b2 n = some t := by
 unfold zaj.f at h
 obtain ⟨L, hL, h⟩ := Option.bind_eq_some_iff.mp h
 unfold zau.f zbq.f
 rw [hL]
 simp only [Option.bind_some]
 rw [← one_l0 hl b1 b2 L (inside_in hl n k 0 [] L (Nat.zero_le _) (by simp) hL)]
 exact h
end
end Go.Proofs.YtcaegaljhogbjaaGreatDoor.Gr
