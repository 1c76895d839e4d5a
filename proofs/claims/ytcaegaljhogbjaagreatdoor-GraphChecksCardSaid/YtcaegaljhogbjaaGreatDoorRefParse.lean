/- The reference's Parse of a guard: the error that it comes to. -/
import Derived.Test.YtcaegaljhogbjaaGreatDoorGuardWalk
import Derived.Test.YtcaegaljhogbjaaGreatDoorGx2
set_option linter.unusedVariables false
set_option linter.unusedSimpArgs false
namespace Go.Proofs.YtcaegaljhogbjaaGreatDoor.Rg
open Go.RowKit Go.Lib Go.Sort Go.Proofs.YtcaegaljhogbjaaGreatDoorW.PrintWords Go.Proofs.YtcaegaljhogbjaaGreatDoorW.PrintLast Go.Proofs.YtcaegaljhogbjaaGreatDoorW.PrintMore Go.Proofs.YtcaegaljhogbjaaGreatDoor.G Go.Proofs.YtcaegaljhogbjaaGreatDoor.Gd

/-- The reference's reader lies in block B: the signs, how far they are read, what is laid so far, whether it went wrong. -/
def Sr (w1 : World) (N B n : Nat) (bad : Bool) (L : List S118) (wc : World) : Prop :=
 ∃ (A : Option Addr) (c : Nat) (v : Value) (xs L0 : List S118) (i : Nat), Aside0 (wc.heap[B]? = some (.cells #[.slice A L0.length c, v, .int .i64 (i : Int), .bool bad] 93 (0, 0))) ∧ Aside0 (L = L0.drop i ∧ i ≤ L0.length ∧ L0.length ≤ 1000 ∧ L0.length = N) ∧ Aside0 (k118.C w1 A L0.length L0) ∧ Aside0 (k118.R 118 wc w1.heap.size (fun _ => True) v xs) ∧ Aside0 (xs.length + L.length ≤ n) ∧ Aside0 (w1.heap.size ≤ B) ∧ Aside0 (Below w1.heap.size w1 wc)
theorem Sr.below {w1 wc w' : World} {N : Nat} {B n : Nat} {bad : Bool} {L : List S118} (h : Sr w1 N B n bad L wc) (hb : Below wc.heap.size wc w') : Sr w1 N B n bad L w' := by
 obtain ⟨A, c, v, xs, L0, i, h1, h2, h3, h4, h5, h6, h7⟩ := h
 exact ⟨A, c, v, xs, L0, i, ⟨blk_below h1.out hb⟩, h2, h3, ⟨Kd.R_below h4.out hb⟩, h5, h6, ⟨below_step h7.out hb⟩⟩
theorem Sr.drew {w1 wc : World} {N : Nat} {B n : Nat} {bad : Bool} {L : List S118} (h : Sr w1 N B n bad L wc) : Sr w1 N B n bad L wc.drew := h.below (below_drew1 (Below.refl _ _))
theorem Sr.mono {w1 wc : World} {N : Nat} {B n m : Nat} {bad : Bool} {L : List S118} (h : Sr w1 N B n bad L wc) (hm : n ≤ m) : Sr w1 N B m bad L wc := by
  obtain ⟨A, c, v, xs, L0, i, h1, h2, h3, h4, h5, h6, h7⟩ := h
  exact ⟨A, c, v, xs, L0, i, h1, h2, h3, h4, ⟨Nat.le_trans h5.out hm⟩, h6, h7⟩
theorem Sr.pos {w1 wc : World} {N : Nat} {B n : Nat} {bad : Bool} {x : S118} {l : List S118} (h : Sr w1 N B n bad (x :: l) wc) : ∃ n', n = n' + 1 := by
 obtain ⟨A, c, v, xs, L0, i, h1, h2, h3, h4, h5, h6, h7⟩ := h
 exact ⟨n - 1, by have := h5.out; rw [List.length_cons] at this; omega⟩
theorem k118_off : ∀ q, q ∈ 118 :: k118.E → q ≠ 93 := by
 intro q hq
 have e : q = 118 := by simpa [show k118.E = [] from rfl] using hq
 subst e; decide
/-- Whether it went wrong. -/
theorem Sr.bad {w1 wc : World} {N : Nat} {B n : Nat} {bad : Bool} {L : List S118} (h : Sr w1 N B n bad L wc) : wc.cell? ⟨B, 3, none⟩ = some (.bool bad) ∧ wc.frozen? ⟨B, 3, none⟩ = false := by
 obtain ⟨A, c, v, xs, L0, i, h1, h2, h3, h4, h5, h6, h7⟩ := h
 exact ⟨blk_cell h1.out 3, blk_frozen h1.out 3⟩
/-- It goes wrong. -/
theorem Sr.wrong {w1 wc : World} {N : Nat} {B n : Nat} {bad : Bool} {L : List S118} (h : Sr w1 N B n bad L wc) : Sr w1 N B n true L (wc.setCell ⟨B, 3, none⟩ (.bool true)) ∧ Lib.OthersKept 118 (some B) wc (wc.setCell ⟨B, 3, none⟩ (.bool true)) := by
 obtain ⟨A, c, v, xs, L0, i, h1, h2, h3, h4, h5, h6, h7⟩ := h
 exact ⟨⟨A, c, v, xs, L0, i, ⟨blk_put h1.out 3 _ rfl⟩, h2, h3, ⟨Kd.R_set h4.out h1.out k118_off 3 _⟩, h5, h6, ⟨below_set h7.out h6.out⟩⟩, Lib.OthersKept.setCell (Lib.OthersKept.refl _ _ _) ⟨B, 3, none⟩ rfl _⟩
/-- One sign on. -/
theorem Sr.on {w1 wc : World} {N : Nat} {B n : Nat} {bad : Bool} {x : S118} {l : List S118} (h : Sr w1 N B (n + 1) bad (x :: l) wc) : ∃ (i i1 : Int), wc.cell? ⟨B, 2, none⟩ = some (.int .i64 i) ∧ wc.frozen? ⟨B, 2, none⟩ = false ∧ IntKind.i64.wrap (i + 1) = i1 ∧ wrap64 (i + 1) = i1 ∧ Sr w1 N B n bad l (wc.setCell ⟨B, 2, none⟩ (.int .i64 i1)) ∧ Lib.OthersKept 118 (some B) wc (wc.setCell ⟨B, 2, none⟩ (.int .i64 i1)) := by
 obtain ⟨A, c, v, xs, L0, i, h1, h2, h3, h4, h5, h6, h7⟩ := h
 obtain ⟨e1, e2, e3⟩ := h2.out
 have hlt : i < L0.length := by
  have := congrArg List.length e1; rw [List.length_drop, List.length_cons] at this; omega
 have hl : l = L0.drop (i + 1) := by
  rw [List.drop_eq_getElem_cons hlt] at e1; exact (List.cons.inj e1).2
 refine ⟨(i : Int), ((i + 1 : Nat) : Int), blk_cell h1.out 2, blk_frozen h1.out 2, by rw [IntKind.wrap_i64]; omega, by unfold wrap64; omega, ⟨A, c, v, xs, L0, i + 1, ⟨blk_put h1.out 2 _ rfl⟩, ⟨hl, by omega, e3⟩, h3, ⟨Kd.R_set h4.out h1.out k118_off 2 _⟩, ⟨by have := h5.out; rw [List.length_cons] at this; omega⟩, h6, ⟨below_set h7.out h6.out⟩⟩, Lib.OthersKept.setCell (Lib.OthersKept.refl _ _ _) ⟨B, 2, none⟩ rfl _⟩
/-- Nothing is left. -/
theorem Sr.done {w1 wc : World} {N : Nat} {B n : Nat} {bad : Bool} (h : Sr w1 N B n bad [] wc) : ∃ (A : Option Addr) (m c : Nat) (i : Int), wc.cell? ⟨B, 0, none⟩ = some (.slice A m c) ∧ wc.cell? ⟨B, 2, none⟩ = some (.int .i64 i) ∧ ¬ i < (m : Int) := by
 obtain ⟨A, c, v, xs, L0, i, h1, h2, h3, h4, h5, h6, h7⟩ := h
 obtain ⟨e1, e2, e3⟩ := h2.out
 have : L0.length ≤ i := by have := congrArg List.length e1; rw [List.length_drop, List.length_nil] at this; omega
 exact ⟨A, L0.length, c, (i : Int), blk_cell h1.out 0, blk_cell h1.out 2, by omega⟩
/-- What is next. -/
theorem Sr.next {w1 wc : World} {N : Nat} {B n : Nat} {bad : Bool} {x : S118} {l : List S118} (h : Sr w1 N B n bad (x :: l) wc) : ∃ (ad : Addr) (m c : Nat) (i : Int), wc.cell? ⟨B, 0, none⟩ = some (.slice (some ad) m c) ∧ wc.cell? ⟨B, 2, none⟩ = some (.int .i64 i) ∧ 0 ≤ i ∧ i < (m : Int) ∧ wc.cell? (ad.add (i.toNat * 2)) = some (.int .i64 x.f0) ∧ wc.cell? ⟨(ad.add (i.toNat * 2)).block, (ad.add (i.toNat * 2)).off + 1, none⟩ = some (.int .i64 x.f1) := by
 obtain ⟨A, c, v, xs, L0, i, h1, h2, h3, h4, h5, h6, h7⟩ := h
 obtain ⟨e1, e2, e3⟩ := h2.out
 have hlt : i < L0.length := by
  have := congrArg List.length e1; rw [List.length_drop, List.length_cons] at this; omega
 have hx : rd_T118 L0 (i : Int) = x := by
  rw [List.drop_eq_getElem_cons hlt] at e1
  unfold rd_T118
  rw [Int.toNat_natCast, List.getD_eq_getElem?_getD, List.getElem?_eq_getElem hlt]
  exact ((List.cons.inj e1).1).symm
 obtain ⟨ad, rfl, d0, d1⟩ := at_T118 (Kd.C_below h3.out h7.out) (i : Int) (by omega) (by omega)
 rw [hx] at d0 d1
 exact ⟨ad, L0.length, c, (i : Int), blk_cell h1.out 0, blk_cell h1.out 2, by omega, by omega, d0, d1⟩
/-- What a walk of the reader's methods ends with. -/
def Endr (w1 : World) (N : Nat) (wc : World) (B n : Nat) (r : Option (List S118)) (e : Ending) (w' : World) : Prop :=
 e = .returned (.tuple #[]) ∧ Lib.OthersKept 118 (some B) wc w' ∧ (match r with | some l => Sr w1 N B n false l w' | none => ∃ l, Sr w1 N B n true l w')

set_option maxHeartbeats 2000000 in
theorem is_calls (kd : Int) {w1 wc : World} {N : Nat} {B n : Nat} {bad : Bool} {L : List S118} (h : Sr w1 N B n bad L wc) :
  Calls Tryz.prog 88 #[.pointer (some ⟨B, 0, none⟩), .int .i64 kd] wc fun e w' => e = .returned (.bool (sees kd L)) ∧ Below wc.heap.size wc w' := by
 cases L with
 | nil =>
  obtain ⟨A, m, c, i, c0, c2, hlt⟩ := h.drew.done
  have b0 : wc.cell? ⟨B, 0, none⟩ = some (.slice A m c) := c0
  have b2 : wc.cell? ⟨B, 2, none⟩ = some (.int .i64 i) := c2
  go_enter Tryz.func88, Tryz.ntmps88
  go_upto_region 1 with fail
  go_region
  all_goals (go_wp2; go_ret; exact ⟨rfl, below_drew1 (Below.refl _ _)⟩)
 | cons x l =>
  obtain ⟨ad, m, c, i, c0, c2, h0, hi, d0, d1⟩ := h.drew.next
  have b0 : wc.cell? ⟨B, 0, none⟩ = some (.slice (some ad) m c) := c0
  have b2 : wc.cell? ⟨B, 2, none⟩ = some (.int .i64 i) := c2
  have b3 : wc.cell? (ad.add (i.toNat * 2)) = some (.int .i64 x.f0) := d0
  go_enter Tryz.func88, Tryz.ntmps88
  go_upto_region 1 with fail
  go_region
  all_goals (go_wp2; go_ret; exact ⟨rfl, below_drew1 (Below.refl _ _)⟩)
/-- A sign is laid behind. -/
theorem put_calls (kd : Int) {w1 wc : World} {N : Nat} {B n : Nat} {bad : Bool} {L : List S118} (hn : n ≤ 1000) (h : Sr w1 N B n bad L wc) :
  Calls Tryz.prog 89 #[.pointer (some ⟨B, 0, none⟩), .int .i64 kd] wc fun e w' => e = .returned (.tuple #[]) ∧ Sr w1 N B (n + 1) bad L w' ∧ Lib.OthersKept 118 (some B) wc w' := by
 obtain ⟨A, c, v, xs, L0, i, h1, h2, h3, h4, h5, h6, h7⟩ := h
 have c1 : wc.cell? ⟨B, 1, none⟩ = some v := blk_cell h1.out 1
 have hlen : xs.length ≤ 1000 := by have := h5.out; omega
 have hBn := Aside0.mk (Kd.R_ne h4.out h1.out (by decide))
 go_enter Tryz.func89, Tryz.ntmps89
 go_wp2_with (first | ((with_reducible refine gate_builtin (b := .append) (xs := #[.tmp 8, .tmp 11]) rfl ?_); (try (refine gate_guard (by rfl) ?_; dsimp only)); at_builtin; refine Kd.R_append k118 (w0 := w1) w1.heap.size rfl (.tmp 8) (.tmp 11) 71 118 (.agg #[(.int .i64 0), (.int .i64 0)]) 16 rfl Tryz.underlying71 info118 rfl (by decide) (by omega) v xs (⟨kd, 0⟩ : S118) [.int .i64 kd, .int .i64 0] (fun _ => True) (fun _ => False) rfl rfl ?aP (fun _ hk => hk.elim) ?aF ?aO ?aB ?aS ?aL ?_; (case aP => exact k118_mkM _ _ _ (⟨kd, 0⟩ : S118)); (case aB => exact h7.out); (case aF => exact (fun _ _ => trivial)); (case aO => exact h4.out); (case aS => exact below_size h7.out); (case aL => omega); intro v1 w3 ho hb hg hat; obtain ⟨A3, c3, rfl⟩ := Kd.R_slice ho; have HB3 := Aside0.mk hb; have HG3 := Aside0.mk (Lib.OthersKept.grown (Lib.OthersKept.refl 118 (some B) wc) hg (fun g hg1 => by obtain ⟨cells, hc⟩ := Kd.R_typed h4.out g hg1; exact ⟨cells, _, hc⟩)); have HO3 := Aside0.mk ho; have h13 := Aside0.mk (blk_grown h1.out hg hBn.out); have c13 : w3.cell? ⟨B, 1, none⟩ = some v := blk_cell h13.out 1; have f13 : w3.frozen? ⟨B, 1, none⟩ = false := blk_frozen h13.out 1; clear hb ho hg hat))
 go_end0
 have h5' := h5.out
 have HO4 := HO3.out
 rw [List.length_append, List.length_singleton] at HO4
 exact ⟨rfl, ⟨A, c, _, xs ++ [⟨kd, 0⟩], L0, i, ⟨blk_put h13.out 1 _ rfl⟩, h2, h3, ⟨Kd.R_set HO4 h13.out k118_off 1 _⟩, ⟨by rw [List.length_append, List.length_singleton]; omega⟩, h6, ⟨below_set HB3.out h6.out⟩⟩, Lib.OthersKept.setCell HG3.out ⟨B, 1, none⟩ rfl _⟩
set_option maxHeartbeats 2000000 in
theorem need_calls (kd : Int) {w1 wc : World} {N : Nat} {B n : Nat} {bad : Bool} {L : List S118} (h : Sr w1 N B n bad L wc) :
  Calls Tryz.prog 133 #[.pointer (some ⟨B, 0, none⟩), .int .i64 kd] wc fun e w' => e = .returned (.tuple #[]) ∧ Lib.OthersKept 118 (some B) wc w' ∧ (match pass kd L with | some l => Sr w1 N B n bad l w' | none => Sr w1 N B n true L w') := by
 have HS := Aside0.mk h
 have HO : Aside0 (Lib.OthersKept 118 (some B) wc wc) := ⟨Lib.OthersKept.refl _ _ _⟩
 cases hb : sees kd L with
 | false =>
  rw [pass_no hb]
  clear h
  go_enter Tryz.func133, Tryz.ntmps133
  go_wp2_with ((go_at_call 88; (with_reducible refine (is_calls _ HS.out).mono ?_); rintro e wx ⟨rfl, hbx⟩; have n1_ := Aside0.mk (HS.out.below hbx); have n2_ := Aside0.mk (HO.out.trans (others_below hbx)); clear HS HO hbx; have HS := n1_; have HO := n2_; clear n1_ n2_; obtain ⟨c3, f3⟩ := HS.out.bad; have hw := HS.out.wrong))
  first | go_end0 | refine bodyPost_ret (results_none rfl _ _ _) rfl ?_
  exact ⟨rfl, HO.out.trans hw.2, hw.1⟩
 | true =>
  obtain ⟨x, l, rfl, hx, hps⟩ := pass_yes hb
  obtain ⟨n', rfl⟩ := h.pos
  rw [hps]
  clear h hx hps
  go_enter Tryz.func133, Tryz.ntmps133
  go_wp2_with ((go_at_call 88; (with_reducible refine (is_calls _ HS.out).mono ?_); rintro e wx ⟨rfl, hbx⟩; have n1_ := Aside0.mk (HS.out.below hbx); have n2_ := Aside0.mk (HO.out.trans (others_below hbx)); clear HS HO hbx; have HS := n1_; have HO := n2_; clear n1_ n2_; obtain ⟨i, i1, c2, f2, wa, wb, hA, hOA⟩ := HS.out.on; have HA := Aside0.mk hA; have HOA := Aside0.mk hOA; clear hA hOA))
  first | go_end0 | refine bodyPost_ret (results_none rfl _ _ _) rfl ?_
  exact ⟨rfl, HO.out.trans HOA.out, HA.out.mono (Nat.le_succ _)⟩
/-- The function of each. -/
def fid : NT → FuncId
 | .guard => 65
 | .some => 87
 | .one => 112
 | .sum => 134
 | .product => 150
 | .factor => 155
def Told (w1 : World) (N B : Nat) (k : Nat) : Prop :=
 ∀ (nt : NT) (L : List S118) (r : Option (List S118)) (wc : World) (n : Nat), n ≤ 999 → Sr w1 N B n false L wc → gd k nt L = some r → Calls Tryz.prog (fid nt) #[.pointer (some ⟨B, 0, none⟩)] wc (Endr w1 N wc B n r)
theorem has1 (a z : Int) : [a].contains z = (z == a) := by rw [Bool.eq_iff_iff]; simp
theorem has2 (a b z : Int) : [a, b].contains z = (z == a || z == b) := by rw [Bool.eq_iff_iff]; simp
end Go.Proofs.YtcaegaljhogbjaaGreatDoor.Rg

set_option linter.unusedVariables false
set_option linter.unusedSimpArgs false
namespace Go.Proofs.YtcaegaljhogbjaaGreatDoor.Rg
open Go.RowKit Go.Lib Go.Sort Go.Proofs.YtcaegaljhogbjaaGreatDoorW.PrintWords Go.Proofs.YtcaegaljhogbjaaGreatDoorW.PrintLast Go.Proofs.YtcaegaljhogbjaaGreatDoorW.PrintMore Go.Proofs.YtcaegaljhogbjaaGreatDoor.G Go.Proofs.YtcaegaljhogbjaaGreatDoor.Gd

set_option maxHeartbeats 8000000 in
theorem guard_calls {w1 : World} {N : Nat} {B k : Nat} (ih : Told w1 N B k) (L : List S118) (r : Option (List S118)) (wc : World) (n : Nat) (hn : n ≤ 999) (h : Sr w1 N B n false L wc) (hr : gd (k + 1) .guard L = some r) :
  Calls Tryz.prog 65 #[.pointer (some ⟨B, 0, none⟩)] wc (Endr w1 N wc B n r) := by
 unfold Gd.gd row at hr
 cases ht : gd k .some L with
 | none => rw [ht] at hr; cases hr
 | some r1 =>
  rw [ht] at hr
  have HC := Aside0.mk (ih .some L r1 wc n hn h ht)
  have HR : Aside0 ((r1 = none ∧ r = none) ∨ ∃ l, r1 = some l ∧ rows (gd k .some) [13] k l = some r) := ⟨by
   cases r1 with
   | none => cases hr; exact Or.inl ⟨rfl, rfl⟩
   | some l => exact Or.inr ⟨l, rfl, hr⟩⟩
  clear ht h hr
  go_enter Tryz.func65, Tryz.ntmps65
  go_wp2_with (go_at_call 87; (refine HC.out.mono ?_); rintro e w2 ⟨rfl, ho2, hs2⟩; have HO2 := Aside0.mk ho2; have HS2 := Aside0.mk hs2; clear ho2 hs2)
  go_loopg [] (k) (fun kq wr => ∃ (L : List S118) (bad : Bool), Aside0 (Lib.OthersKept 118 (some B) wc wr) ∧ Aside0 (Sr w1 N B n bad L wr) ∧ Aside0 ((bad = true ∧ r = none) ∨ (bad = false ∧ rows (gd k .some) [13] kq L = some r)))
  case atStart =>
   rcases HR.out with ⟨rfl, rfl⟩ | ⟨l, rfl, h⟩
   ·
    obtain ⟨l, hs⟩ := HS2.out
    exact ⟨l, true, HO2, ⟨hs⟩, ⟨Or.inl ⟨rfl, rfl⟩⟩⟩
   ·
    exact ⟨l, false, HO2, ⟨HS2.out⟩, ⟨Or.inr ⟨rfl, h⟩⟩⟩
  case round =>
   clear HC HR
   obtain ⟨L, bad, HO, HS, HB⟩ := hrel
   obtain ⟨c3, f3⟩ := HS.out.bad
   rcases HB.out with ⟨rfl, rfl⟩ | ⟨rfl, h⟩
   ·
    go_wp2
    go_end0
    exact ⟨rfl, HO.out, ⟨L, HS.out⟩⟩
   ·
    obtain ⟨k', hk'⟩ : ∃ k', gk = k' + 1 := by
     cases gk with
     | zero => cases h
     | succ m => exact ⟨m, rfl⟩
    have HKG := Aside0.mk hk'
    rw [hk'] at h
    clear hk' HB
    cases L with
    | nil =>
     have hr : r = some [] := by cases h; rfl
     clear h
     have s1 : sees 13 [] = false := rfl
     go_wp2_with ((go_at_call 88; (with_reducible refine (is_calls _ HS.out).mono ?_); rintro e wx ⟨rfl, hbx⟩; have n1_ := Aside0.mk (HS.out.below hbx); have n2_ := Aside0.mk (HO.out.trans (others_below hbx)); clear HS HO hbx; have HS := n1_; have HO := n2_; clear n1_ n2_; skip))
     go_end0
     rw [hr]
     exact ⟨rfl, HO.out, HS.out⟩
    | cons x l =>
     cases hc : ([13] : List Int).contains x.f0 with
     | false =>
      have hr : r = some (x :: l) := by
       unfold rows at h
       rw [if_neg (by rw [hc]; exact Bool.false_ne_true)] at h
       cases h; rfl
      clear h
      have s1 : sees 13 (x :: l) = false := by rw [← hc, has1]; rfl
      clear hc
      go_wp2_with ((go_at_call 88; (with_reducible refine (is_calls _ HS.out).mono ?_); rintro e wx ⟨rfl, hbx⟩; have n1_ := Aside0.mk (HS.out.below hbx); have n2_ := Aside0.mk (HO.out.trans (others_below hbx)); clear HS HO hbx; have HS := n1_; have HO := n2_; clear n1_ n2_; skip))
      go_end0
      rw [hr]
      exact ⟨rfl, HO.out, HS.out⟩
     | true =>
      unfold rows at h
      rw [if_pos hc] at h
      obtain ⟨n', hn'⟩ := HS.out.pos
      subst hn'
      cases ht : gd k .some l with
      | none => rw [ht] at h; cases h
      | some r1 =>
       rw [ht] at h
       have HI := Aside0.mk (fun w' hs => ih .some l r1 w' n' (by omega) hs ht)
       cases r1 with
       | none =>
        cases h
        clear ht
        have s1 : sees 13 (x :: l) = true := by rw [← hc, has1]; rfl
        have hx : x.f0 = 13 := by rw [has1] at hc; exact beq_iff_eq.mp hc
        clear hc
        go_wp2_with (first | (go_at_call 88; (with_reducible refine (is_calls _ HS.out).mono ?_); rintro e wx ⟨rfl, hbx⟩; have n1_ := Aside0.mk (HS.out.below hbx); have n2_ := Aside0.mk (HO.out.trans (others_below hbx)); clear HS HO hbx; have HS := n1_; have HO := n2_; clear n1_ n2_; obtain ⟨i, i1, c2, f2, wa, wb, hA, hOA⟩ := HS.out.on; have HA := Aside0.mk hA; have HOA := Aside0.mk (HO.out.trans hOA); clear hA hOA) | (go_at_call 87; (refine (HI.out _ HA.out).mono ?_); rintro e wy ⟨rfl, hoy, hsy⟩; have HOY := Aside0.mk (HOA.out.trans hoy); obtain ⟨l2, hsy2⟩ := hsy; have HSY := Aside0.mk hsy2; clear hoy hsy2) | (go_at_call 89; (with_reducible refine (put_calls _ (by omega) HSY.out).mono ?_); rintro e wz ⟨rfl, hsz, hoz⟩; have HSZ := Aside0.mk hsz; have HOZ := Aside0.mk (HOY.out.trans hoz); clear hsz hoz))
        go_roundg (gk - 1)
        case measure => have := HKG.out; omega
        case rel => exact ⟨_, true, HOZ, HSZ, ⟨by first | exact Or.inl ⟨rfl, rfl⟩ | exact Or.inl ⟨rfl, trivial⟩⟩⟩
       | some l2 =>
        have H2 := Aside0.mk h
        clear ht h
        have s1 : sees 13 (x :: l) = true := by rw [← hc, has1]; rfl
        have hx : x.f0 = 13 := by rw [has1] at hc; exact beq_iff_eq.mp hc
        clear hc
        go_wp2_with (first | (go_at_call 88; (with_reducible refine (is_calls _ HS.out).mono ?_); rintro e wx ⟨rfl, hbx⟩; have n1_ := Aside0.mk (HS.out.below hbx); have n2_ := Aside0.mk (HO.out.trans (others_below hbx)); clear HS HO hbx; have HS := n1_; have HO := n2_; clear n1_ n2_; obtain ⟨i, i1, c2, f2, wa, wb, hA, hOA⟩ := HS.out.on; have HA := Aside0.mk hA; have HOA := Aside0.mk (HO.out.trans hOA); clear hA hOA) | (go_at_call 87; (refine (HI.out _ HA.out).mono ?_); rintro e wy ⟨rfl, hoy, hsy⟩; have HOY := Aside0.mk (HOA.out.trans hoy); have HSY := Aside0.mk hsy; clear hoy hsy) | (go_at_call 89; (with_reducible refine (put_calls _ (by omega) HSY.out).mono ?_); rintro e wz ⟨rfl, hsz, hoz⟩; have HSZ := Aside0.mk hsz; have HOZ := Aside0.mk (HOY.out.trans hoz); clear hsz hoz))
        go_roundg (gk - 1)
        case measure => have := HKG.out; omega
        case rel =>
         have e : gk - 1 = k' := by have := HKG.out; omega
         rw [e]
         exact ⟨l2, false, HOZ, HSZ, ⟨Or.inr ⟨rfl, H2.out⟩⟩⟩
set_option maxHeartbeats 8000000 in
theorem some_calls {w1 : World} {N : Nat} {B k : Nat} (ih : Told w1 N B k) (L : List S118) (r : Option (List S118)) (wc : World) (n : Nat) (hn : n ≤ 999) (h : Sr w1 N B n false L wc) (hr : gd (k + 1) .some L = some r) :
  Calls Tryz.prog 87 #[.pointer (some ⟨B, 0, none⟩)] wc (Endr w1 N wc B n r) := by
 unfold Gd.gd row at hr
 cases ht : gd k .one L with
 | none => rw [ht] at hr; cases hr
 | some r1 =>
  rw [ht] at hr
  have HC := Aside0.mk (ih .one L r1 wc n hn h ht)
  have HR : Aside0 ((r1 = none ∧ r = none) ∨ ∃ l, r1 = some l ∧ rows (gd k .one) [12] k l = some r) := ⟨by
   cases r1 with
   | none => cases hr; exact Or.inl ⟨rfl, rfl⟩
   | some l => exact Or.inr ⟨l, rfl, hr⟩⟩
  clear ht h hr
  go_enter Tryz.func87, Tryz.ntmps87
  go_wp2_with (go_at_call 112; (refine HC.out.mono ?_); rintro e w2 ⟨rfl, ho2, hs2⟩; have HO2 := Aside0.mk ho2; have HS2 := Aside0.mk hs2; clear ho2 hs2)
  go_loopg [] (k) (fun kq wr => ∃ (L : List S118) (bad : Bool), Aside0 (Lib.OthersKept 118 (some B) wc wr) ∧ Aside0 (Sr w1 N B n bad L wr) ∧ Aside0 ((bad = true ∧ r = none) ∨ (bad = false ∧ rows (gd k .one) [12] kq L = some r)))
  case atStart =>
   rcases HR.out with ⟨rfl, rfl⟩ | ⟨l, rfl, h⟩
   ·
    obtain ⟨l, hs⟩ := HS2.out
    exact ⟨l, true, HO2, ⟨hs⟩, ⟨Or.inl ⟨rfl, rfl⟩⟩⟩
   ·
    exact ⟨l, false, HO2, ⟨HS2.out⟩, ⟨Or.inr ⟨rfl, h⟩⟩⟩
  case round =>
   clear HC HR
   obtain ⟨L, bad, HO, HS, HB⟩ := hrel
   obtain ⟨c3, f3⟩ := HS.out.bad
   rcases HB.out with ⟨rfl, rfl⟩ | ⟨rfl, h⟩
   ·
    go_wp2
    go_end0
    exact ⟨rfl, HO.out, ⟨L, HS.out⟩⟩
   ·
    obtain ⟨k', hk'⟩ : ∃ k', gk = k' + 1 := by
     cases gk with
     | zero => cases h
     | succ m => exact ⟨m, rfl⟩
    have HKG := Aside0.mk hk'
    rw [hk'] at h
    clear hk' HB
    cases L with
    | nil =>
     have hr : r = some [] := by cases h; rfl
     clear h
     have s1 : sees 12 [] = false := rfl
     go_wp2_with ((go_at_call 88; (with_reducible refine (is_calls _ HS.out).mono ?_); rintro e wx ⟨rfl, hbx⟩; have n1_ := Aside0.mk (HS.out.below hbx); have n2_ := Aside0.mk (HO.out.trans (others_below hbx)); clear HS HO hbx; have HS := n1_; have HO := n2_; clear n1_ n2_; skip))
     go_end0
     rw [hr]
     exact ⟨rfl, HO.out, HS.out⟩
    | cons x l =>
     cases hc : ([12] : List Int).contains x.f0 with
     | false =>
      have hr : r = some (x :: l) := by
       unfold rows at h
       rw [if_neg (by rw [hc]; exact Bool.false_ne_true)] at h
       cases h; rfl
      clear h
      have s1 : sees 12 (x :: l) = false := by rw [← hc, has1]; rfl
      clear hc
      go_wp2_with ((go_at_call 88; (with_reducible refine (is_calls _ HS.out).mono ?_); rintro e wx ⟨rfl, hbx⟩; have n1_ := Aside0.mk (HS.out.below hbx); have n2_ := Aside0.mk (HO.out.trans (others_below hbx)); clear HS HO hbx; have HS := n1_; have HO := n2_; clear n1_ n2_; skip))
      go_end0
      rw [hr]
      exact ⟨rfl, HO.out, HS.out⟩
     | true =>
      unfold rows at h
      rw [if_pos hc] at h
      obtain ⟨n', hn'⟩ := HS.out.pos
      subst hn'
      cases ht : gd k .one l with
      | none => rw [ht] at h; cases h
      | some r1 =>
       rw [ht] at h
       have HI := Aside0.mk (fun w' hs => ih .one l r1 w' n' (by omega) hs ht)
       cases r1 with
       | none =>
        cases h
        clear ht
        have s1 : sees 12 (x :: l) = true := by rw [← hc, has1]; rfl
        have hx : x.f0 = 12 := by rw [has1] at hc; exact beq_iff_eq.mp hc
        clear hc
        go_wp2_with (first | (go_at_call 88; (with_reducible refine (is_calls _ HS.out).mono ?_); rintro e wx ⟨rfl, hbx⟩; have n1_ := Aside0.mk (HS.out.below hbx); have n2_ := Aside0.mk (HO.out.trans (others_below hbx)); clear HS HO hbx; have HS := n1_; have HO := n2_; clear n1_ n2_; obtain ⟨i, i1, c2, f2, wa, wb, hA, hOA⟩ := HS.out.on; have HA := Aside0.mk hA; have HOA := Aside0.mk (HO.out.trans hOA); clear hA hOA) | (go_at_call 112; (refine (HI.out _ HA.out).mono ?_); rintro e wy ⟨rfl, hoy, hsy⟩; have HOY := Aside0.mk (HOA.out.trans hoy); obtain ⟨l2, hsy2⟩ := hsy; have HSY := Aside0.mk hsy2; clear hoy hsy2) | (go_at_call 89; (with_reducible refine (put_calls _ (by omega) HSY.out).mono ?_); rintro e wz ⟨rfl, hsz, hoz⟩; have HSZ := Aside0.mk hsz; have HOZ := Aside0.mk (HOY.out.trans hoz); clear hsz hoz))
        go_roundg (gk - 1)
        case measure => have := HKG.out; omega
        case rel => exact ⟨_, true, HOZ, HSZ, ⟨by first | exact Or.inl ⟨rfl, rfl⟩ | exact Or.inl ⟨rfl, trivial⟩⟩⟩
       | some l2 =>
        have H2 := Aside0.mk h
        clear ht h
        have s1 : sees 12 (x :: l) = true := by rw [← hc, has1]; rfl
        have hx : x.f0 = 12 := by rw [has1] at hc; exact beq_iff_eq.mp hc
        clear hc
        go_wp2_with (first | (go_at_call 88; (with_reducible refine (is_calls _ HS.out).mono ?_); rintro e wx ⟨rfl, hbx⟩; have n1_ := Aside0.mk (HS.out.below hbx); have n2_ := Aside0.mk (HO.out.trans (others_below hbx)); clear HS HO hbx; have HS := n1_; have HO := n2_; clear n1_ n2_; obtain ⟨i, i1, c2, f2, wa, wb, hA, hOA⟩ := HS.out.on; have HA := Aside0.mk hA; have HOA := Aside0.mk (HO.out.trans hOA); clear hA hOA) | (go_at_call 112; (refine (HI.out _ HA.out).mono ?_); rintro e wy ⟨rfl, hoy, hsy⟩; have HOY := Aside0.mk (HOA.out.trans hoy); have HSY := Aside0.mk hsy; clear hoy hsy) | (go_at_call 89; (with_reducible refine (put_calls _ (by omega) HSY.out).mono ?_); rintro e wz ⟨rfl, hsz, hoz⟩; have HSZ := Aside0.mk hsz; have HOZ := Aside0.mk (HOY.out.trans hoz); clear hsz hoz))
        go_roundg (gk - 1)
        case measure => have := HKG.out; omega
        case rel =>
         have e : gk - 1 = k' := by have := HKG.out; omega
         rw [e]
         exact ⟨l2, false, HOZ, HSZ, ⟨Or.inr ⟨rfl, H2.out⟩⟩⟩
set_option maxHeartbeats 8000000 in
theorem product_calls {w1 : World} {N : Nat} {B k : Nat} (ih : Told w1 N B k) (L : List S118) (r : Option (List S118)) (wc : World) (n : Nat) (hn : n ≤ 999) (h : Sr w1 N B n false L wc) (hr : gd (k + 1) .product L = some r) :
  Calls Tryz.prog 150 #[.pointer (some ⟨B, 0, none⟩)] wc (Endr w1 N wc B n r) := by
 unfold Gd.gd row at hr
 cases ht : gd k .factor L with
 | none => rw [ht] at hr; cases hr
 | some r1 =>
  rw [ht] at hr
  have HC := Aside0.mk (ih .factor L r1 wc n hn h ht)
  have HR : Aside0 ((r1 = none ∧ r = none) ∨ ∃ l, r1 = some l ∧ rows (gd k .factor) [5] k l = some r) := ⟨by
   cases r1 with
   | none => cases hr; exact Or.inl ⟨rfl, rfl⟩
   | some l => exact Or.inr ⟨l, rfl, hr⟩⟩
  clear ht h hr
  go_enter Tryz.func150, Tryz.ntmps150
  go_wp2_with (go_at_call 155; (refine HC.out.mono ?_); rintro e w2 ⟨rfl, ho2, hs2⟩; have HO2 := Aside0.mk ho2; have HS2 := Aside0.mk hs2; clear ho2 hs2)
  go_loopg [] (k) (fun kq wr => ∃ (L : List S118) (bad : Bool), Aside0 (Lib.OthersKept 118 (some B) wc wr) ∧ Aside0 (Sr w1 N B n bad L wr) ∧ Aside0 ((bad = true ∧ r = none) ∨ (bad = false ∧ rows (gd k .factor) [5] kq L = some r)))
  case atStart =>
   rcases HR.out with ⟨rfl, rfl⟩ | ⟨l, rfl, h⟩
   ·
    obtain ⟨l, hs⟩ := HS2.out
    exact ⟨l, true, HO2, ⟨hs⟩, ⟨Or.inl ⟨rfl, rfl⟩⟩⟩
   ·
    exact ⟨l, false, HO2, ⟨HS2.out⟩, ⟨Or.inr ⟨rfl, h⟩⟩⟩
  case round =>
   clear HC HR
   obtain ⟨L, bad, HO, HS, HB⟩ := hrel
   obtain ⟨c3, f3⟩ := HS.out.bad
   rcases HB.out with ⟨rfl, rfl⟩ | ⟨rfl, h⟩
   ·
    go_wp2
    go_end0
    exact ⟨rfl, HO.out, ⟨L, HS.out⟩⟩
   ·
    obtain ⟨k', hk'⟩ : ∃ k', gk = k' + 1 := by
     cases gk with
     | zero => cases h
     | succ m => exact ⟨m, rfl⟩
    have HKG := Aside0.mk hk'
    rw [hk'] at h
    clear hk' HB
    cases L with
    | nil =>
     have hr : r = some [] := by cases h; rfl
     clear h
     have s1 : sees 5 [] = false := rfl
     go_wp2_with ((go_at_call 88; (with_reducible refine (is_calls _ HS.out).mono ?_); rintro e wx ⟨rfl, hbx⟩; have n1_ := Aside0.mk (HS.out.below hbx); have n2_ := Aside0.mk (HO.out.trans (others_below hbx)); clear HS HO hbx; have HS := n1_; have HO := n2_; clear n1_ n2_; skip))
     go_end0
     rw [hr]
     exact ⟨rfl, HO.out, HS.out⟩
    | cons x l =>
     cases hc : ([5] : List Int).contains x.f0 with
     | false =>
      have hr : r = some (x :: l) := by
       unfold rows at h
       rw [if_neg (by rw [hc]; exact Bool.false_ne_true)] at h
       cases h; rfl
      clear h
      have s1 : sees 5 (x :: l) = false := by rw [← hc, has1]; rfl
      clear hc
      go_wp2_with ((go_at_call 88; (with_reducible refine (is_calls _ HS.out).mono ?_); rintro e wx ⟨rfl, hbx⟩; have n1_ := Aside0.mk (HS.out.below hbx); have n2_ := Aside0.mk (HO.out.trans (others_below hbx)); clear HS HO hbx; have HS := n1_; have HO := n2_; clear n1_ n2_; skip))
      go_end0
      rw [hr]
      exact ⟨rfl, HO.out, HS.out⟩
     | true =>
      unfold rows at h
      rw [if_pos hc] at h
      obtain ⟨n', hn'⟩ := HS.out.pos
      subst hn'
      cases ht : gd k .factor l with
      | none => rw [ht] at h; cases h
      | some r1 =>
       rw [ht] at h
       have HI := Aside0.mk (fun w' hs => ih .factor l r1 w' n' (by omega) hs ht)
       cases r1 with
       | none =>
        cases h
        clear ht
        have s1 : sees 5 (x :: l) = true := by rw [← hc, has1]; rfl
        have hx : x.f0 = 5 := by rw [has1] at hc; exact beq_iff_eq.mp hc
        clear hc
        go_wp2_with (first | (go_at_call 88; (with_reducible refine (is_calls _ HS.out).mono ?_); rintro e wx ⟨rfl, hbx⟩; have n1_ := Aside0.mk (HS.out.below hbx); have n2_ := Aside0.mk (HO.out.trans (others_below hbx)); clear HS HO hbx; have HS := n1_; have HO := n2_; clear n1_ n2_; obtain ⟨i, i1, c2, f2, wa, wb, hA, hOA⟩ := HS.out.on; have HA := Aside0.mk hA; have HOA := Aside0.mk (HO.out.trans hOA); clear hA hOA) | (go_at_call 155; (refine (HI.out _ HA.out).mono ?_); rintro e wy ⟨rfl, hoy, hsy⟩; have HOY := Aside0.mk (HOA.out.trans hoy); obtain ⟨l2, hsy2⟩ := hsy; have HSY := Aside0.mk hsy2; clear hoy hsy2) | (go_at_call 89; (with_reducible refine (put_calls _ (by omega) HSY.out).mono ?_); rintro e wz ⟨rfl, hsz, hoz⟩; have HSZ := Aside0.mk hsz; have HOZ := Aside0.mk (HOY.out.trans hoz); clear hsz hoz))
        go_roundg (gk - 1)
        case measure => have := HKG.out; omega
        case rel => exact ⟨_, true, HOZ, HSZ, ⟨by first | exact Or.inl ⟨rfl, rfl⟩ | exact Or.inl ⟨rfl, trivial⟩⟩⟩
       | some l2 =>
        have H2 := Aside0.mk h
        clear ht h
        have s1 : sees 5 (x :: l) = true := by rw [← hc, has1]; rfl
        have hx : x.f0 = 5 := by rw [has1] at hc; exact beq_iff_eq.mp hc
        clear hc
        go_wp2_with (first | (go_at_call 88; (with_reducible refine (is_calls _ HS.out).mono ?_); rintro e wx ⟨rfl, hbx⟩; have n1_ := Aside0.mk (HS.out.below hbx); have n2_ := Aside0.mk (HO.out.trans (others_below hbx)); clear HS HO hbx; have HS := n1_; have HO := n2_; clear n1_ n2_; obtain ⟨i, i1, c2, f2, wa, wb, hA, hOA⟩ := HS.out.on; have HA := Aside0.mk hA; have HOA := Aside0.mk (HO.out.trans hOA); clear hA hOA) | (go_at_call 155; (refine (HI.out _ HA.out).mono ?_); rintro e wy ⟨rfl, hoy, hsy⟩; have HOY := Aside0.mk (HOA.out.trans hoy); have HSY := Aside0.mk hsy; clear hoy hsy) | (go_at_call 89; (with_reducible refine (put_calls _ (by omega) HSY.out).mono ?_); rintro e wz ⟨rfl, hsz, hoz⟩; have HSZ := Aside0.mk hsz; have HOZ := Aside0.mk (HOY.out.trans hoz); clear hsz hoz))
        go_roundg (gk - 1)
        case measure => have := HKG.out; omega
        case rel =>
         have e : gk - 1 = k' := by have := HKG.out; omega
         rw [e]
         exact ⟨l2, false, HOZ, HSZ, ⟨Or.inr ⟨rfl, H2.out⟩⟩⟩
set_option maxHeartbeats 8000000 in
theorem sum_calls {w1 : World} {N : Nat} {B k : Nat} (ih : Told w1 N B k) (L : List S118) (r : Option (List S118)) (wc : World) (n : Nat) (hn : n ≤ 999) (h : Sr w1 N B n false L wc) (hr : gd (k + 1) .sum L = some r) :
  Calls Tryz.prog 134 #[.pointer (some ⟨B, 0, none⟩)] wc (Endr w1 N wc B n r) := by
 unfold Gd.gd row at hr
 cases ht : gd k .product L with
 | none => rw [ht] at hr; cases hr
 | some r1 =>
  rw [ht] at hr
  have HC := Aside0.mk (ih .product L r1 wc n hn h ht)
  have HR : Aside0 ((r1 = none ∧ r = none) ∨ ∃ l, r1 = some l ∧ rows (gd k .product) [3, 4] k l = some r) := ⟨by
   cases r1 with
   | none => cases hr; exact Or.inl ⟨rfl, rfl⟩
   | some l => exact Or.inr ⟨l, rfl, hr⟩⟩
  clear ht h hr
  go_enter Tryz.func134, Tryz.ntmps134
  go_wp2_with (go_at_call 150; (refine HC.out.mono ?_); rintro e w2 ⟨rfl, ho2, hs2⟩; have HO2 := Aside0.mk ho2; have HS2 := Aside0.mk hs2; clear ho2 hs2)
  go_loopg [2] (k) (fun kq v2 wr => ∃ (L : List S118) (bad : Bool), Aside0 (Lib.OthersKept 118 (some B) wc wr) ∧ Aside0 (Sr w1 N B n bad L wr) ∧ Aside0 ((bad = true ∧ r = none) ∨ (bad = false ∧ rows (gd k .product) [3, 4] kq L = some r)))
  case atStart =>
   rcases HR.out with ⟨rfl, rfl⟩ | ⟨l, rfl, h⟩
   ·
    obtain ⟨l, hs⟩ := HS2.out
    exact ⟨l, true, HO2, ⟨hs⟩, ⟨Or.inl ⟨rfl, rfl⟩⟩⟩
   ·
    exact ⟨l, false, HO2, ⟨HS2.out⟩, ⟨Or.inr ⟨rfl, h⟩⟩⟩
  case round =>
   clear HC HR
   obtain ⟨L, bad, HO, HS, HB⟩ := hrel
   obtain ⟨c3, f3⟩ := HS.out.bad
   rcases HB.out with ⟨rfl, rfl⟩ | ⟨rfl, h⟩
   ·
    go_wp2
    go_end0
    exact ⟨rfl, HO.out, ⟨L, HS.out⟩⟩
   ·
    obtain ⟨k', hk'⟩ : ∃ k', gk = k' + 1 := by
     cases gk with
     | zero => cases h
     | succ m => exact ⟨m, rfl⟩
    have HKG := Aside0.mk hk'
    rw [hk'] at h
    clear hk' HB
    cases L with
    | nil =>
     have hr : r = some [] := by cases h; rfl
     clear h
     have s1 : sees 3 [] = false := rfl
     have s2 : sees 4 [] = false := rfl
     go_wp2_with ((go_at_call 88; (with_reducible refine (is_calls _ HS.out).mono ?_); rintro e wx ⟨rfl, hbx⟩; have n1_ := Aside0.mk (HS.out.below hbx); have n2_ := Aside0.mk (HO.out.trans (others_below hbx)); clear HS HO hbx; have HS := n1_; have HO := n2_; clear n1_ n2_; skip))
     go_end0
     rw [hr]
     exact ⟨rfl, HO.out, HS.out⟩
    | cons x l =>
     cases hc : ([3, 4] : List Int).contains x.f0 with
     | false =>
      have hr : r = some (x :: l) := by
       unfold rows at h
       rw [if_neg (by rw [hc]; exact Bool.false_ne_true)] at h
       cases h; rfl
      clear h
      have s12 : (x.f0 == 3) = false ∧ (x.f0 == 4) = false := by rw [has2] at hc; exact Bool.or_eq_false_iff.mp hc
      have s1 : sees 3 (x :: l) = false := s12.1
      have s2 : sees 4 (x :: l) = false := s12.2
      clear s12
      clear hc
      go_wp2_with ((go_at_call 88; (with_reducible refine (is_calls _ HS.out).mono ?_); rintro e wx ⟨rfl, hbx⟩; have n1_ := Aside0.mk (HS.out.below hbx); have n2_ := Aside0.mk (HO.out.trans (others_below hbx)); clear HS HO hbx; have HS := n1_; have HO := n2_; clear n1_ n2_; skip))
      go_end0
      rw [hr]
      exact ⟨rfl, HO.out, HS.out⟩
     | true =>
      unfold rows at h
      rw [if_pos hc] at h
      obtain ⟨n', hn'⟩ := HS.out.pos
      subst hn'
      cases ht : gd k .product l with
      | none => rw [ht] at h; cases h
      | some r1 =>
       rw [ht] at h
       have HI := Aside0.mk (fun w' hs => ih .product l r1 w' n' (by omega) hs ht)
       cases r1 with
       | none =>
        cases h
        clear ht
        have hor : x.f0 = 3 ∨ x.f0 = 4 := by rw [has2] at hc; rcases Bool.or_eq_true_iff.mp hc with e | e; exact Or.inl (beq_iff_eq.mp e); exact Or.inr (beq_iff_eq.mp e)
        clear hc
        rcases hor with hx | hx
        ·
         have s1 : sees 3 (x :: l) = true := by show (x.f0 == 3) = _; rw [hx]; rfl
         go_upto_region 2 with ((go_at_call 88; (with_reducible refine (is_calls _ HS.out).mono ?_); rintro e wx ⟨rfl, hbx⟩; have n1_ := Aside0.mk (HS.out.below hbx); have n2_ := Aside0.mk (HO.out.trans (others_below hbx)); clear HS HO hbx; have HS := n1_; have HO := n2_; clear n1_ n2_; skip))
         obtain ⟨ad, m, c, j, q0, q2, j0, jm, d0, d1⟩ := HS.out.drew.next
         have p0 : wx.cell? ⟨B, 0, none⟩ = some (.slice (some ad) m c) := q0
         have p2 : wx.cell? ⟨B, 2, none⟩ = some (.int .i64 j) := q2
         have p4 : wx.cell? (ad.add (j.toNat * 2)) = some (.int .i64 x.f0) := d0
         obtain ⟨i, i1, c2, f2, wa, wb, hA, hOA⟩ := HS.out.on
         have hij : i = j := by rw [c2] at p2; cases p2; rfl
         subst hij
         have HA := Aside0.mk hA.drew
         have HOA := Aside0.mk ((HO.out.trans hOA).trans (others_below (below_drew1 (Below.refl _ _))))
         clear hA hOA c2
         go_region
         go_wp2_with (first | (go_at_call 150; (refine (HI.out _ HA.out).mono ?_); rintro e wy ⟨rfl, hoy, hsy⟩; have HOY := Aside0.mk (HOA.out.trans hoy); obtain ⟨l2, hsy2⟩ := hsy; have HSY := Aside0.mk hsy2; clear hoy hsy2) | (go_at_call 89; (with_reducible refine (put_calls _ (by omega) HSY.out).mono ?_); rintro e wz ⟨rfl, hsz, hoz⟩; have HSZ := Aside0.mk hsz; have HOZ := Aside0.mk (HOY.out.trans hoz); clear hsz hoz))
         go_roundg (gk - 1)
         case measure => have := HKG.out; omega
         case rel => exact ⟨_, true, HOZ, HSZ, ⟨by first | exact Or.inl ⟨rfl, rfl⟩ | exact Or.inl ⟨rfl, trivial⟩⟩⟩
        ·
         have s1 : sees 3 (x :: l) = false := by show (x.f0 == 3) = _; rw [hx]; rfl
         have s2 : sees 4 (x :: l) = true := by show (x.f0 == 4) = _; rw [hx]; rfl
         go_upto_region 2 with ((go_at_call 88; (with_reducible refine (is_calls _ HS.out).mono ?_); rintro e wx ⟨rfl, hbx⟩; have n1_ := Aside0.mk (HS.out.below hbx); have n2_ := Aside0.mk (HO.out.trans (others_below hbx)); clear HS HO hbx; have HS := n1_; have HO := n2_; clear n1_ n2_; skip))
         obtain ⟨ad, m, c, j, q0, q2, j0, jm, d0, d1⟩ := HS.out.drew.next
         have p0 : wx.cell? ⟨B, 0, none⟩ = some (.slice (some ad) m c) := q0
         have p2 : wx.cell? ⟨B, 2, none⟩ = some (.int .i64 j) := q2
         have p4 : wx.cell? (ad.add (j.toNat * 2)) = some (.int .i64 x.f0) := d0
         obtain ⟨i, i1, c2, f2, wa, wb, hA, hOA⟩ := HS.out.on
         have hij : i = j := by rw [c2] at p2; cases p2; rfl
         subst hij
         have HA := Aside0.mk hA.drew
         have HOA := Aside0.mk ((HO.out.trans hOA).trans (others_below (below_drew1 (Below.refl _ _))))
         clear hA hOA c2
         go_region
         go_wp2_with (first | (go_at_call 150; (refine (HI.out _ HA.out).mono ?_); rintro e wy ⟨rfl, hoy, hsy⟩; have HOY := Aside0.mk (HOA.out.trans hoy); obtain ⟨l2, hsy2⟩ := hsy; have HSY := Aside0.mk hsy2; clear hoy hsy2) | (go_at_call 89; (with_reducible refine (put_calls _ (by omega) HSY.out).mono ?_); rintro e wz ⟨rfl, hsz, hoz⟩; have HSZ := Aside0.mk hsz; have HOZ := Aside0.mk (HOY.out.trans hoz); clear hsz hoz))
         go_roundg (gk - 1)
         case measure => have := HKG.out; omega
         case rel => exact ⟨_, true, HOZ, HSZ, ⟨by first | exact Or.inl ⟨rfl, rfl⟩ | exact Or.inl ⟨rfl, trivial⟩⟩⟩
       | some l2 =>
        have H2 := Aside0.mk h
        clear ht h
        have hor : x.f0 = 3 ∨ x.f0 = 4 := by rw [has2] at hc; rcases Bool.or_eq_true_iff.mp hc with e | e; exact Or.inl (beq_iff_eq.mp e); exact Or.inr (beq_iff_eq.mp e)
        clear hc
        rcases hor with hx | hx
        ·
         have s1 : sees 3 (x :: l) = true := by show (x.f0 == 3) = _; rw [hx]; rfl
         go_upto_region 2 with ((go_at_call 88; (with_reducible refine (is_calls _ HS.out).mono ?_); rintro e wx ⟨rfl, hbx⟩; have n1_ := Aside0.mk (HS.out.below hbx); have n2_ := Aside0.mk (HO.out.trans (others_below hbx)); clear HS HO hbx; have HS := n1_; have HO := n2_; clear n1_ n2_; skip))
         obtain ⟨ad, m, c, j, q0, q2, j0, jm, d0, d1⟩ := HS.out.drew.next
         have p0 : wx.cell? ⟨B, 0, none⟩ = some (.slice (some ad) m c) := q0
         have p2 : wx.cell? ⟨B, 2, none⟩ = some (.int .i64 j) := q2
         have p4 : wx.cell? (ad.add (j.toNat * 2)) = some (.int .i64 x.f0) := d0
         obtain ⟨i, i1, c2, f2, wa, wb, hA, hOA⟩ := HS.out.on
         have hij : i = j := by rw [c2] at p2; cases p2; rfl
         subst hij
         have HA := Aside0.mk hA.drew
         have HOA := Aside0.mk ((HO.out.trans hOA).trans (others_below (below_drew1 (Below.refl _ _))))
         clear hA hOA c2
         go_region
         go_wp2_with (first | (go_at_call 150; (refine (HI.out _ HA.out).mono ?_); rintro e wy ⟨rfl, hoy, hsy⟩; have HOY := Aside0.mk (HOA.out.trans hoy); have HSY := Aside0.mk hsy; clear hoy hsy) | (go_at_call 89; (with_reducible refine (put_calls _ (by omega) HSY.out).mono ?_); rintro e wz ⟨rfl, hsz, hoz⟩; have HSZ := Aside0.mk hsz; have HOZ := Aside0.mk (HOY.out.trans hoz); clear hsz hoz))
         go_roundg (gk - 1)
         case measure => have := HKG.out; omega
         case rel =>
          have e : gk - 1 = k' := by have := HKG.out; omega
          rw [e]
          exact ⟨l2, false, HOZ, HSZ, ⟨Or.inr ⟨rfl, H2.out⟩⟩⟩
        ·
         have s1 : sees 3 (x :: l) = false := by show (x.f0 == 3) = _; rw [hx]; rfl
         have s2 : sees 4 (x :: l) = true := by show (x.f0 == 4) = _; rw [hx]; rfl
         go_upto_region 2 with ((go_at_call 88; (with_reducible refine (is_calls _ HS.out).mono ?_); rintro e wx ⟨rfl, hbx⟩; have n1_ := Aside0.mk (HS.out.below hbx); have n2_ := Aside0.mk (HO.out.trans (others_below hbx)); clear HS HO hbx; have HS := n1_; have HO := n2_; clear n1_ n2_; skip))
         obtain ⟨ad, m, c, j, q0, q2, j0, jm, d0, d1⟩ := HS.out.drew.next
         have p0 : wx.cell? ⟨B, 0, none⟩ = some (.slice (some ad) m c) := q0
         have p2 : wx.cell? ⟨B, 2, none⟩ = some (.int .i64 j) := q2
         have p4 : wx.cell? (ad.add (j.toNat * 2)) = some (.int .i64 x.f0) := d0
         obtain ⟨i, i1, c2, f2, wa, wb, hA, hOA⟩ := HS.out.on
         have hij : i = j := by rw [c2] at p2; cases p2; rfl
         subst hij
         have HA := Aside0.mk hA.drew
         have HOA := Aside0.mk ((HO.out.trans hOA).trans (others_below (below_drew1 (Below.refl _ _))))
         clear hA hOA c2
         go_region
         go_wp2_with (first | (go_at_call 150; (refine (HI.out _ HA.out).mono ?_); rintro e wy ⟨rfl, hoy, hsy⟩; have HOY := Aside0.mk (HOA.out.trans hoy); have HSY := Aside0.mk hsy; clear hoy hsy) | (go_at_call 89; (with_reducible refine (put_calls _ (by omega) HSY.out).mono ?_); rintro e wz ⟨rfl, hsz, hoz⟩; have HSZ := Aside0.mk hsz; have HOZ := Aside0.mk (HOY.out.trans hoz); clear hsz hoz))
         go_roundg (gk - 1)
         case measure => have := HKG.out; omega
         case rel =>
          have e : gk - 1 = k' := by have := HKG.out; omega
          rw [e]
          exact ⟨l2, false, HOZ, HSZ, ⟨Or.inr ⟨rfl, H2.out⟩⟩⟩
set_option maxHeartbeats 8000000 in
theorem one_calls {w1 : World} {N : Nat} {B k : Nat} (ih : Told w1 N B k) (L : List S118) (r : Option (List S118)) (wc : World) (n : Nat) (hn : n ≤ 999) (h : Sr w1 N B n false L wc) (hr : gd (k + 1) .one L = some r) :
  Calls Tryz.prog 112 #[.pointer (some ⟨B, 0, none⟩)] wc (Endr w1 N wc B n r) := by
 unfold Gd.gd at hr
 have HS := Aside0.mk h
 have HO : Aside0 (Lib.OthersKept 118 (some B) wc wc) := ⟨Lib.OthersKept.refl _ _ _⟩
 obtain ⟨c3, f3⟩ := h.bad
 cases h14 : sees 14 L with
 | true =>
  rw [if_pos h14] at hr
  obtain ⟨x, l, rfl, hx, hps⟩ := pass_yes h14
  obtain ⟨n', rfl⟩ := h.pos
  have HI := Aside0.mk (fun w' hs => ih .one l r w' n' (by omega) hs hr)
  clear h hr hx hps ih
  cases r with
  | none =>
   go_enter Tryz.func112, Tryz.ntmps112
   go_wp2_with (first | (go_at_call 88; (with_reducible refine (is_calls _ HS.out).mono ?_); rintro e wx ⟨rfl, hbx⟩; have n1_ := Aside0.mk (HS.out.below hbx); have n2_ := Aside0.mk (HO.out.trans (others_below hbx)); clear HS HO hbx; have HS := n1_; have HO := n2_; clear n1_ n2_; obtain ⟨i, i1, c2, f2, wa, wb, hA, hOA⟩ := HS.out.on; have HA := Aside0.mk hA; have HOA := Aside0.mk (HO.out.trans hOA); clear hA hOA) | (go_at_call 112; (refine (HI.out _ HA.out).mono ?_); rintro e wy ⟨rfl, hoy, hsy⟩; have HOY := Aside0.mk (HOA.out.trans hoy); obtain ⟨l2, hsy2⟩ := hsy; have HSY := Aside0.mk hsy2; clear hoy hsy2) | (go_at_call 89; (with_reducible refine (put_calls 14 (by omega) HSY.out).mono ?_); rintro e wz ⟨rfl, hsz, hoz⟩; have HSZ := Aside0.mk hsz; have HOZ := Aside0.mk (HOY.out.trans hoz); clear hsz hoz))
   first | go_end0 | refine bodyPost_ret (results_none rfl _ _ _) rfl ?_
   exact ⟨rfl, HOZ.out, ⟨_, HSZ.out⟩⟩
  | some l2 =>
   go_enter Tryz.func112, Tryz.ntmps112
   go_wp2_with (first | (go_at_call 88; (with_reducible refine (is_calls _ HS.out).mono ?_); rintro e wx ⟨rfl, hbx⟩; have n1_ := Aside0.mk (HS.out.below hbx); have n2_ := Aside0.mk (HO.out.trans (others_below hbx)); clear HS HO hbx; have HS := n1_; have HO := n2_; clear n1_ n2_; obtain ⟨i, i1, c2, f2, wa, wb, hA, hOA⟩ := HS.out.on; have HA := Aside0.mk hA; have HOA := Aside0.mk (HO.out.trans hOA); clear hA hOA) | (go_at_call 112; (refine (HI.out _ HA.out).mono ?_); rintro e wy ⟨rfl, hoy, hsy⟩; have HOY := Aside0.mk (HOA.out.trans hoy); have HSY := Aside0.mk hsy; clear hoy hsy) | (go_at_call 89; (with_reducible refine (put_calls 14 (by omega) HSY.out).mono ?_); rintro e wz ⟨rfl, hsz, hoz⟩; have HSZ := Aside0.mk hsz; have HOZ := Aside0.mk (HOY.out.trans hoz); clear hsz hoz))
   first | go_end0 | refine bodyPost_ret (results_none rfl _ _ _) rfl ?_
   exact ⟨rfl, HOZ.out, HSZ.out⟩
 | false =>
  rw [if_neg (by rw [h14]; exact Bool.false_ne_true)] at hr
  cases h15 : sees 15 L with
  | true =>
   rw [if_pos h15] at hr
   obtain ⟨x, l, rfl, hx, hps⟩ := pass_yes h15
   obtain ⟨n', rfl⟩ := h.pos
   clear h hx hps
   cases hg : gd k .guard l with
   | none => rw [show gd k .guard ((x :: l).drop 1) = none from hg] at hr; cases hr
   | some r1 =>
    rw [show gd k .guard ((x :: l).drop 1) = some r1 from hg] at hr
    have HI := Aside0.mk (fun w' hs => ih .guard l r1 w' n' (by omega) hs hg)
    clear hg ih
    cases r1 with
    | none =>
     cases hr
     go_enter Tryz.func112, Tryz.ntmps112
     go_wp2_with (first | (go_at_call 88; (with_reducible refine (is_calls _ HS.out).mono ?_); rintro e wx ⟨rfl, hbx⟩; have n1_ := Aside0.mk (HS.out.below hbx); have n2_ := Aside0.mk (HO.out.trans (others_below hbx)); clear HS HO hbx; have HS := n1_; have HO := n2_; clear n1_ n2_; obtain ⟨i, i1, c2, f2, wa, wb, hA, hOA⟩ := HS.out.on; have HA := Aside0.mk hA; have HOA := Aside0.mk (HO.out.trans hOA); clear hA hOA) | (go_at_call 65; (refine (HI.out _ HA.out).mono ?_); rintro e wy ⟨rfl, hoy, hsy⟩; have HOY := Aside0.mk (HOA.out.trans hoy); obtain ⟨l2, hsy2⟩ := hsy; have HSY := Aside0.mk hsy2; clear hoy hsy2) | (go_at_call 133; (with_reducible refine (need_calls 16 HSY.out).mono ?_); rintro e wz ⟨rfl, hoz, hsz⟩; have HSZ := Aside0.mk hsz; have HOZ := Aside0.mk (HOY.out.trans hoz); clear hsz hoz))
     first | go_end0 | refine bodyPost_ret (results_none rfl _ _ _) rfl ?_
     exact ⟨rfl, HOZ.out, by cases hq : pass 16 l2 with | none => exact ⟨_, by have := HSZ.out; rw [hq] at this; exact this.mono (Nat.le_succ _)⟩ | some q => exact ⟨q, by have := HSZ.out; rw [hq] at this; exact this.mono (Nat.le_succ _)⟩⟩
    | some l2 =>
     have hr2 : pass 16 l2 = r := by cases hr; rfl
     clear hr
     go_enter Tryz.func112, Tryz.ntmps112
     go_wp2_with (first | (go_at_call 88; (with_reducible refine (is_calls _ HS.out).mono ?_); rintro e wx ⟨rfl, hbx⟩; have n1_ := Aside0.mk (HS.out.below hbx); have n2_ := Aside0.mk (HO.out.trans (others_below hbx)); clear HS HO hbx; have HS := n1_; have HO := n2_; clear n1_ n2_; obtain ⟨i, i1, c2, f2, wa, wb, hA, hOA⟩ := HS.out.on; have HA := Aside0.mk hA; have HOA := Aside0.mk (HO.out.trans hOA); clear hA hOA) | (go_at_call 65; (refine (HI.out _ HA.out).mono ?_); rintro e wy ⟨rfl, hoy, hsy⟩; have HOY := Aside0.mk (HOA.out.trans hoy); have HSY := Aside0.mk hsy; clear hoy hsy) | (go_at_call 133; (with_reducible refine (need_calls 16 HSY.out).mono ?_); rintro e wz ⟨rfl, hoz, hsz⟩; have HSZ := Aside0.mk hsz; have HOZ := Aside0.mk (HOY.out.trans hoz); clear hsz hoz))
     first | go_end0 | refine bodyPost_ret (results_none rfl _ _ _) rfl ?_
     refine ⟨rfl, HOZ.out, ?_⟩
     have hz := HSZ.out
     rw [hr2] at hz
     cases r with
     | none => exact ⟨_, hz.mono (Nat.le_succ _)⟩
     | some q => exact hz.mono (Nat.le_succ _)
  | false =>
   rw [if_neg (by rw [h15]; exact Bool.false_ne_true)] at hr
   cases hg : gd k .sum L with
   | none => rw [hg] at hr; cases hr
   | some r1 =>
    rw [hg] at hr
    have HI := Aside0.mk (fun w' hs => ih .sum L r1 w' n (by omega) hs hg)
    clear hg h
    cases r1 with
    | none =>
     cases hr
     go_enter Tryz.func112, Tryz.ntmps112
     go_upto_region 1 with (first | (go_at_call 88; (with_reducible refine (is_calls _ HS.out).mono ?_); rintro e wx ⟨rfl, hbx⟩; have n1_ := Aside0.mk (HS.out.below hbx); have n2_ := Aside0.mk (HO.out.trans (others_below hbx)); clear HS HO hbx; have HS := n1_; have HO := n2_; clear n1_ n2_; skip) | (go_at_call 134; (refine (HI.out _ HS.out).mono ?_); rintro e wy ⟨rfl, hoy, hsy⟩; have HOY := Aside0.mk (HO.out.trans hoy); obtain ⟨l2, hsy2⟩ := hsy; have HSY := Aside0.mk hsy2; clear hoy hsy2))
     obtain ⟨k3, g3⟩ := HSY.out.bad
     obtain ⟨m3, j3⟩ := HSY.out.drew.bad
     have HW := Aside0.mk HSY.out.drew.wrong
     have HOD := Aside0.mk (HOY.out.trans (others_below (below_drew1 (Below.refl _ _))))
     go_region
     all_goals (go_wp2; (first | go_end0 | refine bodyPost_ret (results_none rfl _ _ _) rfl ?_); exact ⟨rfl, HOD.out.trans HW.out.2, ⟨_, HW.out.1⟩⟩)
    | some l2 =>
     cases l2 with
     | nil =>
      cases hr
      go_enter Tryz.func112, Tryz.ntmps112
      go_upto_region 1 with (first | (go_at_call 88; (with_reducible refine (is_calls _ HS.out).mono ?_); rintro e wx ⟨rfl, hbx⟩; have n1_ := Aside0.mk (HS.out.below hbx); have n2_ := Aside0.mk (HO.out.trans (others_below hbx)); clear HS HO hbx; have HS := n1_; have HO := n2_; clear n1_ n2_; skip) | (go_at_call 134; (refine (HI.out _ HS.out).mono ?_); rintro e wy ⟨rfl, hoy, hsy⟩; have HOY := Aside0.mk (HO.out.trans hoy); have HSY := Aside0.mk hsy; clear hoy hsy))
      obtain ⟨k3, g3⟩ := HSY.out.bad
      obtain ⟨m3, j3⟩ := HSY.out.drew.bad
      obtain ⟨A, m, c, j, q0, q2, hlt⟩ := HSY.out.done
      have t0 : wy.drew.cell? ⟨B, 0, none⟩ = some (.slice A m c) := q0
      have t2 : wy.drew.cell? ⟨B, 2, none⟩ = some (.int .i64 j) := q2
      have hge : (m : Int) ≤ j := by omega
      have HW := Aside0.mk HSY.out.drew.wrong
      have HOD := Aside0.mk (HOY.out.trans (others_below (below_drew1 (Below.refl _ _))))
      go_region
      all_goals (go_wp2; (first | go_end0 | refine bodyPost_ret (results_none rfl _ _ _) rfl ?_); exact ⟨rfl, HOD.out.trans HW.out.2, ⟨_, HW.out.1⟩⟩)
     | cons x l3 =>
      have hm : (if compares x.f0 = true then gd k .sum l3 else some none) = some r := hr
      clear hr
      by_cases h6 : x.f0 < 6
      ·
       have hcf : compares x.f0 = false := by unfold compares; rw [decide_eq_false (by omega)]; rfl
       rw [if_neg (by rw [hcf]; exact Bool.false_ne_true)] at hm
       cases hm
       clear hcf
       have hk6 : decide (x.f0 < 6) = true := decide_eq_true h6
       go_enter Tryz.func112, Tryz.ntmps112
       go_upto_region 1 with (first | (go_at_call 88; (with_reducible refine (is_calls _ HS.out).mono ?_); rintro e wx ⟨rfl, hbx⟩; have n1_ := Aside0.mk (HS.out.below hbx); have n2_ := Aside0.mk (HO.out.trans (others_below hbx)); clear HS HO hbx; have HS := n1_; have HO := n2_; clear n1_ n2_; skip) | (go_at_call 134; (refine (HI.out _ HS.out).mono ?_); rintro e wy ⟨rfl, hoy, hsy⟩; have HOY := Aside0.mk (HO.out.trans hoy); have HSY := Aside0.mk hsy; clear hoy hsy))
       obtain ⟨k3, g3⟩ := HSY.out.bad
       obtain ⟨ad, m, c, j, q0, q2, j0, jm, q4, d1⟩ := HSY.out.next
       have hge : decide ((m : Int) ≤ j) = false := decide_eq_false (by omega)
       clear HI h15 h14
       go_quiet (fail)
       have HS6 := HSY.out.below (pw_below_drewN (Below.refl _ _) nq)
       obtain ⟨m3, j3⟩ := HS6.bad
       have HW := Aside0.mk HS6.wrong
       have HOD := Aside0.mk (HOY.out.trans (others_below (pw_below_drewN (Below.refl _ _) nq)))
       go_wp2
       (first | go_end0 | refine bodyPost_ret (results_none rfl _ _ _) rfl ?_)
       exact ⟨rfl, HOD.out.trans HW.out.2, ⟨_, HW.out.1⟩⟩
      ·
       by_cases h11 : 11 < x.f0
       ·
        have hcf : compares x.f0 = false := by unfold compares; rw [decide_eq_false (show ¬ x.f0 ≤ 11 by omega), Bool.and_false]
        rw [if_neg (by rw [hcf]; exact Bool.false_ne_true)] at hm
        cases hm
        clear hcf
        have hk6 : decide (x.f0 < 6) = false := decide_eq_false h6
        have hk11 : decide (11 < x.f0) = true := decide_eq_true h11
        go_enter Tryz.func112, Tryz.ntmps112
        go_upto_region 1 with (first | (go_at_call 88; (with_reducible refine (is_calls _ HS.out).mono ?_); rintro e wx ⟨rfl, hbx⟩; have n1_ := Aside0.mk (HS.out.below hbx); have n2_ := Aside0.mk (HO.out.trans (others_below hbx)); clear HS HO hbx; have HS := n1_; have HO := n2_; clear n1_ n2_; skip) | (go_at_call 134; (refine (HI.out _ HS.out).mono ?_); rintro e wy ⟨rfl, hoy, hsy⟩; have HOY := Aside0.mk (HO.out.trans hoy); have HSY := Aside0.mk hsy; clear hoy hsy))
        obtain ⟨k3, g3⟩ := HSY.out.bad
        obtain ⟨ad, m, c, j, q0, q2, j0, jm, q4, d1⟩ := HSY.out.next
        have hge : decide ((m : Int) ≤ j) = false := decide_eq_false (by omega)
        clear HI h15 h14
        go_quiet (fail)
        have HS6 := HSY.out.below (pw_below_drewN (Below.refl _ _) nq)
        obtain ⟨m3, j3⟩ := HS6.bad
        have HW := Aside0.mk HS6.wrong
        have HOD := Aside0.mk (HOY.out.trans (others_below (pw_below_drewN (Below.refl _ _) nq)))
        go_wp2
        (first | go_end0 | refine bodyPost_ret (results_none rfl _ _ _) rfl ?_)
        exact ⟨rfl, HOD.out.trans HW.out.2, ⟨_, HW.out.1⟩⟩
       ·
        have hcf : compares x.f0 = true := by unfold compares; rw [decide_eq_true (show 6 ≤ x.f0 by omega), decide_eq_true (show x.f0 ≤ 11 by omega)]; rfl
        rw [if_pos hcf] at hm
        have HJ := Aside0.mk (fun n' w' (hn' : n' ≤ 999) hs => ih .sum l3 r w' n' hn' hs hm)
        clear hcf hm ih
        have hk6 : decide (x.f0 < 6) = false := decide_eq_false h6
        have hk11 : decide (11 < x.f0) = false := decide_eq_false h11
        go_enter Tryz.func112, Tryz.ntmps112
        go_upto_region 1 with (first | (go_at_call 88; (with_reducible refine (is_calls _ HS.out).mono ?_); rintro e wx ⟨rfl, hbx⟩; have n1_ := Aside0.mk (HS.out.below hbx); have n2_ := Aside0.mk (HO.out.trans (others_below hbx)); clear HS HO hbx; have HS := n1_; have HO := n2_; clear n1_ n2_; skip) | (go_at_call 134; (refine (HI.out _ HS.out).mono ?_); rintro e wy ⟨rfl, hoy, hsy⟩; have HOY := Aside0.mk (HO.out.trans hoy); have HSY := Aside0.mk hsy; clear hoy hsy))
        obtain ⟨k3, g3⟩ := HSY.out.bad
        obtain ⟨ad, m, c, j, q0, q2, j0, jm, q4, d1⟩ := HSY.out.next
        have hge : decide ((m : Int) ≤ j) = false := decide_eq_false (by omega)
        clear HI h15 h14
        go_quiet (fail)
        have HS5 := Aside0.mk (HSY.out.below (pw_below_drewN (Below.refl _ _) nq))
        have HOD := Aside0.mk (HOY.out.trans (others_below (pw_below_drewN (Below.refl _ _) nq)))
        obtain ⟨n', hn'⟩ := HSY.out.pos
        subst hn'
        clear HSY HS HOY HO
        obtain ⟨w5, hw5⟩ : ∃ w5, wy.drewN nq = w5 := ⟨_, rfl⟩
        rw [hw5] at HS5 HOD ⊢
        clear hw5 k3 g3 q0 q2 q4 d1 c3 f3 hge
        obtain ⟨ad, m, c, j, t0, t2, j0, jm, d0, d1⟩ := HS5.out.drew.next
        have q0 : w5.cell? ⟨B, 0, none⟩ = some (.slice (some ad) m c) := t0
        have q2 : w5.cell? ⟨B, 2, none⟩ = some (.int .i64 j) := t2
        have q4 : w5.cell? (ad.add (j.toNat * 2)) = some (.int .i64 x.f0) := d0
        obtain ⟨i, i1, c2, f2, wa, wb, hA, hOA⟩ := HS5.out.on
        have hij : i = j := by rw [c2] at q2; cases q2; rfl
        subst hij
        have HA := Aside0.mk hA.drew
        have HOA := Aside0.mk ((HOD.out.trans hOA).trans (others_below (below_drew1 (Below.refl _ _))))
        clear hA hOA c2
        go_upto_region 3 with fail
        go_region
        cases r with
        | none =>
         go_wp2_with (first | (go_at_call 134; (refine (HJ.out _ _ (by omega) HA.out).mono ?_); rintro e wy ⟨rfl, hoy, hsy⟩; have HOY := Aside0.mk (HOA.out.trans hoy); obtain ⟨l2, hsy2⟩ := hsy; have HSY := Aside0.mk hsy2; clear hoy hsy2) | (go_at_call 89; (with_reducible refine (put_calls _ (by omega) HSY.out).mono ?_); rintro e wz ⟨rfl, hsz, hoz⟩; have HSZ := Aside0.mk hsz; have HOZ := Aside0.mk (HOY.out.trans hoz); clear hsz hoz))
         first | go_end0 | refine bodyPost_ret (results_none rfl _ _ _) rfl ?_
         exact ⟨rfl, HOZ.out, ⟨_, HSZ.out⟩⟩
        | some l4 =>
         go_wp2_with (first | (go_at_call 134; (refine (HJ.out _ _ (by omega) HA.out).mono ?_); rintro e wy ⟨rfl, hoy, hsy⟩; have HOY := Aside0.mk (HOA.out.trans hoy); have HSY := Aside0.mk hsy; clear hoy hsy) | (go_at_call 89; (with_reducible refine (put_calls _ (by omega) HSY.out).mono ?_); rintro e wz ⟨rfl, hsz, hoz⟩; have HSZ := Aside0.mk hsz; have HOZ := Aside0.mk (HOY.out.trans hoz); clear hsz hoz))
         first | go_end0 | refine bodyPost_ret (results_none rfl _ _ _) rfl ?_
         exact ⟨rfl, HOZ.out, HSZ.out⟩
end Go.Proofs.YtcaegaljhogbjaaGreatDoor.Rg

set_option linter.unusedVariables false
set_option linter.unusedSimpArgs false
namespace Go.Proofs.YtcaegaljhogbjaaGreatDoor.Rg
open Go.RowKit Go.Lib Go.Sort Go.Proofs.YtcaegaljhogbjaaGreatDoorW.PrintWords Go.Proofs.YtcaegaljhogbjaaGreatDoorW.PrintLast Go.Proofs.YtcaegaljhogbjaaGreatDoorW.PrintMore Go.Proofs.YtcaegaljhogbjaaGreatDoor.G Go.Proofs.YtcaegaljhogbjaaGreatDoor.Gd

set_option maxHeartbeats 8000000 in
theorem factor_calls {w1 : World} {N : Nat} {B k : Nat} (ih : Told w1 N B k) (L : List S118) (r : Option (List S118)) (wc : World) (n : Nat) (hn : n ≤ 999) (h : Sr w1 N B n false L wc) (hr : gd (k + 1) .factor L = some r) :
  Calls Tryz.prog 155 #[.pointer (some ⟨B, 0, none⟩)] wc (Endr w1 N wc B n r) := by
 unfold Gd.gd at hr
 have HS := Aside0.mk h
 have HO : Aside0 (Lib.OthersKept 118 (some B) wc wc) := ⟨Lib.OthersKept.refl _ _ _⟩
 obtain ⟨c3, f3⟩ := h.bad
 cases h12 : (sees 1 L || sees 2 L) with
 | true =>
  rw [if_pos h12] at hr
  obtain ⟨x, l, rfl⟩ : ∃ x l, L = x :: l := by
   cases L with
   | nil => cases h12
   | cons x l => exact ⟨x, l, rfl⟩
  cases hr
  obtain ⟨n', rfl⟩ := h.pos
  clear h
  show Calls _ _ _ _ (Endr w1 N wc B (n' + 1) (some l))
  cases h1 : sees 1 (x :: l) with
  | true =>
   clear h12
   go_enter Tryz.func155, Tryz.ntmps155
   go_upto_region 3 with ((go_at_call 88; (with_reducible refine (is_calls _ HS.out).mono ?_); rintro e wx ⟨rfl, hbx⟩; have n1_ := Aside0.mk (HS.out.below hbx); have n2_ := Aside0.mk (HO.out.trans (others_below hbx)); clear HS HO hbx; have HS := n1_; have HO := n2_; clear n1_ n2_; skip))
   obtain ⟨A, c, v, xs, L0, i, h1, h2, h3, h4, h5, h6, h7⟩ := HS.out
   have BNE := Aside0.mk (Kd.R_ne h4.out h1.out (by decide))
   have HX := Aside0.mk (Kd.R_drew h4.out)
   have HY := Aside0.mk (below_drew1 h7.out)
   have b1 := Aside0.mk (blk_drew h1.out)
   have hlen : xs.length ≤ 1000 := by have := h5.out; omega
   have hsz : w1.heap.size ≤ wx.drew.heap.size := below_size HY.out
   obtain ⟨ad, m, c', j, t0, t2, j0, jm, d0, d1⟩ := HS.out.drew.next
   have t1 : wx.drew.cell? ⟨B, 1, none⟩ = some v := blk_cell b1.out 1
   have q0 : wx.cell? ⟨B, 0, none⟩ = some (.slice (some ad) m c') := t0
   have q1 : wx.cell? ⟨B, 1, none⟩ = some v := t1
   have q2 : wx.cell? ⟨B, 2, none⟩ = some (.int .i64 j) := t2
   have q4 : wx.cell? (ad.add (j.toNat * 2)) = some (.int .i64 x.f0) := d0
   have q5 : wx.cell? ⟨(ad.add (j.toNat * 2)).block, (ad.add (j.toNat * 2)).off + 1, none⟩ = some (.int .i64 x.f1) := d1
   have q6 : (wx.alloc (.cells #[.int .i64 x.f0, .int .i64 x.f1] 118)).cell? ⟨B, 1, none⟩ = some v := blk_cell (blk_alloc h1.out _) 1
   go_region_law (first | ((refine Kd.R_append_step k118 (w0 := w1) (W := wx.drew) w1.heap.size rfl (.tmp 21) (.tmp 32) 71 118 (.agg #[(.int .i64 0), (.int .i64 0)]) 16 rfl Tryz.underlying71 info118 rfl (by decide) (by omega) v xs x [.int .i64 x.f0, .int .i64 x.f1] (fun _ => True) (fun _ => False) (by simp [Act.eval, Act.put]) (by simp [Act.eval, Act.put]) (k118_mkM _ _ _ x) (fun _ hk => hk.elim) (fun _ _ => trivial) HX.out HY.out hsz (by omega) ?_); intro v1 w3 ho hb hg hat; obtain ⟨A3, c4, rfl⟩ := Kd.R_slice ho; have HR3 : Aside0 (k118.R 118 w3 w1.heap.size (fun _ => True) (.slice A3 (xs.length + 1) c4) (xs ++ [x])) := ⟨by rw [List.length_append, List.length_singleton] at ho; exact ho⟩; have HB3 := Aside0.mk hb; have HG3 := Aside0.mk (Lib.OthersKept.grown (Lib.OthersKept.refl 118 (some B) wx.drew) hg (fun g hg1 => by obtain ⟨cells, hc⟩ := Kd.R_typed HX.out g hg1; exact ⟨cells, _, hc⟩)); have h13 := Aside0.mk (blk_grown b1.out hg BNE.out); have c13 : w3.cell? ⟨B, 1, none⟩ = some v := blk_cell h13.out 1; have f13 : w3.frozen? ⟨B, 1, none⟩ = false := blk_frozen h13.out 1) | go_simp)
   all_goals
    have h14 : (w3.setCell ⟨B, 1, none⟩ (.slice A3 (xs.length + 1) c4)).heap[B]? = some (.cells #[.slice A L0.length c, .slice A3 (xs.length + 1) c4, .int .i64 (i : Int), .bool false] 93 (0, 0)) := blk_put h13.out 1 _ rfl
    have HS4 : Sr w1 N B (n' + 1 + 1) false (x :: l) (w3.setCell ⟨B, 1, none⟩ (.slice A3 (xs.length + 1) c4)) := ⟨A, c, _, xs ++ [x], L0, i, ⟨h14⟩, h2, h3, ⟨Kd.R_set HR3.out h13.out k118_off 1 _⟩, ⟨by have := h5.out; rw [List.length_append, List.length_singleton]; omega⟩, h6, ⟨below_set HB3.out h6.out⟩⟩
    have HO5 : Lib.OthersKept 118 (some B) wc (w3.setCell ⟨B, 1, none⟩ (.slice A3 (xs.length + 1) c4)) := Lib.OthersKept.setCell ((HO.out.trans (others_below (below_drew1 (Below.refl _ _)))).trans HG3.out) ⟨B, 1, none⟩ rfl _
    obtain ⟨w4, hw4⟩ : ∃ w4, w3.setCell ⟨B, 1, none⟩ (.slice A3 (xs.length + 1) c4) = w4 := ⟨_, rfl⟩
    rw [hw4] at HS4 HO5 ⊢
    obtain ⟨i9, i1, c2, f2, wa, wb, hA, hOA⟩ := HS4.on
    have HA := Aside0.mk hA
    have HOA := Aside0.mk (HO5.trans hOA)
    clear hA hOA h14 hw4 HO5 HS4 c13 f13 h13 HR3 HB3 HG3 q0 q1 q2 q4 q5 q6 t0 t1 t2 d0 d1 HX HY b1 h1 h2 h3 h4 h5 h7
    go_wp2
    go_end0
    exact ⟨rfl, HOA.out, HA.out⟩
  | false =>
   have h2 : sees 2 (x :: l) = true := by rw [h1] at h12; exact h12
   clear h12
   go_enter Tryz.func155, Tryz.ntmps155
   go_upto_region 3 with ((go_at_call 88; (with_reducible refine (is_calls _ HS.out).mono ?_); rintro e wx ⟨rfl, hbx⟩; have n1_ := Aside0.mk (HS.out.below hbx); have n2_ := Aside0.mk (HO.out.trans (others_below hbx)); clear HS HO hbx; have HS := n1_; have HO := n2_; clear n1_ n2_; skip))
   obtain ⟨A, c, v, xs, L0, i, h1, h2, h3, h4, h5, h6, h7⟩ := HS.out
   have BNE := Aside0.mk (Kd.R_ne h4.out h1.out (by decide))
   have HX := Aside0.mk (Kd.R_drew h4.out)
   have HY := Aside0.mk (below_drew1 h7.out)
   have b1 := Aside0.mk (blk_drew h1.out)
   have hlen : xs.length ≤ 1000 := by have := h5.out; omega
   have hsz : w1.heap.size ≤ wx.drew.heap.size := below_size HY.out
   obtain ⟨ad, m, c', j, t0, t2, j0, jm, d0, d1⟩ := HS.out.drew.next
   have t1 : wx.drew.cell? ⟨B, 1, none⟩ = some v := blk_cell b1.out 1
   have q0 : wx.cell? ⟨B, 0, none⟩ = some (.slice (some ad) m c') := t0
   have q1 : wx.cell? ⟨B, 1, none⟩ = some v := t1
   have q2 : wx.cell? ⟨B, 2, none⟩ = some (.int .i64 j) := t2
   have q4 : wx.cell? (ad.add (j.toNat * 2)) = some (.int .i64 x.f0) := d0
   have q5 : wx.cell? ⟨(ad.add (j.toNat * 2)).block, (ad.add (j.toNat * 2)).off + 1, none⟩ = some (.int .i64 x.f1) := d1
   have q6 : (wx.alloc (.cells #[.int .i64 x.f0, .int .i64 x.f1] 118)).cell? ⟨B, 1, none⟩ = some v := blk_cell (blk_alloc h1.out _) 1
   go_region_law (first | ((refine Kd.R_append_step k118 (w0 := w1) (W := wx.drew) w1.heap.size rfl (.tmp 21) (.tmp 32) 71 118 (.agg #[(.int .i64 0), (.int .i64 0)]) 16 rfl Tryz.underlying71 info118 rfl (by decide) (by omega) v xs x [.int .i64 x.f0, .int .i64 x.f1] (fun _ => True) (fun _ => False) (by simp [Act.eval, Act.put]) (by simp [Act.eval, Act.put]) (k118_mkM _ _ _ x) (fun _ hk => hk.elim) (fun _ _ => trivial) HX.out HY.out hsz (by omega) ?_); intro v1 w3 ho hb hg hat; obtain ⟨A3, c4, rfl⟩ := Kd.R_slice ho; have HR3 : Aside0 (k118.R 118 w3 w1.heap.size (fun _ => True) (.slice A3 (xs.length + 1) c4) (xs ++ [x])) := ⟨by rw [List.length_append, List.length_singleton] at ho; exact ho⟩; have HB3 := Aside0.mk hb; have HG3 := Aside0.mk (Lib.OthersKept.grown (Lib.OthersKept.refl 118 (some B) wx.drew) hg (fun g hg1 => by obtain ⟨cells, hc⟩ := Kd.R_typed HX.out g hg1; exact ⟨cells, _, hc⟩)); have h13 := Aside0.mk (blk_grown b1.out hg BNE.out); have c13 : w3.cell? ⟨B, 1, none⟩ = some v := blk_cell h13.out 1; have f13 : w3.frozen? ⟨B, 1, none⟩ = false := blk_frozen h13.out 1) | go_simp)
   all_goals
    have h14 : (w3.setCell ⟨B, 1, none⟩ (.slice A3 (xs.length + 1) c4)).heap[B]? = some (.cells #[.slice A L0.length c, .slice A3 (xs.length + 1) c4, .int .i64 (i : Int), .bool false] 93 (0, 0)) := blk_put h13.out 1 _ rfl
    have HS4 : Sr w1 N B (n' + 1 + 1) false (x :: l) (w3.setCell ⟨B, 1, none⟩ (.slice A3 (xs.length + 1) c4)) := ⟨A, c, _, xs ++ [x], L0, i, ⟨h14⟩, h2, h3, ⟨Kd.R_set HR3.out h13.out k118_off 1 _⟩, ⟨by have := h5.out; rw [List.length_append, List.length_singleton]; omega⟩, h6, ⟨below_set HB3.out h6.out⟩⟩
    have HO5 : Lib.OthersKept 118 (some B) wc (w3.setCell ⟨B, 1, none⟩ (.slice A3 (xs.length + 1) c4)) := Lib.OthersKept.setCell ((HO.out.trans (others_below (below_drew1 (Below.refl _ _)))).trans HG3.out) ⟨B, 1, none⟩ rfl _
    obtain ⟨w4, hw4⟩ : ∃ w4, w3.setCell ⟨B, 1, none⟩ (.slice A3 (xs.length + 1) c4) = w4 := ⟨_, rfl⟩
    rw [hw4] at HS4 HO5 ⊢
    obtain ⟨i9, i1, c2, f2, wa, wb, hA, hOA⟩ := HS4.on
    have HA := Aside0.mk hA
    have HOA := Aside0.mk (HO5.trans hOA)
    clear hA hOA h14 hw4 HO5 HS4 c13 f13 h13 HR3 HB3 HG3 q0 q1 q2 q4 q5 q6 t0 t1 t2 d0 d1 HX HY b1 h1 h2 h3 h4 h5 h7
    go_wp2
    go_end0
    exact ⟨rfl, HOA.out, HA.out⟩
 | false =>
  rw [if_neg (by rw [h12]; exact Bool.false_ne_true)] at hr
  have h1 : sees 1 L = false := by cases h : sees 1 L with | false => rfl | true => rw [h] at h12; cases h12
  have h2 : sees 2 L = false := by cases h : sees 2 L with | false => rfl | true => rw [h, Bool.or_true] at h12; cases h12
  clear h12
  cases h4 : sees 4 L with
  | true =>
   rw [if_pos h4] at hr
   obtain ⟨x, l, rfl, hx, hps⟩ := pass_yes h4
   obtain ⟨n', rfl⟩ := h.pos
   have HI := Aside0.mk (fun w' hs => ih .factor l r w' n' (by omega) hs hr)
   clear h hr hx hps ih
   cases r with
   | none =>
    go_enter Tryz.func155, Tryz.ntmps155
    go_wp2_with (first | (go_at_call 88; (with_reducible refine (is_calls _ HS.out).mono ?_); rintro e wx ⟨rfl, hbx⟩; have n1_ := Aside0.mk (HS.out.below hbx); have n2_ := Aside0.mk (HO.out.trans (others_below hbx)); clear HS HO hbx; have HS := n1_; have HO := n2_; clear n1_ n2_; obtain ⟨i, i1, c2, f2, wa, wb, hA, hOA⟩ := HS.out.on; have HA := Aside0.mk hA; have HOA := Aside0.mk (HO.out.trans hOA); clear hA hOA) | (go_at_call 155; (refine (HI.out _ HA.out).mono ?_); rintro e wy ⟨rfl, hoy, hsy⟩; have HOY := Aside0.mk (HOA.out.trans hoy); obtain ⟨l2, hsy2⟩ := hsy; have HSY := Aside0.mk hsy2; clear hoy hsy2) | (go_at_call 89; (with_reducible refine (put_calls 19 (by omega) HSY.out).mono ?_); rintro e wz ⟨rfl, hsz, hoz⟩; have HSZ := Aside0.mk hsz; have HOZ := Aside0.mk (HOY.out.trans hoz); clear hsz hoz))
    first | go_end0 | refine bodyPost_ret (results_none rfl _ _ _) rfl ?_
    exact ⟨rfl, HOZ.out, ⟨_, HSZ.out⟩⟩
   | some l2 =>
    go_enter Tryz.func155, Tryz.ntmps155
    go_wp2_with (first | (go_at_call 88; (with_reducible refine (is_calls _ HS.out).mono ?_); rintro e wx ⟨rfl, hbx⟩; have n1_ := Aside0.mk (HS.out.below hbx); have n2_ := Aside0.mk (HO.out.trans (others_below hbx)); clear HS HO hbx; have HS := n1_; have HO := n2_; clear n1_ n2_; obtain ⟨i, i1, c2, f2, wa, wb, hA, hOA⟩ := HS.out.on; have HA := Aside0.mk hA; have HOA := Aside0.mk (HO.out.trans hOA); clear hA hOA) | (go_at_call 155; (refine (HI.out _ HA.out).mono ?_); rintro e wy ⟨rfl, hoy, hsy⟩; have HOY := Aside0.mk (HOA.out.trans hoy); have HSY := Aside0.mk hsy; clear hoy hsy) | (go_at_call 89; (with_reducible refine (put_calls 19 (by omega) HSY.out).mono ?_); rintro e wz ⟨rfl, hsz, hoz⟩; have HSZ := Aside0.mk hsz; have HOZ := Aside0.mk (HOY.out.trans hoz); clear hsz hoz))
    first | go_end0 | refine bodyPost_ret (results_none rfl _ _ _) rfl ?_
    exact ⟨rfl, HOZ.out, HSZ.out⟩
  | false =>
   rw [if_neg (by rw [h4]; exact Bool.false_ne_true)] at hr
   cases h17 : sees 17 L with
   | false =>
    rw [if_neg (by rw [h17]; exact Bool.false_ne_true)] at hr
    cases hr
    clear h ih
    go_enter Tryz.func155, Tryz.ntmps155
    go_wp2_with ((go_at_call 88; (with_reducible refine (is_calls _ HS.out).mono ?_); rintro e wx ⟨rfl, hbx⟩; have n1_ := Aside0.mk (HS.out.below hbx); have n2_ := Aside0.mk (HO.out.trans (others_below hbx)); clear HS HO hbx; have HS := n1_; have HO := n2_; clear n1_ n2_; obtain ⟨c3, f3⟩ := HS.out.bad; have hw := Aside0.mk HS.out.wrong))
    first | go_end0 | refine bodyPost_ret (results_none rfl _ _ _) rfl ?_
    exact ⟨rfl, HO.out.trans hw.out.2, ⟨_, hw.out.1⟩⟩
   | true =>
    rw [if_pos h17] at hr
    obtain ⟨x, l, rfl, hx, hps⟩ := pass_yes h17
    obtain ⟨n', rfl⟩ := h.pos
    clear h hx hps
    cases hg : gd k .sum l with
    | none => rw [show gd k .sum ((x :: l).drop 1) = none from hg] at hr; cases hr
    | some r1 =>
     rw [show gd k .sum ((x :: l).drop 1) = some r1 from hg] at hr
     have HI := Aside0.mk (fun w' hs => ih .sum l r1 w' n' (by omega) hs hg)
     clear hg ih
     cases r1 with
     | none =>
      cases hr
      go_enter Tryz.func155, Tryz.ntmps155
      go_wp2_with (first | (go_at_call 88; (with_reducible refine (is_calls _ HS.out).mono ?_); rintro e wx ⟨rfl, hbx⟩; have n1_ := Aside0.mk (HS.out.below hbx); have n2_ := Aside0.mk (HO.out.trans (others_below hbx)); clear HS HO hbx; have HS := n1_; have HO := n2_; clear n1_ n2_; obtain ⟨i, i1, c2, f2, wa, wb, hA, hOA⟩ := HS.out.on; have HA := Aside0.mk hA; have HOA := Aside0.mk (HO.out.trans hOA); clear hA hOA) | (go_at_call 134; (refine (HI.out _ HA.out).mono ?_); rintro e wy ⟨rfl, hoy, hsy⟩; have HOY := Aside0.mk (HOA.out.trans hoy); obtain ⟨l2, hsy2⟩ := hsy; have HSY := Aside0.mk hsy2; clear hoy hsy2) | (go_at_call 133; (with_reducible refine (need_calls 18 HSY.out).mono ?_); rintro e wz ⟨rfl, hoz, hsz⟩; have HSZ := Aside0.mk hsz; have HOZ := Aside0.mk (HOY.out.trans hoz); clear hsz hoz))
      first | go_end0 | refine bodyPost_ret (results_none rfl _ _ _) rfl ?_
      exact ⟨rfl, HOZ.out, by cases hq : pass 18 l2 with | none => exact ⟨_, by have := HSZ.out; rw [hq] at this; exact this.mono (Nat.le_succ _)⟩ | some q => exact ⟨q, by have := HSZ.out; rw [hq] at this; exact this.mono (Nat.le_succ _)⟩⟩
     | some l2 =>
      have hr2 : pass 18 l2 = r := by cases hr; rfl
      clear hr
      go_enter Tryz.func155, Tryz.ntmps155
      go_wp2_with (first | (go_at_call 88; (with_reducible refine (is_calls _ HS.out).mono ?_); rintro e wx ⟨rfl, hbx⟩; have n1_ := Aside0.mk (HS.out.below hbx); have n2_ := Aside0.mk (HO.out.trans (others_below hbx)); clear HS HO hbx; have HS := n1_; have HO := n2_; clear n1_ n2_; obtain ⟨i, i1, c2, f2, wa, wb, hA, hOA⟩ := HS.out.on; have HA := Aside0.mk hA; have HOA := Aside0.mk (HO.out.trans hOA); clear hA hOA) | (go_at_call 134; (refine (HI.out _ HA.out).mono ?_); rintro e wy ⟨rfl, hoy, hsy⟩; have HOY := Aside0.mk (HOA.out.trans hoy); have HSY := Aside0.mk hsy; clear hoy hsy) | (go_at_call 133; (with_reducible refine (need_calls 18 HSY.out).mono ?_); rintro e wz ⟨rfl, hoz, hsz⟩; have HSZ := Aside0.mk hsz; have HOZ := Aside0.mk (HOY.out.trans hoz); clear hsz hoz))
      first | go_end0 | refine bodyPost_ret (results_none rfl _ _ _) rfl ?_
      refine ⟨rfl, HOZ.out, ?_⟩
      have hz := HSZ.out
      rw [hr2] at hz
      cases r with
      | none => exact ⟨_, hz.mono (Nat.le_succ _)⟩
      | some q => exact hz.mono (Nat.le_succ _)
theorem told {w1 : World} {N : Nat} {B : Nat} : ∀ k, Told w1 N B k := by
 intro k
 induction k with
 | zero => intro nt L r wc n hn h hr; cases hr
 | succ k ih =>
  intro nt L r wc n hn h hr
  cases nt with
  | guard => exact guard_calls ih L r wc n hn h hr
  | some => exact some_calls ih L r wc n hn h hr
  | one => exact one_calls ih L r wc n hn h hr
  | sum => exact sum_calls ih L r wc n hn h hr
  | product => exact product_calls ih L r wc n hn h hr
  | factor => exact factor_calls ih L r wc n hn h hr
end Go.Proofs.YtcaegaljhogbjaaGreatDoor.Rg

set_option linter.unusedVariables false
set_option linter.unusedSimpArgs false
namespace Go.Proofs.YtcaegaljhogbjaaGreatDoor.Rg
open Go.RowKit Go.Lib Go.Sort Go.Proofs.YtcaegaljhogbjaaGreatDoorW.PrintWords Go.Proofs.YtcaegaljhogbjaaGreatDoorW.PrintLast Go.Proofs.YtcaegaljhogbjaaGreatDoorW.PrintMore Go.Proofs.YtcaegaljhogbjaaGreatDoor.G Go.Proofs.YtcaegaljhogbjaaGreatDoor.Gd

theorem Sr.full {w1 wc : World} {N : Nat} {B n : Nat} {bad : Bool} (h : Sr w1 N B n bad [] wc) : ∃ (A : Option Addr) (c : Nat), wc.cell? ⟨B, 0, none⟩ = some (.slice A N c) ∧ wc.cell? ⟨B, 2, none⟩ = some (.int .i64 (N : Int)) := by
  obtain ⟨A, c, v, xs, L0, i, h1, h2, h3, h4, h5, h6, h7⟩ := h
  obtain ⟨e1, e2, e3⟩ := h2.out
  have : L0.length ≤ i := by have := congrArg List.length e1; rw [List.length_drop, List.length_nil] at this; omega
  obtain rfl : i = L0.length := by omega
  rw [← e3.2]
  exact ⟨A, c, blk_cell h1.out 0, blk_cell h1.out 2⟩
theorem Sr.laid {w1 wc : World} {N : Nat} {B n : Nat} {bad : Bool} {L : List S118} (h : Sr w1 N B n bad L wc) : ∃ v : Value, wc.cell? ⟨B, 1, none⟩ = some v ∧ (∃ A m c, v = .slice A m c) := by
  obtain ⟨A, c, v, xs, L0, i, h1, h2, h3, h4, h5, h6, h7⟩ := h
  obtain ⟨A', c', e⟩ := Kd.R_slice h4.out
  exact ⟨v, blk_cell h1.out 1, A', _, c', e⟩
theorem Sr.old {w1 wc : World} {N : Nat} {B n : Nat} {bad : Bool} {L : List S118} (h : Sr w1 N B n bad L wc) : Below w1.heap.size w1 wc := by
  obtain ⟨A, c, v, xs, L0, i, h1, h2, h3, h4, h5, h6, h7⟩ := h
  exact h7.out
theorem Sr.short {w1 wc : World} {N : Nat} {B n : Nat} {bad : Bool} {x : S118} {l : List S118} (h : Sr w1 N B n bad (x :: l) wc) : ∃ i : Int, wc.cell? ⟨B, 2, none⟩ = some (.int .i64 i) ∧ i < (N : Int) := by
  obtain ⟨A, c, v, xs, L0, i, h1, h2, h3, h4, h5, h6, h7⟩ := h
  obtain ⟨e1, e2, e3⟩ := h2.out
  have : i < L0.length := by have := congrArg List.length e1; rw [List.length_drop, List.length_cons] at this; omega
  exact ⟨i, blk_cell h1.out 2, by rw [← e3.2]; omega⟩
/-- What reading signs comes to: no error, or the text's. -/
def outR (r : Option (List S118)) : Int := match r with | some [] => 0 | _ => 2
def zbv.f (k : Nat) (a0 : ByteArray) : Option Int :=
  (zad.f k a0).bind fun t => if t.2 = 0 then (if t.1.length ≤ 900 then (gd k .guard t.1).bind fun r => some (outR r) else none) else some t.2
set_option maxHeartbeats 8000000 in
theorem zbv.calls (k : Nat) (a0 : ByteArray) (r : Int) (w : World) (h : zbv.f k a0 = some r) :
    Calls Tryz.prog 50 #[.string a0] w fun e w' => ∃ v0 : Value, e = .returned (.tuple #[v0, .int .i64 r]) ∧ Below w.heap.size w w' := by
  obtain ⟨⟨xs, er⟩, hl, h2⟩ := Option.bind_eq_some_iff.mp h
  clear h
  dsimp only at h2
  have HCL := Aside0.mk (zad.calls k a0 xs er w hl)
  clear hl
  by_cases he : er = 0
  · subst he
    rw [if_pos rfl] at h2
    split at h2
    case isFalse => cases h2
    rename_i hlen
    obtain ⟨g, hg, h3⟩ := Option.bind_eq_some_iff.mp h2
    have hr : outR g = r := Option.some.inj h3
    have HG := Aside0.mk hg
    have HLEN := Aside0.mk hlen
    have HRR := Aside0.mk hr
    clear h2 h3 hg hlen hr
    cases g with
    | none =>
      go_enter Tryz.func50, Tryz.ntmps50
      go_wp2_with (first | (go_at_call 64; (with_reducible refine HCL.out.mono ?_); rintro e w2 ⟨v0, rfl, hr0, hb⟩; obtain ⟨A, c, rfl, hcc, hC⟩ := Kd.R_reads hr0; have HB := Aside0.mk hb; have HI := Aside0.mk (told (N := xs.length) (B := w2.heap.size) k .guard xs _ (w2.alloc (.cells #[.slice A xs.length c, .slice none 0 0, .int .i64 0, .bool false] 93)) 900 (by omega) ⟨A, c, .slice none 0 0, [], xs, 0, ⟨blk_new w2 _⟩, ⟨rfl, Nat.zero_le _, by have := HLEN.out; omega, rfl⟩, ⟨hC⟩, ⟨Kd.R_nil _ _ _ _ _⟩, ⟨by simpa using HLEN.out⟩, ⟨Nat.le_refl _⟩, ⟨(Below.refl _ _).alloc (Nat.le_refl _) _⟩⟩ HG.out); clear hr0 hcc hC hb) | (go_at_call 65; (refine HI.out.mono ?_); rintro e w5 ⟨rfl, ho5, hs5⟩; obtain ⟨l5, hs5⟩ := hs5; have HS5 := Aside0.mk hs5; obtain ⟨c3, f3⟩ := hs5.bad; clear hs5 ho5))
      go_ret2
      exact ⟨_, by rw [← HRR.out]; rfl, below_step HB.out HS5.out.old⟩
    | some l =>
      cases l with
      | nil =>
        go_enter Tryz.func50, Tryz.ntmps50
        go_wp2_with (first | (go_at_call 64; (with_reducible refine HCL.out.mono ?_); rintro e w2 ⟨v0, rfl, hr0, hb⟩; obtain ⟨A, c, rfl, hcc, hC⟩ := Kd.R_reads hr0; have HB := Aside0.mk hb; have HI := Aside0.mk (told (N := xs.length) (B := w2.heap.size) k .guard xs _ (w2.alloc (.cells #[.slice A xs.length c, .slice none 0 0, .int .i64 0, .bool false] 93)) 900 (by omega) ⟨A, c, .slice none 0 0, [], xs, 0, ⟨blk_new w2 _⟩, ⟨rfl, Nat.zero_le _, by have := HLEN.out; omega, rfl⟩, ⟨hC⟩, ⟨Kd.R_nil _ _ _ _ _⟩, ⟨by simpa using HLEN.out⟩, ⟨Nat.le_refl _⟩, ⟨(Below.refl _ _).alloc (Nat.le_refl _) _⟩⟩ HG.out); clear hr0 hcc hC hb) | (go_at_call 65; (refine HI.out.mono ?_); rintro e w5 ⟨rfl, ho5, hs5⟩; have HS5 := Aside0.mk hs5; obtain ⟨c3, f3⟩ := HS5.out.bad; obtain ⟨A5, c5, e0, e2⟩ := HS5.out.full; obtain ⟨v5, e1, A6, m6, c6, rfl⟩ := HS5.out.laid; clear hs5 ho5))
        go_ret2
        exact ⟨_, by rw [← HRR.out]; rfl, below_step HB.out HS5.out.old⟩
      | cons x l =>
        go_enter Tryz.func50, Tryz.ntmps50
        go_wp2_with (first | (go_at_call 64; (with_reducible refine HCL.out.mono ?_); rintro e w2 ⟨v0, rfl, hr0, hb⟩; obtain ⟨A, c, rfl, hcc, hC⟩ := Kd.R_reads hr0; have HB := Aside0.mk hb; have HI := Aside0.mk (told (N := xs.length) (B := w2.heap.size) k .guard xs _ (w2.alloc (.cells #[.slice A xs.length c, .slice none 0 0, .int .i64 0, .bool false] 93)) 900 (by omega) ⟨A, c, .slice none 0 0, [], xs, 0, ⟨blk_new w2 _⟩, ⟨rfl, Nat.zero_le _, by have := HLEN.out; omega, rfl⟩, ⟨hC⟩, ⟨Kd.R_nil _ _ _ _ _⟩, ⟨by simpa using HLEN.out⟩, ⟨Nat.le_refl _⟩, ⟨(Below.refl _ _).alloc (Nat.le_refl _) _⟩⟩ HG.out); clear hr0 hcc hC hb) | (go_at_call 65; (refine HI.out.mono ?_); rintro e w5 ⟨rfl, ho5, hs5⟩; have HS5 := Aside0.mk hs5; obtain ⟨c3, f3⟩ := HS5.out.bad; obtain ⟨j5, e2, jm⟩ := HS5.out.short; have hne5 : (j5 == (xs.length : Int)) = false := beq_eq_false_iff_ne.mpr (Int.ne_of_lt jm); clear hs5 ho5))
        go_ret2
        exact ⟨_, by rw [← HRR.out]; rfl, below_step HB.out HS5.out.old⟩
  · rw [if_neg he] at h2
    cases h2
    have hne : (r == 0) = false := beq_eq_false_iff_ne.mpr he
    go_enter Tryz.func50, Tryz.ntmps50
    go_wp2_with (go_at_call 64; (with_reducible refine HCL.out.mono ?_); rintro e w2 ⟨v0, rfl, hr0, hb⟩; have HB := Aside0.mk hb; clear hr0 hb)
    go_ret2
    exact ⟨_, rfl, HB.out⟩
end Go.Proofs.YtcaegaljhogbjaaGreatDoor.Rg
