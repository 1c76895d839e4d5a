/- The guard's reader, walked by hand: its methods read as the plain words say, or give up with a panic. -/
import Derived.Test.YtcaegaljhogbjaaGreatDoorGx0
import Derived.Test.YtcaegaljhogbjaaGreatDoorShelf
import Derived.Lib.SmallJoins
import Derived.Lib.OthersKept
import Derived.Shelf.Abstract
import Derived.LoopTactic
import Derived.WalkLawsBesides
import Derived.WalkKit
namespace Go.Proofs.YtcaegaljhogbjaaGreatDoor.Gd
open Go.Proofs.YtcaegaljhogbjaaGreatDoor.G

/-- What is read: a guard, one of its Anys, one of its Boths, a sum, a product, one of its factors. -/
inductive NT where
  | guard | some | one | sum | product | factor
/-- none: not told with so few rounds; some none: wrong; some (some l): read, l is left. -/
abbrev R := Option (Option (List S118))
/-- Behind the first: sign and thing, as long as there is such a sign. -/
def rows (th : List S118 → R) (ks : List Int) : Nat → List S118 → R
  | 0, _ => none
  | _ + 1, [] => some (some [])
  | k + 1, c :: l => if ks.contains c.f0 = true then (match th l with | none => none | some none => some none | some (some r) => rows th ks k r) else some (some (c :: l))
def row (th : List S118 → R) (ks : List Int) (k : Nat) (l : List S118) : R :=
  match th l with | none => none | some none => some none | some (some r) => rows th ks k r
/-- A sign of that kind is next, and passed. -/
def pass (kd : Int) : List S118 → Option (List S118)
  | [] => none
  | c :: l => if c.f0 = kd then some l else none
/-- Is a sign of that kind next? -/
def sees (kd : Int) : List S118 → Bool
  | [] => false
  | c :: _ => c.f0 == kd
def compares (kd : Int) : Bool := decide (6 ≤ kd) && decide (kd ≤ 11)
def gd : Nat → NT → List S118 → R
  | 0, _, _ => none
  | k + 1, .guard, l => row (gd k .some) [13] k l
  | k + 1, .some, l => row (gd k .one) [12] k l
  | k + 1, .sum, l => row (gd k .product) [3, 4] k l
  | k + 1, .product, l => row (gd k .factor) [5] k l
  | k + 1, .one, l =>
    if sees 14 l = true then gd k .one (l.drop 1)
    else if sees 15 l = true then (match gd k .guard (l.drop 1) with | none => none | some none => some none | some (some r) => some (pass 16 r))
    else (match gd k .sum l with
      | none => none
      | some none => some none
      | some (some []) => some none
      | some (some (c :: r)) => if compares c.f0 = true then gd k .sum r else some none)
  | k + 1, .factor, l =>
    if (sees 1 l || sees 2 l) = true then some (some (l.drop 1))
    else if sees 4 l = true then gd k .factor (l.drop 1)
    else if sees 17 l = true then (match gd k .sum (l.drop 1) with | none => none | some none => some none | some (some r) => some (pass 18 r))
    else some none
end Go.Proofs.YtcaegaljhogbjaaGreatDoor.Gd

set_option linter.unusedVariables false
set_option linter.unusedSimpArgs false
namespace Go.Proofs.YtcaegaljhogbjaaGreatDoor.Gd
open Go.RowKit Go.Lib Go.Sort Go.Proofs.YtcaegaljhogbjaaGreatDoorW.PrintWords Go.Proofs.YtcaegaljhogbjaaGreatDoorW.PrintLast Go.Proofs.YtcaegaljhogbjaaGreatDoorW.PrintMore Go.Proofs.YtcaegaljhogbjaaGreatDoor.G

/-- The reader lies in block B: what is left to be read, what is laid so far; so many signs in all at most. -/
def St (w1 : World) (B n : Nat) (L : List S118) (wc : World) : Prop :=
 ∃ (A : Option Addr) (c : Nat) (v : Value) (xs : List S118), Aside0 (wc.heap[B]? = some (.cells #[.slice A L.length c, v] 87 (0, 0))) ∧ Aside0 (L.length ≤ c ∧ True) ∧ Aside0 (k118.C w1 A L.length L) ∧ Aside0 (k118.R 118 wc w1.heap.size (fun _ => True) v xs) ∧ Aside0 (xs.length + L.length ≤ n) ∧ Aside0 (w1.heap.size ≤ B) ∧ Aside0 (Below w1.heap.size w1 wc)
/-- What a reader gives up with lies in its variable. -/
def Wrong (w : World) : Prop := ∃ (T : TypeId) (p : Value), w.cell? ⟨0, 0, none⟩ = some (.iface T p)
theorem Wrong.below {w w' : World} (h : Wrong w) (hb : Below w.heap.size w w') : Wrong w' := by
 obtain ⟨T, p, h⟩ := h
 refine ⟨T, p, ?_⟩
 have hlt : 0 < w.heap.size := by
  unfold World.cell? at h
  cases hh : w.heap[0]? with
  | none => rw [hh] at h; cases h
  | some o => exact blk_lt hh
 exact (hb.cell (p := ⟨0, 0, none⟩) hlt).trans h
theorem St.below {w1 wc w' : World} {B n : Nat} {L : List S118} (h : St w1 B n L wc) (hb : Below wc.heap.size wc w') : St w1 B n L w' := by
 obtain ⟨A, c, v, xs, h1, h2, h3, h4, h5, h6, h7⟩ := h
 exact ⟨A, c, v, xs, ⟨blk_below h1.out hb⟩, h2, h3, ⟨Kd.R_below h4.out hb⟩, h5, h6, ⟨below_step h7.out hb⟩⟩

set_option maxHeartbeats 1000000 in
theorem sees_calls (kd : Int) {w1 wc : World} {B n : Nat} {L : List S118} (h : St w1 B n L wc) :
  Calls Tryz.prog 130 #[.pointer (some ⟨B, 0, none⟩), .int .i64 kd] wc fun e w' => e = .returned (.bool (sees kd L)) ∧ Below wc.heap.size wc w' := by
 obtain ⟨A, c, v, xs, h1, h2, h3, h4, h5, h6, h7⟩ := h
 have c0 : wc.cell? ⟨B, 0, none⟩ = some (.slice A L.length c) := blk_cell h1.out 0
 cases L with
 | nil =>
  go_enter Tryz.func130, Tryz.ntmps130
  go_wp2
  go_ret
  exact ⟨rfl, Below.refl _ _⟩
 | cons x l =>
  obtain ⟨ad, rfl, e0, e1⟩ := at_T118 (Kd.C_below h3.out h7.out) 0 (by omega) (by rw [List.length_cons]; omega)
  have hx : rd_T118 (x :: l) 0 = x := rfl
  rw [hx] at e0
  have e2 : wc.cell? ad = some (.int .i64 x.f0) := e0
  clear e0 e1
  obtain ⟨n, hn⟩ : ∃ n, (x :: l).length = n := ⟨_, rfl⟩
  have hn1 : 1 ≤ n := by rw [← hn, List.length_cons]; omega
  rw [hn] at c0
  have hl : decide ((0 : Int) < (n : Int)) = true := decide_eq_true (by omega)
  have hi : (0 : Int) < (n : Int) := by omega
  have hi' : 0 < n := hn1
  show Calls _ _ _ _ fun e w' => e = .returned (.bool (x.f0 == kd)) ∧ Below wc.heap.size wc w'
  clear hn
  go_enter Tryz.func130, Tryz.ntmps130
  go_wp2
  go_ret
  exact ⟨rfl, Below.refl _ _⟩
theorem others_below {e : TypeId} {b : Option Nat} {w w' : World} (hb : Below w.heap.size w w') : Lib.OthersKept e b w w' := fun k o h _ _ => blk_below h hb
/-- What a walk of the reader's methods ends with: read, or given up. -/
def Ends (w1 wc : World) (B n : Nat) (r : Option (List S118)) (e : Ending) (w' : World) : Prop :=
 match r with
 | some l => e = .returned (.tuple #[]) ∧ St w1 B n l w' ∧ Lib.OthersKept 118 (some B) wc w'
 | none => (∃ (T : TypeId) (p : Value), e = .panicked [{ v := .iface T p, recovered := false }]) ∧ Below w1.heap.size w1 w'
theorem pass_no {kd : Int} {L : List S118} (h : sees kd L = false) : pass kd L = none := by
 cases L with
 | nil => rfl
 | cons x l => exact if_neg (fun e => by rw [sees, e] at h; simp at h)
theorem pass_yes {kd : Int} {L : List S118} (h : sees kd L = true) : ∃ x l, L = x :: l ∧ x.f0 = kd ∧ pass kd L = some l := by
 cases L with
 | nil => cases h
 | cons x l => exact ⟨x, l, rfl, beq_iff_eq.mp h, if_pos (beq_iff_eq.mp h)⟩
theorem St.wrong {w1 wc : World} {B n : Nat} {L : List S118} (h : St w1 B n L wc) (hw : Wrong w1) : ∃ (T : TypeId) (p : Value), wc.cell? ⟨0, 0, none⟩ = some (.iface T p) := by
 obtain ⟨A, c, v, xs, h1, h2, h3, h4, h5, h6, h7⟩ := h
 exact hw.below h7.out
theorem St.old {w1 wc : World} {B n : Nat} {L : List S118} (h : St w1 B n L wc) : Below w1.heap.size w1 wc := by
 obtain ⟨A, c, v, xs, h1, h2, h3, h4, h5, h6, h7⟩ := h
 exact h7.out
theorem k118_far : ∀ q, q ∈ 118 :: k118.E → q ≠ 87 := by
 intro q hq
 have e : q = 118 := by simpa [show k118.E = [] from rfl] using hq
 subst e; decide
theorem St.drop {w1 w2 : World} {B n c : Nat} {A : Option Addr} {v : Value} {x : S118} {l : List S118} (h : St w1 B (n + 1) (x :: l) w2) (hb : w2.heap[B]? = some (.cells #[.slice A (x :: l).length c, v] 87 (0, 0))) :
  St w1 B n l (w2.setCell ⟨B, 0, none⟩ (.slice (if c = 1 then A else A.map (·.add (1 * 2))) l.length (c - 1))) := by
 obtain ⟨A', c', v', xs, h1, h2, h3, h4, h5, h6, h7⟩ := h
 have he := hb.symm.trans h1.out
 simp only [Option.some.injEq, Obj.cells.injEq, Array.mk.injEq, List.cons.injEq, Value.slice.injEq, true_and, and_true, and_self] at he
 obtain ⟨⟨rfl, rfl⟩, rfl⟩ := he
 have hl : (x :: l).length = l.length + 1 := rfl
 have h2' := h2.out
 have h5' := h5.out
 have hC := Kd.C_drop (c := c) (m := 1) h3.out (by omega) h2'.1
 refine ⟨_, c - 1, v, xs, ⟨blk_put hb 0 _ rfl⟩, ⟨by omega, trivial⟩, ⟨hC⟩, ⟨Kd.R_set h4.out hb k118_far 0 _⟩, ⟨by omega⟩, h6, ⟨below_set h7.out h6.out⟩⟩
set_option maxHeartbeats 1000000 in
theorem take_calls (kd : Int) {w1 wc : World} {B n : Nat} {L : List S118} (hw : Wrong w1) (h : St w1 B (n + 1) L wc) :
  Calls Tryz.prog 107 #[.pointer (some ⟨B, 0, none⟩), .int .i64 kd] wc (Ends w1 wc B n (pass kd L)) := by
 have hs := sees_calls kd h
 cases hb : sees kd L with
 | false =>
  rw [pass_no hb]
  rw [hb] at hs
  have HS := Aside0.mk hs
  have HH := Aside0.mk h
  clear hs h hb
  go_enter Tryz.func107, Tryz.ntmps107
  go_wp2_with (go_at_call 130; (with_reducible refine HS.out.mono ?_); rintro e w2 ⟨rfl, hb⟩; have HH2 := Aside0.mk (HH.out.below hb); obtain ⟨T, p, hp⟩ := HH2.out.wrong hw)
  exact ⟨rfl, ⟨T, p, rfl⟩, HH2.out.old⟩
 | true =>
  obtain ⟨x, l, rfl, hx, hps⟩ := pass_yes hb
  rw [hps]
  rw [hb] at hs
  have HS := Aside0.mk hs
  have HH := Aside0.mk h
  clear hs h hb hx hps
  go_enter Tryz.func107, Tryz.ntmps107
  go_wp2_with (go_at_call 130; (with_reducible refine HS.out.mono ?_); rintro e w2 ⟨rfl, hb⟩; have HH2 := Aside0.mk (HH.out.below hb); obtain ⟨A, c, v, xs, h1, h2, h3, h4, h5, h6, h7⟩ := HH2.out; have c0 : w2.cell? ⟨B, 0, none⟩ = some (.slice A (x :: l).length c) := blk_cell h1.out 0; have f0 : w2.frozen? ⟨B, 0, none⟩ = false := blk_frozen h1.out 0)
  all_goals go_end0
  case inl => subst h; exact ⟨rfl, St.drop HH2.out h1.out, Lib.OthersKept.setCell (others_below hb) ⟨B, 0, none⟩ rfl _⟩
  case inr =>
   have e := St.drop HH2.out h1.out
   rw [if_neg h] at e
   exact ⟨rfl, e, Lib.OthersKept.setCell (others_below hb) ⟨B, 0, none⟩ rfl _⟩
set_option maxHeartbeats 2000000 in
theorem put_calls (kd : Int) {w1 wc : World} {B n : Nat} {L : List S118} (hn : n ≤ 1000) (h : St w1 B n L wc) :
  Calls Tryz.prog 108 #[.pointer (some ⟨B, 0, none⟩), .int .i64 kd] wc fun e w' => e = .returned (.tuple #[]) ∧ St w1 B (n + 1) L w' ∧ Lib.OthersKept 118 (some B) wc w' := by
 obtain ⟨A, c, v, xs, h1, h2, h3, h4, h5, h6, h7⟩ := h
 have c1 : wc.cell? ⟨B, 1, none⟩ = some v := blk_cell h1.out 1
 have hlen : xs.length ≤ 1000 := by have := h5.out; omega
 have hBn := Aside0.mk (Kd.R_ne h4.out h1.out (by decide))
 go_enter Tryz.func108, Tryz.ntmps108
 go_wp2_with (first | ((with_reducible refine gate_builtin (b := .append) (xs := #[.tmp 8, .tmp 11]) rfl ?_); (try (refine gate_guard (by rfl) ?_; dsimp only)); at_builtin; refine Kd.R_append k118 (w0 := w1) w1.heap.size rfl (.tmp 8) (.tmp 11) 71 118 (.agg #[(.int .i64 0), (.int .i64 0)]) 16 rfl Tryz.underlying71 info118 rfl (by decide) (by omega) v xs (⟨kd, 0⟩ : S118) [.int .i64 kd, .int .i64 0] (fun _ => True) (fun _ => False) rfl rfl ?aP (fun _ hk => hk.elim) ?aF ?aO ?aB ?aS ?aL ?_; (case aP => exact k118_mkM _ _ _ (⟨kd, 0⟩ : S118)); (case aB => exact h7.out); (case aF => exact (fun _ _ => trivial)); (case aO => exact h4.out); (case aS => exact below_size h7.out); (case aL => omega); intro v1 w3 ho hb hg hat; obtain ⟨A3, c3, rfl⟩ := Kd.R_slice ho; have HB3 := Aside0.mk hb; have HG3 := Aside0.mk (Lib.OthersKept.grown (Lib.OthersKept.refl 118 (some B) wc) hg (fun g hg1 => by obtain ⟨cells, hc⟩ := Kd.R_typed h4.out g hg1; exact ⟨cells, _, hc⟩)); have HO3 := Aside0.mk ho; have h13 := Aside0.mk (blk_grown h1.out hg hBn.out); have c13 : w3.cell? ⟨B, 1, none⟩ = some v := blk_cell h13.out 1; have f13 : w3.frozen? ⟨B, 1, none⟩ = false := blk_frozen h13.out 1; clear hb ho hg hat))
 go_end0
 have h5' := h5.out
 have HO4 := HO3.out
 rw [List.length_append, List.length_singleton] at HO4
 exact ⟨rfl, ⟨A, c, _, xs ++ [⟨kd, 0⟩], ⟨blk_put h13.out 1 _ rfl⟩, h2, h3, ⟨Kd.R_set HO4 h13.out k118_far 1 _⟩, ⟨by rw [List.length_append, List.length_singleton]; omega⟩, h6, ⟨below_set HB3.out h6.out⟩⟩, Lib.OthersKept.setCell HG3.out ⟨B, 1, none⟩ rfl _⟩
/-- The kinds that stand between lie in block K. -/
def Kinds (K : Nat) (ks : List Int) (w : World) : Prop := w.heap[K]? = some (.cells (ks.map (fun z => Value.int .i64 z)).toArray 3 (0, 0))
theorem Kinds.kept {K B : Nat} {ks : List Int} {w w' : World} (h : Kinds K ks w) (hK : K ≠ B) (ho : Lib.OthersKept 118 (some B) w w') : Kinds K ks w' :=
 ho K _ h (by simpa using hK) (by intro c fz e; injection e with _ e2 _; exact absurd e2 (by decide))
theorem Kinds.below {K : Nat} {ks : List Int} {w w' : World} (h : Kinds K ks w) (hb : Below w.heap.size w w') : Kinds K ks w' := blk_below h hb
theorem kinds_cells {K : Nat} {ks : List Int} {w : World} (h : Kinds K ks w) : ∀ j, j < ks.length → w.cell? ⟨K, 0 + j, none⟩ = some (.int .i64 (ks.getD j 0)) := by
 intro j hj
 rw [Nat.zero_add]
 refine (blk_cell h j).trans ?_
 rw [List.getD_eq_getElem?_getD, List.getElem?_eq_getElem hj]
 simp [hj]
theorem kinds_ne {K B n : Nat} {ks : List Int} {L : List S118} {w1 w : World} (h : Kinds K ks w) (hs : St w1 B n L w) : K ≠ B := by
 obtain ⟨A, c, v, xs, h1, h2, h3, h4, h5, h6, h7⟩ := hs
 exact blk_ne h h1.out (by decide)
set_option maxHeartbeats 8000000 in
theorem row_calls (th : List S118 → R) (g : FuncId) (eg : ∀ args w, (callFunc g args).run Tryz.prog w = .ok (.enter g args) w) (ks : List Int) {w1 : World} {B : Nat} (hw : Wrong w1)
  (hth : ∀ (L : List S118) (r : Option (List S118)) (wc : World) (n : Nat), n ≤ 999 → St w1 B n L wc → th L = some r → Calls Tryz.prog g #[.pointer (some ⟨B, 0, none⟩)] wc (Ends w1 wc B n r))
  (k : Nat) (L : List S118) (r : Option (List S118)) (wc : World) (n K : Nat) (hn : n ≤ 999) (hks : ks.length ≤ 10) (h : St w1 B n L wc) (hK : Kinds K ks wc) (hr : row th ks k L = some r) :
  Calls Tryz.prog 83 #[.pointer (some ⟨B, 0, none⟩), .func (.func g) #[.pointer (some ⟨B, 0, none⟩)] #[], .slice (some ⟨K, 0, none⟩) ks.length ks.length] wc (Ends w1 wc B n r) := by
 have hKB := kinds_ne hK h
 unfold row at hr
 cases ht : th L with
 | none => rw [ht] at hr; cases hr
 | some r1 =>
  rw [ht] at hr
  have HC := Aside0.mk (hth L r1 wc n hn h ht)
  cases r1 with
  | none =>
   cases hr
   clear ht h
   go_enter Tryz.func83, Tryz.ntmps83
   go_wp2_with (go_at_fn g; (with_reducible refine HC.out.mono ?_); rintro e w2 ⟨⟨T, p, rfl⟩, hb2⟩)
   exact ⟨rfl, ⟨T, p, rfl⟩, hb2⟩
  | some l =>
   clear ht h
   have HR := Aside0.mk hr
   have HK := Aside0.mk hK
   clear hr hK
   go_enter Tryz.func83, Tryz.ntmps83
   go_wp2_with (go_at_fn g; (with_reducible refine HC.out.mono ?_); rintro e w2 ⟨rfl, hs2, ho2⟩; have HS2 := Aside0.mk hs2; have HO2 := Aside0.mk ho2; have HK2 := Aside0.mk (HK.out.kept hKB ho2); clear hs2 ho2)
   go_loopg [6] (k) (fun kq v6 wr => ∃ (L : List S118), Aside0 (rows th ks kq L = some r) ∧ Aside0 (St w1 B n L wr) ∧ Aside0 (Kinds K ks wr) ∧ Aside0 (Lib.OthersKept 118 (some B) wc wr))
   case atStart => exact ⟨l, HR, HS2, HK2, HO2⟩
   case round =>
    clear HC HR HK
    obtain ⟨L, HR, HS, HK, HO⟩ := hrel
    cases L with
    | nil =>
     obtain ⟨A, c, v, xs, h1, h2, h3, h4, h5, h6, h7⟩ := HS.out
     have c0 : wr.cell? ⟨B, 0, none⟩ = some (.slice A ([] : List S118).length c) := blk_cell h1.out 0
     obtain ⟨k', hk'⟩ : ∃ k', gk = k' + 1 := by
      cases gk with
      | zero => have := HR.out; cases this
      | succ m => exact ⟨m, rfl⟩
     have hr : r = some [] := by have := HR.out; rw [hk'] at this; cases this; rfl
     clear hk'
     go_wp2
     go_end0
     rw [hr]
     exact ⟨rfl, HS.out, HO.out⟩
    | cons x l =>
     obtain ⟨k', hk'⟩ : ∃ k', gk = k' + 1 := by
      cases gk with
      | zero => have := HR.out; cases this
      | succ m => exact ⟨m, rfl⟩
     have HKG := Aside0.mk hk'
     have HR2 := Aside0.mk (hk' ▸ HR.out)
     obtain ⟨A, c, v, xs, h1, h2, h3, h4, h5, h6, h7⟩ := HS.out
     obtain ⟨ad, rfl, e0, e1⟩ := at_T118 (Kd.C_below h3.out h7.out) 0 (by omega) (by rw [List.length_cons]; omega)
     have hx : rd_T118 (x :: l) 0 = x := rfl
     rw [hx] at e0
     have e2 : wr.cell? ad = some (.int .i64 x.f0) := e0
     have c0 : wr.cell? ⟨B, 0, none⟩ = some (.slice (some ad) (x :: l).length c) := blk_cell h1.out 0
     obtain ⟨m, hm⟩ : ∃ m, (x :: l).length = m := ⟨_, rfl⟩
     have hm1 : 1 ≤ m := by rw [← hm, List.length_cons]; omega
     obtain ⟨n', hn'⟩ : ∃ n', n = n' + 1 := ⟨n - 1, by have := h5.out; omega⟩
     rw [hm] at c0
     have hl : decide ((0 : Int) < (m : Int)) = true := decide_eq_true (by omega)
     have hi : (0 : Int) < (m : Int) := by omega
     have hi' : 0 < m := hm1
     have hcon := Tryz.slices_Contains_int K 0 ks.length ks.length ks x.f0 wr (Nat.le_refl _) (by omega) (kinds_cells HK.out)
     rw [List.take_length] at hcon
     clear hk' e0 e1 hx hm
     cases hc : ks.contains x.f0 with
     | false =>
      rw [hc] at hcon
      have hr : r = some (x :: l) := by
       have h := HR2.out
       unfold rows at h
       rw [if_neg (by rw [hc]; exact Bool.false_ne_true)] at h
       cases h; rfl
      have HN := Aside0.mk hcon
      clear hc hcon
      go_wp2_with (go_at_call 106; (with_reducible refine HN.out.mono ?_); rintro e w3 ⟨rfl, rfl⟩)
      go_end0
      rw [hr]
      exact ⟨rfl, HS.out, HO.out⟩
     | true =>
      rw [hc] at hcon
      have h := HR2.out
      unfold rows at h
      rw [if_pos hc] at h
      have HN := Aside0.mk hcon
      clear hc hcon HR2 HR
      subst hn'
      have HT := take_calls x.f0 hw HS.out
      rw [show pass x.f0 (x :: l) = some l from if_pos rfl] at HT
      have HTT := Aside0.mk HT
      clear HT
      cases ht : th l with
      | none => rw [ht] at h; cases h
      | some r1 =>
       rw [ht] at h
       have HTH := Aside0.mk (fun w' hs => hth l r1 w' n' (by omega) hs ht)
       cases r1 with
       | none =>
        cases h
        clear ht
        go_wp2_with (first | (go_at_call 106; (with_reducible refine HN.out.mono ?_); rintro e w3 ⟨rfl, rfl⟩) | (go_at_call 107; (with_reducible refine HTT.out.mono ?_); rintro e w4 ⟨rfl, hs4, ho4⟩; have HS4 := Aside0.mk hs4; clear hs4 ho4) | (go_at_fn g; (with_reducible refine (HTH.out w4 HS4.out).mono ?_); rintro e w5 ⟨⟨T, p, rfl⟩, hb5⟩))
        exact ⟨rfl, ⟨T, p, rfl⟩, hb5⟩
       | some l2 =>
        have H2 := Aside0.mk h
        clear ht h
        go_wp2_with (first | (go_at_call 106; (with_reducible refine HN.out.mono ?_); rintro e w3 ⟨rfl, rfl⟩) | (go_at_call 107; (with_reducible refine HTT.out.mono ?_); rintro e w4 ⟨rfl, hs4, ho4⟩; have HS4 := Aside0.mk hs4; have HO4 := Aside0.mk (HO.out.trans ho4); have HK4 := Aside0.mk (HK.out.kept hKB ho4); clear hs4 ho4) | (go_at_fn g; (with_reducible refine (HTH.out w4 HS4.out).mono ?_); rintro e w5 ⟨rfl, hs5, ho5⟩; have HS5 := Aside0.mk hs5; have HO5 := Aside0.mk (HO4.out.trans ho5); have HK5 := Aside0.mk (HK4.out.kept hKB ho5); clear hs5 ho5) | (go_at_call 108; (with_reducible refine (put_calls x.f0 (by omega) HS5.out).mono ?_); rintro e w6 ⟨rfl, hs6, ho6⟩; have HS6 := Aside0.mk hs6; have HO6 := Aside0.mk (HO5.out.trans ho6); have HK6 := Aside0.mk (HK5.out.kept hKB ho6); clear hs6 ho6))
        go_roundg (gk - 1)
        case measure => have := HKG.out; omega
        case rel =>
         have e : gk - 1 = k' := by have := HKG.out; omega
         rw [e]
         exact ⟨l2, H2, HS6, HK6, HO6⟩
end Go.Proofs.YtcaegaljhogbjaaGreatDoor.Gd
