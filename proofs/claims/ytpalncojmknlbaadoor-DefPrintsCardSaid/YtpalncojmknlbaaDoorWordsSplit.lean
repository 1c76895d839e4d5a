/- words.Split, walked by hand (a range over a string): its contract in the form that the kit's printer gives its own. -/
import Derived.Test.YtpalncojmknlbaaDoorWordsExt
import Derived.Lib.OthersKept
import Derived.Test.YtpalncojmknlbaaDoorWLast
import Derived.Test.YtpalncojmknlbaaDoorWTab
import Derived.LoopTactic
import Derived.WalkKit
namespace Go.Proofs.YtpalncojmknlbaaDoor.Ext
open Go.RowKit Go.Lib Go.Sort Go.Proofs.YtpalncojmknlbaaDoorW.PrintWords Go.Proofs.YtpalncojmknlbaaDoorW.PrintLast Go.Proofs.YtpalncojmknlbaaDoorW.PrintMore Go.Proofs.YtpalncojmknlbaaDoor.Span
attribute [local go_sem] max2_int min2_int max_two min_two max_three min_three max_four min_four   -- for this text's walks alone
set_option linter.unusedVariables false
set_option linter.unusedSimpArgs false

theorem info9 : (Tryd.prog.info? 9).map (fun i => (i.zero, i.size, i.bytes)) = some (some (.string ⟨#[]⟩), 1, 16) := by kernel_rfl
/-- A row's own block is no iterator. -/
theorem R_notIter {α : Type} {d : Kd α} {e base : Nat} {ok : Nat → Prop} {w : World} {v : Value} {xs : List α} {B : Nat} {s : ByteArray} {pos : Nat} (h : d.R e w base ok v xs) (hi : w.heap[B]? = some (.stringIter s pos)) : some B ≠ v.ownBlock := by
  obtain ⟨h0, inner, ho, hr⟩ := h
  intro he
  obtain ⟨cells, hc⟩ := own_typed ho B he.symm
  rw [hi] at hc
  cases hc
theorem R_iterAt {α : Type} {d : Kd α} {e base : Nat} {w : World} {v : Value} {xs : List α} {B : Nat} {s : ByteArray} {pos : Nat} (h : d.R e w base (fun _ => True) v xs) (hi : w.heap[B]? = some (.stringIter s pos)) (pos' : Nat) : d.R e (w.iterAt B s pos') base (fun _ => True) v xs :=
  Kd.R_mono (Kd.R_move (Kd.R_bound h) (fun k hk => Lib.iterAt_other w B k s pos' (by
    rintro rfl
    obtain ⟨_, _, _, q, _, cells, hc⟩ := hk
    rw [hi] at hc
    cases hc))) (fun _ _ => trivial)
theorem iter_grown {w w1 : World} {row : Option Nat} {B : Nat} {s : ByteArray} {pos : Nat} (hg : w.grownBy w1 row) (hi : w.heap[B]? = some (.stringIter s pos)) (hn : some B ≠ row) : w1.heap[B]? = some (.stringIter s pos) :=
  (hg.block B (Array.getElem?_eq_some_iff.1 hi).1 hn).trans hi
theorem iter_setCell {w : World} {g B : Nat} {s : ByteArray} {pos : Nat} (o : Nat) (u : Value) (hi : w.heap[B]? = some (.stringIter s pos)) (hn : B ≠ g) : (w.setCell ⟨g, o, none⟩ u).heap[B]? = some (.stringIter s pos) :=
  (Below.heap_setCell w ⟨g, o, none⟩ u B hn).trans hi
theorem drop_at (a0 : ByteArray) (pos : Nat) (hp : pos < a0.size) : a0.data.toList.drop pos = (a0[pos]'hp) :: a0.data.toList.drop (pos + 1) := by
  have hl : pos < a0.data.toList.length := by simpa using hp
  rw [List.drop_eq_getElem_cons hl]
  simp [ByteArray.getElem_eq_getElem_data]
theorem encode_one (c : UInt8) (h : c.toNat < 128) : Utf8.encode ((c.toNat : Nat) : Int) = ⟨#[c]⟩ := by
  have v : Utf8.valid ((c.toNat : Nat) : Int) = true := by simp [Utf8.valid]; omega
  have : (Utf8.encode ((c.toNat : Nat) : Int)).data.toList = [c] := by simp [Utf8.encode, v, h]
  apply ByteArray.ext
  rw [← Array.toArray_toList (xs := (Utf8.encode ((c.toNat : Nat) : Int)).data), this]

/-- The words of what is left of a line, behind those so far. -/
def splitGo : List UInt8 → List ByteArray → Option (List ByteArray)
  | [], acc => some acc
  | c :: l, acc =>
    if c = 32 then splitGo l (acc ++ [⟨#[]⟩])
    else if 33 ≤ c.toNat ∧ c.toNat ≤ 126 then splitGo l (acc.set (acc.length - 1) (rdOf ByteArray.empty acc ((acc.length - 1 : Nat) : Int) ++ ⟨#[c]⟩))
    else none
def splitEnd (acc : List ByteArray) : List ByteArray × Bool := if acc.all (fun x => !x.data.toList.isEmpty) then (acc, true) else ([], false)
def splitAll (l : List UInt8) : List ByteArray × Bool := match splitGo l [⟨#[]⟩] with
  | none => ([], false)
  | some acc => splitEnd acc
def words_Split.f (a0 : ByteArray) : Option (List ByteArray × Bool) := if a0.size ≤ 1000000 then some (splitAll a0.data.toList) else none

set_option maxHeartbeats 8000000 in
set_option maxRecDepth 100000 in
theorem words_Split.calls (a0 : ByteArray) (r1 : List ByteArray) (r2 : Bool) (w : World) (h : words_Split.f a0 = some (r1, r2)) :
    Calls Tryd.prog 54 #[.string a0] w fun e w' => ∃ v0_ : Value, e = .returned (.tuple #[v0_, .bool r2]) ∧ Kd.R Kd.string 9 w' w.heap.size (fun _ => True) v0_ r1 ∧ Below w.heap.size w w' := by
  unfold words_Split.f at h
  split at h
  case isFalse => cases h
  rename_i hc
  have H := Option.some.inj h
  clear h
  have HB := Aside0.mk (Below.refl w.heap.size w)
  obtain ⟨y107, hy107⟩ : ∃ y_ : List ByteArray, y_ = (([(⟨#[]⟩ : ByteArray)] : List ByteArray)) := ⟨_, rfl⟩
  have Ny107 := Aside0.mk hy107
  clear hy107
  have H' := Aside0.mk H
  clear H
  have hcs := Aside0.mk hc
  clear hc
  go_enter Tryd.func54, Tryd.ntmps54
  go_wp2_with (first | ((with_reducible refine gate_dst (N := 9) rfl ?_); refine Kd.R_lit Kd.string _ 9 ?hg (N := 9) ?hd (xs := ([(⟨#[]⟩ : ByteArray)] : List ByteArray)) (inner := [.string (⟨#[]⟩ : ByteArray)]) (ok := fun _ => True) (okp := fun _ => True) ?hr ?hp (fun _ hk => hk) trivial (Below.refl _ _) (Nat.le_refl _) (by simp) ?_; (case hd => rfl); (case hg => rfl); (case hr => first | (go_simp; done) | (go_simp; rfl)); (case hp => exact (Reps.one (show Kd.M Kd.string _ _ _ (⟨#[]⟩ : ByteArray) [.string (⟨#[]⟩ : ByteArray)] from rfl) (Reps.none _ _))); intro v108 w2 ho3 hb hg_ hnew_; clear hg_ hnew_; (first | rw [← Ny107.out] at ho3 | (simp only [Int.reduceToNat] at ho3; rw [← Ny107.out] at ho3)); have n0_ := Aside0.mk (Kd.R_lower ho3 (below_size (by repeat (first | (with_reducible first | exact HB.out | apply below_alloc | apply pw_below_drewN | apply below_drew1) | exact HB.out)))); have n1_ := Aside0.mk (below_step (by repeat (first | (with_reducible first | exact HB.out | apply below_alloc | apply pw_below_drewN | apply below_drew1) | exact HB.out)) hb); clear HB; have HO109 := n0_; have HB := n1_; clear n0_ n1_; clear hb ho3))
  have HW2 := Aside0.mk (show w.heap.size ≤ w2.heap.size from HB.out.size)
  go_loopg [4] (a0.size) (fun kq v4 w' => ∃ (x4 : List ByteArray) (pos : Nat), Aside0 (kq + pos = a0.size) ∧ Aside0 ((match splitGo (a0.data.toList.drop pos) x4 with | none => ([], false) | some acc => splitEnd acc) = (r1, r2)) ∧ Aside0 (1 ≤ x4.length ∧ x4.length ≤ pos + 1) ∧ Aside0 (∀ x ∈ x4, x.size ≤ pos) ∧ Aside0 (w'.heap[w2.heap.size]? = some (.stringIter a0 pos)) ∧ Aside0 (Kd.R Kd.string 9 w' w.heap.size (fun _ => True) v4 x4) ∧ Aside0 (Below w.heap.size w w'))
  case atStart =>
    refine ⟨y107, 0, ⟨rfl⟩, ⟨?_⟩, ⟨?_⟩, ⟨?_⟩, ⟨?_⟩, ⟨?_⟩, ⟨?_⟩⟩
    · rw [Ny107.out, List.drop_zero]; exact H'.out
    · rw [Ny107.out]; exact ⟨Nat.le_refl _, Nat.le_refl _⟩
    · rw [Ny107.out]; intro x hx; rw [List.mem_singleton.1 hx]; exact Nat.le_refl _
    · exact World.iter_heap w2 a0 0
    · exact Kd.R_alloc HO109.out (.stringIter a0 0)
    · exact below_alloc HB.out (.stringIter a0 0)
  case round =>
    clear H' Ny107 HO109 HB
    obtain ⟨x4, pos, HF, HA, HL, HS, HI, HO4, HB⟩ := hrel
    by_cases hp : pos < a0.size
    · have hcons := Aside0.mk (drop_at a0 pos hp)
      have HO5 := fun p => Aside0.mk (R_iterAt HO4.out HI.out p)
      have HI5 := fun p => Aside0.mk (Lib.iterAt_heap wr w2.heap.size a0 pos p HI.out)
      have HB5 := fun p => Aside0.mk (Lib.below_iterAt HB.out HW2.out a0 p)
      by_cases ha : (a0[pos]'hp).toNat < 128
      · have hnx : ∀ ty, (Instr.next (.pointer (some ⟨w2.heap.size, 0, none⟩)) true ty).run Tryd.prog wr = _ := fun ty => Lib.run_next_ascii_at wr w2.heap.size a0 pos ty HI.out hp ha
        replace HO5 := HO5 (pos + 1)
        replace HI5 := HI5 (pos + 1)
        replace HB5 := HB5 (pos + 1)
        obtain ⟨c, hc⟩ : ∃ c, a0[pos]'hp = c := ⟨_, rfl⟩
        rw [hc] at hnx hcons ha
        clear hc
        have hl9 := HL.out
        have hsz := hcs.out
        have hlen : x4.length < 8796093022208 := by omega
        have hFF := HF.out
        by_cases c32 : c = 32
        · have h32 : (((c.toNat : Nat) : Int) == 32) = true := by subst c32; rfl
          have HA2 := HA.out
          rw [hcons.out, splitGo, if_pos c32] at HA2
          have HA3 := Aside0.mk HA2
          clear HA2 HI HO4 HB
          go_wp2_with (first | ((with_reducible refine gate_builtin (b := .append) (xs := #[.tmp 18, .tmp 19]) rfl ?_); at_builtin; refine Kd.R_append Kd.string (w0 := w) w.heap.size rfl (.tmp 18) (.tmp 19) 34 9 (.string ⟨#[]⟩) 16 rfl Tryd.underlying34 info9 rfl (by decide) (by omega) u4 x4 (⟨#[]⟩ : ByteArray) [.string (⟨#[]⟩ : ByteArray)] (fun _ => True) (fun _ => False) rfl rfl ?aP (fun _ hk => hk.elim) ?aF ?aO ?aB ?aS ?aL ?_; (case aP => exact rfl); (case aB => exact (by repeat (first | (with_reducible first | exact HB5.out | apply below_alloc | apply pw_below_drewN | apply below_drew1) | exact HB5.out))); (case aF => exact (fun _ _ => trivial)); (case aO => exact (by (with_reducible repeat (first | apply Kd.R_alloc | apply Kd.R_drewN | apply Kd.R_drew)); exact HO5.out)); (case aS => exact (below_size (by repeat (first | (with_reducible first | exact HB5.out | apply below_alloc | apply pw_below_drewN | apply below_drew1) | exact HB5.out)))); (case aL => have := hlen; omega); intro v111 w9 ho hb hg hat; have n0_ := Aside0.mk (hb); have n1_ := Aside0.mk (ho); have n2_ := Aside0.mk (iter_grown hg HI5.out (R_notIter HO5.out HI5.out)); clear HB5; clear HO5; clear HI5; have HB5 := n0_; have HO5 := n1_; have HI5 := n2_; clear n0_ n1_ n2_; clear ho hb hg hat))
          go_roundg (gk - 1)
          case measure => omega
          case rel =>
            refine ⟨x4 ++ [⟨#[]⟩], pos + 1, ⟨by omega⟩, HA3, ⟨?_⟩, ⟨?_⟩, HI5, HO5, HB5⟩
            · rw [List.length_append, List.length_singleton]; omega
            · intro x hx
              rcases List.mem_append.1 hx with hx | hx
              · have := HS.out x hx; omega
              · rw [List.mem_singleton.1 hx]; exact Nat.zero_le _
        · have h32 : (((c.toNat : Nat) : Int) == 32) = false := beq_eq_false_iff_ne.mpr (fun e => c32 (UInt8.toNat_inj.mp (by have : c.toNat = 32 := by omega
                                                                                                                              exact this)))
          by_cases c33 : 33 ≤ c.toNat ∧ c.toNat ≤ 126
          · have h33 : decide (33 ≤ ((c.toNat : Nat) : Int)) = true := decide_eq_true (by omega)
            have h126 : decide (((c.toNat : Nat) : Int) ≤ 126) = true := decide_eq_true (by omega)
            obtain ⟨jn, hjn⟩ : ∃ jn, x4.length - 1 = jn := ⟨_, rfl⟩
            obtain ⟨ji, hjie⟩ : ∃ ji : Int, (jn : Int) = ji := ⟨_, rfl⟩
            have hjto : ji.toNat = jn := by rw [← hjie]; exact Int.toNat_natCast _
            have hjw : IntKind.i64.wrap ((x4.length : Int) - 1) = ji := (i64_w _).trans (by unfold wrap64; omega)
            have hji : wrap64 ((x4.length : Int) - 1) = ji := by unfold wrap64; omega
            obtain ⟨go17, co17, eo17, gb17, gl17, cl17, HG17⟩ := Kd.R_form HO5.out (by omega)
            subst eo17
            have hne17 : w2.heap.size ≠ go17 := by
              rintro e
              have h1 := HI5.out
              rw [← e] at HG17
              rw [HG17] at h1
              cases h1
            have p17 : 0 ≤ ji := by omega
            have q17 : ji < (x4.length : Int) := by omega
            obtain ⟨hx17', hf17⟩ := Kd.R_celln (⟨#[]⟩ : ByteArray) HO5.out ji p17 q17
            have hx17 : (wr.iterAt w2.heap.size a0 (pos + 1)).cell? ⟨go17, ji.toNat, none⟩ = some (.string (rdOf ByteArray.empty x4 ji)) := hx17'
            clear hx17'
            obtain ⟨old, hold⟩ : ∃ old : ByteArray, rdOf ByteArray.empty x4 ji = old := ⟨_, rfl⟩
            rw [hold] at hx17
            obtain ⟨nw, hnw⟩ : ∃ nw : ByteArray, old ++ ⟨#[c]⟩ = nw := ⟨_, rfl⟩
            have HP16 := Kd.R_putn HO5.out ji nw
            rw [hjto] at HP16 hx17 hf17
            have HP17 := Aside0.mk HP16
            clear HP16
            have HJ17 := Aside0.mk (iter_setCell (w := wr.iterAt w2.heap.size a0 (pos + 1)) jn (.string nw) HI5.out hne17)
            have henc := encode_one c ha
            have hsz17 : old.size ≤ pos := by
              rw [← hold]
              unfold rdOf
              rw [List.getD_eq_getElem?_getD, List.getElem?_eq_getElem (by omega)]
              exact HS.out _ (List.getElem_mem _)
            have hsz1 : (⟨#[c]⟩ : ByteArray).size = 1 := rfl
            have hadd : (9223372036854775807 < old.size + 1) = False := eq_false (by omega)
            have Hold := Aside0.mk hold
            have HS17 := Aside0.mk hsz17
            have Hjn := Aside0.mk (And.intro hjn hjie)
            have GB17 := Aside0.mk gb17
            clear hold hsz17 gb17 gl17 HG17 hne17
            go_wp2
            have HA2 := HA.out
            rw [hcons.out, splitGo, if_neg c32, if_pos c33, Hjn.out.1, Hjn.out.2, Hold.out, hnw] at HA2
            have HA3 := Aside0.mk HA2
            clear HA2 HI HO4 HB
            go_roundg (gk - 1)
            case measure => omega
            case rel =>
              refine ⟨x4.set jn nw, pos + 1, ⟨by omega⟩, HA3, ⟨?_⟩, ⟨?_⟩, HJ17, HP17, ⟨below_set HB5.out GB17.out⟩⟩
              · rw [List.length_set]; omega
              · intro x hx
                rcases List.mem_or_eq_of_mem_set hx with hx | hx
                · have := HS.out x hx; omega
                · rw [hx, ← hnw, ByteArray.size_append]
                  have := HS17.out
                  omega
          · have HA2 := HA.out
            rw [hcons.out, splitGo, if_neg c32, if_neg c33] at HA2
            cases HA2
            by_cases c34 : 33 ≤ c.toNat
            · have h33 : decide (33 ≤ ((c.toNat : Nat) : Int)) = true := decide_eq_true (by omega)
              have h126 : decide (((c.toNat : Nat) : Int) ≤ 126) = false := decide_eq_false (by omega)
              go_wp2
              go_ret2
              exact ⟨_, rfl, Kd.R_nil _ _ _ _ _, by repeat (first | (with_reducible first | exact HB5.out | apply below_alloc | apply pw_below_drewN | apply below_drew1) | exact HB5.out)⟩
            · have h33 : decide (33 ≤ ((c.toNat : Nat) : Int)) = false := decide_eq_false (by omega)
              go_wp2
              go_ret2
              exact ⟨_, rfl, Kd.R_nil _ _ _ _ _, by repeat (first | (with_reducible first | exact HB5.out | apply below_alloc | apply pw_below_drewN | apply below_drew1) | exact HB5.out)⟩
      · have hhi := decode_high a0 pos hp (by omega)
        have hnx : ∀ ty, (Instr.next (.pointer (some ⟨w2.heap.size, 0, none⟩)) true ty).run Tryd.prog wr = _ := fun ty => Lib.run_next_any_at wr w2.heap.size a0 pos ty HI.out hp
        generalize Utf8.decode a0 pos = rw_ at hhi hnx
        obtain ⟨rn, wd⟩ := rw_
        dsimp only at hhi hnx
        replace HB5 := HB5 (pos + wd)
        have hc0 : ¬ (a0[pos]'hp) = 32 := by intro e; rw [e] at ha; exact ha (by decide)
        have hc1 : ¬ (33 ≤ (a0[pos]'hp).toNat ∧ (a0[pos]'hp).toNat ≤ 126) := by omega
        have HA2 := HA.out
        rw [hcons.out, splitGo, if_neg hc0, if_neg hc1] at HA2
        cases HA2
        have h32 : (((rn : Nat) : Int) == 32) = false := beq_eq_false_iff_ne.mpr (by omega)
        have h33 : decide (33 ≤ ((rn : Nat) : Int)) = true := decide_eq_true (by omega)
        have h126 : decide (((rn : Nat) : Int) ≤ 126) = false := decide_eq_false (by omega)
        go_wp2
        go_ret2
        exact ⟨_, rfl, Kd.R_nil _ _ _ _ _, by repeat (first | (with_reducible first | exact HB5.out | apply below_alloc | apply pw_below_drewN | apply below_drew1) | exact HB5.out)⟩
    · have hnx : ∀ ty, (Instr.next (.pointer (some ⟨w2.heap.size, 0, none⟩)) true ty).run Tryd.prog wr = _ := fun ty => Lib.run_next_end_at wr w2.heap.size a0 pos ty HI.out hp
      have HA2 := HA.out
      rw [List.drop_eq_nil_of_le (by have := HF.out; simp; omega), splitGo] at HA2
      have HA3 := Aside0.mk (show splitEnd x4 = (r1, r2) from HA2)
      have hpos : pos ≤ a0.size := by have := HF.out; omega
      clear HA2 HA HI HF
      have hl9 := HL.out
      have hsz := hcs.out
      clear HL HS
      obtain ⟨go17, co17, eo17, gb17, gl17, cl17, HG17⟩ := Kd.R_form HO4.out (by omega)
      subst eo17
      clear gb17 gl17 HG17
      go_wp2
      go_loopg [40] (x4.length) (fun kq v40 w' => ∃ j : Nat, v40 = .int .i64 (j : Int) ∧ Aside0 (kq + j = x4.length) ∧ Aside0 ((x4.take j).all (fun x => !x.data.toList.isEmpty) = true) ∧ w' = wr)
      case atStart => exact ⟨0, rfl, ⟨rfl⟩, ⟨rfl⟩, rfl⟩
      case round =>
        obtain ⟨j, rfl, HK, HP, rfl⟩ := hrel
        have hK := HK.out
        by_cases hj : j < x4.length
        · have q17 : (j : Int) < (x4.length : Int) := by omega
          have q18 : decide ((j : Int) < (x4.length : Int)) = true := decide_eq_true q17
          obtain ⟨hx17', hf17⟩ := Kd.R_celln (⟨#[]⟩ : ByteArray) HO4.out (j : Int) (by omega) q17
          obtain ⟨x, hx⟩ : ∃ x : ByteArray, x4[j] = x := ⟨_, rfl⟩
          have hx17 : wr.cell? ⟨go17, j, none⟩ = some (.string x) := by
            rw [← hx]
            refine Eq.trans hx17' (congrArg some (congrArg Value.string ?_))
            unfold rdOf
            rw [Int.toNat_natCast, List.getD_eq_getElem?_getD, List.getElem?_eq_getElem hj]; rfl
          have hjw : wrap64 ((j : Int) + 1) = ((j + 1 : Nat) : Int) := by unfold wrap64; omega
          clear hx17' hf17
          have htk : x4.take (j + 1) = x4.take j ++ [x] := by rw [← hx, List.take_succ_eq_append_getElem hj]
          by_cases he : x.toList = ([] : List UInt8)
          · have he1 : (x.toList == ([] : List UInt8)) = true := beq_iff_eq.mpr he
            have e1 := HA3.out
            unfold splitEnd at e1
            have hall : ¬ (x4.all (fun x => !x.data.toList.isEmpty)) = true := by
              intro h
              have := List.all_eq_true.mp h x (by rw [← hx]; exact List.getElem_mem hj)
              rw [← Lib.toList_data, he] at this
              cases this
            rw [if_neg hall] at e1
            cases e1
            go_wp2
            go_ret2
            exact ⟨_, rfl, Kd.R_nil _ _ _ _ _, HB.out⟩
          · have he1 : (x.toList == ([] : List UInt8)) = false := beq_eq_false_iff_ne.mpr he
            go_wp2
            go_roundg (gk - 1)
            case measure => omega
            case rel =>
              refine ⟨j + 1, (by first | rfl | rw [hjw]), ⟨by omega⟩, ⟨?_⟩, rfl⟩
              rw [htk, List.all_append, HP.out, Bool.true_and, List.all_cons, List.all_nil, Bool.and_true, ← Lib.toList_data]
              cases hx' : x.toList with
              | nil => exact absurd hx' he
              | cons _ _ => rfl
        · have q18 : decide ((j : Int) < (x4.length : Int)) = false := decide_eq_false (by omega)
          have e1 := HA3.out
          unfold splitEnd at e1
          rw [← List.take_of_length_le (l := x4) (i := j) (by omega), HP.out, if_pos rfl, List.take_of_length_le (by omega)] at e1
          cases e1
          go_wp2
          go_ret2
          exact ⟨_, rfl, HO4.out, HB.out⟩
end Go.Proofs.YtpalncojmknlbaaDoor.Ext
