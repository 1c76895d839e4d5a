/- def.kinds: the map from the words of nodes to their kinds. -/
import Derived.Test.YtpalncojmknlbaaDoorDefExt
import Derived.Maps.OwnOps
import Derived.Maps.RangeWalk
import Derived.WalkKit
import Derived.StringKeys
namespace Go.Proofs.YtpalncojmknlbaaDoor.Ext
open Go.RowKit Go.Lib Go.Sort Go.Maps Go.WideMaps
set_option linter.unusedVariables false

/-- A map's literal: an element more. -/
theorem wpList_insert_own {H : Type} {P : Program} (w : World) {ops : Array Oper} {rest : List Oper} {o : Oper} {a : Act} {Q : Exit → Act → World → Prop}
  (hg : o.guard = none) (m x v : Operand) (t : TypeId) (hop : o.op = Op.insert t m x v)
  (k e : TypeId) (K : Keyed P k) (ht : P.underlying t = some (.map k e)) (R : Value → Option (DataW H × List MemPlace)) (b n : Nat) (D : DataW H)
  (hm : a.eval m = .map (some b)) (hown : w.ownsMap P k R b n D) (hn : n < maxLen) (key val : Value) (kl : Lit) (hx : a.eval x = key) (hv : a.eval v = val) (hkey : keyOf P k key = some kl)
  (d : DataW H) (ps : List MemPlace) (hval : R val = some (d, ps))
  (hK : ∀ w', w'.ownsMap P k R b (n + 1) (D.put kl d) → w.grownBy w' (some b) → wpList P ops Q rest (a.put o.dst undef) w') :
  wpList P ops Q (o :: rest) a w := by
 refine wpList_plain hg fun K' hK' => ?_
 obtain ⟨w', hrun, r1, r2⟩ := hown.update K ht hn hkey hval
 unfold Oper.wp
 simp [execOp, hop, hm, hx, hv, hrun, Result.andThen]
 exact hK' _ _ (hK w' r1 r2)
theorem below_grownBy {w0 w w' : World} {b : Nat} (hb : Below w0.heap.size w0 w) (hg : w.grownBy w' (some b)) (h : w0.heap.size ≤ b) : Below w0.heap.size w0 w' :=
 ⟨hg.os.trans hb.os, hg.tape.trans hb.tape, hg.output.trans hb.output, Nat.le_trans hb.size hg.size, fun k hk => (hg.block k (Nat.lt_of_lt_of_le hk hb.size) (by intro e; cases e; omega)).trans (hb.block k hk)⟩

def wStart : List UInt8 := [115, 116, 97, 114, 116]
def wEnd : List UInt8 := [101, 110, 100]
def wTask : List UInt8 := [116, 97, 115, 107]
def wCatch : List UInt8 := [99, 97, 116, 99, 104]
def wXor : List UInt8 := [120, 111, 114]
def wAnd : List UInt8 := [97, 110, 100]
def wSub : List UInt8 := [115, 117, 98]
def wStop : List UInt8 := [115, 116, 111, 112]
def wSide : List UInt8 := [115, 105, 100, 101]
/-- A word's kind; 0: none. -/
def kindOf (l : List UInt8) : Int :=
 if l = wSide then 9 else if l = wStop then 8 else if l = wSub then 7 else if l = wAnd then 6 else if l = wXor then 5 else if l = wCatch then 4 else if l = wTask then 3 else if l = wEnd then 2 else if l = wStart then 1 else 0
abbrev num (n : Int) : DataW Unit := .lit (.int .i64 n)
def kindsD : DataW Unit :=
 (((((((((DataW.map []).put (.string wStart) (num 1)).put (.string wEnd) (num 2)).put (.string wTask) (num 3)).put (.string wCatch) (num 4)).put (.string wXor) (num 5)).put (.string wAnd) (num 6)).put (.string wSub) (num 7)).put (.string wStop) (num 8)).put (.string wSide) (num 9)
theorem isMap_put {D : DataW Unit} (h : IsMap D) (k : Lit) (d : DataW Unit) : IsMap (D.put k d) := by
 obtain ⟨es, rfl⟩ := h
 exact ⟨_, rfl⟩
theorem at_put (D : DataW Unit) (h : IsMap D) (x l : List UInt8) (d z : DataW Unit) : (D.put (.string x) d).atKey (.string l) z = if l = x then d else D.atKey (.string l) z := by
 split
 ·
  rename_i e; subst e; exact atKey_put_same h (by unfold WideAt.IsKeyLit; trivial) d z
 ·
  rename_i e; exact atKey_put_other (fun h' => e (by cases h'; rfl)) d z
theorem kinds_at (l : List UInt8) : kindsD.atKey (.string l) (num 0) = num (kindOf l) := by
 have m0 : IsMap (DataW.map [] : DataW Unit) := ⟨_, rfl⟩
 unfold kindsD kindOf
 repeat rw [at_put _ (by repeat (first | exact m0 | apply isMap_put))]
 repeat' split
 all_goals rfl
theorem zero_int (w : World) : (zeroValue 3).run Tryd.prog w = .ok (.int .i64 0) w := Tryd.zeroValue3 w
theorem kinds_look (w : World) (b : Nat) (h : w.ownsMap Tryd.prog 9 (plainElem Tryd.prog 3) b 9 kindsD) (x : ByteArray) (hx : x.size ≤ maxLen) :
  (Instr.lookup 64 (.map (some b)) (.string x) false).run Tryd.prog w = .ok (.int .i64 (kindOf x.data.toList)) w := by
 obtain ⟨c, hrun, hat, hwc⟩ := h.lookup_int (string_keyed Tryd.underlying9) Tryd.underlying64 Tryd.underlying3 (zero_int w) (keyOf_string_mk Tryd.underlying9 hx)
 have hk := kinds_at x.data.toList
 rw [show num 0 = (.lit (.int .i64 0) : DataW Unit) from rfl, hat] at hk
 have : c = kindOf x.data.toList := by simpa [num] using hk
 rw [hrun, this]
set_option maxHeartbeats 4000000 in
set_option maxRecDepth 100000 in
theorem kinds_calls (w : World) :
  Calls Tryd.prog 28 #[] w fun e w' => e = .returned (.map (some w.heap.size)) ∧ w'.ownsMap Tryd.prog 9 (plainElem Tryd.prog 3) w.heap.size 9 kindsD ∧ Below w.heap.size w w' := by
 have hmm := @run_makeMap Tryd.prog
 have K := string_keyed Tryd.underlying9
 have hown0 := World.ownsMap_made (H := Unit) w Tryd.prog 9 (plainElem Tryd.prog 3)
 have hb0 : Below w.heap.size w (w.alloc (.map #[] 0)) := (Below.refl _ _).alloc (Nat.le_refl _) _
 go_enter Tryd.func28, Tryd.ntmps28
 go_wp2_with (first
  | (refine wpList_insert_own _ rfl (.tmp 1) (.const (.string ⟨#[115, 116, 97, 114, 116]⟩)) (.const (.int .i64 1)) 64 rfl 9 3 K Tryd.underlying64 _ w.heap.size 0 _ rfl hown0 (by decide) _ _ (.string wStart) rfl rfl (keyOf_string_mk Tryd.underlying9 (by decide)) (num 1) [] (plainElem_int Tryd.underlying3 (by decide)) ?_; intro w1 hown1 hg1; have hb1 := below_grownBy hb0 hg1 (Nat.le_refl _))
  | (refine wpList_insert_own _ rfl (.tmp 1) (.const (.string ⟨#[101, 110, 100]⟩)) (.const (.int .i64 2)) 64 rfl 9 3 K Tryd.underlying64 _ w.heap.size 1 _ rfl hown1 (by decide) _ _ (.string wEnd) rfl rfl (keyOf_string_mk Tryd.underlying9 (by decide)) (num 2) [] (plainElem_int Tryd.underlying3 (by decide)) ?_; intro w2 hown2 hg2; have hb2 := below_grownBy hb1 hg2 (Nat.le_refl _))
  | (refine wpList_insert_own _ rfl (.tmp 1) (.const (.string ⟨#[116, 97, 115, 107]⟩)) (.const (.int .i64 3)) 64 rfl 9 3 K Tryd.underlying64 _ w.heap.size 2 _ rfl hown2 (by decide) _ _ (.string wTask) rfl rfl (keyOf_string_mk Tryd.underlying9 (by decide)) (num 3) [] (plainElem_int Tryd.underlying3 (by decide)) ?_; intro w3 hown3 hg3; have hb3 := below_grownBy hb2 hg3 (Nat.le_refl _))
  | (refine wpList_insert_own _ rfl (.tmp 1) (.const (.string ⟨#[99, 97, 116, 99, 104]⟩)) (.const (.int .i64 4)) 64 rfl 9 3 K Tryd.underlying64 _ w.heap.size 3 _ rfl hown3 (by decide) _ _ (.string wCatch) rfl rfl (keyOf_string_mk Tryd.underlying9 (by decide)) (num 4) [] (plainElem_int Tryd.underlying3 (by decide)) ?_; intro w4 hown4 hg4; have hb4 := below_grownBy hb3 hg4 (Nat.le_refl _))
  | (refine wpList_insert_own _ rfl (.tmp 1) (.const (.string ⟨#[120, 111, 114]⟩)) (.const (.int .i64 5)) 64 rfl 9 3 K Tryd.underlying64 _ w.heap.size 4 _ rfl hown4 (by decide) _ _ (.string wXor) rfl rfl (keyOf_string_mk Tryd.underlying9 (by decide)) (num 5) [] (plainElem_int Tryd.underlying3 (by decide)) ?_; intro w5 hown5 hg5; have hb5 := below_grownBy hb4 hg5 (Nat.le_refl _))
  | (refine wpList_insert_own _ rfl (.tmp 1) (.const (.string ⟨#[97, 110, 100]⟩)) (.const (.int .i64 6)) 64 rfl 9 3 K Tryd.underlying64 _ w.heap.size 5 _ rfl hown5 (by decide) _ _ (.string wAnd) rfl rfl (keyOf_string_mk Tryd.underlying9 (by decide)) (num 6) [] (plainElem_int Tryd.underlying3 (by decide)) ?_; intro w6 hown6 hg6; have hb6 := below_grownBy hb5 hg6 (Nat.le_refl _))
  | (refine wpList_insert_own _ rfl (.tmp 1) (.const (.string ⟨#[115, 117, 98]⟩)) (.const (.int .i64 7)) 64 rfl 9 3 K Tryd.underlying64 _ w.heap.size 6 _ rfl hown6 (by decide) _ _ (.string wSub) rfl rfl (keyOf_string_mk Tryd.underlying9 (by decide)) (num 7) [] (plainElem_int Tryd.underlying3 (by decide)) ?_; intro w7 hown7 hg7; have hb7 := below_grownBy hb6 hg7 (Nat.le_refl _))
  | (refine wpList_insert_own _ rfl (.tmp 1) (.const (.string ⟨#[115, 116, 111, 112]⟩)) (.const (.int .i64 8)) 64 rfl 9 3 K Tryd.underlying64 _ w.heap.size 7 _ rfl hown7 (by decide) _ _ (.string wStop) rfl rfl (keyOf_string_mk Tryd.underlying9 (by decide)) (num 8) [] (plainElem_int Tryd.underlying3 (by decide)) ?_; intro w8 hown8 hg8; have hb8 := below_grownBy hb7 hg8 (Nat.le_refl _))
  | (refine wpList_insert_own _ rfl (.tmp 1) (.const (.string ⟨#[115, 105, 100, 101]⟩)) (.const (.int .i64 9)) 64 rfl 9 3 K Tryd.underlying64 _ w.heap.size 8 _ rfl hown8 (by decide) _ _ (.string wSide) rfl rfl (keyOf_string_mk Tryd.underlying9 (by decide)) (num 9) [] (plainElem_int Tryd.underlying3 (by decide)) ?_; intro w9 hown9 hg9; have hb9 := below_grownBy hb8 hg9 (Nat.le_refl _)))
 go_ret
 exact ⟨rfl, hown9, hb9⟩
end Go.Proofs.YtpalncojmknlbaaDoor.Ext
