/- DefBack: what is printed is read back, and what can be read is printed unchanged. -/
import Derived.Test.YtpalncojmknlbaaDoorDefRowLaws
import Derived.Test.YtpalncojmknlbaaDoorYx16
namespace Go.Proofs.YtpalncojmknlbaaDoor.Pure
open Go.RowKit Go.Proofs.YtpalncojmknlbaaDoorW.PrintWords Go.Proofs.YtpalncojmknlbaaDoor.Ext Go.Proofs.YtpalncojmknlbaaDoor.A Go.Proofs.YtpalncojmknlbaaDoor.Y Go.Proofs.YtpalncojmknlbaaDoor.Span
set_option linter.unusedVariables false
set_option linter.unusedSimpArgs false

theorem defs_l1 (nm nm' : ByteArray) (ns ns' : List S40) (fs : List S42) (hn : fs.length ≤ 1000) : ∀ m i k : Nat, fs.length - i = m → i ≤ fs.length → m < k → remontoirkeep_Defs.l1 k (i : Int) nm ns fs nm' ns' fs = some true := by
  intro m
  induction m with
  | zero =>
    intro i k hm hi hk
    obtain ⟨k, rfl⟩ : ∃ j, k = j + 1 := ⟨k - 1, by omega⟩
    simp only [remontoirkeep_Defs.l1]
    rw [if_neg (by omega)]
  | succ m ih =>
    intro i k hm hi hk
    obtain ⟨k, rfl⟩ : ∃ j, k = j + 1 := ⟨k - 1, by omega⟩
    have h1 : i < fs.length := by omega
    simp only [remontoirkeep_Defs.l1]
    rw [if_pos (by omega), if_pos (by omega), if_pos (by omega), rd42 fs i h1, wrapS i (by omega), if_neg (fun h => (ne42 _ _).mp h rfl)]
    exact ih (i + 1) k (by omega) (by omega) (by omega)
theorem defs_l0 (nm nm' : ByteArray) (ns : List S40) (fs : List S42) (hn : ns.length ≤ 1000) (hf : fs.length ≤ 1000) : ∀ m i k : Nat, ns.length - i = m → i ≤ ns.length → m + 1001 < k → remontoirkeep_Defs.l0 k (i : Int) nm ns fs nm' ns fs = some true := by
  intro m
  induction m with
  | zero =>
    intro i k hm hi hk
    obtain ⟨k, rfl⟩ : ∃ j, k = j + 1 := ⟨k - 1, by omega⟩
    simp only [remontoirkeep_Defs.l0]
    rw [if_neg (by omega)]
    exact defs_l1 nm nm' ns ns fs hf fs.length 0 k rfl (Nat.zero_le _) (by omega)
  | succ m ih =>
    intro i k hm hi hk
    obtain ⟨k, rfl⟩ : ∃ j, k = j + 1 := ⟨k - 1, by omega⟩
    have h1 : i < ns.length := by omega
    simp only [remontoirkeep_Defs.l0]
    rw [if_pos (by omega), if_pos (by omega), if_pos (by omega), rd40 ns i h1, wrapS i (by omega), if_neg (fun h => (ne40 _ _).mp h rfl)]
    exact ih (i + 1) k (by omega) (by omega) (by omega)
theorem defs_same (nm : ByteArray) (ns : List S40) (fs : List S42) (hn : ns.length ≤ 1000) (hf : fs.length ≤ 1000) (k : Nat) (hk : 2010 < k) : remontoirkeep_Defs.f k nm ns fs nm ns fs = some true := by
  obtain ⟨k, rfl⟩ : ∃ j, k = j + 1 := ⟨k - 1, by omega⟩
  unfold remontoirkeep_Defs.f
  rw [if_pos rfl, if_pos rfl, bne_self_eq_false, remontoirkeep_Defs.j0, if_neg Bool.false_ne_true]
  exact defs_l0 nm nm ns fs hn hf ns.length 0 k rfl (Nat.zero_le _) (by omega)
theorem back_j1 (s : List UInt8) (k : Nat) (hk : 13010 ≤ k) : remontoirlaw17_DefBack.j1 k (S s) = some true := by
  obtain ⟨k, rfl⟩ : ∃ j, k = j + 1 := ⟨k - 1, by omega⟩
  rw [remontoirlaw17_DefBack.j1, parse_f s k (by omega), Option.bind_some, wakes_ok k (by omega)]
  cases hp : parseT s with
  | error e =>
    show (if ((e.2 : Int) = 0) then _ else _) = _
    have he := parseT_err hp
    rw [if_neg (by omega), Option.bind_some]
  | ok v =>
    obtain ⟨nm, st⟩ := v
    have ho := parseT_ok hp
    have hs := parseT_small hp
    have hnm : (S nm).size ≤ 1000000 := by
      rw [S_size]
      have h := ho.2.1
      unfold nameV at h
      rw [Bool.and_eq_true, Bool.and_eq_true, decide_eq_true_eq, decide_eq_true_eq] at h
      omega
    have ht : HasText (S nm) st.1 st.2 := ⟨ho.2.2.1, ho.2.2.2.1, by rw [← ho.1, hp, S_list]⟩
    have hpr := print_yes (S nm) st.1 st.2 hnm hs.1 hs.2 ht k (by omega)
    rw [← ho.1] at hpr
    show (if ((0 : Int) = 0) then ((def_Print.f k (S nm) st.1 st.2).bind fun b => if b.2 = true then (if b.1.toList = (S s).toList then (some true).bind (fun t => some t) else some false) else some false) else (some true).bind (fun t => some t)) = _
    rw [if_pos rfl, hpr, Option.bind_some, if_pos rfl, if_pos rfl]; rfl
theorem back (nm : ByteArray) (ns : List S40) (fs : List S42) (s : List UInt8) (hi : Ints ns fs) : remontoirlaw17_DefBack.f 20000 nm ns fs (S s) = some true := by
  unfold remontoirlaw17_DefBack.f
  have hj : ∀ b, remontoirlaw17_DefBack.j0 20000 (S s) b nm ns fs = _ := fun b => by rw [remontoirlaw17_DefBack.j0]
  obtain ⟨r, hr, hl⟩ := light_f nm ns fs 20000 (by omega)
  rw [hr, Option.bind_some]
  cases r with
  | false => rw [if_neg Bool.false_ne_true, hj, if_pos rfl, wakes_ok _ (by omega)]; rfl
  | true =>
    obtain ⟨l1, l2, l3, l4, l5⟩ := hl rfl
    obtain ⟨o1, o2⟩ := light_ok hi l4 l5
    rw [if_pos rfl, hj]
    by_cases hs : ((S s).size : Int) > 12000
    · rw [decide_eq_true hs, if_pos rfl, wakes_ok _ (by omega)]; rfl
    · rw [decide_eq_false hs, if_neg Bool.false_ne_true]
      by_cases ht : HasText nm ns fs
      · rw [print_yes nm ns fs (by omega) o1 o2 ht _ (by omega), Option.bind_some, if_pos rfl]
        dsimp only
        rw [parse_f _ _ (by omega), Option.bind_some]
        obtain ⟨l0, L, e1, e2, e3, e4, e5, e6, e7, e8, e9⟩ := text_lines ht
        rw [lines_f _ _ (by rw [← e2]; omega), e1, ht.2.2]
        show (if ((0 : Int) = 0) then (if ((0 : Int) = 0) then ((remontoirkeep_Defs.f 19999 (S nm.data.toList) ns fs nm ns fs).bind fun t => if t = true then (if (((0 : Nat) : Int) = 0) then (if ((((l0 :: L).map S).length : Int) = wrap64 (wrap64 (1 + (ns.length : Int)) + (fs.length : Int))) then remontoirlaw17_DefBack.j1 19999 (S s) else some false) else some false) else some false) else some false) else some false) = _
        rw [if_pos rfl, if_pos rfl, S_of, defs_same nm ns fs (by omega) (by omega) _ (by omega), Option.bind_some, if_pos rfl, if_pos (by omega), if_pos, back_j1 s _ (by omega)]
        rw [List.length_map, List.length_cons, e9]
        unfold wrap64; omega
      · rw [print_no nm ns fs (by omega) o1 o2 ht _ (by omega), Option.bind_some, if_neg Bool.false_ne_true]
        exact back_j1 s _ (by omega)
theorem back_walk (nm : ByteArray) (A1 : Option Addr) (c1 : Nat) (l1 : List S40) (A2 : Option Addr) (c2 : Nat) (l2 : List S42) (s : ByteArray) (w : World) (hTab : Tab w) (hr1 : Kd.C k40 w A1 l1.length l1) (hc1 : l1.length ≤ c1) (hr2 : Kd.C k42 w A2 l2.length l2) (hc2 : l2.length ≤ c2) (o1 : ∀ n ∈ l1, Row.okV n.f0 n.f1 n.f2 n.f3 n.f4) (o2 : ∀ n ∈ l2, Row.okV n.f0 n.f1 n.f2 n.f3 n.f4) (hs : s.size ≤ 140737488351232) :
    Calls Tryd.prog 4 #[.agg #[.string nm, .slice A1 l1.length c1, .slice A2 l2.length c2], .string s] w fun e w' => e = .returned (.bool true) ∧ Below w.heap.size w w' := by
  have h := back nm l1 l2 s.data.toList (ints_of o1 o2)
  rw [S_of] at h
  exact remontoirlaw17_DefBack.calls 20000 nm A1 c1 l1 A2 c2 l2 s true w hTab hr1 hc1 hr2 hc2 rfl h
end Go.Proofs.YtpalncojmknlbaaDoor.Pure
