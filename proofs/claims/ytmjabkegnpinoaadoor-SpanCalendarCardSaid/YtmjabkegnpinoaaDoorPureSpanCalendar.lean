/- SpanCalendar, in plain words: years and months are told as such; a small p, a nought ahead are wrong; weeks have their length or are too long. -/
import Derived.Test.YtmjabkegnpinoaaDoorQx4
import Derived.Test.YtmjabkegnpinoaaDoorPureSpan
import Derived.Test.YtmjabkegnpinoaaDoorSpanCutLaws
namespace Go.Proofs.YtmjabkegnpinoaaDoor.Pure
open Go.RowKit Go.Proofs.YtmjabkegnpinoaaDoorW.PrintWords Go.Proofs.YtmjabkegnpinoaaDoor.Ext Go.Proofs.YtmjabkegnpinoaaDoor.B Go.Proofs.YtmjabkegnpinoaaDoor.Q Go.Proofs.YtmjabkegnpinoaaDoor.Span
set_option linter.unusedVariables false

theorem cal_j (n : Nat) (hn : n < 4294967296) (r : List UInt8) (hr : r.length ≤ 100) (u : UInt8) (hu : u = 89 ∨ u = 77) :
    remontoirlaw02_SpanCalendar.j0 20 (n : Int) (S r) (S (Lib.decDigits n)) ⟨#[u]⟩ = some true := by
  have hd : (Lib.decDigits n).length ≤ 20 := digits_len n (by omega)
  have hd' := parse_calendar n (by omega) u hu r
  have hw := parse_week n (by omega)
  have hz := parse_nought n [87]
  have hb : parseL (112 :: (Lib.decDigits n ++ [87])) = (0, 2) := parse_begin_no _ _ (by decide)
  generalize Lib.decDigits n = d at *
  have su : (⟨#[u]⟩ : ByteArray) = S [u] := rfl
  have s80 : (⟨#[80]⟩ : ByteArray) = S [80] := rfl
  have s112 : (⟨#[112]⟩ : ByteArray) = S [112] := rfl
  have s8048 : (⟨#[80, 48]⟩ : ByteArray) = S [80, 48] := rfl
  have s87 : (⟨#[87]⟩ : ByteArray) = S [87] := rfl
  simp only [remontoirlaw02_SpanCalendar.j0]
  rw [su, s80, s112, s8048, s87]
  simp only [S_append, S_size]
  have l1 : ([80] ++ d).length = 1 + d.length := by rw [List.length_append]; rfl
  have l2 : ([80] ++ d ++ [u]).length = 2 + d.length := by rw [List.length_append, l1]; simp; omega
  have l3 : ([112] ++ d).length = 1 + d.length := by rw [List.length_append]; rfl
  have l4 : ([80, 48] ++ d).length = 2 + d.length := by rw [List.length_append]; rfl
  have e1 : [80] ++ d ++ [u] ++ r = 80 :: (d ++ u :: r) := by simp
  have e2 : [112] ++ d ++ [87] = 112 :: (d ++ [87]) := rfl
  have e3 : [80, 48] ++ d ++ [87] = 80 :: 48 :: (d ++ [87]) := rfl
  have e4 : [80] ++ d ++ [87] = 80 :: (d ++ [87]) := rfl
  have lu : ([u] : List UInt8).length = 1 := rfl
  have len1 : (80 :: (d ++ u :: r)).length ≤ 1000 := by simp only [List.length_cons, List.length_append]; omega
  have len2 : (112 :: (d ++ [87]) : List UInt8).length ≤ 1000 := by simp only [List.length_cons, List.length_append, List.length_nil]; omega
  have len3 : (80 :: 48 :: (d ++ [87]) : List UInt8).length ≤ 1000 := by simp only [List.length_cons, List.length_append, List.length_nil]; omega
  have len4 : (80 :: (d ++ [87]) : List UInt8).length ≤ 1000 := by simp only [List.length_cons, List.length_append, List.length_nil]; omega
  rw [l1, l2, l3, l4, e1, e2, e3, e4, lu, if_pos (by omega), if_pos (by omega), if_pos (by omega), parse_at _ (by omega), hd']
  simp only [Option.bind_some]
  rw [if_pos (by omega), parse_at _ (by omega), hb]
  simp only [Option.bind_some]
  rw [if_pos (by omega), if_pos (by omega), parse_at _ (by omega), hz]
  simp only [Option.bind_some]
  rw [if_pos (by omega), parse_at _ (by omega), hw, wakes_ok]
  simp only [Option.bind_some]
  have w1 : IntKind.u64.wrap (n : Int) = (n : Int) := by rw [IntKind.wrap_u64]; omega
  have w2 : IntKind.u64.wrap ((n : Int) * 604800) = ((n * 604800 : Nat) : Int) := by rw [IntKind.wrap_u64]; omega
  rw [if_pos (by decide), if_pos (by decide), if_pos (by decide), if_pos (by decide), w1, w2]
  by_cases h : n * 604800 ≤ 1125899906842624
  · rw [fin_of _ h, if_pos (by rfl), if_pos (by rfl)]
  · have hf : finN (n * 604800) = (0, 3) := if_pos (by omega)
    rw [hf, if_neg (by decide), if_pos (by decide), if_pos (by omega)]
theorem SpanCalendar : remontoirlaw02_SpanCalendar.Pure := by
  intro a0 a1 s hw hs
  have hb := wf_u32 hw
  obtain ⟨n, rfl⟩ := Int.eq_ofNat_of_zero_le hb.1
  obtain ⟨r, rfl⟩ : ∃ l, s = S l := ⟨_, (S_of s).symm⟩
  refine ⟨20, ?_⟩
  unfold remontoirlaw02_SpanCalendar.f
  by_cases h1 : (((S r).size : Nat) : Int) > 100
  · rw [if_pos h1, wakes_ok]; rfl
  · have w1 : IntKind.u64.wrap (n : Int) = (n : Int) := by rw [IntKind.wrap_u64]; omega
    rw [if_neg h1, w1, digits_f n (by omega)]
    simp only [Option.bind_some]
    rw [S_size] at h1
    cases a1 with
    | true => rw [if_pos rfl]; exact cal_j n (by omega) r (by omega) 89 (Or.inl rfl)
    | false => rw [if_neg (by decide)]; exact cal_j n (by omega) r (by omega) 77 (Or.inr rfl)
end Go.Proofs.YtmjabkegnpinoaaDoor.Pure
