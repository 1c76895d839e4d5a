/- lex.Lex, walked by hand (it jumps back to a label): what it cuts a text into, or why it does not. -/
import Derived.Test.YtcaegaljhogbjaaGreatDoorLexWalk
import Derived.Test.YtcaegaljhogbjaaGreatDoorExtStr
import Derived.Lib.Bytes2
set_option linter.unusedVariables false
set_option linter.unusedSimpArgs false
namespace Go.Proofs.YtcaegaljhogbjaaGreatDoor.Lx
open Go.RowKit Go.Lib Go.Sort Go.Proofs.YtcaegaljhogbjaaGreatDoorW.PrintWords Go.Proofs.YtcaegaljhogbjaaGreatDoorW.PrintLast Go.Proofs.YtcaegaljhogbjaaGreatDoorW.PrintMore Go.Proofs.YtcaegaljhogbjaaGreatDoor.G Go.Proofs.YtcaegaljhogbjaaGreatDoor.Span Go.Proofs.YtcaegaljhogbjaaGreatDoor.Goto Go.Proofs.YtcaegaljhogbjaaGreatDoor.Ext

/-- A scope with two labels; the way from its beginning may come to the first one without a jump. -/
theorem wp_scope_two {P : Program} {a : Act} {w : World} {Q : Exit → Act → World → Prop} {c r0 r1 : Code} (J : Nat → Act → World → Prop) (μ : Nat → Act → World → Nat)
  (h0 : findLabel c 0 = some (.seq .skip r0)) (h1 : findLabel c 1 = some (.seq .skip r1)) (hl : ∀ l a w, J l a w → l < 2)
  (first : (∀ a w, J 0 a w → r0.wp P (jumps J Q) a w) → c.wp P (jumps J Q) a w)
  (p0 : ∀ a w, J 0 a w → r0.wp P (jumps (fun l' a' w' => J l' a' w' ∧ μ l' a' w' < μ 0 a w) Q) a w)
  (p1 : ∀ a w, J 1 a w → r1.wp P (jumps (fun l' a' w' => J l' a' w' ∧ μ l' a' w' < μ 1 a w) Q) a w) : (Code.scope c).wp P Q a w := by
 have all : ∀ l, l < 2 → l = 0 ∨ l = 1 := fun l h => by omega
 refine wp_scope_labels J μ ?_ (first ?_) ?_
 ·
  intro l a w hJ
  rcases all l (hl l a w hJ) with rfl | rfl
  ·
   exact ⟨_, h0⟩
  ·
   exact ⟨_, h1⟩
 ·
  intro a w hJ b k cs
  obtain ⟨e, a', w', hq, hr⟩ := p0 a w hJ b k cs
  refine ⟨e, a', w', ?_, hr⟩
  cases e with
  | goto l => exact hq.1
  | _ => exact hq
 ·
  intro l rest hf a w hJ
  rcases all l (hl l a w hJ) with rfl | rfl
  ·
   obtain rfl := Option.some.inj (hf.symm.trans h0); exact wp_seq (wp_skip (p0 a w hJ))
  ·
   obtain rfl := Option.some.inj (hf.symm.trans h1); exact wp_seq (wp_skip (p1 a w hJ))

def Fr (s out : Value) (a : Act) : Prop := ∃ u1 u2 u3 u5 u6 u7 u8 u9 u10 u11 u12 u13 u14 u15 u16 u17 u18 u19 u20 u21 u22 u23 u24 u25 u26 u27 u28 u29 u30 u31 u32 u33 u34 u35 u36 u37 u38 u39 u40 u41 u42 u43 u44 u45 u46 u47 u48 u49 u50 u51 u52 u53 u54 u55 u56 u57 u58 u59 u60 u61 u62 u63 u64 u65 u66 u67 u68 u69 u70 u71 u72 u73 u74 u75 u76 u77 u78 u79 u80 u81 u82 u83 u84 u85 u86 : Value, a = { tmps := #[s, u1, u2, u3, out, u5, u6, u7, u8, u9, u10, u11, u12, u13, u14, u15, u16, u17, u18, u19, u20, u21, u22, u23, u24, u25, u26, u27, u28, u29, u30, u31, u32, u33, u34, u35, u36, u37, u38, u39, u40, u41, u42, u43, u44, u45, u46, u47, u48, u49, u50, u51, u52, u53, u54, u55, u56, u57, u58, u59, u60, u61, u62, u63, u64, u65, u66, u67, u68, u69, u70, u71, u72, u73, u74, u75, u76, u77, u78, u79, u80, u81, u82, u83, u84, u85, u86], defers := [] }
/-- What holds at each label. -/
def J (res : List S118 × Int) (w : World) (lab : Nat) (a : Act) (w' : World) : Prop :=
 Aside0 (Below w.heap.size w w') ∧ ((lab = 0 ∧ ∃ (k : Nat) (l : List UInt8) (xs : List S118) (v : Value), Aside0 (lexL k l xs = some res) ∧ xs.length + l.length ≤ 60 ∧ Aside0 (k118.R 118 w' w.heap.size (fun _ => True) v xs) ∧ Fr (.string (S l)) v a) ∨ (lab = 1 ∧ ∃ (k : Nat) (c : UInt8) (r : List UInt8) (xs : List S118) (v : Value), Aside0 (numStep (lexL k) (c :: r) xs = some res) ∧ isD c = true ∧ xs.length + (c :: r).length ≤ 60 ∧ Aside0 (k118.R 118 w' w.heap.size (fun _ => True) v xs) ∧ Fr (.string (S (c :: r))) v a))
def μ (lab : Nat) (a : Act) : Nat := match a.tmps[0]? with
 | some (Value.string s) => 2 * s.size + (1 - lab)
 | _ => 0
theorem trim_le (l : List UInt8) : (trimB l).length ≤ l.length := (List.dropWhile_sublist _).length_le
theorem byte_at (c : UInt8) (r : List UInt8) (w : World) : (Instr.index 9 (.string (S (c :: r))) (.int .i64 0)).run Tryz.prog w = .ok (.int .u8 (c.toNat : Int)) w := by
 simp [Instr.index, run_underlying Tryz.underlying9, asIntOf, go_sem, S]
 simp [ByteArray.getElem_eq_getElem_data]
theorem nD_drop (l : List UInt8) : l.dropWhile (fun c => ([48, 49, 50, 51, 52, 53, 54, 55, 56, 57] : List UInt8).contains c) = l.drop (nD l) := by
 have key : ∀ n : Fin 256, ([48, 49, 50, 51, 52, 53, 54, 55, 56, 57] : List UInt8).contains (UInt8.ofNat n.val) = isD (UInt8.ofNat n.val) := by decide +kernel
 have hd : ∀ c : UInt8, ([48, 49, 50, 51, 52, 53, 54, 55, 56, 57] : List UInt8).contains c = isD c := fun c => by have h := key ⟨c.toNat, c.toNat_lt⟩; rwa [show UInt8.ofNat c.toNat = c from UInt8.ofNat_toNat] at h
 induction l with
 | nil => rfl
 | cons c l ih =>
  rw [List.dropWhile_cons, hd, nD]
  cases h : isD c with
  | true => simp only [if_true, List.drop_succ_cons]; exact ih
  | false => simp
theorem digits_trim (l : List UInt8) (w : World) : Calls Tryz.prog 80 #[.string (S l), .string ⟨#[48, 49, 50, 51, 52, 53, 54, 55, 56, 57]⟩] w fun e w' => e = .returned (.string (S (l.drop (nD l)))) ∧ Below w.heap.size w w' := by
 have h := Any.strings_TrimLeft_laid Tryz.lays161 (by kernel_rfl) (S l) ⟨#[48, 49, 50, 51, 52, 53, 54, 55, 56, 57]⟩ w (by decide) (ascii_of_all (by decide))
 rw [S_list] at h
 refine h.mono ?_
 rintro e w' ⟨rfl, hb⟩
 refine ⟨?_, hb⟩
 show Ending.returned (.string (S (l.dropWhile (fun c => ([48, 49, 50, 51, 52, 53, 54, 55, 56, 57] : List UInt8).contains c)))) = _
 rw [nD_drop]
theorem blank_trim (l : List UInt8) (w : World) : Calls Tryz.prog 80 #[.string (S l), .string ⟨#[32]⟩] w fun e w' => e = .returned (.string (S (trimB l))) ∧ w' = w := by
 have h := Tryz.strings_TrimLeft_one (S l) 32 (by decide) w
 rw [S_list] at h
 exact h
theorem digit_in (c : UInt8) (w : World) : Calls Tryz.prog 81 #[.int .i64 (c.toNat : Int), .int .i64 48, .int .i64 57] w fun e w' => e = .returned (.bool (isD c)) ∧ w' = w := by
 have e : isD c = (decide ((48 : Int) ≤ (c.toNat : Int)) && decide ((c.toNat : Int) ≤ 57)) := by
  unfold isD; congr 1 <;> (apply decide_eq_decide.mpr; omega)
 rw [e]; exact in_calls _ _ _ w
theorem letter_in (c : UInt8) (w : World) : Calls Tryz.prog 81 #[.int .i64 (c.toNat : Int), .int .i64 97, .int .i64 122] w fun e w' => e = .returned (.bool (isA c)) ∧ w' = w := by
 have e : isA c = (decide ((97 : Int) ≤ (c.toNat : Int)) && decide ((c.toNat : Int) ≤ 122)) := by
  unfold isA; congr 1 <;> (apply decide_eq_decide.mpr; omega)
 rw [e]; exact in_calls _ _ _ w
theorem lon_le (l : List UInt8) : ∀ (ts : List (List UInt8)) (k : Nat) (st : Nat × Nat), st.2 ≤ l.length → (lonGo l ts k st).2 ≤ l.length := by
 intro ts
 induction ts with
 | nil => intro k st h; exact h
 | cons t ts ih =>
  intro k st h
  rw [lonGo]
  apply ih
  split
  ·
   rename_i hc
   exact Lib.hasPrefix_le hc.2
  ·
   exact h
theorem longest_le (l : List UInt8) : (longestL l).2 ≤ l.length := lon_le l TX 0 (0, 0) (Nat.zero_le _)
theorem take_digits (l : List UInt8) : ∀ m, m ≤ nD l → ∀ c ∈ l.take m, isD c = true := by
 induction l with
 | nil => intro m _ c hc; simp at hc
 | cons d l ih =>
  intro m hm c hc
  cases m with
  | zero => simp at hc
  | succ m =>
   rw [nD] at hm
   split at hm
   ·
    rename_i hd
    rw [List.take_succ_cons] at hc
    rcases List.mem_cons.mp hc with rfl | hc
    ·
     exact hd
    ·
     exact ih m (by omega) c hc
   ·
    omega
theorem atoi_take (l : List UInt8) (m : Nat) (hm : m ≤ nD l) (h10 : m ≤ 10) (h1 : 1 ≤ m) : strconv_Atoi.f (S (l.take m)) = some (((val (l.take m) : Nat) : Int), none) := by
 have hl := nD_le l
 unfold strconv_Atoi.f
 rw [S_list, if_pos ⟨by rw [S_size, List.length_take]; omega, by intro e; have := congrArg List.length e; rw [List.length_take, List.length_nil] at this; omega, List.all_eq_true.mpr (take_digits l m hm)⟩]
theorem atoi_small (l : List UInt8) (m : Nat) (hm : m ≤ nD l) (h10 : m ≤ 10) : val (l.take m) < 1000000000000 := by
 have h := valA_lt (l.take m) 0 (take_digits l m hm)
 have h2 : (l.take m).length ≤ 10 := by rw [List.length_take]; omega
 have h3 : (10 : Nat) ^ (l.take m).length ≤ 10 ^ 10 := Nat.pow_le_pow_right (by omega) h2
 have h4 : (10 : Nat) ^ 10 = 10000000000 := by decide
 unfold val
 omega
def lex_Lex.f (a0 : ByteArray) : Option (List S118 × Int) := if a0.size > 60 then some ([], 15) else lexL (a0.size + 1) a0.data.toList []
set_option maxRecDepth 100000 in
set_option maxHeartbeats 8000000 in
theorem lex_Lex.calls (a0 : ByteArray) (r1 : List S118) (r2 : Int) (w : World) (h : lex_Lex.f a0 = some (r1, r2)) :
  Calls Tryz.prog 59 #[.string a0] w fun e w' => ∃ v0_ : Value, e = .returned (.tuple #[v0_, .int .i64 r2]) ∧ k118.R 118 w' w.heap.size (fun _ => True) v0_ r1 ∧ Below w.heap.size w w' := by
 unfold lex_Lex.f at h
 by_cases hbig : a0.size > 60
 ·
  rw [if_pos hbig] at h
  cases h
  have hd : decide ((60 : Int) < (a0.size : Int)) = true := decide_eq_true (by omega)
  go_enter Tryz.func59, Tryz.ntmps59
  go_wp2
  refine wp_scope_two (fun _ _ _ => False) (fun _ _ _ => 0) rfl rfl (fun _ _ _ h => h.elim) ?first (fun _ _ h => h.elim) (fun _ _ h => h.elim)
  case first =>
   intro _
   go_wp2
   simp only [jumps]
   go_ret2
   exact ⟨_, rfl, Kd.R_nil _ _ _ _ _, Below.refl _ _⟩
 ·
  rw [if_neg hbig] at h
  obtain ⟨l0, rfl⟩ : ∃ l, a0 = S l := ⟨_, (S_of a0).symm⟩
  rw [S_list, S_size] at h
  rw [S_size] at hbig
  have hd : decide ((60 : Int) < ((S l0).size : Int)) = false := decide_eq_false (by rw [S_size]; omega)
  have H0 := Aside0.mk h
  have HB0 := Aside0.mk hbig
  clear h hbig
  go_enter Tryz.func59, Tryz.ntmps59
  go_wp2
  refine wp_scope_two (J (r1, r2) w) (fun lab a _ => μ lab a) rfl rfl ?hl ?first ?p0 ?p1
  case hl => rintro lab a w' ⟨_, ⟨rfl, _⟩ | ⟨rfl, _⟩⟩ <;> omega
  case first =>
   intro hp0
   go_wp2
   go_step3
   rename_i K1 a1
   refine a1 _ _ ?_
   refine hp0 _ _ ⟨⟨Below.refl _ _⟩, Or.inl ⟨rfl, _, l0, [], .slice none 0 0, H0, ?_, ⟨Kd.R_nil _ _ _ _ _⟩, ?_⟩⟩
   ·
    have := HB0.out; simp only [List.length_nil]; omega
   ·
    exact ⟨_, _, _, _, _, _, _, _, _, _, _, _, _, _, _, _, _, _, _, _, _, _, _, _, _, _, _, _, _, _, _, _, _, _, _, _, _, _, _, _, _, _, _, _, _, _, _, _, _, _, _, _, _, _, _, _, _, _, _, _, _, _, _, _, _, _, _, _, _, _, _, _, _, _, _, _, _, _, _, _, _, _, _, _, _, rfl⟩
  case p0 =>
   rintro a w' ⟨HB, ⟨_, k, l, xs, v, HL, hxl, HR, hfr⟩ | ⟨h01, _⟩⟩
   case inr => omega
   obtain ⟨u1, u2, u3, u5, u6, u7, u8, u9, u10, u11, u12, u13, u14, u15, u16, u17, u18, u19, u20, u21, u22, u23, u24, u25, u26, u27, u28, u29, u30, u31, u32, u33, u34, u35, u36, u37, u38, u39, u40, u41, u42, u43, u44, u45, u46, u47, u48, u49, u50, u51, u52, u53, u54, u55, u56, u57, u58, u59, u60, u61, u62, u63, u64, u65, u66, u67, u68, u69, u70, u71, u72, u73, u74, u75, u76, u77, u78, u79, u80, u81, u82, u83, u84, u85, u86, rfl⟩ := hfr
   obtain ⟨k', rfl⟩ : ∃ k', k = k' + 1 := by
    cases k with
    | zero => have := HL.out; cases this
    | succ k => exact ⟨k, rfl⟩
   have HH := HL.out
   have hbt := fun w => blank_trim l w
   have hle := trim_le l
   unfold lexL at HH
   cases ht : trimB l with
   | nil =>
    rw [ht] at HH hbt
    have e : xs = r1 ∧ (0 : Int) = r2 := by cases HH; exact ⟨rfl, rfl⟩
    obtain ⟨rfl, rfl⟩ := e
    have hemp : (S ([] : List UInt8)).toList.isEmpty = true := by rw [Lib.toList_data, S_list]; rfl
    have HT := Aside0.mk hbt
    clear HH HL hbt ht H0
    go_wp2_with (go_at_call 80; (with_reducible refine (HT.out _).mono ?_); rintro e w2 ⟨rfl, rfl⟩)
    simp only [jumps]
    go_ret2
    exact ⟨_, rfl, HR.out, HB.out⟩
   | cons c r =>
    rw [ht] at HH hbt hle
    dsimp only at HH
    have HT := Aside0.mk hbt
    have hemp : (S (c :: r)).toList.isEmpty = false := by rw [Lib.toList_data, S_list]; rfl
    have hidx := byte_at c r
    have hw1 : IntKind.i64.wrap (c.toNat : Int) = (c.toNat : Int) := by have := c.toNat_lt; rw [IntKind.wrap_i64]; omega
    have hdi := Aside0.mk (fun w => digit_in c w)
    have hle2 := Aside0.mk (Nat.le_trans (Nat.add_le_add_left hle xs.length) hxl)
    have hmu := Aside0.mk hle
    clear hbt ht H0 hxl hle HL
    cases hd1 : isD c with
    | true =>
     rw [if_pos hd1] at HH
     rw [hd1] at hdi
     have HN := Aside0.mk HH
     have HD1 := Aside0.mk hd1
     clear HH hd1
     obtain ⟨sv, hsv⟩ : ∃ sv, S (c :: r) = sv := ⟨_, rfl⟩
     have HSV := Aside0.mk hsv
     rw [hsv] at HT hemp hidx
     clear hsv
     go_wp2_with (first | (go_at_call 80; (with_reducible refine (HT.out _).mono ?_); rintro e w2 ⟨rfl, rfl⟩) | (go_at_call 81; (with_reducible refine (hdi.out _).mono ?_); rintro e w2 ⟨rfl, rfl⟩))
     go_step3
     show J (r1, r2) w 1 _ _ ∧ _
     refine ⟨⟨HB, Or.inr ⟨rfl, k', c, r, xs, v, HN, HD1.out, hle2.out, HR, ?_⟩⟩, ?_⟩
     ·
      rw [HSV.out]; exact ⟨_, _, _, _, _, _, _, _, _, _, _, _, _, _, _, _, _, _, _, _, _, _, _, _, _, _, _, _, _, _, _, _, _, _, _, _, _, _, _, _, _, _, _, _, _, _, _, _, _, _, _, _, _, _, _, _, _, _, _, _, _, _, _, _, _, _, _, _, _, _, _, _, _, _, _, _, _, _, _, _, _, _, _, _, _, rfl⟩
     ·
      show 2 * sv.size + (1 - 1) < 2 * (S l).size + (1 - 0)
      rw [← HSV.out, S_size, S_size]; have := hmu.out; omega
    | false =>
     rw [if_neg (by rw [hd1]; exact Bool.false_ne_true)] at HH
     rw [hd1] at hdi
     have hle1 := Aside0.mk (fun w => letter_in c w)
     cases ha1 : isA c with
     | true =>
      rw [if_pos ha1] at HH
      rw [ha1] at hle1
      have HN := Aside0.mk HH
      have ha97 : 97 ≤ c.toNat ∧ c.toNat ≤ 122 := by unfold isA at ha1; rw [Bool.and_eq_true, decide_eq_true_eq, decide_eq_true_eq] at ha1; exact ha1
      have hsub : ((c.toNat : Int) - 97) % 256 = ((c.toNat - 97 : Nat) : Int) := by omega
      have hsub2 : IntKind.u8.wrap ((c.toNat : Int) - 97) = ((c.toNat - 97 : Nat) : Int) := by rw [IntKind.wrap_u8]; omega
      have hw2 : IntKind.i64.wrap ((c.toNat - 97 : Nat) : Int) = ((c.toNat - 97 : Nat) : Int) := by rw [IntKind.wrap_i64]; omega
      obtain ⟨nm, hnm⟩ : ∃ nm : Int, ((c.toNat - 97 : Nat) : Int) = nm := ⟨_, rfl⟩
      rw [hnm] at hsub hsub2 hw2
      rw [hnm] at HN
      have hsl : (S (c :: r)).extract 1 (S (c :: r)).size = S r := S_from (c :: r) 1
      have hsl1 : (1 : Int) ≤ ((S (c :: r)).size : Int) := by rw [S_size, List.length_cons]; omega
      have hxl : xs.length ≤ 60 := by have := hle2.out; omega
      clear HH hd1 ha1 ha97 hnm
      obtain ⟨sv, hsv⟩ : ∃ sv, S (c :: r) = sv := ⟨_, rfl⟩
      have HSV := Aside0.mk hsv
      rw [hsv] at HT hemp hidx hsl hsl1
      clear hsv
      go_wp2_with (first | (go_at_call 80; (with_reducible refine (HT.out _).mono ?_); rintro e w2 ⟨rfl, rfl⟩) | (go_at_call 81; first | ((with_reducible refine (hdi.out _).mono ?_); rintro e w2 ⟨rfl, rfl⟩) | ((with_reducible refine (hle1.out _).mono ?_); rintro e w2 ⟨rfl, rfl⟩)) | ((with_reducible refine gate_builtin (b := .append) (xs := #[.tmp 27, .tmp 33]) rfl ?_); (try (refine gate_guard (by rfl) ?_; dsimp only)); at_builtin; refine Kd.R_append k118 (w0 := w) w.heap.size rfl (.tmp 27) (.tmp 33) 71 118 (.agg #[(.int .i64 0), (.int .i64 0)]) 16 rfl Tryz.underlying71 info118 rfl (by decide) (by omega) v xs (⟨2, nm⟩ : S118) [.int .i64 2, .int .i64 nm] (fun _ => True) (fun _ => False) rfl rfl ?aP (fun _ hk => hk.elim) ?aF ?aO ?aB ?aS ?aL ?_; (case aP => exact k118_mkM _ _ _ (⟨2, nm⟩ : S118)); (case aB => exact HB.out); (case aF => exact (fun _ _ => trivial)); (case aO => exact HR.out); (case aS => exact below_size HB.out); (case aL => omega); intro v1 w3 ho hb hg hat; obtain ⟨A3, c3, rfl⟩ := Kd.R_slice ho; have HB3 := Aside0.mk hb; have HR3 := Aside0.mk ho; rw [List.length_append, List.length_singleton] at HR3; clear hb ho hg hat))
      go_step3
      show J (r1, r2) w 0 _ _ ∧ _
      have hlen := hle2.out
      have hm := hmu.out
      rw [List.length_cons] at hlen hm
      refine ⟨⟨HB3, Or.inl ⟨rfl, k', r, _, _, HN, ?_, HR3, ?_⟩⟩, ?_⟩
      ·
       rw [List.length_append, List.length_singleton]; omega
      ·
       exact ⟨_, _, _, _, _, _, _, _, _, _, _, _, _, _, _, _, _, _, _, _, _, _, _, _, _, _, _, _, _, _, _, _, _, _, _, _, _, _, _, _, _, _, _, _, _, _, _, _, _, _, _, _, _, _, _, _, _, _, _, _, _, _, _, _, _, _, _, _, _, _, _, _, _, _, _, _, _, _, _, _, _, _, _, _, _, rfl⟩
      ·
       show 2 * (S r).size + (1 - 0) < 2 * (S l).size + (1 - 0)
       rw [S_size, S_size]; omega
     | false =>
      rw [if_neg (by rw [ha1]; exact Bool.false_ne_true)] at HH
      rw [ha1] at hle1
      have hlo := Aside0.mk (fun w => longest_calls (c :: r) w)
      have HLB := Aside0.mk (longest_le (c :: r))
      unfold signStep at HH
      obtain ⟨lk, hlk⟩ : ∃ lk, (longestL (c :: r)).1 = lk := ⟨_, rfl⟩
      obtain ⟨ln, hln⟩ : ∃ ln, (longestL (c :: r)).2 = ln := ⟨_, rfl⟩
      rw [hlk, hln] at hlo
      rw [hlk, hln] at HH
      rw [hln] at HLB
      have hxl : xs.length ≤ 60 := by have := hle2.out; omega
      have hsl : (S (c :: r)).extract ln (S (c :: r)).size = S ((c :: r).drop ln) := S_from (c :: r) ln
      have hsl1 : (ln : Int) ≤ ((S (c :: r)).size : Int) := by rw [S_size]; have := HLB.out; omega
      have hsl2 : ln ≤ (S (c :: r)).size := by rw [S_size]; exact HLB.out
      clear hd1 ha1 hlk hln
      obtain ⟨sv, hsv⟩ : ∃ sv, S (c :: r) = sv := ⟨_, rfl⟩
      have HSV := Aside0.mk hsv
      rw [hsv] at HT hemp hidx hsl hsl1 hsl2 hlo
      clear hsv
      by_cases hz : ln = 0
      ·
       rw [if_pos hz] at HH
       have e : ([] : List S118) = r1 ∧ (2 : Int) = r2 := by cases HH; exact ⟨rfl, rfl⟩
       obtain ⟨rfl, rfl⟩ := e
       have hz0 : ((ln : Int) == 0) = true := by subst hz; rfl
       clear HH hsl
       go_wp2_with (first | (go_at_call 80; (with_reducible refine (HT.out _).mono ?_); rintro e w2 ⟨rfl, rfl⟩) | (go_at_call 81; first | ((with_reducible refine (hdi.out _).mono ?_); rintro e w2 ⟨rfl, rfl⟩) | ((with_reducible refine (hle1.out _).mono ?_); rintro e w2 ⟨rfl, rfl⟩)) | (go_at_call 82; (with_reducible refine (hlo.out _).mono ?_); rintro e w5 ⟨rfl, hb5⟩; have HB5 := Aside0.mk (below_step HB.out hb5); have HR5 := Aside0.mk (Kd.R_below HR.out hb5); clear HB HR; have HB := HB5; have HR := HR5; clear HB5 HR5 hb5))
       simp only [jumps]
       go_ret2
       exact ⟨_, rfl, Kd.R_nil _ _ _ _ _, HB.out⟩
      ·
       rw [if_neg hz] at HH
       have HN := Aside0.mk HH
       have hz0 : ((ln : Int) == 0) = false := beq_eq_false_iff_ne.mpr (by omega)
       have HZ := Aside0.mk hz
       clear HH hz
       go_wp2_with (first | (go_at_call 80; (with_reducible refine (HT.out _).mono ?_); rintro e w2 ⟨rfl, rfl⟩) | (go_at_call 81; first | ((with_reducible refine (hdi.out _).mono ?_); rintro e w2 ⟨rfl, rfl⟩) | ((with_reducible refine (hle1.out _).mono ?_); rintro e w2 ⟨rfl, rfl⟩)) | (go_at_call 82; (with_reducible refine (hlo.out _).mono ?_); rintro e w5 ⟨rfl, hb5⟩; have HB5 := Aside0.mk (below_step HB.out hb5); have HR5 := Aside0.mk (Kd.R_below HR.out hb5); clear HB HR; have HB := HB5; have HR := HR5; clear HB5 HR5 hb5) | ((with_reducible refine gate_builtin (b := .append) (xs := #[.tmp 44, .tmp 47]) rfl ?_); (try (refine gate_guard (by rfl) ?_; dsimp only)); at_builtin; refine Kd.R_append k118 (w0 := w) w.heap.size rfl (.tmp 44) (.tmp 47) 71 118 (.agg #[(.int .i64 0), (.int .i64 0)]) 16 rfl Tryz.underlying71 info118 rfl (by decide) (by omega) v xs (⟨(lk : Int), 0⟩ : S118) [.int .i64 (lk : Int), .int .i64 0] (fun _ => True) (fun _ => False) rfl rfl ?aP (fun _ hk => hk.elim) ?aF ?aO ?aB ?aS ?aL ?_; (case aP => exact k118_mkM _ _ _ (⟨(lk : Int), 0⟩ : S118)); (case aB => exact HB.out); (case aF => exact (fun _ _ => trivial)); (case aO => exact HR.out); (case aS => exact below_size HB.out); (case aL => omega); intro v1 w3 ho hb hg hat; obtain ⟨A3, c3, rfl⟩ := Kd.R_slice ho; have HB3 := Aside0.mk hb; have HR3 := Aside0.mk ho; rw [List.length_append, List.length_singleton] at HR3; clear hb ho hg hat))
       go_step3
       show J (r1, r2) w 0 _ _ ∧ _
       have hlen := hle2.out
       have hm := hmu.out
       have hlb := HLB.out
       have hz := HZ.out
       have hdl : ((c :: r).drop ln).length = (c :: r).length - ln := List.length_drop
       refine ⟨⟨HB3, Or.inl ⟨rfl, k', _, _, _, HN, ?_, HR3, ?_⟩⟩, ?_⟩
       ·
        rw [List.length_append, List.length_singleton, hdl]; omega
       ·
        exact ⟨_, _, _, _, _, _, _, _, _, _, _, _, _, _, _, _, _, _, _, _, _, _, _, _, _, _, _, _, _, _, _, _, _, _, _, _, _, _, _, _, _, _, _, _, _, _, _, _, _, _, _, _, _, _, _, _, _, _, _, _, _, _, _, _, _, _, _, _, _, _, _, _, _, _, _, _, _, _, _, _, _, _, _, _, _, rfl⟩
       ·
        show 2 * (S ((c :: r).drop ln)).size + (1 - 0) < 2 * (S l).size + (1 - 0)
        rw [S_size, S_size, hdl]; omega
  case p1 =>
   rintro a w' ⟨HB, ⟨h01, _⟩ | ⟨_, k, c, r, xs, v, HL, hd1, hxl, HR, hfr⟩⟩
   case inl => omega
   obtain ⟨u1, u2, u3, u5, u6, u7, u8, u9, u10, u11, u12, u13, u14, u15, u16, u17, u18, u19, u20, u21, u22, u23, u24, u25, u26, u27, u28, u29, u30, u31, u32, u33, u34, u35, u36, u37, u38, u39, u40, u41, u42, u43, u44, u45, u46, u47, u48, u49, u50, u51, u52, u53, u54, u55, u56, u57, u58, u59, u60, u61, u62, u63, u64, u65, u66, u67, u68, u69, u70, u71, u72, u73, u74, u75, u76, u77, u78, u79, u80, u81, u82, u83, u84, u85, u86, rfl⟩ := hfr
   obtain ⟨l, hl⟩ : ∃ l, c :: r = l := ⟨_, rfl⟩
   have hidx := byte_at c r
   have hg0 : l.getD 0 0 = c := by rw [← hl]; rfl
   have hn1 : 1 ≤ nD l := by rw [← hl, nD, if_pos hd1]; omega
   have hnl := nD_le l
   have HH := HL.out
   have h48 : ((c.toNat : Int) == 48) = decide (c = 48) := by
    rw [Bool.eq_iff_iff, beq_iff_eq, decide_eq_true_eq, is48]
   rw [hl] at hidx HH hxl ⊢
   unfold numStep at HH
   rw [hg0] at HH
   obtain ⟨d, hd⟩ : ∃ d, nD l = d := ⟨_, rfl⟩
   have hdt := Aside0.mk (fun w => digits_trim l w)
   rw [hd] at HH hn1 hnl hdt
   have hdl : (l.drop d).length = l.length - d := List.length_drop
   have hwz : IntKind.i64.wrap (((S l).size : Int) - ((S (l.drop d)).size : Int)) = (d : Int) := by rw [S_size, S_size, hdl, IntKind.wrap_i64]; omega
   have hwz2 : wrap64 (((S l).size : Int) - ((S (l.drop d)).size : Int)) = (d : Int) := by rw [S_size, S_size, hdl]; unfold wrap64; omega
   obtain ⟨m, hm⟩ : ∃ m, m = (if d ≤ 10 then d else 10) := ⟨_, rfl⟩
   have hmin : min (d : Int) 10 = (m : Int) := by rw [hm]; split <;> omega
   have hml : m ≤ d ∧ m ≤ 10 ∧ 1 ≤ m ∧ (d ≤ 10 → m = d) := by rw [hm]; split <;> omega
   have hex1 : (S l).extract 0 m = S (l.take m) := S_upto l _
   have hm1 : (m : Int) ≤ ((S l).size : Int) := by rw [S_size]; omega
   have hm2 : m ≤ (S l).size := by rw [S_size]; omega
   have hm3 : (0 : Int) ≤ (m : Int) := by omega
   have HML := Aside0.mk hml
   have HNL := Aside0.mk (And.intro hn1 hnl)
   clear hm hml
   have hsl : (S l).extract d (S l).size = S (l.drop d) := S_from l d
   have hsz := Aside0.mk (S_size l)
   have HLL := Aside0.mk hl
   have HDD := Aside0.mk hd
   clear hl hd hg0 H0
   obtain ⟨sv, hsv⟩ : ∃ sv, S l = sv := ⟨_, rfl⟩
   obtain ⟨dv, hdv⟩ : ∃ dv, S (l.drop d) = dv := ⟨_, rfl⟩
   have HSV := Aside0.mk hsv
   have HDV := Aside0.mk hdv
   rw [hsv] at hdt hidx hwz hwz2 hex1 hsl hsz hm1 hm2 ⊢
   rw [hdv] at hdt hwz hwz2 hsl
   clear hsv hdv
   have HX := Aside0.mk (And.intro hxl hdl)
   clear hxl hdl HL
   by_cases h0 : c = 48 ∧ 1 < d
   ·
    rw [if_pos h0] at HH
    have e : ([] : List S118) = r1 ∧ (2 : Int) = r2 := by cases HH; exact ⟨rfl, rfl⟩
    obtain ⟨rfl, rfl⟩ := e
    have h48a : ((c.toNat : Int) == 48) = true := by rw [h48]; exact decide_eq_true h0.1
    have hd1a : (1 : Int) < (d : Int) := by omega
    clear HH h48 h0
    go_wp2_with (go_at_call 80; (with_reducible refine (hdt.out _).mono ?_); rintro e w2 ⟨rfl, hb2⟩; have HB2 := Aside0.mk (below_step HB.out hb2); clear hb2)
    simp only [jumps]
    go_ret2
    exact ⟨_, rfl, Kd.R_nil _ _ _ _ _, HB2.out⟩
   ·
    rw [if_neg h0] at HH
    have hA : ((c.toNat : Int) = 48 ∧ ¬ (1 : Int) < (d : Int)) ∨ ¬ (c.toNat : Int) = 48 := by
     by_cases e : c = 48
     ·
      exact Or.inl ⟨by rw [e]; rfl, fun h => h0 ⟨e, by omega⟩⟩
     ·
      exact Or.inr (fun h => e ((is48 c).mp h))
    clear h48 h0
    have hat := Aside0.mk (fun w => strconv_Atoi.calls (S (l.take m)) ((val (l.take m) : Nat) : Int) none w (atoi_take l m (by have := HDD.out; omega) HML.out.2.1 HML.out.2.2.1))
    have hnn : IntKind.i64.wrap ((val (l.take m) : Nat) : Int) = ((val (l.take m) : Nat) : Int) := by have := atoi_small l m (by have := HDD.out; omega) HML.out.2.1; rw [IntKind.wrap_i64]; omega
    obtain ⟨nv, hnv⟩ : ∃ nv, val (l.take m) = nv := ⟨_, rfl⟩
    rw [hnv] at hat hnn
    have hxl : xs.length ≤ 60 := by have := HX.out.1; omega
    by_cases h2 : 10 < d
    ·
     rw [if_pos (Or.inl h2)] at HH
     have e : ([] : List S118) = r1 ∧ (3 : Int) = r2 := by cases HH; exact ⟨rfl, rfl⟩
     obtain ⟨rfl, rfl⟩ := e
     have c2 : (10 : Int) < (d : Int) := by omega
     rcases hA with ⟨a1, a2⟩ | a1
     ·
      omega
     ·
      clear HH h2 hnv
      go_wp2_with (first | (go_at_call 80; (with_reducible refine (hdt.out _).mono ?_); rintro e w2 ⟨rfl, hb2⟩; have HB2 := Aside0.mk (below_step HB.out hb2); have HR2 := Aside0.mk (Kd.R_below HR.out hb2); clear hb2) | (go_at_call 79; (with_reducible refine (hat.out _).mono ?_); rintro e w3 ⟨rfl, hb3⟩; have HB3 := Aside0.mk (below_step HB2.out hb3); have HR3 := Aside0.mk (Kd.R_below HR2.out hb3); clear hb3))
      simp only [jumps]
      go_ret2
      exact ⟨_, rfl, Kd.R_nil _ _ _ _ _, HB3.out⟩
    ·
     have hmd : m = d := HML.out.2.2.2 (by omega)
     subst hmd
     rw [hnv] at HH
     have c2 : ¬ (10 : Int) < (m : Int) := by omega
     by_cases h3 : 2147483647 < nv
     ·
      rw [if_pos (Or.inr h3)] at HH
      have e : ([] : List S118) = r1 ∧ (3 : Int) = r2 := by cases HH; exact ⟨rfl, rfl⟩
      obtain ⟨rfl, rfl⟩ := e
      have c3 : (2147483647 : Int) < (nv : Int) := by omega
      rcases hA with ⟨a1, a2⟩ | a1
      ·
       clear HH h2 hnv
       go_wp2_with (first | (go_at_call 80; (with_reducible refine (hdt.out _).mono ?_); rintro e w2 ⟨rfl, hb2⟩; have HB2 := Aside0.mk (below_step HB.out hb2); have HR2 := Aside0.mk (Kd.R_below HR.out hb2); clear hb2) | (go_at_call 79; (with_reducible refine (hat.out _).mono ?_); rintro e w3 ⟨rfl, hb3⟩; have HB3 := Aside0.mk (below_step HB2.out hb3); have HR3 := Aside0.mk (Kd.R_below HR2.out hb3); clear hb3))
       simp only [jumps]
       go_ret2
       exact ⟨_, rfl, Kd.R_nil _ _ _ _ _, HB3.out⟩
      ·
       clear HH h2 hnv
       go_wp2_with (first | (go_at_call 80; (with_reducible refine (hdt.out _).mono ?_); rintro e w2 ⟨rfl, hb2⟩; have HB2 := Aside0.mk (below_step HB.out hb2); have HR2 := Aside0.mk (Kd.R_below HR.out hb2); clear hb2) | (go_at_call 79; (with_reducible refine (hat.out _).mono ?_); rintro e w3 ⟨rfl, hb3⟩; have HB3 := Aside0.mk (below_step HB2.out hb3); have HR3 := Aside0.mk (Kd.R_below HR2.out hb3); clear hb3))
       simp only [jumps]
       go_ret2
       exact ⟨_, rfl, Kd.R_nil _ _ _ _ _, HB3.out⟩
     ·
      rw [if_neg (fun h => h.elim h2 h3)] at HH
      have HN := Aside0.mk HH
      have c3 : ¬ (2147483647 : Int) < (nv : Int) := by omega
      rcases hA with ⟨a1, a2⟩ | a1
      ·
       clear HH h2 h3 hnv
       go_wp2_with (first | (go_at_call 80; (with_reducible refine (hdt.out _).mono ?_); rintro e w2 ⟨rfl, hb2⟩; have HB2 := Aside0.mk (below_step HB.out hb2); have HR2 := Aside0.mk (Kd.R_below HR.out hb2); clear hb2) | (go_at_call 79; (with_reducible refine (hat.out _).mono ?_); rintro e w3 ⟨rfl, hb3⟩; have HB3 := Aside0.mk (below_step HB2.out hb3); have HR3 := Aside0.mk (Kd.R_below HR2.out hb3); clear hb3) | ((with_reducible refine gate_builtin (b := .append) (xs := #[.tmp 79, .tmp 82]) rfl ?_); (try (refine gate_guard (by rfl) ?_; dsimp only)); at_builtin; refine Kd.R_append k118 (w0 := w) w.heap.size rfl (.tmp 79) (.tmp 82) 71 118 (.agg #[(.int .i64 0), (.int .i64 0)]) 16 rfl Tryz.underlying71 info118 rfl (by decide) (by omega) v xs (⟨1, (nv : Int)⟩ : S118) [.int .i64 1, .int .i64 (nv : Int)] (fun _ => True) (fun _ => False) rfl rfl ?aP (fun _ hk => hk.elim) ?aF ?aO ?aB ?aS ?aL ?_; (case aP => exact k118_mkM _ _ _ (⟨1, (nv : Int)⟩ : S118)); (case aB => exact HB3.out); (case aF => exact (fun _ _ => trivial)); (case aO => exact HR3.out); (case aS => exact below_size HB3.out); (case aL => omega); intro v1 w4 ho hb hg hat2; obtain ⟨A3, c3, rfl⟩ := Kd.R_slice ho; have HB4 := Aside0.mk hb; have HR4 := Aside0.mk ho; rw [List.length_append, List.length_singleton] at HR4; clear hb ho hg hat2))
       go_step3
       show J (r1, r2) w 0 _ _ ∧ _
       refine ⟨⟨HB4, Or.inl ⟨rfl, k, l.drop m, _, _, HN, ?_, HR4, ?_⟩⟩, ?_⟩
       ·
        rw [List.length_append, List.length_singleton]; have := HX.out; have := HNL.out; omega
       ·
        rw [HDV.out]; exact ⟨_, _, _, _, _, _, _, _, _, _, _, _, _, _, _, _, _, _, _, _, _, _, _, _, _, _, _, _, _, _, _, _, _, _, _, _, _, _, _, _, _, _, _, _, _, _, _, _, _, _, _, _, _, _, _, _, _, _, _, _, _, _, _, _, _, _, _, _, _, _, _, _, _, _, _, _, _, _, _, _, _, _, _, _, _, rfl⟩
       ·
        show 2 * dv.size + (1 - 0) < 2 * sv.size + (1 - 1)
        rw [← HDV.out, ← HSV.out, S_size, S_size]; have := HX.out; have := HNL.out; omega
      ·
       clear HH h2 h3 hnv
       go_wp2_with (first | (go_at_call 80; (with_reducible refine (hdt.out _).mono ?_); rintro e w2 ⟨rfl, hb2⟩; have HB2 := Aside0.mk (below_step HB.out hb2); have HR2 := Aside0.mk (Kd.R_below HR.out hb2); clear hb2) | (go_at_call 79; (with_reducible refine (hat.out _).mono ?_); rintro e w3 ⟨rfl, hb3⟩; have HB3 := Aside0.mk (below_step HB2.out hb3); have HR3 := Aside0.mk (Kd.R_below HR2.out hb3); clear hb3) | ((with_reducible refine gate_builtin (b := .append) (xs := #[.tmp 79, .tmp 82]) rfl ?_); (try (refine gate_guard (by rfl) ?_; dsimp only)); at_builtin; refine Kd.R_append k118 (w0 := w) w.heap.size rfl (.tmp 79) (.tmp 82) 71 118 (.agg #[(.int .i64 0), (.int .i64 0)]) 16 rfl Tryz.underlying71 info118 rfl (by decide) (by omega) v xs (⟨1, (nv : Int)⟩ : S118) [.int .i64 1, .int .i64 (nv : Int)] (fun _ => True) (fun _ => False) rfl rfl ?aP (fun _ hk => hk.elim) ?aF ?aO ?aB ?aS ?aL ?_; (case aP => exact k118_mkM _ _ _ (⟨1, (nv : Int)⟩ : S118)); (case aB => exact HB3.out); (case aF => exact (fun _ _ => trivial)); (case aO => exact HR3.out); (case aS => exact below_size HB3.out); (case aL => omega); intro v1 w4 ho hb hg hat2; obtain ⟨A3, c3, rfl⟩ := Kd.R_slice ho; have HB4 := Aside0.mk hb; have HR4 := Aside0.mk ho; rw [List.length_append, List.length_singleton] at HR4; clear hb ho hg hat2))
       go_step3
       show J (r1, r2) w 0 _ _ ∧ _
       refine ⟨⟨HB4, Or.inl ⟨rfl, k, l.drop m, _, _, HN, ?_, HR4, ?_⟩⟩, ?_⟩
       ·
        rw [List.length_append, List.length_singleton]; have := HX.out; have := HNL.out; omega
       ·
        rw [HDV.out]; exact ⟨_, _, _, _, _, _, _, _, _, _, _, _, _, _, _, _, _, _, _, _, _, _, _, _, _, _, _, _, _, _, _, _, _, _, _, _, _, _, _, _, _, _, _, _, _, _, _, _, _, _, _, _, _, _, _, _, _, _, _, _, _, _, _, _, _, _, _, _, _, _, _, _, _, _, _, _, _, _, _, _, _, _, _, _, _, rfl⟩
       ·
        show 2 * dv.size + (1 - 0) < 2 * sv.size + (1 - 1)
        rw [← HDV.out, ← HSV.out, S_size, S_size]; have := HX.out; have := HNL.out; omega

end Go.Proofs.YtcaegaljhogbjaaGreatDoor.Lx
