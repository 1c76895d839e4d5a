/- A scope with several labels, among which the run jumps: what holds at each label, and a measure that every pass from a label lowers. After the kit's rule for one label. -/
import Derived.ScopeJumps
namespace Go.Proofs.YtcaegaljhogbjaaGreatDoor.Goto
open Go

def jumps (J : Nat → Act → World → Prop) (Q : Exit → Act → World → Prop) : Exit → Act → World → Prop
  | .goto l, a, w => J l a w
  | e, a, w => Q e a w

theorem wp_scope_labels {P : Program} {a : Act} {w : World} {Q : Exit → Act → World → Prop} {c : Code} (J : Nat → Act → World → Prop) (μ : Nat → Act → World → Nat)
    (hf : ∀ l a w, J l a w → ∃ rest, findLabel c l = some rest)
    (first : c.wp P (jumps J Q) a w)
    (pass : ∀ l rest, findLabel c l = some rest → ∀ a w, J l a w → rest.wp P (jumps (fun l' a' w' => J l' a' w' ∧ μ l' a' w' < μ l a w) Q) a w) : (Code.scope c).wp P Q a w := by
  intro b k cs
  have key : ∀ n l rest a w, findLabel c l = some rest → μ l a w = n → J l a w → ∃ e a' w', Q e a' w' ∧ Arrives P (lone (b.at a (.code rest :: .inScope c :: k)) cs w) b k cs e a' w' := by
    intro n
    induction n using Nat.strongRecOn with
    | _ n ih =>
      intro l rest a w hfl hn hJ
      obtain ⟨e, a₁, w₁, hq, harr⟩ := pass l rest hfl a w hJ b (.inScope c :: k) cs
      cases e with
      | normal => exact ⟨.normal, a₁, w₁, hq, Steps.trans harr (.one step_inScope)⟩
      | exit id => exact ⟨.exit id, a₁, w₁, hq, fun k' hk => harr k' (by simp [exitTo, hk])⟩
      | goto l' =>
        obtain ⟨hJ', hlt⟩ := hq
        obtain ⟨rest', hfl'⟩ := hf l' a₁ w₁ hJ'
        obtain ⟨e₂, a₂, w₂, hq₂, harr₂⟩ := ih _ (by omega) l' rest' a₁ w₁ hfl' rfl hJ'
        exact ⟨e₂, a₂, w₂, hq₂, .of_steps (harr _ (by simp [gotoIn, hfl'])) harr₂⟩
      | ret => exact ⟨_, a₁, w₁, hq, harr⟩
      | panic ch => exact ⟨_, a₁, w₁, hq, harr⟩
      | outgrown => exact ⟨_, a₁, w₁, hq, harr⟩
  obtain ⟨e, a₁, w₁, hq, harr⟩ := first b (.inScope c :: k) cs
  cases e with
  | normal => exact ⟨.normal, a₁, w₁, hq, .head step_scope (Steps.trans harr (.one step_inScope))⟩
  | exit id => exact ⟨.exit id, a₁, w₁, hq, fun k' hk => .head step_scope (harr k' (by simp [exitTo, hk]))⟩
  | goto l' =>
    obtain ⟨rest', hfl'⟩ := hf l' a₁ w₁ hq
    obtain ⟨e₂, a₂, w₂, hq₂, harr₂⟩ := key _ l' rest' a₁ w₁ hfl' rfl hq
    exact ⟨e₂, a₂, w₂, hq₂, .of_steps (.head step_scope (harr _ (by simp [gotoIn, hfl']))) harr₂⟩
  | ret => exact ⟨_, a₁, w₁, hq, .of_steps (.one step_scope) harr⟩
  | panic ch => exact ⟨_, a₁, w₁, hq, .of_steps (.one step_scope) harr⟩
  | outgrown => exact ⟨_, a₁, w₁, hq, .of_steps (.one step_scope) harr⟩

/-- The same with four labels, 0 to 3. -/
theorem wp_scope_labels4 {P : Program} {a : Act} {w : World} {Q : Exit → Act → World → Prop} {c r0 r1 r2 r3 : Code} (J : Nat → Act → World → Prop) (μ : Nat → Act → World → Nat)
    (h0 : findLabel c 0 = some r0) (h1 : findLabel c 1 = some r1) (h2 : findLabel c 2 = some r2) (h3 : findLabel c 3 = some r3)
    (hl : ∀ l a w, J l a w → l < 4)
    (first : c.wp P (jumps J Q) a w)
    (p0 : ∀ a w, J 0 a w → r0.wp P (jumps (fun l' a' w' => J l' a' w' ∧ μ l' a' w' < μ 0 a w) Q) a w)
    (p1 : ∀ a w, J 1 a w → r1.wp P (jumps (fun l' a' w' => J l' a' w' ∧ μ l' a' w' < μ 1 a w) Q) a w)
    (p2 : ∀ a w, J 2 a w → r2.wp P (jumps (fun l' a' w' => J l' a' w' ∧ μ l' a' w' < μ 2 a w) Q) a w)
    (p3 : ∀ a w, J 3 a w → r3.wp P (jumps (fun l' a' w' => J l' a' w' ∧ μ l' a' w' < μ 3 a w) Q) a w) : (Code.scope c).wp P Q a w := by
  have all : ∀ l, l < 4 → l = 0 ∨ l = 1 ∨ l = 2 ∨ l = 3 := fun l h => by omega
  refine wp_scope_labels J μ ?_ first ?_
  · intro l a w hJ
    rcases all l (hl l a w hJ) with rfl | rfl | rfl | rfl
    · exact ⟨_, h0⟩
    · exact ⟨_, h1⟩
    · exact ⟨_, h2⟩
    · exact ⟨_, h3⟩
  · intro l rest hf a w hJ
    rcases all l (hl l a w hJ) with rfl | rfl | rfl | rfl
    · obtain rfl := Option.some.inj (hf.symm.trans h0); exact p0 a w hJ
    · obtain rfl := Option.some.inj (hf.symm.trans h1); exact p1 a w hJ
    · obtain rfl := Option.some.inj (hf.symm.trans h2); exact p2 a w hJ
    · obtain rfl := Option.some.inj (hf.symm.trans h3); exact p3 a w hJ
end Go.Proofs.YtcaegaljhogbjaaGreatDoor.Goto
