import Derived.Test.YtkkeknmkipkbmaaGreatFwT
set_option linter.unusedSimpArgs false
set_option linter.unusedVariables false
set_option linter.unusedSectionVars false
namespace Go.Sc
theorem ws {a b : Nat} (h : b ≤ a) (h2 : a < 18446744073709551616) : IntKind.u64.wrap ((a : Int) - (b : Int)) = ((a - b : Nat) : Int) := by
  rw [show (a : Int) - (b : Int) = ((a - b : Nat) : Int) by omega]; exact yn (by omega)
theorem zFe (a b : Nat) : IntKind.u64.wrap (((a + b : Nat) : Int)) = (((a + b) % 18446744073709551616 : Nat) : Int) := by
  rw [y6]; unfold u64; omega
theorem xD {α : Type} {p : α → Prop} {l : List α} {k : Nat} (h : ∀ x ∈ l, p x) : ∀ x ∈ l.drop k, p x := fun x hx => h x (List.mem_of_mem_drop hx)
theorem jL {α : Type} {p : α → Prop} {l : List α} {k : Nat} (h : ∀ x ∈ l, p x) : ∀ x ∈ l.take k, p x := fun x hx => h x (List.mem_of_mem_take hx)
section
variable {w0 w w' : World} {S : List Nat} {L Lin Lout : List Res}
theorem Own.starSel {rs ss : List Res} (i : Nat) (f : Nat → Nat) (hf : ∀ k r, ss[k]? = some r → rs[f k]? = some r) (hj : ∀ a b, a ≠ b → f a ≠ f b) (h1 : L[i]? = some (Res.star rs)) (h : Own w0 S L w) : Own w0 S (L.set i (Res.star ss)) w := by
  refine h.turn h1 ?_ ?_
  · rintro ⟨h3, h4⟩
    refine ⟨fun r hr => ?_, fun a b r s hab hr hs => h4 (f a) (f b) r s (hj a b hab) (hf a r hr) (hf b s hs)⟩
    obtain ⟨k, hk, rfl⟩ := List.mem_iff_getElem.1 hr
    exact h3 _ (List.mem_of_getElem? (hf k _ (List.getElem?_eq_getElem hk)))
  · intro b hb
    obtain ⟨k, s, hs, hb⟩ := mem_fps.1 hb
    exact mem_fps.2 ⟨f k, s, hf k s hs, hb⟩
theorem Own.starTake {α : Type} {g : α → Res} {l : List α} (i k : Nat) (h1 : L[i]? = some (Res.star (l.map g))) (h : Own w0 S L w) : Own w0 S (L.set i (Res.star ((l.take k).map g))) w := by
  refine h.starSel i id ?_ (fun a b h => h) h1
  intro a r hr
  rw [List.map_take, List.getElem?_take] at hr
  split at hr
  · exact hr
  · cases hr
theorem Own.starDrop {α : Type} {g : α → Res} {l : List α} (i k : Nat) (h1 : L[i]? = some (Res.star (l.map g))) (h : Own w0 S L w) : Own w0 S (L.set i (Res.star ((l.drop k).map g))) w := by
  refine h.starSel i (k + ·) ?_ (fun a b h => by show k + a ≠ k + b; omega) h1
  intro a r hr
  rwa [List.map_drop, List.getElem?_drop] at hr
theorem Own.starApp {α : Type} {g : α → Res} {l m : List α} (i j : Nat) (hij : i ≠ j) (h1 : L[i]? = some (Res.star (l.map g))) (h2 : L[j]? = some (Res.star (m.map g))) (h : Own w0 S L w) : Own w0 S ((L.set i (Res.star ((l ++ m).map g))).eraseIdx j) w := by
  rw [List.map_append]
  generalize l.map g = rs at h1 ⊢
  generalize m.map g = ss at h2 ⊢
  have at_ : ∀ (k : Nat) (s : Res), (rs ++ ss)[k]? = some s → (k < rs.length ∧ rs[k]? = some s) ∨ (rs.length ≤ k ∧ ss[k - rs.length]? = some s) := by
    intro k s hs
    rw [List.getElem?_append] at hs
    split at hs
    · exact .inl ⟨by assumption, hs⟩
    · exact .inr ⟨by omega, hs⟩
  refine h.join hij h1 h2 ?_ ?_
  · rintro ⟨h3, h4⟩ ⟨h5, h5'⟩ h6
    refine ⟨fun s hs => ?_, ?_⟩
    · rcases List.mem_append.1 hs with hs | hs
      · exact h3 s hs
      · exact h5 s hs
    · intro a b s t hab hs ht x hx hx'
      rcases at_ a s hs with ⟨q, h7⟩ | ⟨q, h7⟩ <;> rcases at_ b t ht with ⟨q', h8⟩ | ⟨q', h8⟩
      · exact h4 a b s t hab h7 h8 x hx hx'
      · exact h6 x (mem_fps.2 ⟨a, s, h7, hx⟩) (mem_fps.2 ⟨_, t, h8, hx'⟩)
      · exact h6 x (mem_fps.2 ⟨b, t, h8, hx'⟩) (mem_fps.2 ⟨_, s, h7, hx⟩)
      · exact h5' (a - rs.length) (b - rs.length) s t (by omega) h7 h8 x hx hx'
  · intro b hb
    obtain ⟨k, s, hs, hb⟩ := mem_fps.1 hb
    rcases at_ k s hs with ⟨_, h7⟩ | ⟨_, h7⟩
    · exact .inl (mem_fps.2 ⟨k, s, h7, hb⟩)
    · exact .inr (mem_fps.2 ⟨_, s, h7, hb⟩)
end
section
variable {P : Program} {n : Nat} {ops : Array Oper} {N R : K} {X : List (Nat × K)} {f : Nat → Value} {rest : List Oper} {w0 : World} {S : List Nat} {L : List Res}
variable {d : Nat} {ty : TypeId} {p : String} {af : Array Edge} {x y : Operand} {t e : TypeId}
end
def arrSz (P : Program) (t : TypeId) : Option (Nat × Nat) := match P.underlying t with | some (.array n e) => (P.info? e).map fun i => (n, i.size) | _ => none
section
variable {P : Program} {n : Nat} {ops : Array Oper} {N R : K} {X : List (Nat × K)} {f : Nat → Value} {A : World → Prop} {rest : List Oper}
variable {d : Nat} {ty : TypeId} {p : String} {af : Array Edge} {x y : Operand} {t e : TypeId}
end
end Go.Sc
