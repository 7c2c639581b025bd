import Derived.Test.YthincafbmpialaaGreatCodec
import Derived.Test.YthincafbmpialaaGreatFwT
import Derived.Test.YthincafbmpialaaGreatChecked
set_option linter.unusedSectionVars false
set_option linter.unusedSimpArgs false
set_option linter.unusedVariables false
set_option maxRecDepth 10000
namespace Go.Proofs.YthincafbmpialaaGreat
open Go Go.Sc Go.Proofs
abbrev xU : Nat := 179
def vu (n : Nat) : Value := .int .u64 n
def yj (ns : List Nat) : List UInt8 := ns.flatMap z2
theorem xh {ns : List Nat} (h : ∀ n ∈ ns, n < 18446744073709551616) : (yj ns).length ≤ 9 * ns.length := by
  induction ns with
  | nil => simp [yj]
  | cons n ns ih =>
    have h1 := y7 (h n (by simp))
    have h2 := ih (fun m hm => h m (by simp [hm]))
    simp only [yj, List.flatMap_cons, List.length_append, List.length_cons] at h2 ⊢
    omega
abbrev EncOk (n : Nat) : Prop := n ≤ 100000000000
def fl (f : Bool) : Nat := bif f then 1 else 0
def zGf (ns : List Int) : List UInt8 := yj (u64 ns.length :: ns.map u64)
def Res.bv (o : Nat) (T : TypeId) (v : Value) (bs : List UInt8) : Res := (Res.row o T [v]).both (Res.vec T8 1 v bs.length (bs.map vb))
theorem _root_.Go.Sc.Own.splitBv {w0 w : World} {S : List Nat} {L : List Res} {i o : Nat} {T : TypeId} {v : Value} {bs : List UInt8} (hL : L[i]? = some (Res.bv o T v bs)) (h : Own w0 S L w) : Own w0 S (L.set i (Res.row o T [v]) ++ [Res.vec T8 1 v bs.length (bs.map vb)]) w := h.splitBoth hL
theorem _root_.Go.Sc.Own.joinBv {w0 w : World} {S : List Nat} {L : List Res} {i j o : Nat} {T : TypeId} {v : Value} {bs : List UInt8} (hij : i ≠ j) (h1 : L[i]? = some (Res.row o T [v])) (h2 : L[j]? = some (Res.vec T8 1 v bs.length (bs.map vb))) (h : Own w0 S L w) : Own w0 S ((L.set i (Res.bv o T v bs)).eraseIdx j) w := h.joinBoth hij h1 h2
theorem xR (v : Value) (bs : List UInt8) (n : Nat) (w : World) (hn : n < 18446744073709551616) (hb : bs.length ≤ 1000000000000) (hv : Rd w [] (Res.sl v bs.length (bs.map vb))) : Rets Tryz.prog 46 #[v, Vn n] w fun u_ w' => ∃ (r : Value), u_ = r ∧ Own w [] [Res.vec 5 1 r (bs ++ z2 n).length ((bs ++ z2 n).map vb)] w' := by
  refine (zEd v bs n hn w hv.φ hb).mono ?_
  intro r w1 hO
  exact ⟨r, rfl, hO⟩
theorem zDN {S : List Nat} (o : Nat) (sl : Value) (bs : List UInt8) (lv : Value) (ns : List Nat) (w : World) (hns : ∀ n ∈ ns, n < 18446744073709551616) (hb : bs.length + 9 * ns.length ≤ 100000000000) (hin : Own w S [Res.bv o xU sl bs] w) (hl : Rd w S (Res.sl lv ns.length (ns.flatMap U1))) : Rets Tryz.prog 101 #[.pointer (some ⟨o, 0, none⟩), lv] w fun u_ w' => ∃ (sl' : Value), u_ = .tuple #[] ∧ Own w S [Res.bv o xU sl' (bs ++ yj ns)] w' := by
  refine zb Tryz.func101 rfl Tryz.ntmps101 hin ?_
  refine zB (zC rfl (yO (pR hl) rfl rfl (zC rfl (zA (zQ ?_)))))
  refine xY (fun (k : Nat) (s : Value) => [(0, .pointer (some ⟨o, 0, none⟩)), (6, lv), (7, Vj ns.length), (8, Vj k)]) (fun (k : Nat) (s : Value) => k ≤ ns.length) (fun (k : Nat) (s : Value) => [Res.bv o xU s (bs ++ yj (ns.take k))]) (fun (k : Nat) (s : Value) => ns.length - k) (fun w' hw => ⟨0, sl, ⟨rfl, rfl, rfl, rfl, trivial⟩, Nat.zero_le _, by simpa [yj] using hw⟩) (fun k s g hΦ => ?_)
  have hle := xh (ns := ns.take k) (fun n hn => hns n (List.mem_of_mem_take hn))
  have hmin : (ns.take k).length = k := by simp; omega
  refine zB (yZ rfl rfl rfl (zA (zL (zZ rfl (fun c1 => ?_) (fun c1 => ?_)))))
  ·
   refine zM (zL (zQ (zB (zH (pR hl) 1 k rfl rfl rfl (by omega) rfl (zR (pR hl) 1 k 0 (fun _ => rfl) rfl rfl (by omega) rfl rfl (zD rfl (zA (zj (zC rfl (zC rfl (zr rfl rfl (zX (o := 0) rfl rfl ?_))))))))))))
   refine zBH [Res.row o xU [s], Res.vec 5 1 s (bs ++ yj (ns.take k)).length ((bs ++ yj (ns.take k)).map vb)] (fun w' hw => hw.splitBv (i := 0) (o := o) (T := xU) (v := s) (bs := (bs ++ yj (ns.take k))) rfl) ?_
   refine zY 0 (v := s) rfl rfl rfl rfl (zC rfl (zK rfl rfl (fun w' hw => (xR s (bs ++ yj (ns.take k)) (zI ns k) w' (hns _ (yH (by omega))) (by first | omega | (simp <;> omega) | (constructor <;> (first | omega | (simp <;> omega)))) (hw.rdVec0 1 rfl)).mono ?_)))
   rintro r1_ w1 ⟨_, rfl, hO⟩
   refine (?_ : CL _ _ _ _ _ _ (Own w S [Res.row o xU [s], Res.vec 5 1 s (bs ++ yj (ns.take k)).length ((bs ++ yj (ns.take k)).map vb), Res.vec 5 1 r1_ ((bs ++ yj (ns.take k)) ++ z2 (zI ns k)).length (((bs ++ yj (ns.take k)) ++ z2 (zI ns k)).map vb)])) w1 (hw.frame0 hO)
   refine zr rfl rfl (zX (o := 0) rfl rfl ?_)
   refine yu (fun w' hw => Own.cell1Vec (i := 2) rfl hw) (fun hc1_ => ?_)
   refine xr (cs := [s]) 0 rfl rfl rfl hc1_ rfl (zA (zj (z6 rfl rfl (zz (by omega)) rfl (zC rfl ?_))))
   exact zf (fun w' hw => ⟨k + 1, r1_, ⟨rfl, rfl, rfl, rfl, trivial⟩, (by omega), by rw [yD (by omega)]; have h := (hw.joinBv (i := 0) (j := 2) (o := o) (T := xU) (v := r1_) (bs := bs ++ yj (ns.take k) ++ z2 (zI ns k)) (by decide) rfl rfl).one 0 rfl; simpa [yj] using h, (by omega)⟩)
  ·
   exact yq rfl (jQ rfl (fun w' hw => ⟨s, rfl, by rw [List.take_of_length_le (by omega)] at hw; exact hw⟩))
def le (n : Nat) : Nat → List UInt8
  | 0 => []
  | k + 1 => le n k ++ [UInt8.ofNat (n / 256 ^ k)]
theorem zAg (d : List UInt8) (h : d.length < 18446744073709551616) : (jj d).length ≤ d.length + 9 := by
  have := y7 h
  simp [jj]; omega
theorem zBp {α β : Type} (f : α → List β) (l : List α) (k : Nat) : ((l.take k).flatMap f).length ≤ (l.flatMap f).length := by
  have : l.flatMap f = (l.take k).flatMap f ++ (l.drop k).flatMap f := by rw [← List.flatMap_append, List.take_append_drop]
  rw [this, List.length_append]; omega
end Go.Proofs.YthincafbmpialaaGreat
