import Derived.Test.YtcdiehplbmkmeaaCodec
import Derived.Test.YtcdiehplbmkmeaaFwT
import Derived.Test.YtcdiehplbmkmeaaChecked
set_option linter.unusedSectionVars false
set_option linter.unusedSimpArgs false
set_option linter.unusedVariables false
set_option maxRecDepth 10000
namespace Go.Proofs.Ytcdiehplbmkmeaa
open Go Go.Sc Go.Proofs
abbrev xQ : Nat := 106
def vu (n : Nat) : Value := .int .u64 n
def yX (ns : List Nat) : List UInt8 := ns.flatMap num
theorem zAG {ns : List Nat} (h : ∀ n ∈ ns, n < 18446744073709551616) : (yX ns).length ≤ 9 * ns.length := by
  induction ns with
  | nil => simp [yX]
  | cons n ns ih =>
    have h1 := zGM (h n (by simp))
    have h2 := ih (fun m hm => h m (by simp [hm]))
    simp only [yX, List.flatMap_cons, List.length_append, List.length_cons] at h2 ⊢
    omega
abbrev EncOk (n : Nat) : Prop := n ≤ 100000000000
def fl (f : Bool) : Nat := bif f then 1 else 0
def zH8 (ns : List Int) : List UInt8 := yX (u64 ns.length :: ns.map u64)
def Res.bv (o : Nat) (T : TypeId) (v : Value) (bs : List UInt8) : Res := (Res.row o T [v]).both (Res.vec T8 1 v bs.length (bs.map vb))
theorem _root_.Go.Sc.Own.splitBv {w0 w : World} {S : List Nat} {L : List Res} {i o : Nat} {T : TypeId} {v : Value} {bs : List UInt8} (hL : L[i]? = some (Res.bv o T v bs)) (h : Own w0 S L w) : Own w0 S (L.set i (Res.row o T [v]) ++ [Res.vec T8 1 v bs.length (bs.map vb)]) w := h.splitBoth hL
theorem _root_.Go.Sc.Own.joinBv {w0 w : World} {S : List Nat} {L : List Res} {i j o : Nat} {T : TypeId} {v : Value} {bs : List UInt8} (hij : i ≠ j) (h1 : L[i]? = some (Res.row o T [v])) (h2 : L[j]? = some (Res.vec T8 1 v bs.length (bs.map vb))) (h : Own w0 S L w) : Own w0 S ((L.set i (Res.bv o T v bs)).eraseIdx j) w := h.joinBoth hij h1 h2
theorem zCn (v : Value) (bs : List UInt8) (n : Nat) (w : World) (hn : n < 18446744073709551616) (hb : bs.length ≤ 1000000000000) (hv : Rd w [] (Res.sl v bs.length (bs.map vb))) : Rets Try.prog 67 #[v, Vn n] w fun u_ w' => ∃ (r : Value), u_ = r ∧ Own w [] [Res.vec 5 1 r (bs ++ num n).length ((bs ++ num n).map vb)] w' := by
  refine (zC8 v bs n hn w hv.φ hb).mono ?_
  intro r w1 hO
  exact ⟨r, rfl, hO⟩
theorem zD9 {S : List Nat} (o : Nat) (sl : Value) (bs : List UInt8) (lv : Value) (ns : List Nat) (w : World) (hns : ∀ n ∈ ns, n < 18446744073709551616) (hb : bs.length + 9 * ns.length ≤ 100000000000) (hin : Own w S [Res.bv o xQ sl bs] w) (hl : Rd w S (Res.sl lv ns.length (ns.flatMap U1))) : Rets Try.prog 40 #[.pointer (some ⟨o, 0, none⟩), lv] w fun u_ w' => ∃ (sl' : Value), u_ = .tuple #[] ∧ Own w S [Res.bv o xQ sl' (bs ++ yX ns)] w' := by
  refine zh Try.func40 rfl Try.ntmps40 hin ?_
  refine zB (zC rfl (yL (pR hl) rfl rfl (zC rfl (zA (zS ?_)))))
  refine y4 (fun (k : Nat) (s : Value) => [(0, .pointer (some ⟨o, 0, none⟩)), (6, lv), (7, Vj ns.length), (8, Vj k)]) (fun (k : Nat) (s : Value) => k ≤ ns.length) (fun (k : Nat) (s : Value) => [Res.bv o xQ s (bs ++ yX (ns.take k))]) (fun (k : Nat) (s : Value) => ns.length - k) (fun w' hw => ⟨0, sl, ⟨rfl, rfl, rfl, rfl, trivial⟩, Nat.zero_le _, by simpa [yX] using hw⟩) (fun k s g hΦ => ?_)
  have hle := zAG (ns := ns.take k) (fun n hn => hns n (List.mem_of_mem_take hn))
  have hmin : (ns.take k).length = k := by simp; omega
  refine zB (yO rfl rfl rfl (zA (zM (zU rfl (fun c1 => ?_) (fun c1 => ?_)))))
  ·
   refine zL (zM (zS (zB (zD (pR hl) 1 k rfl rfl rfl (by omega) rfl (zN (pR hl) 1 k 0 (fun _ => rfl) rfl rfl (by omega) rfl rfl (zH rfl (zA (zg (zC rfl (zC rfl (yB rfl rfl (zW (o := 0) rfl rfl ?_))))))))))))
   refine zBo [Res.row o xQ [s], Res.vec 5 1 s (bs ++ yX (ns.take k)).length ((bs ++ yX (ns.take k)).map vb)] (fun w' hw => hw.splitBv (i := 0) (o := o) (T := xQ) (v := s) (bs := (bs ++ yX (ns.take k))) rfl) ?_
   refine zd 0 (v := s) rfl rfl rfl rfl (zC rfl (zQ rfl rfl (fun w' hw => (zCn s (bs ++ yX (ns.take k)) (zG ns k) w' (hns _ (yH (by omega))) (by first | omega | (simp <;> omega) | (constructor <;> (first | omega | (simp <;> omega)))) (hw.rdVec0 1 rfl)).mono ?_)))
   rintro r1_ w1 ⟨_, rfl, hO⟩
   refine (?_ : CL _ _ _ _ _ _ (Own w S [Res.row o xQ [s], Res.vec 5 1 s (bs ++ yX (ns.take k)).length ((bs ++ yX (ns.take k)).map vb), Res.vec 5 1 r1_ ((bs ++ yX (ns.take k)) ++ num (zG ns k)).length (((bs ++ yX (ns.take k)) ++ num (zG ns k)).map vb)])) w1 (hw.frame0 hO)
   refine yB rfl rfl (zW (o := 0) rfl rfl ?_)
   refine zAs (fun w' hw => Own.cell1Vec (i := 2) rfl hw) (fun hc1_ => ?_)
   refine zAb (cs := [s]) 0 rfl rfl rfl hc1_ rfl (zA (zg (zw rfl rfl (zt (by omega)) rfl (zC rfl ?_))))
   exact zf (fun w' hw => ⟨k + 1, r1_, ⟨rfl, rfl, rfl, rfl, trivial⟩, (by omega), by rw [xA (by omega)]; have h := (hw.joinBv (i := 0) (j := 2) (o := o) (T := xQ) (v := r1_) (bs := bs ++ yX (ns.take k) ++ num (zG ns k)) (by decide) rfl rfl).one 0 rfl; simpa [yX] using h, (by omega)⟩)
  ·
   exact yU rfl (ji rfl (fun w' hw => ⟨s, rfl, by rw [List.take_of_length_le (by omega)] at hw; exact hw⟩))
end Go.Proofs.Ytcdiehplbmkmeaa
