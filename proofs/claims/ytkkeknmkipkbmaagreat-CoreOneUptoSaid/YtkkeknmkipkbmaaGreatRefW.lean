import Derived.Test.YtkkeknmkipkbmaaGreatFwC
import Derived.Test.YtkkeknmkipkbmaaGreatFwT
import Derived.Test.YtkkeknmkipkbmaaGreatChecked
set_option linter.unusedSectionVars false
set_option linter.unusedSimpArgs false
set_option linter.unusedVariables false
set_option maxRecDepth 10000
namespace Go.Proofs.YtkkeknmkipkbmaaGreat
open Go Go.Sc Go.Proofs
abbrev EncOk (n : Nat) : Prop := n ≤ 100000000000
def fl (f : Bool) : Nat := bif f then 1 else 0
def kf (ns : List Int) : List UInt8 := zw (u64 ns.length :: ns.map u64)
def Res.bv (o : Nat) (T : TypeId) (v : Value) (bs : List UInt8) : Res := (Res.row o T [v]).both (Res.vec T8 1 v bs.length (bs.map vb))
theorem _root_.Go.Sc.Own.splitBv {w0 w : World} {S : List Nat} {L : List Res} {i o : Nat} {T : TypeId} {v : Value} {bs : List UInt8} (hL : L[i]? = some (Res.bv o T v bs)) (h : Own w0 S L w) : Own w0 S (L.set i (Res.row o T [v]) ++ [Res.vec T8 1 v bs.length (bs.map vb)]) w := h.splitBoth hL
theorem _root_.Go.Sc.Own.joinBv {w0 w : World} {S : List Nat} {L : List Res} {i j o : Nat} {T : TypeId} {v : Value} {bs : List UInt8} (hij : i ≠ j) (h1 : L[i]? = some (Res.row o T [v])) (h2 : L[j]? = some (Res.vec T8 1 v bs.length (bs.map vb))) (h : Own w0 S L w) : Own w0 S ((L.set i (Res.bv o T v bs)).eraseIdx j) w := h.joinBoth hij h1 h2
theorem zAV (v : Value) (bs : List UInt8) (n : Nat) (w : World) (hn : n < 18446744073709551616) (hb : bs.length ≤ 1000000000000) (hv : Rd w [] (Res.sl v bs.length (bs.map vb))) : Rets Tryz.prog 145 #[v, Vn n] w fun u_ w' => ∃ (r : Value), u_ = r ∧ Own w [] [Res.vec 5 1 r (bs ++ num n).length ((bs ++ num n).map vb)] w' := by
  refine (zAW v bs n hn w hv.φ hb).mono ?_
  intro r w1 hO
  exact ⟨r, rfl, hO⟩
theorem j0 {S : List Nat} (o : Nat) (sl : Value) (bs : List UInt8) (lv : Value) (ns : List Nat) (w : World) (hns : ∀ n ∈ ns, n < 18446744073709551616) (hb : bs.length + 9 * ns.length ≤ 100000000000) (hin : Own w S [Res.bv o yA sl bs] w) (hl : Rd w S (Res.sl lv ns.length (ns.flatMap U1))) : Rets Tryz.prog 103 #[.pointer (some ⟨o, 0, none⟩), lv] w fun u_ w' => ∃ (sl' : Value), u_ = .tuple #[] ∧ Own w S [Res.bv o yA sl' (bs ++ zw ns)] w' := by
  refine zR Tryz.func103 rfl Tryz.ntmps103 hin ?_
  refine zB (zC rfl (zk (pR hl) rfl rfl (zC rfl (zA (zY ?_)))))
  refine xe (fun (k : Nat) (s : Value) => [(0, .pointer (some ⟨o, 0, none⟩)), (6, lv), (7, Vj ns.length), (8, Vj k)]) (fun (k : Nat) (s : Value) => k ≤ ns.length) (fun (k : Nat) (s : Value) => [Res.bv o yA s (bs ++ zw (ns.take k))]) (fun (k : Nat) (s : Value) => ns.length - k) (fun w' hw => ⟨0, sl, ⟨rfl, rfl, rfl, rfl, trivial⟩, Nat.zero_le _, by simpa [zw] using hw⟩) (fun k s g hΦ => ?_)
  have hle := yX (ns := ns.take k) (fun n hn => hns n (List.mem_of_mem_take hn))
  have hmin : (ns.take k).length = k := by simp; omega
  refine zB (z4 rfl rfl rfl (zA (zQ (zV rfl (fun c1 => ?_) (fun c1 => ?_)))))
  ·
   refine zP (zQ (zY (zB (z6 (pR hl) 1 k rfl rfl rfl (by omega) rfl (yY (pR hl) 1 k 0 (fun _ => rfl) rfl rfl (by omega) rfl rfl (zH rfl (zA (zZ (zC rfl (zC rfl (za rfl rfl (zL (o := 0) rfl rfl ?_))))))))))))
   refine xg [Res.row o yA [s], Res.vec 5 1 s (bs ++ zw (ns.take k)).length ((bs ++ zw (ns.take k)).map vb)] (fun w' hw => hw.splitBv (i := 0) (o := o) (T := yA) (v := s) (bs := (bs ++ zw (ns.take k))) rfl) ?_
   refine zI 0 (v := s) rfl rfl rfl rfl (zC rfl (zF rfl rfl (fun w' hw => (zAV s (bs ++ zw (ns.take k)) (zU ns k) w' (hns _ (zt (by omega))) (by first | omega | (simp <;> omega) | (constructor <;> (first | omega | (simp <;> omega)))) (hw.rdVec0 1 rfl)).mono ?_)))
   rintro r1_ w1 ⟨_, rfl, hO⟩
   refine (?_ : CL _ _ _ _ _ _ (Own w S [Res.row o yA [s], Res.vec 5 1 s (bs ++ zw (ns.take k)).length ((bs ++ zw (ns.take k)).map vb), Res.vec 5 1 r1_ ((bs ++ zw (ns.take k)) ++ num (zU ns k)).length (((bs ++ zw (ns.take k)) ++ num (zU ns k)).map vb)])) w1 (hw.frame0 hO)
   refine za rfl rfl (zL (o := 0) rfl rfl ?_)
   refine zd (fun w' hw => Own.cell1Vec (i := 2) rfl hw) (fun hc1_ => ?_)
   refine zf (cs := [s]) 0 rfl rfl rfl hc1_ rfl (zA (zZ (zu rfl rfl (zo (by omega)) rfl (zC rfl ?_))))
   exact zl (fun w' hw => ⟨k + 1, r1_, ⟨rfl, rfl, rfl, rfl, trivial⟩, (by omega), by rw [z5 (by omega)]; have h := (hw.joinBv (i := 0) (j := 2) (o := o) (T := yA) (v := r1_) (bs := bs ++ zw (ns.take k) ++ num (zU ns k)) (by decide) rfl rfl).one 0 rfl; simpa [zw] using h, (by omega)⟩)
  ·
   exact xQ rfl (yb rfl (fun w' hw => ⟨s, rfl, by rw [List.take_of_length_le (by omega)] at hw; exact hw⟩))
theorem zC7 {S : List Nat} (o : Nat) (sl : Value) (bs : List UInt8) (lv : Value) (ns : List Int) (w : World) (hb : bs.length + 9 * ns.length ≤ 100000000000) (hin : Own w S [Res.bv o yA sl bs] w) (hl : Rd w S (Res.sl lv ns.length (ns.flatMap I1))) : Rets Tryz.prog 130 #[.pointer (some ⟨o, 0, none⟩), lv] w fun u_ w' => ∃ (sl' : Value), u_ = .tuple #[] ∧ Own w S [Res.bv o yA sl' (bs ++ zw (ns.map u64))] w' := by
  refine zR Tryz.func130 rfl Tryz.ntmps130 hin ?_
  refine zB (zC rfl (zk (pR hl) rfl rfl (zC rfl (zA (zY ?_)))))
  refine xe (fun (k : Nat) (s : Value) => [(0, .pointer (some ⟨o, 0, none⟩)), (6, lv), (7, Vj ns.length), (8, Vj k)]) (fun (k : Nat) (s : Value) => k ≤ ns.length) (fun (k : Nat) (s : Value) => [Res.bv o yA s (bs ++ zw ((ns.map u64).take k))]) (fun (k : Nat) (s : Value) => ns.length - k) (fun w' hw => ⟨0, sl, ⟨rfl, rfl, rfl, rfl, trivial⟩, Nat.zero_le _, by simpa [zw] using hw⟩) (fun k s g hΦ => ?_)
  have hle := yX (ns := (ns.map u64).take k) (fun n hn => by obtain ⟨a, _, rfl⟩ := List.mem_map.1 (List.mem_of_mem_take hn); exact yl a)
  have hmin : ((ns.map u64).take k).length = k := by simp; omega
  refine zB (z4 rfl rfl rfl (zA (zQ (zV rfl (fun c1 => ?_) (fun c1 => ?_)))))
  ·
   refine zP (zQ (zY (zB (z6 (pR hl) 1 k rfl rfl rfl (by omega) rfl (yY (pR hl) 1 k 0 (fun _ => rfl) rfl rfl (by omega) rfl rfl (zH rfl (zA (zZ (zC rfl (zC rfl (yf (by kernel_rfl) rfl (y6 _) rfl ?_ (by kernel_rfl))))))))))))
   refine zy (e := 22) (sz := 1) (vs := [Vn (u64 (zU ns k))]) (by kernel_rfl) rfl rfl (by simp [Value.cells]) (by decide) rfl (fun b15 => zF rfl rfl (fun w' hw => (j0 o s (bs ++ zw ((ns.map u64).take k)) (.slice (some ⟨b15, 0, none⟩) 1 1) [u64 (zU ns k)] w' (by first | assumption | (simp [yl]; done) | (simp [yl]; omega) | (simp; omega)) (by first | omega | (simp <;> omega) | (constructor <;> (first | omega | (simp <;> omega)))) (hw.give [0] rfl (by decide)) (hw.rdVec 1 rfl [0] rfl rfl)).mono ?_))
   rintro _ w1 ⟨sl'1_, rfl, hO⟩
   refine (?_ : CL _ _ _ _ _ _ (Own w S [Res.vec 22 1 (.slice (some ⟨b15, 0, none⟩) 1 1) [u64 (zU ns k)].length ([u64 (zU ns k)].flatMap U1), Res.bv o yA sl'1_ ((bs ++ zw ((ns.map u64).take k)) ++ zw [u64 (zU ns k)])])) w1 (hw.frameL [0] rfl hO)
   refine zA (zZ (zu rfl rfl (zo (by omega)) rfl (zC rfl ?_)))
   exact zl (fun w' hw => ⟨k + 1, sl'1_, ⟨rfl, rfl, rfl, rfl, trivial⟩, (by omega), by rw [z5 (by simp; omega), show zU (ns.map u64) k = u64 (zU ns k) from zBP (by omega)]; simpa [zw] using hw.one 1 rfl, (by omega)⟩)
  ·
   exact xQ rfl (yb rfl (fun w' hw => ⟨s, rfl, by rw [List.take_of_length_le (by simp; omega)] at hw; exact hw⟩))
theorem zDx {S : List Nat} (o : Nat) (sl : Value) (bs : List UInt8) (lv : Value) (ns : List Int) (w : World) (hb : bs.length + 9 * (ns.length + 1) ≤ 100000000000) (hin : Own w S [Res.bv o yA sl bs] w) (hl : Rd w S (Res.sl lv ns.length (ns.flatMap I1))) : Rets Tryz.prog 152 #[.pointer (some ⟨o, 0, none⟩), lv] w fun u_ w' => ∃ (sl' : Value), u_ = .tuple #[] ∧ Own w S [Res.bv o yA sl' (bs ++ kf ns)] w' := by
  have h0 := yX (ns := [u64 ns.length]) (by simp [yl])
  simp only [List.length_cons, List.length_nil] at h0
  refine zR Tryz.func152 rfl Tryz.ntmps152 hin ?_
  refine zB (zC rfl (zC rfl (zk (pR hl) rfl rfl (zy (e := 3) (sz := 1) (vs := [Vj ns.length]) (by kernel_rfl) rfl rfl (by simp [Value.cells]) (by decide) rfl (fun b7 => zF rfl rfl (fun w' hw => (zC7 o _ _ (.slice (some ⟨b7, 0, none⟩) 1 1) [((ns.length : Nat) : Int)] w' (by first | omega | (simp <;> omega) | (constructor <;> (first | omega | (simp <;> omega)))) (hw.give [0] rfl (by decide)) (hw.rdVec 1 rfl [0] rfl rfl)).mono ?_))))))
  rintro _ w1 ⟨sl'1_, rfl, hO⟩
  refine (?_ : CL _ _ _ _ _ _ (Own w S [Res.vec 3 1 (.slice (some ⟨b7, 0, none⟩) 1 1) [((ns.length : Nat) : Int)].length ([((ns.length : Nat) : Int)].flatMap I1), Res.bv o yA sl'1_ (bs ++ zw ([((ns.length : Nat) : Int)].map u64))])) w1 (hw.frameL [0] rfl hO)
  refine zA (zZ (zC rfl (zC rfl (zF rfl rfl (fun w' hw => (zC7 o sl'1_ (bs ++ zw ([((ns.length : Nat) : Int)].map u64)) lv ns w' (by first | omega | (simp <;> omega) | (constructor <;> (first | omega | (simp <;> omega)))) (hw.give [1] rfl (by decide)) (hw.rdTo hl [1] rfl)).mono ?_)))))
  rintro _ w1 ⟨sl'2_, rfl, hO⟩
  refine (?_ : CL _ _ _ _ _ _ (Own w S [Res.vec 3 1 (.slice (some ⟨b7, 0, none⟩) 1 1) [((ns.length : Nat) : Int)].length ([((ns.length : Nat) : Int)].flatMap I1), Res.bv o yA sl'2_ ((bs ++ zw ([((ns.length : Nat) : Int)].map u64)) ++ zw (ns.map u64))])) w1 (hw.frameL [1] rfl hO)
  exact zl (yb rfl (fun w' hw => ⟨sl'2_, rfl, by have h := hw.one 1 rfl; simpa [kf, zw] using h⟩))
def le (n : Nat) : Nat → List UInt8
  | 0 => []
  | k + 1 => le n k ++ [UInt8.ofNat (n / 256 ^ k)]
theorem ku (d : List UInt8) (h : d.length < 18446744073709551616) : (dat d).length ≤ d.length + 9 := by
  have := zCk h
  simp [dat]; omega
theorem y2 {α β : Type} (f : α → List β) (l : List α) (k : Nat) : ((l.take k).flatMap f).length ≤ (l.flatMap f).length := by
  have : l.flatMap f = (l.take k).flatMap f ++ (l.drop k).flatMap f := by rw [← List.flatMap_append, List.take_append_drop]
  rw [this, List.length_append]; omega
end Go.Proofs.YtkkeknmkipkbmaaGreat
