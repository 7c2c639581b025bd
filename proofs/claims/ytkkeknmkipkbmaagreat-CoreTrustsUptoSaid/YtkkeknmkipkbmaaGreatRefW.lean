import Derived.Test.YtkkeknmkipkbmaaGreatFwS
import Derived.Test.YtkkeknmkipkbmaaGreatFwT
import Derived.Test.YtkkeknmkipkbmaaGreatChecked
set_option linter.unusedSectionVars false
set_option linter.unusedSimpArgs false
set_option linter.unusedVariables false
set_option maxRecDepth 10000
namespace Go.Proofs.YtkkeknmkipkbmaaGreat
open Go Go.Sc Go.Proofs
abbrev EncOk (n : Nat) : Prop := n ≤ 100000000000
def fl (f : Bool) : Nat := bif f then 1 else 0
theorem zHg (b : Bool) : fl b < 18446744073709551616 := by cases b <;> simp [fl]
def zAt (ns : List Int) : List UInt8 := zp (u64 ns.length :: ns.map u64)
def Res.bv (o : Nat) (T : TypeId) (v : Value) (bs : List UInt8) : Res := (Res.row o T [v]).both (Res.vec T8 1 v bs.length (bs.map vb))
theorem _root_.Go.Sc.Own.splitBv {w0 w : World} {S : List Nat} {L : List Res} {i o : Nat} {T : TypeId} {v : Value} {bs : List UInt8} (hL : L[i]? = some (Res.bv o T v bs)) (h : Own w0 S L w) : Own w0 S (L.set i (Res.row o T [v]) ++ [Res.vec T8 1 v bs.length (bs.map vb)]) w := h.splitBoth hL
theorem _root_.Go.Sc.Own.joinBv {w0 w : World} {S : List Nat} {L : List Res} {i j o : Nat} {T : TypeId} {v : Value} {bs : List UInt8} (hij : i ≠ j) (h1 : L[i]? = some (Res.row o T [v])) (h2 : L[j]? = some (Res.vec T8 1 v bs.length (bs.map vb))) (h : Own w0 S L w) : Own w0 S ((L.set i (Res.bv o T v bs)).eraseIdx j) w := h.joinBoth hij h1 h2
theorem zDB (v : Value) (bs : List UInt8) (n : Nat) (w : World) (hn : n < 18446744073709551616) (hb : bs.length ≤ 1000000000000) (hv : Rd w [] (Res.sl v bs.length (bs.map vb))) : Rets Tryz.prog 145 #[v, Vn n] w fun u_ w' => ∃ (r : Value), u_ = r ∧ Own w [] [Res.vec 5 1 r (bs ++ num n).length ((bs ++ num n).map vb)] w' := by
  refine (zDM v bs n hn w hv.φ hb).mono ?_
  intro r w1 hO
  exact ⟨r, rfl, hO⟩
theorem js {S : List Nat} (o : Nat) (sl : Value) (bs : List UInt8) (lv : Value) (ns : List Nat) (w : World) (hns : ∀ n ∈ ns, n < 18446744073709551616) (hb : bs.length + 9 * ns.length ≤ 100000000000) (hin : Own w S [Res.bv o yW sl bs] w) (hl : Rd w S (Res.sl lv ns.length (ns.flatMap U1))) : Rets Tryz.prog 103 #[.pointer (some ⟨o, 0, none⟩), lv] w fun u_ w' => ∃ (sl' : Value), u_ = .tuple #[] ∧ Own w S [Res.bv o yW sl' (bs ++ zp ns)] w' := by
  refine zT Tryz.func103 rfl Tryz.ntmps103 hin ?_
  refine zB (zD rfl (zq (pR hl) rfl rfl (zD rfl (zA (zc ?_)))))
  refine y9 (fun (k : Nat) (s : Value) => [(0, .pointer (some ⟨o, 0, none⟩)), (6, lv), (7, Vj ns.length), (8, Vj k)]) (fun (k : Nat) (s : Value) => k ≤ ns.length) (fun (k : Nat) (s : Value) => [Res.bv o yW s (bs ++ zp (ns.take k))]) (fun (k : Nat) (s : Value) => ns.length - k) (fun w' hw => ⟨0, sl, ⟨rfl, rfl, rfl, rfl, trivial⟩, Nat.zero_le _, by simpa [zp] using hw⟩) (fun k s g hΦ => ?_)
  have hle := yI (ns := ns.take k) (fun n hn => hns n (List.mem_of_mem_take hn))
  have hmin : (ns.take k).length = k := by simp; omega
  refine zB (yJ rfl rfl rfl (zA (zQ (zf rfl (fun c1 => ?_) (fun c1 => ?_)))))
  ·
   refine zR (zQ (zc (zB (zm (pR hl) 1 k rfl rfl rfl (by omega) rfl (yR (pR hl) 1 k 0 (fun _ => rfl) rfl rfl (by omega) rfl rfl (zK rfl (zA (zW (zD rfl (zD rfl (zh rfl rfl (zJ (o := 0) rfl rfl ?_))))))))))))
   refine zx [Res.row o yW [s], Res.vec 5 1 s (bs ++ zp (ns.take k)).length ((bs ++ zp (ns.take k)).map vb)] (fun w' hw => hw.splitBv (i := 0) (o := o) (T := yW) (v := s) (bs := (bs ++ zp (ns.take k))) rfl) ?_
   refine zM 0 (v := s) rfl rfl rfl rfl (zD rfl (zH rfl rfl (fun w' hw => (zDB s (bs ++ zp (ns.take k)) (zG ns k) w' (hns _ (zl (by omega))) (by first | omega | (simp <;> omega) | (constructor <;> (first | omega | (simp <;> omega)))) (hw.rdVec0 1 rfl)).mono ?_)))
   rintro r1_ w1 ⟨_, rfl, hO⟩
   refine (?_ : CL _ _ _ _ _ _ (Own w S [Res.row o yW [s], Res.vec 5 1 s (bs ++ zp (ns.take k)).length ((bs ++ zp (ns.take k)).map vb), Res.vec 5 1 r1_ ((bs ++ zp (ns.take k)) ++ num (zG ns k)).length (((bs ++ zp (ns.take k)) ++ num (zG ns k)).map vb)])) w1 (hw.frame0 hO)
   refine zh rfl rfl (zJ (o := 0) rfl rfl ?_)
   refine zg (fun w' hw => Own.cell1Vec (i := 2) rfl hw) (fun hc1_ => ?_)
   refine zo (cs := [s]) 0 rfl rfl rfl hc1_ rfl (zA (zW (z3 rfl rfl (zy (by omega)) rfl (zD rfl ?_))))
   exact zj (fun w' hw => ⟨k + 1, r1_, ⟨rfl, rfl, rfl, rfl, trivial⟩, (by omega), by rw [zu (by omega)]; have h := (hw.joinBv (i := 0) (j := 2) (o := o) (T := yW) (v := r1_) (bs := bs ++ zp (ns.take k) ++ num (zG ns k)) (by decide) rfl rfl).one 0 rfl; simpa [zp] using h, (by omega)⟩)
  ·
   exact kf rfl (yM rfl (fun w' hw => ⟨s, rfl, by rw [List.take_of_length_le (by omega)] at hw; exact hw⟩))
theorem zBV {S : List Nat} (o : Nat) (sl : Value) (bs : List UInt8) (lv : Value) (ns : List Int) (w : World) (hb : bs.length + 9 * ns.length ≤ 100000000000) (hin : Own w S [Res.bv o yW sl bs] w) (hl : Rd w S (Res.sl lv ns.length (ns.flatMap I1))) : Rets Tryz.prog 130 #[.pointer (some ⟨o, 0, none⟩), lv] w fun u_ w' => ∃ (sl' : Value), u_ = .tuple #[] ∧ Own w S [Res.bv o yW sl' (bs ++ zp (ns.map u64))] w' := by
  refine zT Tryz.func130 rfl Tryz.ntmps130 hin ?_
  refine zB (zD rfl (zq (pR hl) rfl rfl (zD rfl (zA (zc ?_)))))
  refine y9 (fun (k : Nat) (s : Value) => [(0, .pointer (some ⟨o, 0, none⟩)), (6, lv), (7, Vj ns.length), (8, Vj k)]) (fun (k : Nat) (s : Value) => k ≤ ns.length) (fun (k : Nat) (s : Value) => [Res.bv o yW s (bs ++ zp ((ns.map u64).take k))]) (fun (k : Nat) (s : Value) => ns.length - k) (fun w' hw => ⟨0, sl, ⟨rfl, rfl, rfl, rfl, trivial⟩, Nat.zero_le _, by simpa [zp] using hw⟩) (fun k s g hΦ => ?_)
  have hle := yI (ns := (ns.map u64).take k) (fun n hn => by obtain ⟨a, _, rfl⟩ := List.mem_map.1 (List.mem_of_mem_take hn); exact y2 a)
  have hmin : ((ns.map u64).take k).length = k := by simp; omega
  refine zB (yJ rfl rfl rfl (zA (zQ (zf rfl (fun c1 => ?_) (fun c1 => ?_)))))
  ·
   refine zR (zQ (zc (zB (zm (pR hl) 1 k rfl rfl rfl (by omega) rfl (yR (pR hl) 1 k 0 (fun _ => rfl) rfl rfl (by omega) rfl rfl (zK rfl (zA (zW (zD rfl (zD rfl (xe (by kernel_rfl) rfl (kM _) rfl ?_ (by kernel_rfl))))))))))))
   refine z4 (e := 22) (sz := 1) (vs := [Vn (u64 (zG ns k))]) (by kernel_rfl) rfl rfl (by simp [Value.cells]) (by decide) rfl (fun b15 => zH rfl rfl (fun w' hw => (js o s (bs ++ zp ((ns.map u64).take k)) (.slice (some ⟨b15, 0, none⟩) 1 1) [u64 (zG ns k)] w' (by first | assumption | (simp [y2]; done) | (simp [y2]; omega) | (simp; omega)) (by first | omega | (simp <;> omega) | (constructor <;> (first | omega | (simp <;> omega)))) (hw.give [0] rfl (by decide)) (hw.rdVec 1 rfl [0] rfl rfl)).mono ?_))
   rintro _ w1 ⟨sl'1_, rfl, hO⟩
   refine (?_ : CL _ _ _ _ _ _ (Own w S [Res.vec 22 1 (.slice (some ⟨b15, 0, none⟩) 1 1) [u64 (zG ns k)].length ([u64 (zG ns k)].flatMap U1), Res.bv o yW sl'1_ ((bs ++ zp ((ns.map u64).take k)) ++ zp [u64 (zG ns k)])])) w1 (hw.frameL [0] rfl hO)
   refine zA (zW (z3 rfl rfl (zy (by omega)) rfl (zD rfl ?_)))
   exact zj (fun w' hw => ⟨k + 1, sl'1_, ⟨rfl, rfl, rfl, rfl, trivial⟩, (by omega), by rw [zu (by simp; omega), show zG (ns.map u64) k = u64 (zG ns k) from jv (by omega)]; simpa [zp] using hw.one 1 rfl, (by omega)⟩)
  ·
   exact kf rfl (yM rfl (fun w' hw => ⟨s, rfl, by rw [List.take_of_length_le (by simp; omega)] at hw; exact hw⟩))
theorem zH9 {S : List Nat} (o : Nat) (sl : Value) (bs : List UInt8) (lv : Value) (fs : List Bool) (w : World) (hb : bs.length + 9 * fs.length ≤ 100000000000) (hin : Own w S [Res.bv o yW sl bs] w) (hl : Rd w S (Res.sl lv fs.length (fs.flatMap B1))) : Rets Tryz.prog 131 #[.pointer (some ⟨o, 0, none⟩), lv] w fun u_ w' => ∃ (sl' : Value), u_ = .tuple #[] ∧ Own w S [Res.bv o yW sl' (bs ++ zp (fs.map fl))] w' := by
  refine zT Tryz.func131 rfl Tryz.ntmps131 hin ?_
  refine zB (zD rfl (zq (pR hl) rfl rfl (zD rfl (zA (zc ?_)))))
  refine y9 (fun (k : Nat) (s : Value) => [(0, .pointer (some ⟨o, 0, none⟩)), (6, lv), (7, Vj fs.length), (8, Vj k)]) (fun (k : Nat) (s : Value) => k ≤ fs.length) (fun (k : Nat) (s : Value) => [Res.bv o yW s (bs ++ zp ((fs.map fl).take k))]) (fun (k : Nat) (s : Value) => fs.length - k) (fun w' hw => ⟨0, sl, ⟨rfl, rfl, rfl, rfl, trivial⟩, Nat.zero_le _, by simpa [zp] using hw⟩) (fun k s g hΦ => ?_)
  have hle := yI (ns := (fs.map fl).take k) (fun n hn => by obtain ⟨a, _, rfl⟩ := List.mem_map.1 (List.mem_of_mem_take hn); exact zHg a)
  have hmin : ((fs.map fl).take k).length = k := by simp; omega
  refine zB (yJ rfl rfl rfl (zA (zQ (zf rfl (fun c1 => ?_) (fun c1 => ?_)))))
  ·
   refine zR (zQ (zc (zB (zm (pR hl) 1 k rfl rfl rfl (by omega) rfl (yR (pR hl) 1 k 0 (fun _ => rfl) rfl rfl (by omega) rfl rfl (zK rfl (zA (zB (zD rfl (zA (ja rfl (fun c2 => ?_) (fun c2 => ?_))))))))))))
   ·
    refine zW (zD rfl (z4 (e := 22) (sz := 1) (vs := [Vn 1]) (by kernel_rfl) rfl rfl (by simp [Value.cells]) (by decide) rfl (fun b14 => zH rfl rfl (fun w' hw => (js o s (bs ++ zp ((fs.map fl).take k)) (.slice (some ⟨b14, 0, none⟩) 1 1) [1] w' (by first | assumption | (simp [y2]; done) | (simp [y2]; omega) | (simp; omega)) (by first | omega | (simp <;> omega) | (constructor <;> (first | omega | (simp <;> omega)))) (hw.give [0] rfl (by decide)) (hw.rdVec 1 rfl [0] rfl rfl)).mono ?_))))
    rintro _ w1 ⟨sl'1_, rfl, hO⟩
    refine (?_ : CL _ _ _ _ _ _ (Own w S [Res.vec 22 1 (.slice (some ⟨b14, 0, none⟩) 1 1) [1].length ([1].flatMap U1), Res.bv o yW sl'1_ ((bs ++ zp ((fs.map fl).take k)) ++ zp [1])])) w1 (hw.frameL [0] rfl hO)
    refine zA (zW (z3 rfl rfl (zy (by omega)) rfl (zD rfl ?_)))
    exact zj (fun w' hw => ⟨k + 1, sl'1_, ⟨rfl, rfl, rfl, rfl, trivial⟩, (by omega), by rw [zu (by simp; omega), show zG (fs.map fl) k = fl (zG fs k) from jv (by omega), c2]; simpa [zp, fl] using hw.one 1 rfl, (by omega)⟩)
   ·
    refine zW (zD rfl (z4 (e := 22) (sz := 1) (vs := [Vn 0]) (by kernel_rfl) rfl rfl (by simp [Value.cells]) (by decide) rfl (fun b17 => zH rfl rfl (fun w' hw => (js o s (bs ++ zp ((fs.map fl).take k)) (.slice (some ⟨b17, 0, none⟩) 1 1) [0] w' (by first | assumption | (simp [y2]; done) | (simp [y2]; omega) | (simp; omega)) (by first | omega | (simp <;> omega) | (constructor <;> (first | omega | (simp <;> omega)))) (hw.give [0] rfl (by decide)) (hw.rdVec 1 rfl [0] rfl rfl)).mono ?_))))
    rintro _ w1 ⟨sl'2_, rfl, hO⟩
    refine (?_ : CL _ _ _ _ _ _ (Own w S [Res.vec 22 1 (.slice (some ⟨b17, 0, none⟩) 1 1) [0].length ([0].flatMap U1), Res.bv o yW sl'2_ ((bs ++ zp ((fs.map fl).take k)) ++ zp [0])])) w1 (hw.frameL [0] rfl hO)
    refine zA (zW (z3 rfl rfl (zy (by omega)) rfl (zD rfl ?_)))
    exact zj (fun w' hw => ⟨k + 1, sl'2_, ⟨rfl, rfl, rfl, rfl, trivial⟩, (by omega), by rw [zu (by simp; omega), show zG (fs.map fl) k = fl (zG fs k) from jv (by omega), c2]; simpa [zp, fl] using hw.one 1 rfl, (by omega)⟩)
  ·
   exact kf rfl (yM rfl (fun w' hw => ⟨s, rfl, by rw [List.take_of_length_le (by simp; omega)] at hw; exact hw⟩))
theorem zIr {S : List Nat} (o : Nat) (sl : Value) (bs : List UInt8) (lv : Value) (ns : List Int) (w : World) (hb : bs.length + 9 * (ns.length + 1) ≤ 100000000000) (hin : Own w S [Res.bv o yW sl bs] w) (hl : Rd w S (Res.sl lv ns.length (ns.flatMap I1))) : Rets Tryz.prog 152 #[.pointer (some ⟨o, 0, none⟩), lv] w fun u_ w' => ∃ (sl' : Value), u_ = .tuple #[] ∧ Own w S [Res.bv o yW sl' (bs ++ zAt ns)] w' := by
  have h0 := yI (ns := [u64 ns.length]) (by simp [y2])
  simp only [List.length_cons, List.length_nil] at h0
  refine zT Tryz.func152 rfl Tryz.ntmps152 hin ?_
  refine zB (zD rfl (zD rfl (zq (pR hl) rfl rfl (z4 (e := 3) (sz := 1) (vs := [Vj ns.length]) (by kernel_rfl) rfl rfl (by simp [Value.cells]) (by decide) rfl (fun b7 => zH rfl rfl (fun w' hw => (zBV o _ _ (.slice (some ⟨b7, 0, none⟩) 1 1) [((ns.length : Nat) : Int)] w' (by first | omega | (simp <;> omega) | (constructor <;> (first | omega | (simp <;> omega)))) (hw.give [0] rfl (by decide)) (hw.rdVec 1 rfl [0] rfl rfl)).mono ?_))))))
  rintro _ w1 ⟨sl'1_, rfl, hO⟩
  refine (?_ : CL _ _ _ _ _ _ (Own w S [Res.vec 3 1 (.slice (some ⟨b7, 0, none⟩) 1 1) [((ns.length : Nat) : Int)].length ([((ns.length : Nat) : Int)].flatMap I1), Res.bv o yW sl'1_ (bs ++ zp ([((ns.length : Nat) : Int)].map u64))])) w1 (hw.frameL [0] rfl hO)
  refine zA (zW (zD rfl (zD rfl (zH rfl rfl (fun w' hw => (zBV o sl'1_ (bs ++ zp ([((ns.length : Nat) : Int)].map u64)) lv ns w' (by first | omega | (simp <;> omega) | (constructor <;> (first | omega | (simp <;> omega)))) (hw.give [1] rfl (by decide)) (hw.rdTo hl [1] rfl)).mono ?_)))))
  rintro _ w1 ⟨sl'2_, rfl, hO⟩
  refine (?_ : CL _ _ _ _ _ _ (Own w S [Res.vec 3 1 (.slice (some ⟨b7, 0, none⟩) 1 1) [((ns.length : Nat) : Int)].length ([((ns.length : Nat) : Int)].flatMap I1), Res.bv o yW sl'2_ ((bs ++ zp ([((ns.length : Nat) : Int)].map u64)) ++ zp (ns.map u64))])) w1 (hw.frameL [1] rfl hO)
  exact zj (yM rfl (fun w' hw => ⟨sl'2_, rfl, by have h := hw.one 1 rfl; simpa [zAt, zp] using h⟩))
def le (n : Nat) : Nat → List UInt8
  | 0 => []
  | k + 1 => le n k ++ [UInt8.ofNat (n / 256 ^ k)]
theorem jA (d : List UInt8) (h : d.length < 18446744073709551616) : (dat d).length ≤ d.length + 9 := by
  have := zHa h
  simp [dat]; omega
theorem xK {α β : Type} (f : α → List β) (l : List α) (k : Nat) : ((l.take k).flatMap f).length ≤ (l.flatMap f).length := by
  have : l.flatMap f = (l.take k).flatMap f ++ (l.drop k).flatMap f := by rw [← List.flatMap_append, List.take_append_drop]
  rw [this, List.length_append]; omega
end Go.Proofs.YtkkeknmkipkbmaaGreat
