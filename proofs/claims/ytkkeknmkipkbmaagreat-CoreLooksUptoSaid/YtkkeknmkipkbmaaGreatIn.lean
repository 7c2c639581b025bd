import Derived.Test.YtkkeknmkipkbmaaGreatFwS
import Derived.Test.YtkkeknmkipkbmaaGreatFwT
import Derived.Test.YtkkeknmkipkbmaaGreatChecked
set_option linter.unusedSectionVars false
set_option linter.unusedSimpArgs false
set_option linter.unusedVariables false
set_option maxRecDepth 10000
namespace Go.Proofs.YtkkeknmkipkbmaaGreat
open Go Go.Sc Go.Proofs
abbrev EncOk(n:Nat):Prop:=n≤100000000000
def fl(f:Bool):Nat:=bif f then 1 else 0
theorem zMY(b:Bool):fl b<18446744073709551616:=by cases b<;>simp[fl]
def zCm(ns:List Int):List UInt8:=yK (u64 ns.length::ns.map u64)
def Res.bv(o:Nat)(T:TypeId)(v:Value)(bs:List UInt8):Res:=(Res.row o T [v]).both (Res.vec T8 1 v bs.length (bs.map vb))
theorem _root_.Go.Sc.Own.splitBv{w0 w:World}{S:List Nat}{L:List Res}{i o:Nat}{T:TypeId}{v:Value}{bs:List UInt8}(hL:L[i]?=some (Res.bv o T v bs))(h:Own w0 S L w):Own w0 S (L.set i (Res.row o T [v])++[Res.vec T8 1 v bs.length (bs.map vb)]) w:=h.splitBoth hL
theorem _root_.Go.Sc.Own.joinBv{w0 w:World}{S:List Nat}{L:List Res}{i j o:Nat}{T:TypeId}{v:Value}{bs:List UInt8}(hij:i≠j)(h1:L[i]?=some (Res.row o T [v]))(h2:L[j]?=some (Res.vec T8 1 v bs.length (bs.map vb)))(h:Own w0 S L w):Own w0 S ((L.set i (Res.bv o T v bs)).eraseIdx j) w:=h.joinBoth hij h1 h2
theorem zFn(v:Value)(bs:List UInt8)(n:Nat)(w:World)(hn:n<18446744073709551616)(hb:bs.length≤1000000000000)(hv:Rd w [] (Res.sl v bs.length (bs.map vb))):Rets Tryz.prog 145 #[v,Vn n] w fun u_ w'=>∃ (r:Value),u_=r∧Own w [] [Res.vec 5 1 r (bs++num n).length ((bs++num n).map vb)] w':=by
  refine(zFw v bs n hn w hv.φ hb).mono ?_
  intro r w1 hO
  exact⟨r,O,hO⟩
theorem _root_.Go.Sc.qS{p:Prop}(h:p:=by first|omega|(simp<;>omega)|(constructor<;>(first|omega|(simp<;>omega)))):p:=h
theorem zBB{S:List Nat}(o:Nat)(sl:Value)(bs:List UInt8)(lv:Value)(ns:List Nat)(w:World)(hns:∀ n∈ns,n<18446744073709551616)(hb:bs.length+9*ns.length≤100000000000)(hin:Own w S [Res.bv o xP sl bs] w)(hl:Rd w S (Res.sl lv ns.length (ns.flatMap U1))):Rets Tryz.prog 103 #[.pointer (some ⟨o,0,none⟩),lv] w fun u_ w'=>∃ (sl':Value),u_= .tuple #[]∧Own w S [Res.bv o xP sl' (bs++yK ns)] w':=by
  refine zW Tryz.func103 O Tryz.ntmps103 hin ?_
  refine zC (zD O (zp (pR hl) O O (zD O (zA (zZ ?_)))))
  refine y7 (fun(k:Nat) (s:Value)=>[(0, .pointer (some ⟨o,0,none⟩)),(6,lv),(7,Vj ns.length),(8,Vj k)]) (fun(k:Nat) (s:Value)=>k≤ns.length) (fun(k:Nat) (s:Value)=>[Res.bv o xP s (bs++yK (ns.take k))]) (fun(k:Nat) (s:Value)=>ns.length - k) (fun w' hw=>⟨0,sl,⟨O,O,O,O,trivial⟩,Nat.zero_le _,by simpa [yK]using hw⟩) (fun k s g hΦ=> ?_)
  have hle:=yS (ns:=ns.take k) (fun n hn=>hns n (List.mem_of_mem_take hn))
  have hmin:(ns.take k).length=k:=by simp;omega
  refine zC (yI O O O (zA (zP (za O (fun c1=> ?_) (fun c1=> ?_)))))
  ·refine zQ (zP (zZ (zC (zk (pR hl) 1 k O O O V O (yH (pR hl) 1 k 0 (fun _=>O) O O V O O (zI O (zA (zV (zD O (zD O (zb O O (zK (o:=0) O O ?_))))))))))))
   refine z4 [Res.row o xP [s],Res.vec 5 1 s (bs++yK (ns.take k)).length ((bs++yK (ns.take k)).map vb)] (fun w' hw=>hw.splitBv (i:=0) (o:=o) (T:=xP) (v:=s) (bs:=(bs++yK (ns.take k))) O) ?_
   refine zM 0 (v:=s) O O O O (zD O (a_call O O (fun w' hw=>(zFn s (bs++yK (ns.take k)) (zG ns k) w' (hns _ (zd V)) qS (hw.qq 1 O)).mono ?_)))
   rintro r1_ w1 ⟨_,rfl,hO⟩
   refine O3 ?_ (hw.qi hO)
   refine zb O O (zK (o:=0) O O ?_)
   refine zN (fun w' hw=>Own.qg (i:=2) O hw) (fun hc1_=> ?_)
   refine zn (cs:=[s]) 0 O O O hc1_ O (zA (zV (zt O O (zr V) O (zD O ?_))))
   exact zg (fun w' hw=>⟨k+1,r1_,⟨O,O,O,O,trivial⟩,V,by rw[zu V];have h:=(hw.joinBv (i:=0) (j:=2) (o:=o) (T:=xP) (v:=r1_) (bs:=bs++yK (ns.take k)++num (zG ns k)) qM rfl rfl).one 0 rfl;simpa [yK]using h,V⟩)
  exact kw O (yQ O (fun w' hw=>⟨s,O,by rw[List.take_of_length_le V]at hw;exact hw⟩))
theorem _root_.Go.Sc.wg{p:Prop}(h:p:=by first|assumption|(simp[xR];done)|(simp[xR];omega)|(simp;omega)):p:=h
theorem zC9{S:List Nat}(o:Nat)(sl:Value)(bs:List UInt8)(lv:Value)(ns:List Int)(w:World)(hb:bs.length+9*ns.length≤100000000000)(hin:Own w S [Res.bv o xP sl bs] w)(hl:Rd w S (Res.sl lv ns.length (ns.flatMap I1))):Rets Tryz.prog 130 #[.pointer (some ⟨o,0,none⟩),lv] w fun u_ w'=>∃ (sl':Value),u_= .tuple #[]∧Own w S [Res.bv o xP sl' (bs++yK (ns.map u64))] w':=by
  refine zW Tryz.func130 O Tryz.ntmps130 hin ?_
  refine zC (zD O (zp (pR hl) O O (zD O (zA (zZ ?_)))))
  refine y7 (fun(k:Nat) (s:Value)=>[(0, .pointer (some ⟨o,0,none⟩)),(6,lv),(7,Vj ns.length),(8,Vj k)]) (fun(k:Nat) (s:Value)=>k≤ns.length) (fun(k:Nat) (s:Value)=>[Res.bv o xP s (bs++yK ((ns.map u64).take k))]) (fun(k:Nat) (s:Value)=>ns.length - k) (fun w' hw=>⟨0,sl,⟨O,O,O,O,trivial⟩,Nat.zero_le _,by simpa [yK]using hw⟩) (fun k s g hΦ=> ?_)
  have hle:=yS (ns:=(ns.map u64).take k) (fun n hn=>by obtain⟨a,_,rfl⟩:=List.mem_map.1 (List.mem_of_mem_take hn);exact xR a)
  have hmin:((ns.map u64).take k).length=k:=by simp;omega
  refine zC (yI O O O (zA (zP (za O (fun c1=> ?_) (fun c1=> ?_)))))
  ·refine zQ (zP (zZ (zC (zk (pR hl) 1 k O O O V O (yH (pR hl) 1 k 0 (fun _=>O) O O V O O (zI O (zA (zV (zD O (zD O (xt qN O (jM _) O ?_ qN)))))))))))
   refine zx (e:=22) (sz:=1) (vs:=[Vn (u64 (zG ns k))]) qN O O qR qM O (fun b15=>a_call O O (fun w' hw=>(zBB o s (bs++yK ((ns.map u64).take k)) (.slice (some ⟨b15,0,none⟩) 1 1) [u64 (zG ns k)] w' wg qS (hw.give [0] O qM) (hw.rdVec 1 O [0] O O)).mono ?_))
   rintro _ w1 ⟨sl'1_,rfl,hO⟩
   refine O2 ?_ (hw.qh [0] O hO)
   refine zA (zV (zt O O (zr V) O (zD O ?_)))
   exact zg (fun w' hw=>⟨k+1,sl'1_,⟨O,O,O,O,trivial⟩,V,by rw[zu qX,show zG (ns.map u64) k=u64 (zG ns k)from kY V];simpa [yK]using hw.one 1 rfl,V⟩)
  exact kw O (yQ O (fun w' hw=>⟨s,O,by rw[List.take_of_length_le qX]at hw;exact hw⟩))
theorem zNs{S:List Nat}(o:Nat)(sl:Value)(bs:List UInt8)(lv:Value)(fs:List Bool)(w:World)(hb:bs.length+9*fs.length≤100000000000)(hin:Own w S [Res.bv o xP sl bs] w)(hl:Rd w S (Res.sl lv fs.length (fs.flatMap B1))):Rets Tryz.prog 131 #[.pointer (some ⟨o,0,none⟩),lv] w fun u_ w'=>∃ (sl':Value),u_= .tuple #[]∧Own w S [Res.bv o xP sl' (bs++yK (fs.map fl))] w':=by
  refine zW Tryz.func131 O Tryz.ntmps131 hin ?_
  refine zC (zD O (zp (pR hl) O O (zD O (zA (zZ ?_)))))
  refine y7 (fun(k:Nat) (s:Value)=>[(0, .pointer (some ⟨o,0,none⟩)),(6,lv),(7,Vj fs.length),(8,Vj k)]) (fun(k:Nat) (s:Value)=>k≤fs.length) (fun(k:Nat) (s:Value)=>[Res.bv o xP s (bs++yK ((fs.map fl).take k))]) (fun(k:Nat) (s:Value)=>fs.length - k) (fun w' hw=>⟨0,sl,⟨O,O,O,O,trivial⟩,Nat.zero_le _,by simpa [yK]using hw⟩) (fun k s g hΦ=> ?_)
  have hle:=yS (ns:=(fs.map fl).take k) (fun n hn=>by obtain⟨a,_,rfl⟩:=List.mem_map.1 (List.mem_of_mem_take hn);exact zMY a)
  have hmin:((fs.map fl).take k).length=k:=by simp;omega
  refine zC (yI O O O (zA (zP (za O (fun c1=> ?_) (fun c1=> ?_)))))
  ·refine zQ (zP (zZ (zC (zk (pR hl) 1 k O O O V O (yH (pR hl) 1 k 0 (fun _=>O) O O V O O (zI O (zA (zC (zD O (zA (zAu O (fun c2=> ?_) (fun c2=> ?_))))))))))))
   ·refine zV (zD O (zx (e:=22) (sz:=1) (vs:=[Vn 1]) qN O O qR qM O (fun b14=>a_call O O (fun w' hw=>(zBB o s (bs++yK ((fs.map fl).take k)) (.slice (some ⟨b14,0,none⟩) 1 1) [1] w' wg qS (hw.give [0] O qM) (hw.rdVec 1 O [0] O O)).mono ?_))))
    rintro _ w1 ⟨sl'1_,rfl,hO⟩
    refine O2 ?_ (hw.qh [0] O hO)
    refine zA (zV (zt O O (zr V) O (zD O ?_)))
    exact zg (fun w' hw=>⟨k+1,sl'1_,⟨O,O,O,O,trivial⟩,V,by rw[zu qX,show zG (fs.map fl) k=fl (zG fs k)from kY V,c2];simpa [yK,fl]using hw.one 1 rfl,V⟩)
   refine zV (zD O (zx (e:=22) (sz:=1) (vs:=[Vn 0]) qN O O qR qM O (fun b17=>a_call O O (fun w' hw=>(zBB o s (bs++yK ((fs.map fl).take k)) (.slice (some ⟨b17,0,none⟩) 1 1) [0] w' wg qS (hw.give [0] O qM) (hw.rdVec 1 O [0] O O)).mono ?_))))
   rintro _ w1 ⟨sl'2_,rfl,hO⟩
   refine O2 ?_ (hw.qh [0] O hO)
   refine zA (zV (zt O O (zr V) O (zD O ?_)))
   exact zg (fun w' hw=>⟨k+1,sl'2_,⟨O,O,O,O,trivial⟩,V,by rw[zu qX,show zG (fs.map fl) k=fl (zG fs k)from kY V,c2];simpa [yK,fl]using hw.one 1 rfl,V⟩)
  exact kw O (yQ O (fun w' hw=>⟨s,O,by rw[List.take_of_length_le qX]at hw;exact hw⟩))
theorem zOd{S:List Nat}(o:Nat)(sl:Value)(bs:List UInt8)(lv:Value)(ns:List Int)(w:World)(hb:bs.length+9*(ns.length+1)≤100000000000)(hin:Own w S [Res.bv o xP sl bs] w)(hl:Rd w S (Res.sl lv ns.length (ns.flatMap I1))):Rets Tryz.prog 152 #[.pointer (some ⟨o,0,none⟩),lv] w fun u_ w'=>∃ (sl':Value),u_= .tuple #[]∧Own w S [Res.bv o xP sl' (bs++zCm ns)] w':=by
  have h0:=yS (ns:=[u64 ns.length]) (by simp[xR])
  simp only[List.length_cons,List.length_nil]at h0
  refine zW Tryz.func152 O Tryz.ntmps152 hin ?_
  refine zC (zD O (zD O (zp (pR hl) O O (zx (e:=3) (sz:=1) (vs:=[Vj ns.length]) qN O O qR qM O (fun b7=>a_call O O (fun w' hw=>(zC9 o _ _ (.slice (some ⟨b7,0,none⟩) 1 1) [((ns.length:Nat):Int)] w' qS (hw.give [0] O qM) (hw.rdVec 1 O [0] O O)).mono ?_))))))
  rintro _ w1 ⟨sl'1_,rfl,hO⟩
  refine O2 ?_ (hw.qh [0] O hO)
  refine zA (zV (zD O (zD O (a_call O O (fun w' hw=>(zC9 o sl'1_ (bs++yK ([((ns.length:Nat):Int)].map u64)) lv ns w' qS (hw.give [1] O qM) (hw.rdTo hl [1] O)).mono ?_)))))
  rintro _ w1 ⟨sl'2_,rfl,hO⟩
  refine O2 ?_ (hw.qh [1] O hO)
  exact zg (yQ O (fun w' hw=>⟨sl'2_,O,by have h:=hw.one 1 rfl;simpa [zCm,yK]using h⟩))
def le(n:Nat):Nat→List UInt8
  |0=>[]
  |k+1=>le n k++[UInt8.ofNat (n / 256 ^ k)]
theorem zAE(d:List UInt8)(h:d.length<18446744073709551616):(dat d).length≤d.length+9:=by
  have:=zLf h
  simp[dat];omega
theorem xk{α β:Type}(f:α→List β)(l:List α)(k:Nat):((l.take k).flatMap f).length≤(l.flatMap f).length:=by
  have:l.flatMap f=(l.take k).flatMap f++(l.drop k).flatMap f:=by rw[←List.flatMap_append,List.take_append_drop]
  rw[this,List.length_append];omega
def beN(l:List UInt8):Nat:=l.foldl (fun n c=>n*256+c.toNat) 0
theorem zLB(l:List UInt8)(c:UInt8):beN (l++[c])=beN l*256+c.toNat:=by simp[beN]
theorem zDR:∀ (l:List UInt8) (n:Nat),l.foldl (fun n c=>n*256+c.toNat) n<(n+1)*256 ^ l.length
  | [],n=>by simp
  |c::l,n=>by
    have h:=zDR l (n*256+c.toNat)
    have hc:=c.toNat_lt
    rw[List.foldl_cons,List.length_cons,Nat.pow_succ]
    refine Nat.lt_of_lt_of_le h ?_
    rw[show(n+1)*(256 ^ l.length*256)=((n+1)*256)*256 ^ l.length by rw[Nat.mul_assoc,Nat.mul_comm (256 ^ l.length)]]
    exact Nat.mul_le_mul_right _ V
theorem zKq(l:List UInt8):beN l<256 ^ l.length:=by
  have:=zDR l 0
  simpa [beN]using this
theorem zJV{k:Nat}(h:k≤8):256 ^ k≤18446744073709551616:=by
  have:=Nat.pow_le_pow_right (n:=256) V h
  simpa using this
theorem zHl{k:Nat}(h:k≤7):256 ^ k≤72057594037927936:=by
  have:=Nat.pow_le_pow_right (n:=256) V h
  simpa using this
theorem zP4{m c:Nat}(h:c<256):(m*256)|||c=m*256+c:=by
  have:=Nat.two_pow_add_eq_or_of_lt (i:=8) (b:=c) (by simpa using h) m
  rw[Nat.mul_comm];simpa using this.symm
theorem zP0{m c:Nat}(hm:m<72057594037927936)(h:c<256):IntKind.u64.wrap ((((((m*256:Nat):Int)%2 ^ IntKind.u64.bits).toNat|||(((c:Nat):Int)%2 ^ IntKind.u64.bits).toNat:Nat)):Int)=((m*256+c:Nat):Int):=by
  have e1:(((m*256:Nat):Int)%2 ^ IntKind.u64.bits).toNat=m*256:=by simp[IntKind.bits];omega
  have e2:(((c:Nat):Int)%2 ^ IntKind.u64.bits).toNat=c:=by simp[IntKind.bits];omega
  rw[e1,e2,zP4 h]
  exact xA V
theorem zNw{m:Nat}(hm:m<72057594037927936):IntKind.u64.wrap (((m:Nat):Int)*2 ^ (min (8:Int).toNat IntKind.u64.bits))=((m*256:Nat):Int):=by
  have e:(2:Int) ^ (min (8:Int).toNat IntKind.u64.bits)=256:=by decide
  rw[e,xA V];omega
def zBf(l:List UInt8):Option (Nat×Nat):=
  if l.length=0 then none else if 8<(zG l 0).toNat∨(1<l.length∧0<(zG l 0).toNat)∧(zG l 1).toNat=0 then none else if l.length≤(zG l 0).toNat then none else some (beN ((l.take (1+(zG l 0).toNat)).drop 1),1+(zG l 0).toNat)
def zBT(b:List UInt8)(at_:Nat):Option (Nat×Nat):=(zBf (b.drop at_)).map fun q=>(q.1,at_+q.2)
theorem zHg{l:List UInt8}{n k:Nat}(h:zBf l=some (n,k)):n<18446744073709551616∧k≤l.length∧1≤k:=by
  unfold zBf at h
  split at h
  · cases h
  split at h
  · cases h
  split at h
  · cases h
  rename_i h1 h2 h3
  simp only[Option.some.injEq,Prod.mk.injEq]at h
  obtain⟨rfl,rfl⟩:=h
  refine⟨Nat.lt_of_lt_of_le (zKq _) (zJV qX),by omega,by omega⟩
theorem zEY{b:List UInt8}{a n k:Nat}(h:zBT b a=some (n,k)):n<18446744073709551616∧k≤b.length∧a<k:=by
  unfold zBT at h
  rw[Option.map_eq_some_iff]at h
  obtain⟨⟨n',k'⟩,h1,h2⟩:=h
  simp only[Prod.mk.injEq]at h2
  obtain⟨rfl,rfl⟩:=h2
  obtain⟨h3,h4,h5⟩:=zHg h1
  rw[List.length_drop]at h4
  exact⟨h3,by omega,by omega⟩
theorem zMG(v:Value)(b:List UInt8)(a:Nat)(w:World)(hl:zi b.length)(hb:Rd w [] (Res.sl v b.length (b.map vb))):Rets Tryz.prog 190 #[v,Vj a] w fun u_ w'=>u_= .bool (decide (a≤b.length))∧Own w [] [] w':=by
  refine zW Tryz.func190 O Tryz.ntmps190 (Own.start w) ?_
  refine zC (zI O (zA (zC (zD O (kK O O O (zD O (yJ (q:=0≤((a:Nat):Int)) 4 2 [11,10,9,8] (((a:Nat):Int)≤((b.length:Nat):Int)) O O O O O O trivial O (fun h1_2=> ?_) (fun g1_7=> ?_))))))))
  ·refine zR O (gT h1_2) (zD O (zR O (gT h1_2) (zD O (zR O (gT h1_2) (zp (pR hb) O O (zR O (gT h1_2) (x6 O O O ?_)))))))
   exact yN O (fun _ hw=>hw)
  refine zI O (zA ?_)
  exact zU (z9 (v:= .bool (decide ((0≤((a:Nat):Int))∧(((a:Nat):Int)≤((b.length:Nat):Int))))) O O (fun w' hw=>⟨(by congr 1;exact decide_eq_decide.2 V),hw.drop⟩))
def NumPost(p:Option (Nat×Nat))(n k:Nat)(e:Int):Prop:=(e=0∧p=some (n,k))∨(e≠0∧n=0∧k=0∧p=none)
theorem NumPost.yes{p:Option (Nat×Nat)}{n k:Nat}{e:Int}(h:NumPost p n k e)(he:e=0):p=some (n,k):=by
  rcases h with h|h
  · exact h.2
  exact absurd he h.1
theorem NumPost.no{p:Option (Nat×Nat)}{n k:Nat}{e:Int}(h:NumPost p n k e)(he:e≠0):p=none:=by
  rcases h with h|h
  · exact absurd h.1 he
  exact h.2.2.2
theorem zQL(v:Value)(b:List UInt8)(a:Nat)(w:World)(hl:zi b.length)(ha:a≤b.length)(hb:Rd w [] (Res.sl v b.length (b.map vb))):Rets Tryz.prog 146 #[v,Vj a] w fun u_ w'=>∃ (n:Nat) (k:Nat) (e:Int),u_= .tuple #[Vn n,Vj k,Vi e]∧NumPost (zBT b a) n k e∧Own w [] [] w':=by
  have hk:=(zG (b.drop a) 0).toNat_lt
  have hd:(b.drop a).length=b.length - a:=by simp
  have hsub:(((b.drop a).take (1+(zG (b.drop a) 0).toNat)).drop 1).length=min (1+(zG (b.drop a) 0).toNat) (b.length - a) - 1:=by simp
  refine zW Tryz.func146 O Tryz.ntmps146 (Own.start w) ?_
  refine zC (zI O (zI O (zI O (zA (zP (zC (zD O (zD O (a_call O O (fun w' hw=>(zMG v b a w' ‹_› (hw.rd0 hb)).mono ?_))))))))))
  rintro _ w1 ⟨rfl,hO⟩
  refine O0 ?_ (hw.qi hO)
  refine xB (q:=a≤b.length) O O (zA (xK O V (zQ (zC (zD O (zD O (kW (pR hb) 1 a b.length qN O ⟨_,O⟩ O V V O ?_)))))))
  have hs1_:=Rd.dropL_m (g:=vb) (xs:=b) hb (l:=a) V
  refine zI O (zA (zP (zZ (zC (zD O (zp (pR hs1_) O O (yR O O O (zI O (zA (za O (fun c2=> ?_) (fun c2=> ?_)))))))))))
  ·refine zC (zI O (zI O (zI O (zA ?_))))
   exact zU (zFV (v:=Vn 0) (v':=Vi 0) (v'':=Vi 5) O O O O (fun w' hw=>⟨0,0,5,O, .inr ⟨by decide,O,O,by unfold zBT zBf;rw[if_pos V];rfl⟩,hw.drop⟩))
  refine zC (zD O (zk (pR hs1_) 1 0 O O O V O (zDZ (pR hs1_) 0 O V V O (yx O O O (zD O (yj (q:=((8:Nat):Int)<(((zG (b.drop a) 0).toNat:Nat):Int)) 15 4 [42,41,40,39,38,37,36,35,34,33,32,31,30,29,28] (((1<(((b.drop a).length:Nat):Int))∧(((0:Nat):Int)<(((zG (b.drop a) 0).toNat:Nat):Int)))∧((((zG (b.drop a) 1).toNat:Nat):Int)=((0:Nat):Int))) O O O O O O trivial O (fun h6_4=> ?_) (fun g6_20=> ?_)))))))
  ·refine zR O (gF h6_4) (zD O (zR O (gF h6_4) (zp (pR hs1_) O O (zR O (gF h6_4) (yx O O O (zR O (gF h6_4) (zD O (yJ (q:=1<(((b.drop a).length:Nat):Int)) 4 8 [35,34,33,32] (((0:Nat):Int)<(((zG (b.drop a) 0).toNat:Nat):Int)) O O O O O O ⟨_,O,O,gF h6_4⟩ O (fun h6_8=> ?_) (fun g6_13=> ?_)))))))))
   ·refine zR O (gT h6_8) (zD O (zR O (gT h6_8) (zk (pR hs1_) 1 0 O O O V O (zR O (gT h6_8) (zDZ (pR hs1_) 0 O V V O (zR O (gT h6_8) (yx O O O ?_)))))))
    exact yN O (fun _ hw=>hw)
   refine zR O (gF h6_4) (zD O (yJ (q:=(1<(((b.drop a).length:Nat):Int))∧(((0:Nat):Int)<(((zG (b.drop a) 0).toNat:Nat):Int))) 4 14 [41,40,39,38] ((((zG (b.drop a) 1).toNat:Nat):Int)=((0:Nat):Int)) O O O O O O ⟨_,O,O,gF h6_4⟩ O (fun h6_14=> ?_) (fun g6_19=> ?_)))
   ·refine zR O (gT h6_14) (zD O (zR O (gT h6_14) (zk (pR hs1_) 1 1 O O O V O (zR O (gT h6_14) (zDZ (pR hs1_) 1 O V V O (zR O (gT h6_14) (yR O O O ?_)))))))
    exact yN O (fun _ hw=>hw)
   exact yN O (fun _ hw=>hw)
  refine zI O (zA (za O (fun c3=> ?_) (fun c3=> ?_)))
  ·refine zC (zI O (zI O (zI O (zA ?_))))
   exact zU (zFV (v:=Vn 0) (v':=Vi 0) (v'':=Vi 4) O O O O (fun w' hw=>⟨0,0,4,O, .inr ⟨by decide,O,O,by unfold zBT zBf;rw[if_neg V,if_pos V];rfl⟩,hw.drop⟩))
  refine zQ (zC (zD O (zk (pR hs1_) 1 0 O O O V O (zDZ (pR hs1_) 0 O V V O (xt qN O (zr V) O ?_ qN)))))
  refine zI O (zA (zP (zC (zD O (zp (pR hs1_) O O (zD O (x6 O O O (zA (za O (fun c4=> ?_) (fun c4=> ?_))))))))))
  ·refine zC (zI O (zI O (zI O (zA ?_))))
   exact zU (zFV (v:=Vn 0) (v':=Vi 0) (v'':=Vi 5) O O O O (fun w' hw=>⟨0,0,5,O, .inr ⟨by decide,O,O,by unfold zBT zBf;rw[if_neg V,if_neg V,if_pos V];rfl⟩,hw.drop⟩))
  refine zQ (zP (zC (zD O (zD O (zt O O (zr V) O (kW (pR hs1_) 1 1 (1+((zG (b.drop a) 0).toNat)) qN O ⟨_,O⟩ ⟨_,O⟩ V V O ?_))))))
  have hs2_:=Rd.subL_m (g:=vb) (xs:=(b.drop a)) hs1_ (l:=1) (h:=1+((zG (b.drop a) 0).toNat)) V V
  refine zp (pR hs2_) O O (zD O (zA (zZ ?_)))
  refine xT (fun(j:Nat)=>[(1,Vj a),(4,Vn (beN ((((b.drop a).take (1+(zG (b.drop a) 0).toNat)).drop 1).take j))),(8,Vj ((zG (b.drop a) 0).toNat)),(55,(y3 (y3 v a b.length 1) 1 (1+((zG (b.drop a) 0).toNat)) 1)),(56,Vj ((((b.drop a).take (1+((zG (b.drop a) 0).toNat))).drop 1).length)),(57,Vj j)]) (fun(j:Nat)=>j≤(((b.drop a).take (1+(zG (b.drop a) 0).toNat)).drop 1).length) (fun(j:Nat)=>[]) (fun(j:Nat)=>(((b.drop a).take (1+(zG (b.drop a) 0).toNat)).drop 1).length - j) (fun w' hw=>⟨0,⟨O,O,O,O,O,O,trivial⟩,Nat.zero_le _,hw⟩) (fun j g hΦ=> ?_)
  have hlt:=zKq ((((b.drop a).take (1+(zG (b.drop a) 0).toNat)).drop 1).take j)
  have hlj:((((b.drop a).take (1+(zG (b.drop a) 0).toNat)).drop 1).take j).length=j:=by rw[List.length_take];omega
  rw[hlj]at hlt
  refine zC (yI O O O (zA (zP (za O (fun c5=> ?_) (fun c5=> ?_)))))
  ·have hp7:=zHl (k:=j) V
   have hcl:=(zG (((b.drop a).take (1+(zG (b.drop a) 0).toNat)).drop 1) j).toNat_lt
   refine zQ (zP (zZ (zC (zk (pR hs2_) 1 j O O O V O (zDZ (pR hs2_) j O V V O (zI O (zA (zV (zD O (zQp (c:=(((beN ((((b.drop a).take (1+(zG (b.drop a) 0).toNat)).drop 1).take j))*256:Nat):Int)) O O qM (zNw V) O (zD O (xt qN O (xA V) O ?_ qN))))))))))))
   refine zRM (c:=(((beN ((((b.drop a).take (1+(zG (b.drop a) 0).toNat)).drop 1).take j))*256+(zG (((b.drop a).take (1+(zG (b.drop a) 0).toNat)).drop 1) j).toNat:Nat):Int)) O O (zP0 V hcl) O (zI O (zA (zV (zt O O (zr V) O (zD O ?_)))))
   exact zg (fun w' hw=>⟨j+1,⟨O,by rw[zu V,zLB];rfl,O,O,O,O,trivial⟩,V,hw,V⟩)
  refine yF O (zC (zD O (zD O (zt O O (zr V) O (zD O (zt O O (zr V) O (zI O (zI O (zI O (zA ?_))))))))))
  exact zU (zFV (v:=Vn (beN ((((b.drop a).take (1+(zG (b.drop a) 0).toNat)).drop 1).take j))) (v':=Vj ((a+1)+((zG (b.drop a) 0).toNat))) (v'':=Vi 0) O O O O (fun w' hw=>⟨(beN ((((b.drop a).take (1+(zG (b.drop a) 0).toNat)).drop 1).take j)),(a+1)+((zG (b.drop a) 0).toNat),0,O, .inl ⟨O,by unfold zBT zBf;rw[if_neg V,if_neg V,if_neg V,List.take_of_length_le (i:=j) V];simp[Nat.add_assoc]⟩,hw.drop⟩))
structure RdS{α:Type}(p:List UInt8→Nat→Option (α×Nat))(b:List UInt8)(a:Nat)(bad:Bool)(x:α)(a':Nat)(bad':Bool):Prop where
  le:a'≤b.length
  st:bad=true→bad'=true
  ok:∀ v k,bad=false→p b a=some (v,k)→bad'=false∧x=v∧a'=k
  no:bad=false→p b a=none→bad'=true
theorem RdS.good{α:Type}{p:List UInt8→Nat→Option (α×Nat)}{b:List UInt8}{a a':Nat}{bad bad':Bool}{x:α}(h:RdS p b a bad x a' bad')(hb:bad'=false):bad=false∧p b a=some (x,a'):=by
  have h0:bad=false:=by cases bad;rfl;have:=h.st rfl;rw[this]at hb;cases hb
  refine⟨h0,?_⟩
  cases hp:p b a with
  |none=>have:=h.no h0 hp;rw[this]at hb;cases hb
  |some q=>obtain⟨v,k⟩:=q;obtain⟨_,rfl,rfl⟩:=h.ok v k h0 hp;rfl
def jq{α:Type}(x:α):List UInt8→Nat→Option (α×Nat):=fun _ a=>some (x,a)
def jO{α β:Type}(p:List UInt8→Nat→Option (α×Nat))(q:α→List UInt8→Nat→Option (β×Nat)):List UInt8→Nat→Option (β×Nat):=fun b a=>(p b a).bind fun r=>q r.1 b r.2
theorem RdS.pure{α:Type}{b:List UInt8}{a:Nat}{bad:Bool}(x:α)(h:a≤b.length):RdS (jq x) b a bad x a bad:=
  ⟨h,id,fun v k hb h=>(by simp only[jq,Option.some.injEq,Prod.mk.injEq]at h;exact⟨hb,h.1,h.2⟩),fun _ h=>(by cases h)⟩
theorem RdS.bind{α β:Type}{p:List UInt8→Nat→Option (α×Nat)}{q:α→List UInt8→Nat→Option (β×Nat)}{b:List UInt8}{a a1 a2:Nat}{bad bad1 bad2:Bool}{x:α}{y:β}
    (h1:RdS p b a bad x a1 bad1) (h2:RdS (q x) b a1 bad1 y a2 bad2):RdS (jO p q) b a bad y a2 bad2:=by
  refine⟨h2.le,fun h=>h2.st (h1.st h),fun v k hb h=> ?_,fun hb h=> ?_⟩
  · simp only[jO,Option.bind_eq_some_iff]at h
    obtain⟨⟨u,j⟩,h3,h4⟩:=h
    obtain⟨e1,rfl,rfl⟩:=h1.ok u j hb h3
    exact h2.ok v k e1 h4
  cases hp:p b a with
  |none=>exact h2.st (h1.no hb hp)
  |some r=>
    obtain⟨u,j⟩:=r
    obtain⟨e1,rfl,rfl⟩:=h1.ok u j hb hp
    simp only[jO,hp,Option.bind_some]at h
    exact h2.no e1 h
theorem RdS.map{α β:Type}{p:List UInt8→Nat→Option (α×Nat)}{b:List UInt8}{a a1:Nat}{bad bad1:Bool}{x:α}(g:α→β)(h:RdS p b a bad x a1 bad1):RdS (jO p fun v=>jq (g v)) b a bad (g x) a1 bad1:=
  h.bind (RdS.pure _ h.le)
theorem RdS.badly{α:Type}{p:List UInt8→Nat→Option (α×Nat)}{b:List UInt8}{a a':Nat}{bad:Bool}{x:α}(hc:bad=true)(ha:a'≤b.length):RdS p b a bad x a' bad:=
  ⟨ha,id,fun v k h=>(by rw[hc]at h;cases h),fun h=>(by rw[hc]at h;cases h)⟩
theorem RdS.fail{α:Type}{p:List UInt8→Nat→Option (α×Nat)}{b:List UInt8}{a a':Nat}{bad:Bool}{x:α}(ha:a'≤b.length)(hp:bad=false→p b a=none):RdS p b a bad x a' true:=
  ⟨ha,fun _=>rfl,fun v k h h'=>(by rw[hp h]at h';cases h'),fun _ _=>rfl⟩
theorem RdS.done{α:Type}{p:List UInt8→Nat→Option (α×Nat)}{b:List UInt8}{a a':Nat}{bad:Bool}{x:α}(ha:a'≤b.length)(hp:p b a=some (x,a')):RdS p b a bad x a' bad:=
  ⟨ha,id,fun v k h h'=>(by rw[hp]at h';cases h';exact⟨h,rfl,rfl⟩),fun _ h'=>(by rw[hp]at h';cases h')⟩
theorem RdS.to{α:Type}{p q:List UInt8→Nat→Option (α×Nat)}{b:List UInt8}{a a':Nat}{bad bad':Bool}{x:α}(h:RdS p b a bad x a' bad')(e:p b a=q b a):RdS q b a bad x a' bad':=
  ⟨h.le,h.st,fun v k hb hq=>h.ok v k hb (e.trans hq),fun hb hq=>h.no hb (e.trans hq)⟩
theorem zMy{S:List Nat}(o:Nat)(v:Value)(b:List UInt8)(a:Nat)(bad:Bool)(w:World)(hl:zi b.length)(ha:a≤b.length)(hin:Own w S [Res.row o 231 [v,Vj a, .bool bad]] w)(hb:Rd w S (Res.sl v b.length (b.map vb))):Rets Tryz.prog 105 #[.pointer (some ⟨o,0,none⟩)] w fun u_ w'=>∃ (n:Nat) (a':Nat) (bad':Bool),u_=Vn n∧RdS zBT b a bad n a' bad'∧n<18446744073709551616∧Own w S [Res.row o 231 [v,Vj a', .bool bad']] w':=by
  refine zW Tryz.func105 O Tryz.ntmps105 hin ?_
  refine zC (zI O (zA (zP (zC (zD O (zb O O (zK (o:=2) O O (zM 0 (v:= .bool bad) O O O O (zA (zAu O (fun c1=> ?_) (fun c1=> ?_)))))))))))
  ·refine zC (zI O (zA ?_))
   exact zU (z9 (v:=Vn 0) O O (fun w' hw=>⟨0,a,bad,O,RdS.badly c1 ha,V,hw⟩))
  refine zQ (zP (ze [0] O qM qN (fun w' hw hS=>zB 0 O zS hS (zB 1 O (zO O) hS (zB 2 O (zH (o:=0) O) hS (zB 3 O (zY 0 (v:=v) O O O) hS (zB 4 O zS hS (zB 5 O (zO O) hS (zB 6 O (zH (o:=1) O) hS (zB 7 O (zY 0 (v:=Vj a) O O O) hS (zJ 8 O hw (a_call O O (fun w' hw=> ?_)))))))))))))
  refine(zQL v b a w' ‹_› V (hw.rd0 hb)).mono ?_
  rintro _ w1 ⟨n1_,k2_,e3_,rfl,hf3_8,hO⟩
  refine O1 ?_ (hw.qi hO)
  refine zE [0] O qM (fun w' hw hS=>zB 9 O zS hS (zB 10 O (yT (vs:=[Vn n1_,Vj k2_,Vi e3_]) O O) hS (zB 11 O (yT (vs:=[Vn n1_,Vj k2_,Vi e3_]) O O) hS (zB 12 O (yT (vs:=[Vn n1_,Vj k2_,Vi e3_]) O O) hS (zB 13 O yO hS (zB 14 O yO hS (zB 15 O yO hS (zT ?_))))))))
  refine Oc1 ?_ hw
  refine zP (zC (zD O (xn O O O (zA (za O (fun c2=> ?_) (fun c2=> ?_))))))
  ·refine zC (zD O (zb O O (zK (o:=2) O O (zn (cs:=[v,Vj a, .bool bad]) 0 O O O O O (zA (zC (zI O (zA ?_))))))))
   exact zU (z9 (v:=Vn 0) O O (fun w' hw=>⟨0,a,true,O,RdS.fail ha fun _=>hf3_8.no c2,V,hw⟩))
  refine zQ (zC (zD O (zD O (zb O O (zK (o:=1) O O (zn (cs:=[v,Vj a, .bool bad]) 0 O O O O O (zA (zC (zD O (zI O (zA ?_)))))))))))
  exact zU (z9 (v:=Vn n1_) O O (fun w' hw=>⟨n1_,k2_,bad,O,RdS.done (zEY (hf3_8.yes V)).2.1 (hf3_8.yes V),(zEY (hf3_8.yes V)).1,hw⟩))
def zA5(most:Nat):List UInt8→Nat→Option (Nat×Nat):=fun b a=>(zBT b a).bind fun q=>if most<q.1 then none else some q
theorem zD7{most:Nat}{b:List UInt8}{a n k:Nat}(h:zA5 most b a=some (n,k)):zBT b a=some (n,k)∧n≤most:=by
  simp only[zA5,Option.bind_eq_some_iff]at h
  obtain⟨q,h1,h2⟩:=h
  split at h2
  · cases h2
  cases h2;exact⟨h1,by omega⟩
theorem zGC{S:List Nat}(o:Nat)(v:Value)(b:List UInt8)(a:Nat)(bad:Bool)(most:Nat)(w:World)(hl:zi b.length)(ha:a≤b.length)(hm:most≤1000000)(hin:Own w S [Res.row o 231 [v,Vj a, .bool bad]] w)(hb:Rd w S (Res.sl v b.length (b.map vb))):Rets Tryz.prog 106 #[.pointer (some ⟨o,0,none⟩),Vj most] w fun u_ w'=>∃ (n:Nat) (a':Nat) (bad':Bool),u_=Vj n∧RdS (zA5 most) b a bad n a' bad'∧n≤most∧Own w S [Res.row o 231 [v,Vj a', .bool bad']] w':=by
  refine zW Tryz.func106 O Tryz.ntmps106 hin ?_
  refine zC (zI O (zA (zC (zD O (a_call O O (fun w' hw=>(zMy o v b a bad w' ‹_› V (hw.give [0] O qM) (hw.rdTo hb [0] O)).mono ?_))))))
  rintro _ w1 ⟨n1_,a'2_,bad'3_,rfl,hf1_1,hf1_1_1,hO⟩
  have hq:=hf1_1.le
  refine O1 ?_ (hw.qh [0] O hO)
  refine zI O (zA (zP (zC (zD O (zD O (xt (c:=((most:Nat):Int)) qN O (xA V) O ?_ qN))))))
  refine yx O O O (zA (za O (fun c1=> ?_) (fun c1=> ?_)))
  ·refine zC (zD O (zb O O (zK (o:=2) O O (zn (cs:=[v,Vj a'2_, .bool bad'3_]) 0 O O O O O (zA (zC (zI O (zA ?_))))))))
   exact zU (z9 (v:=Vi 0) O O (fun w' hw=>⟨0,a'2_,true,O,RdS.fail hq fun h0=>(by cases hp:zA5 most b a with|none=>rfl|some q=>obtain⟨h1,h2⟩:=zD7 hp;obtain⟨_,h3,_⟩:=hf1_1.ok q.1 q.2 h0 h1;omega),V,hw⟩))
  refine zQ (zC (zD O (xt qN O (zr V) O ?_ qN)))
  refine zI O (zA ?_)
  exact zU (z9 (v:=Vj n1_) O O (fun w' hw=>⟨n1_,a'2_,bad'3_,O,⟨hq,hf1_1.st,fun u k h0 h=>hf1_1.ok u k h0 (zD7 h).1,fun h0 h=>(by cases hp:zBT b a with|none=>exact hf1_1.no h0 hp|some q=>simp only[zA5,hp,Option.bind_some]at h;obtain⟨_,h3,_⟩:=hf1_1.ok q.1 q.2 h0 hp;rw[if_neg V]at h;cases h)⟩,V,hw⟩))
def pBytes(b:List UInt8)(a:Nat):Option (List UInt8×Nat):=(zBT b a).bind fun q=>if b.length - q.2<q.1 then none else some ((b.take (q.2+q.1)).drop q.2,q.2+q.1)
theorem _root_.Go.Sc.qO{p:Prop}(h:p:=by first|omega|(simp<;>omega)):p:=h
theorem zB1(v:Value)(l:List UInt8)(w:World)(hl:zi l.length)(hv:Rd w [] (Res.sl v l.length (l.map vb))):Rets Tryz.prog 40 #[v] w fun u_ w'=>∃ (r:Value),u_=r∧Own w [] [Res.vec 5 1 r l.length (l.map vb)] w':=by
  refine zW Tryz.func40 O Tryz.ntmps40 (Own.start w) ?_
  refine zC (zI O (zA (zP (zC (zD O (zE8 (len:=l.length) (cs:=(l.map vb)) qN O O (fun w' hw'=>Own.rd hv hw') O (zA (zAu O (fun c1=> ?_) (fun c1=> ?_)))))))))
  ·refine zC (zI O (zA ?_))
   exact zU (z9 (v:= .slice none 0 0) O O (fun w' hw=>⟨.slice none 0 0,O,by obtain⟨_,h0⟩:=Sl.isNil hv.φ c1;rw[List.eq_nil_of_length_eq_zero h0];exact zm hw 5 1⟩))
  refine zQ (zC (zx (e:=5) (sz:=1) (vs:=[]) qN O O qR qM O (fun b5=>zD O (zDN (l:=([]:List UInt8)) (l':=l) 0 qN O O O (fun w' hw'=>Own.rd hv hw') qO O (fun v7=>zI O (zA ?_))))))
  exact zU (z9 (v:=v7) O O (fun w' hw=>⟨v7,O,hw⟩))
def BytesPost(p:Option (List UInt8×Nat))(d:List UInt8)(k:Nat)(e:Int):Prop:=(e=0∧p=some (d,k))∨(e≠0∧p=none)
end Go.Proofs.YtkkeknmkipkbmaaGreat