import Derived.Test.YtmpaljnacfidaaaGreatDoorFwS
import Derived.Test.YtmpaljnacfidaaaGreatDoorFwT
import Derived.Test.YtmpaljnacfidaaaGreatDoorChecked
import Derived.Test.YtmpaljnacfidaaaGreatDoorFw3
set_option linter.unusedSectionVars false
set_option linter.unusedSimpArgs false
set_option linter.unusedVariables false
namespace Go.Sc
open Go
theorem fq{P:Program}{n:Nat}{ops:Array Oper}{l:List Oper}{N:K}{f:Nat→Value}{L Lin Lout:List Res}{w0 w w':World}{S:List Nat}(m:List Nat)(a:m.mapM (fun i=>L[i]?)=some Lin)(h:Own w0 S L w)(b:Own w (xH Lin) Lout w')(k:CL P n ops l N f (Own w0 S (y6 m 0 L++Lout))):WL P n ops l N f w':=k w' (h.qi m a b)
end Go.Sc
set_option linter.unusedVariables false
set_option maxRecDepth 10000
namespace Go.Proofs.YtmpaljnacfidaaaGreatDoor
open Go Go.Sc Go.Proofs
abbrev EncOk(n:Nat):Prop:=n≤100000000000
def fl(f:Bool):Nat:=bif f then 1 else 0
theorem zF0(b:Bool):fl b<18446744073709551616:=by cases b<;>simp[fl]
def zFA(ns:List Int):List UInt8:=yN (u64 ns.length::ns.map u64)
def Res.bv(o:Nat)(T:TypeId)(v:Value)(bs:List UInt8):Res:=(Res.row o T [v]).both (Res.vec T8 1 v bs.length (bs.map vb))
theorem _root_.Go.Sc.Own.splitBv{w0 w:World}{S:List Nat}{L:List Res}{i o:Nat}{T:TypeId}{v:Value}{bs:List UInt8}(a:L[i]?=some (Res.bv o T v bs))(h:Own w0 S L w):Own w0 S (L.set i (Res.row o T [v])++[Res.vec T8 1 v bs.length (bs.map vb)]) w:=h.splitBoth a
theorem _root_.Go.Sc.Own.joinBv{w0 w:World}{S:List Nat}{L:List Res}{i j o:Nat}{T:TypeId}{v:Value}{bs:List UInt8}(a:i≠j)(h1:L[i]?=some (Res.row o T [v]))(h2:L[j]?=some (Res.vec T8 1 v bs.length (bs.map vb)))(h:Own w0 S L w):Own w0 S ((L.set i (Res.bv o T v bs)).eraseIdx j) w:=h.joinBoth a h1 h2
theorem zBp(v:Value)(bs:List UInt8)(n:Nat)(w:World)(a:n<18446744073709551616)(hb:bs.length≤1000000000000)(hv:Rd w [] (Res.sl v bs.length (bs.map vb))):Rets Tryz.prog 221 #[v,Vn n] w fun b c=>∃ (r:Value),b=r∧Own w [] [Res.vec 5 1 r (bs++kA n).length ((bs++kA n).map vb)] c:=by
  refine(zGH v bs n a w hv.φ hb).mono ?_
  intro r w1 hO
  exact⟨r,O,hO⟩
theorem _root_.Go.Sc.qI{p:Prop}(h:p:=by first|omega|(simp<;>omega)|(constructor<;>(first|omega|(simp<;>omega)))):p:=h
theorem kz{S:List Nat}(o:Nat)(p:Value)(bs:List UInt8)(lv:Value)(ns:List Nat)(w:World)(c:∀ n∈ns,n<18446744073709551616)(hb:bs.length+9*ns.length≤100000000000)(l:Own w S [Res.bv o yo p bs] w)(hl:Rd w S (Res.sl lv ns.length (ns.flatMap U1))):Rets Tryz.prog 126 #[.pointer (some ⟨o,0,none⟩),lv] w fun r b=>∃ (m:Value),r= .tuple #[]∧Own w S [Res.bv o yo m (bs++yN ns)] b:=by
  refine zO Tryz.func126 O Tryz.ntmps126 l (zB (zC O (zo (pR hl) O O (zC O (zA (zU (xI (fun(k:Nat) (s:Value)=>[(0, .pointer (some ⟨o,0,none⟩)),(6,lv),(7,Vj ns.length),(8,Vj k)]) (fun(k:Nat) (s:Value)=>k≤ns.length) (fun(k:Nat) (s:Value)=>[Res.bv o yo s (bs++yN (ns.take k))]) (fun(k:Nat) (s:Value)=>ns.length - k) (fun b a=>⟨0,p,⟨O,O,O,O,trivial⟩,Nat.zero_le _,by simpa [yN]using a⟩) (fun k s g hΦ=> ?_))))))))
  have u:=yL (ns:=ns.take k) (fun n x=>c n (List.mem_of_mem_take x))
  have q:(ns.take k).length=k:=by simp;omega
  refine zB (zy O O O (zA (zK (zT O (fun y=> ?_) (fun y=> ?_)))))
  ·refine zN (zK (zU (zB (yH (pR hl) 1 k O O O qE O (y8 (pR hl) 1 k 0 (fun _=>O) O O qE O O (zG O (zA (zd (zC O (zC O (zV O O (zI (o:=0) O O (x5 [Res.row o yo [s],Res.vec 5 1 s (bs++yN (ns.take k)).length ((bs++yN (ns.take k)).map vb)] (fun b a=>a.splitBv (i:=0) (o:=o) (T:=yo) (v:=s) (bs:=(bs++yN (ns.take k))) O) (zJ 0 (v:=s) O O O O (zC O (zH O O (fun b a=>(zBp s (bs++yN (ns.take k)) (zf ns k) b (c _ (zx qE)) qI (a.qh 1 O)).mono ?_)))))))))))))))))
   rintro d z ⟨_,rfl,hO⟩
   refine(?_:CL _ _ _ _ _ _ (Own w S [_,_,_])) z (a.qb hO)
   refine zV O O (zI (o:=0) O O (zS (fun b a=>Own.qa (i:=2) O a) (fun e=>(zi (cs:=[s]) 0 O O O e O (zA (zd (zr O O (zt qE) O (zC O (zw (fun b a=>⟨k+1,d,⟨O,O,O,O,trivial⟩,qE,by rw[yj qE];have h:=(a.joinBv (i:=0) (j:=2) (o:=o) (T:=yo) (v:=d) (bs:=bs++yN (ns.take k)++kA (zf ns k)) V rfl rfl).one 0 rfl;simpa [yN]using h,qE⟩))))))))))
  exact xz O (yl O (fun b a=>⟨s,O,by rw[List.take_of_length_le qE]at a;exact a⟩))
theorem _root_.Go.Sc.qR{p:Prop}(h:p:=by first|assumption|(simp[yW];done)|(simp[yW];omega)|(simp;omega)):p:=h
theorem zHX{S:List Nat}(o:Nat)(l:Value)(bs:List UInt8)(lv:Value)(ns:List Int)(w:World)(hb:bs.length+9*ns.length≤100000000000)(h:Own w S [Res.bv o yo l bs] w)(hl:Rd w S (Res.sl lv ns.length (ns.flatMap I1))):Rets Tryz.prog 322 #[.pointer (some ⟨o,0,none⟩),lv] w fun p d=>∃ (i:Value),p= .tuple #[]∧Own w S [Res.bv o yo i (bs++yN (ns.map u64))] d:=by
  refine zO Tryz.func322 O Tryz.ntmps322 h (zB (zC O (zo (pR hl) O O (zC O (zA (zU (xI (fun(k:Nat) (s:Value)=>[(0, .pointer (some ⟨o,0,none⟩)),(6,lv),(7,Vj ns.length),(8,Vj k)]) (fun(k:Nat) (s:Value)=>k≤ns.length) (fun(k:Nat) (s:Value)=>[Res.bv o yo s (bs++yN ((ns.map u64).take k))]) (fun(k:Nat) (s:Value)=>ns.length - k) (fun d b=>⟨0,l,⟨O,O,O,O,trivial⟩,Nat.zero_le _,by simpa [yN]using b⟩) (fun k s g x=> ?_))))))))
  have q:=yL (ns:=(ns.map u64).take k) (fun n r=>by obtain⟨a,_,rfl⟩:=List.mem_map.1 (List.mem_of_mem_take r);exact yW a)
  have m:((ns.map u64).take k).length=k:=by simp;omega
  refine zB (zy O O O (zA (zK (zT O (fun u=> ?_) (fun u=> ?_)))))
  ·refine zN (zK (zU (zB (yH (pR hl) 1 k O O O qE O (y8 (pR hl) 1 k 0 (fun _=>O) O O qE O O (zG O (zA (zd (zC O (zC O (ya qD O (yx _) O ?_ qD)))))))))))
   refine yC (e:=31) (sz:=1) (vs:=[Vn (u64 (zf ns k))]) qD O O qJ V O (fun j=>zH O O (fun d b=>(kz o s (bs++yN ((ns.map u64).take k)) (.slice (some ⟨j,0,none⟩) 1 1) [u64 (zf ns k)] d qR qI (b.give [0] O V) (b.rdVec 1 O [0] O O)).mono ?_))
   rintro _ y ⟨c,rfl,v⟩
   refine fq [0] O b v (zA (zd (zr O O (zt qE) O (zC O (zw (fun d b=>⟨k+1,c,⟨O,O,O,O,trivial⟩,qE,by rw[yj qL,show zf (ns.map u64) k=u64 (zf ns k)from j2 qE];simpa [yN]using b.one 1 rfl,qE⟩))))))
  exact xz O (yl O (fun d b=>⟨s,O,by rw[List.take_of_length_le qL]at b;exact b⟩))
theorem zH8{S:List Nat}(o:Nat)(r:Value)(bs:List UInt8)(lv:Value)(fs:List Bool)(w:World)(hb:bs.length+9*fs.length≤100000000000)(i:Own w S [Res.bv o yo r bs] w)(hl:Rd w S (Res.sl lv fs.length (fs.flatMap B1))):Rets Tryz.prog 310 #[.pointer (some ⟨o,0,none⟩),lv] w fun v c=>∃ (j:Value),v= .tuple #[]∧Own w S [Res.bv o yo j (bs++yN (fs.map fl))] c:=by
  refine zO Tryz.func310 O Tryz.ntmps310 i (zB (zC O (zo (pR hl) O O (zC O (zA (zU (xI (fun(k:Nat) (s:Value)=>[(0, .pointer (some ⟨o,0,none⟩)),(6,lv),(7,Vj fs.length),(8,Vj k)]) (fun(k:Nat) (s:Value)=>k≤fs.length) (fun(k:Nat) (s:Value)=>[Res.bv o yo s (bs++yN ((fs.map fl).take k))]) (fun(k:Nat) (s:Value)=>fs.length - k) (fun c b=>⟨0,r,⟨O,O,O,O,trivial⟩,Nat.zero_le _,by simpa [yN]using b⟩) (fun k s g hΦ=> ?_))))))))
  have x:=yL (ns:=(fs.map fl).take k) (fun n y=>by obtain⟨a,_,rfl⟩:=List.mem_map.1 (List.mem_of_mem_take y);exact zF0 a)
  have u:((fs.map fl).take k).length=k:=by simp;omega
  refine zB (zy O O O (zA (zK (zT O (fun z=> ?_) (fun z=> ?_)))))
  ·refine zN (zK (zU (zB (yH (pR hl) 1 k O O O qE O (y8 (pR hl) 1 k 0 (fun _=>O) O O qE O O (zG O (zA (zB (zC O (zA (ku O (fun l=> ?_) (fun l=> ?_))))))))))))
   ·refine zd (zC O (yC (e:=31) (sz:=1) (vs:=[Vn 1]) qD O O qJ V O (fun m=>zH O O (fun c b=>(kz o s (bs++yN ((fs.map fl).take k)) (.slice (some ⟨m,0,none⟩) 1 1) [1] c qR qI (b.give [0] O V) (b.rdVec 1 O [0] O O)).mono ?_))))
    rintro _ w1 ⟨d,rfl,p⟩
    refine fq [0] O b p (zA (zd (zr O O (zt qE) O (zC O (zw (fun c b=>⟨k+1,d,⟨O,O,O,O,trivial⟩,qE,by rw[yj qL,show zf (fs.map fl) k=fl (zf fs k)from j2 qE,l];simpa [yN,fl]using b.one 1 rfl,qE⟩))))))
   refine zd (zC O (yC (e:=31) (sz:=1) (vs:=[Vn 0]) qD O O qJ V O (fun q=>zH O O (fun c b=>(kz o s (bs++yN ((fs.map fl).take k)) (.slice (some ⟨q,0,none⟩) 1 1) [0] c qR qI (b.give [0] O V) (b.rdVec 1 O [0] O O)).mono ?_))))
   rintro _ w1 ⟨h,rfl,p⟩
   refine fq [0] O b p (zA (zd (zr O O (zt qE) O (zC O (zw (fun c b=>⟨k+1,h,⟨O,O,O,O,trivial⟩,qE,by rw[yj qL,show zf (fs.map fl) k=fl (zf fs k)from j2 qE,l];simpa [yN,fl]using b.one 1 rfl,qE⟩))))))
  exact xz O (yl O (fun c b=>⟨s,O,by rw[List.take_of_length_le qL]at b;exact b⟩))
theorem zOx{S:List Nat}(o:Nat)(k:Value)(bs:List UInt8)(lv:Value)(ns:List Int)(w:World)(hb:bs.length+9*(ns.length+1)≤100000000000)(g:Own w S [Res.bv o yo k bs] w)(hl:Rd w S (Res.sl lv ns.length (ns.flatMap I1))):Rets Tryz.prog 440 #[.pointer (some ⟨o,0,none⟩),lv] w fun l d=>∃ (i:Value),l= .tuple #[]∧Own w S [Res.bv o yo i (bs++zFA ns)] d:=by
  have m:=yL (ns:=[u64 ns.length]) (by simp[yW])
  simp only[List.length_cons,List.length_nil]at m
  refine zO Tryz.func440 O Tryz.ntmps440 g (zB (zC O (zC O (zo (pR hl) O O (yC (e:=3) (sz:=1) (vs:=[Vj ns.length]) qD O O qJ V O (fun n=>zH O O (fun d a=>(zHX o _ _ (.slice (some ⟨n,0,none⟩) 1 1) [((ns.length:Nat):Int)] d qI (a.give [0] O V) (a.rdVec 1 O [0] O O)).mono ?_)))))))
  rintro _ p ⟨b,rfl,j⟩
  refine fq [0] O a j (zA (zd (zC O (zC O (zH O O (fun d a=>(zHX o b (bs++yN ([((ns.length:Nat):Int)].map u64)) lv ns d qI (a.give [1] O V) (a.rdTo hl [1] O)).mono ?_))))))
  rintro _ p ⟨c,rfl,j⟩
  refine fq [1] O a j (zw (yl O (fun d a=>⟨c,O,by have h:=a.one 1 rfl;simpa [zFA,yN]using h⟩)))
def le(n:Nat):Nat→List UInt8
  |0=>[]
  |k+1=>le n k++[UInt8.ofNat (n / 256 ^ k)]
theorem xm(d:List UInt8)(h:d.length<18446744073709551616):(dat d).length≤d.length+9:=by
  have:=ja h
  simp[dat];omega
theorem kj{α β:Type}(f:α→List β)(l:List α)(k:Nat):((l.take k).flatMap f).length≤(l.flatMap f).length:=by
  have:l.flatMap f=(l.take k).flatMap f++(l.drop k).flatMap f:=by rw[←List.flatMap_append,List.take_append_drop]
  rw[this,List.length_append];omega
def beN(l:List UInt8):Nat:=l.foldl (fun n c=>n*256+c.toNat) 0
theorem zL7(l:List UInt8)(c:UInt8):beN (l++[c])=beN l*256+c.toNat:=by simp[beN]
theorem zDV:∀ (l:List UInt8) (n:Nat),l.foldl (fun n c=>n*256+c.toNat) n<(n+1)*256 ^ l.length
  | [],n=>by simp
  |c::l,n=>by
    have h:=zDV l (n*256+c.toNat)
    have a:=c.toNat_lt
    rw[List.foldl_cons,List.length_cons,Nat.pow_succ]
    refine Nat.lt_of_lt_of_le h ?_
    rw[show(n+1)*(256 ^ l.length*256)=((n+1)*256)*256 ^ l.length by rw[Nat.mul_assoc,Nat.mul_comm (256 ^ l.length)]]
    exact Nat.mul_le_mul_right _ qE
theorem zKu(l:List UInt8):beN l<256 ^ l.length:=by
  have:=zDV l 0
  simpa [beN]using this
theorem zJA{k:Nat}(h:k≤8):256 ^ k≤18446744073709551616:=by
  have:=Nat.pow_le_pow_right (n:=256) qE h
  simpa using this
theorem zGl{k:Nat}(h:k≤7):256 ^ k≤72057594037927936:=by
  have:=Nat.pow_le_pow_right (n:=256) qE h
  simpa using this
theorem zRN{m c:Nat}(h:c<256):(m*256)|||c=m*256+c:=by
  have:=Nat.two_pow_add_eq_or_of_lt (i:=8) (b:=c) (by simpa using h) m
  rw[Nat.mul_comm];simpa using this.symm
theorem zQ2{m c:Nat}(a:m<72057594037927936)(h:c<256):IntKind.u64.wrap ((((((m*256:Nat):Int)%2 ^ IntKind.u64.bits).toNat|||(((c:Nat):Int)%2 ^ IntKind.u64.bits).toNat:Nat)):Int)=((m*256+c:Nat):Int):=by
  have e1:(((m*256:Nat):Int)%2 ^ IntKind.u64.bits).toNat=m*256:=by simp[IntKind.bits];omega
  have e2:(((c:Nat):Int)%2 ^ IntKind.u64.bits).toNat=c:=by simp[IntKind.bits];omega
  rw[e1,e2,zRN h]
  exact yp qE
theorem zOj{m:Nat}(a:m<72057594037927936):IntKind.u64.wrap (((m:Nat):Int)*2 ^ (min (8:Int).toNat IntKind.u64.bits))=((m*256:Nat):Int):=by
  have e:(2:Int) ^ (min (8:Int).toNat IntKind.u64.bits)=256:=by decide
  rw[e,yp qE];omega
def zBs(l:List UInt8):Option (Nat×Nat):=
  if l.length=0 then none else if 8<(zf l 0).toNat∨(1<l.length∧0<(zf l 0).toNat)∧(zf l 1).toNat=0 then none else if l.length≤(zf l 0).toNat then none else some (beN ((l.take (1+(zf l 0).toNat)).drop 1),1+(zf l 0).toNat)
def x9(b:List UInt8)(at_:Nat):Option (Nat×Nat):=(zBs (b.drop at_)).map fun q=>(q.1,at_+q.2)
theorem zGQ{l:List UInt8}{n k:Nat}(h:zBs l=some (n,k)):n<18446744073709551616∧k≤l.length∧1≤k:=by
  unfold zBs at h
  split at h
  · cases h
  split at h
  · cases h
  split at h
  · cases h
  rename_i h1 h2 h3
  simp only[Option.some.injEq,Prod.mk.injEq]at h
  obtain⟨rfl,rfl⟩:=h
  refine⟨Nat.lt_of_lt_of_le (zKu _) (zJA qL),by omega,by omega⟩
theorem xr{b:List UInt8}{a n k:Nat}(h:x9 b a=some (n,k)):n<18446744073709551616∧k≤b.length∧a<k:=by
  unfold x9 at h
  rw[Option.map_eq_some_iff]at h
  obtain⟨⟨e,f⟩,h1,h2⟩:=h
  simp only[Prod.mk.injEq]at h2
  obtain⟨rfl,rfl⟩:=h2
  obtain⟨c,d,g⟩:=zGQ h1
  rw[List.length_drop]at d
  exact⟨c,by omega,by omega⟩
theorem zMI(v:Value)(b:List UInt8)(a:Nat)(w:World)(hl:zg b.length)(hb:Rd w [] (Res.sl v b.length (b.map vb))):Rets Tryz.prog 364 #[v,Vj a] w fun h e=>h= .bool (decide (a≤b.length))∧Own w [] [] e:=by
  refine zO Tryz.func364 O Tryz.ntmps364 (Own.start w) (zB (zG O (zA (zB (zC O (xE O O O (zC O (yA (q:=0≤((a:Nat):Int)) 4 2 [11,10,9,8] (((a:Nat):Int)≤((b.length:Nat):Int)) O O O O O O trivial O (fun c=> ?_) (fun g=> ?_)))))))))
  ·refine zQ O (gT c) (zC O (zQ O (gT c) (zC O (zQ O (gT c) (zo (pR hb) O O (zQ O (gT c) (yq O O O (z8 O (fun _ d=>d)))))))))
  refine zG O (zA (zP (zn (v:= .bool (decide ((0≤((a:Nat):Int))∧(((a:Nat):Int)≤((b.length:Nat):Int))))) O O (fun e d=>⟨(by congr 1;exact decide_eq_decide.2 qE),d.drop⟩))))
def NumPost(p:Option (Nat×Nat))(n k:Nat)(e:Int):Prop:=(e=0∧p=some (n,k))∨(e≠0∧n=0∧k=0∧p=none)
theorem NumPost.yes{p:Option (Nat×Nat)}{n k:Nat}{e:Int}(h:NumPost p n k e)(a:e=0):p=some (n,k):=by
  rcases h with h|h
  · exact h.2
  exact absurd a h.1
theorem NumPost.no{p:Option (Nat×Nat)}{n k:Nat}{e:Int}(h:NumPost p n k e)(a:e≠0):p=none:=by
  rcases h with h|h
  · exact absurd h.1 a
  exact h.2.2.2
theorem _root_.Go.Sc.qG{p:Prop}(h:p:=by first|assumption|omega|(simp<;>omega)|(constructor<;>(first|omega|(simp only[zg];omega)|(simp<;>omega)))):p:=h
theorem zOp(v:Value)(b:List UInt8)(a:Nat)(w:World)(hl:zg b.length)(ha:a≤b.length)(hb:Rd w [] (Res.sl v b.length (b.map vb))):Rets Tryz.prog 223 #[v,Vj a] w fun u_ t=>∃ (n:Nat) (k:Nat) (e:Int),u_= .tuple #[Vn n,Vj k,Vi e]∧NumPost (x9 b a) n k e∧Own w [] [] t:=by
  have hk:=(zf (b.drop a) 0).toNat_lt
  have hd:(b.drop a).length=b.length - a:=by simp
  have a2:(((b.drop a).take (1+(zf (b.drop a) 0).toNat)).drop 1).length=min (1+(zf (b.drop a) 0).toNat) (b.length - a) - 1:=by simp
  refine zO Tryz.func223 O Tryz.ntmps223 (Own.start w) (zB (zG O (zG O (zG O (zA (zK (zB (zC O (zC O (zH O O (fun t o=>(zMI v b a t qG (o.rd0 hb)).mono ?_)))))))))))
  rintro _ w1 ⟨rfl,hO⟩
  refine O0 ?_ (o.qb hO)
  refine xJ (q:=a≤b.length) O O (zA (zPi O qE (zN (zB (zC O (zC O (zBE (pR hb) 1 a b.length qD O ⟨_,O⟩ O qE qE O ?_)))))))
  have d:=Rd.dropL_m (g:=vb) (xs:=b) hb (l:=a) qE
  refine zG O (zA (zK (zU (zB (zC O (zo (pR d) O O (yR O O O (zG O (zA (zT O (fun c2=> ?_) (fun c2=> ?_)))))))))))
  ·refine zB (zG O (zG O (zG O (zA (zP (jj (v:=Vn 0) (v':=Vi 0) (v'':=Vi 5) O O O O (fun t o=>⟨0,0,5,O, .inr ⟨by decide,O,O,by unfold x9 zBs;rw[if_pos qE];rfl⟩,o.drop⟩)))))))
  refine zB (zC O (yH (pR d) 1 0 O O O qE O (zCD (pR d) 0 O qE qE O (yU O O O (zC O (yK (q:=((8:Nat):Int)<(((zf (b.drop a) 0).toNat:Nat):Int)) 15 4 [42,41,40,39,38,37,36,35,34,33,32,31,30,29,28] (((1<(((b.drop a).length:Nat):Int))∧(((0:Nat):Int)<(((zf (b.drop a) 0).toNat:Nat):Int)))∧((((zf (b.drop a) 1).toNat:Nat):Int)=((0:Nat):Int))) O O O O O O trivial O (fun m=> ?_) (fun u=> ?_)))))))
  ·refine zQ O (gF m) (zC O (zQ O (gF m) (zo (pR d) O O (zQ O (gF m) (yU O O O (zQ O (gF m) (zC O (yA (q:=1<(((b.drop a).length:Nat):Int)) 4 8 [35,34,33,32] (((0:Nat):Int)<(((zf (b.drop a) 0).toNat:Nat):Int)) O O O O O O ⟨_,O,O,gF m⟩ O (fun r=> ?_) (fun x=> ?_)))))))))
   ·refine zQ O (gT r) (zC O (zQ O (gT r) (yH (pR d) 1 0 O O O qE O (zQ O (gT r) (zCD (pR d) 0 O qE qE O (zQ O (gT r) (yU O O O (z8 O (fun _ o=>o)))))))))
   refine zQ O (gF m) (zC O (yA (q:=(1<(((b.drop a).length:Nat):Int))∧(((0:Nat):Int)<(((zf (b.drop a) 0).toNat:Nat):Int))) 4 14 [41,40,39,38] ((((zf (b.drop a) 1).toNat:Nat):Int)=((0:Nat):Int)) O O O O O O ⟨_,O,O,gF m⟩ O (fun p=> ?_) (fun y=> ?_)))
   ·refine zQ O (gT p) (zC O (zQ O (gT p) (yH (pR d) 1 1 O O O qE O (zQ O (gT p) (zCD (pR d) 1 O qE qE O (zQ O (gT p) (yR O O O (z8 O (fun _ o=>o)))))))))
   exact z8 O (fun _ o=>o)
  refine zG O (zA (zT O (fun c3=> ?_) (fun c3=> ?_)))
  ·refine zB (zG O (zG O (zG O (zA (zP (jj (v:=Vn 0) (v':=Vi 0) (v'':=Vi 4) O O O O (fun t o=>⟨0,0,4,O, .inr ⟨by decide,O,O,by unfold x9 zBs;rw[if_neg qE,if_pos qE];rfl⟩,o.drop⟩)))))))
  refine zN (zB (zC O (yH (pR d) 1 0 O O O qE O (zCD (pR d) 0 O qE qE O (ya qD O (zt qE) O ?_ qD)))))
  refine zG O (zA (zK (zB (zC O (zo (pR d) O O (zC O (yq O O O (zA (zT O (fun c4=> ?_) (fun c4=> ?_))))))))))
  ·refine zB (zG O (zG O (zG O (zA (zP (jj (v:=Vn 0) (v':=Vi 0) (v'':=Vi 5) O O O O (fun t o=>⟨0,0,5,O, .inr ⟨by decide,O,O,by unfold x9 zBs;rw[if_neg qE,if_neg qE,if_pos qE];rfl⟩,o.drop⟩)))))))
  refine zN (zK (zB (zC O (zC O (zr O O (zt qE) O (zBE (pR d) 1 1 (1+((zf (b.drop a) 0).toNat)) qD O ⟨_,O⟩ ⟨_,O⟩ qE qE O ?_))))))
  have s:=Rd.subL_m (g:=vb) (xs:=(b.drop a)) d (l:=1) (h:=1+((zf (b.drop a) 0).toNat)) qE qE
  refine zo (pR s) O O (zC O (zA (zU (yP (fun(j:Nat)=>[(1,Vj a),(4,Vn (beN ((((b.drop a).take (1+(zf (b.drop a) 0).toNat)).drop 1).take j))),(8,Vj ((zf (b.drop a) 0).toNat)),(55,(xa (xa v a b.length 1) 1 (1+((zf (b.drop a) 0).toNat)) 1)),(56,Vj ((((b.drop a).take (1+((zf (b.drop a) 0).toNat))).drop 1).length)),(57,Vj j)]) (fun(j:Nat)=>j≤(((b.drop a).take (1+(zf (b.drop a) 0).toNat)).drop 1).length) (fun(j:Nat)=>[]) (fun(j:Nat)=>(((b.drop a).take (1+(zf (b.drop a) 0).toNat)).drop 1).length - j) (fun t o=>⟨0,⟨O,O,O,O,O,O,trivial⟩,Nat.zero_le _,o⟩) (fun j g hΦ=> ?_)))))
  have z:=zKu ((((b.drop a).take (1+(zf (b.drop a) 0).toNat)).drop 1).take j)
  have a0:((((b.drop a).take (1+(zf (b.drop a) 0).toNat)).drop 1).take j).length=j:=by rw[List.length_take];omega
  rw[a0]at z
  refine zB (zy O O O (zA (zK (zT O (fun c5=> ?_) (fun c5=> ?_)))))
  ·have a3:=zGl (k:=j) qE
   have a1:=(zf (((b.drop a).take (1+(zf (b.drop a) 0).toNat)).drop 1) j).toNat_lt
   refine zN (zK (zU (zB (yH (pR s) 1 j O O O qE O (zCD (pR s) j O qE qE O (zG O (zA (zd (zC O (zRk (c:=(((beN ((((b.drop a).take (1+(zf (b.drop a) 0).toNat)).drop 1).take j))*256:Nat):Int)) O O V (zOj qE) O (zC O (ya qD O (yp qE) O ?_ qD))))))))))))
   refine zTQ (c:=(((beN ((((b.drop a).take (1+(zf (b.drop a) 0).toNat)).drop 1).take j))*256+(zf (((b.drop a).take (1+(zf (b.drop a) 0).toNat)).drop 1) j).toNat:Nat):Int)) O O (zQ2 qE a1) O (zG O (zA (zd (zr O O (zt qE) O (zC O (zw (fun t o=>⟨j+1,⟨O,by rw[yj qE,zL7];rfl,O,O,O,O,trivial⟩,qE,o,qE⟩)))))))
  refine zz O (zB (zC O (zC O (zr O O (zt qE) O (zC O (zr O O (zt qE) O (zG O (zG O (zG O (zA (zP (jj (v:=Vn (beN ((((b.drop a).take (1+(zf (b.drop a) 0).toNat)).drop 1).take j))) (v':=Vj ((a+1)+((zf (b.drop a) 0).toNat))) (v'':=Vi 0) O O O O (fun t o=>⟨(beN ((((b.drop a).take (1+(zf (b.drop a) 0).toNat)).drop 1).take j)),(a+1)+((zf (b.drop a) 0).toNat),0,O, .inl ⟨O,by unfold x9 zBs;rw[if_neg qE,if_neg qE,if_neg qE,List.take_of_length_le (i:=j) qE];simp[Nat.add_assoc]⟩,o.drop⟩)))))))))))))
structure RdS{α:Type}(p:List UInt8→Nat→Option (α×Nat))(b:List UInt8)(a:Nat)(bad:Bool)(x:α)(a':Nat)(bad':Bool):Prop where
  le:a'≤b.length
  st:bad=true→bad'=true
  ok:∀ v k,bad=false→p b a=some (v,k)→bad'=false∧x=v∧a'=k
  no:bad=false→p b a=none→bad'=true
theorem RdS.good{α:Type}{p:List UInt8→Nat→Option (α×Nat)}{b:List UInt8}{a a':Nat}{bad bad':Bool}{x:α}(h:RdS p b a bad x a' bad')(hb:bad'=false):bad=false∧p b a=some (x,a'):=by
  have c:bad=false:=by cases bad;rfl;have:=h.st rfl;rw[this]at hb;cases hb
  refine⟨c,?_⟩
  cases hp:p b a with
  |none=>have:=h.no c hp;rw[this]at hb;cases hb
  |some q=>obtain⟨v,k⟩:=q;obtain⟨_,rfl,rfl⟩:=h.ok v k c hp;rfl
def xS{α:Type}(x:α):List UInt8→Nat→Option (α×Nat):=fun _ a=>some (x,a)
def yi{α β:Type}(p:List UInt8→Nat→Option (α×Nat))(q:α→List UInt8→Nat→Option (β×Nat)):List UInt8→Nat→Option (β×Nat):=fun b a=>(p b a).bind fun r=>q r.1 b r.2
theorem RdS.pure{α:Type}{b:List UInt8}{a:Nat}{bad:Bool}(x:α)(h:a≤b.length):RdS (xS x) b a bad x a bad:=
  ⟨h,id,fun v k hb h=>(by simp only[xS,Option.some.injEq,Prod.mk.injEq]at h;exact⟨hb,h.1,h.2⟩),fun _ h=>(by cases h)⟩
theorem RdS.bind{α β:Type}{p:List UInt8→Nat→Option (α×Nat)}{q:α→List UInt8→Nat→Option (β×Nat)}{b:List UInt8}{a a1 a2:Nat}{bad bad1 bad2:Bool}{x:α}{y:β}
    (h1:RdS p b a bad x a1 bad1) (h2:RdS (q x) b a1 bad1 y a2 bad2):RdS (yi p q) b a bad y a2 bad2:=by
  refine⟨h2.le,fun h=>h2.st (h1.st h),fun v k hb h=> ?_,fun hb h=> ?_⟩
  · simp only[yi,Option.bind_eq_some_iff]at h
    obtain⟨⟨u,j⟩,c,d⟩:=h
    obtain⟨e1,rfl,rfl⟩:=h1.ok u j hb c
    exact h2.ok v k e1 d
  cases hp:p b a with
  |none=>exact h2.st (h1.no hb hp)
  |some r=>
    obtain⟨u,j⟩:=r
    obtain⟨e1,rfl,rfl⟩:=h1.ok u j hb hp
    simp only[yi,hp,Option.bind_some]at h
    exact h2.no e1 h
theorem RdS.map{α β:Type}{p:List UInt8→Nat→Option (α×Nat)}{b:List UInt8}{a a1:Nat}{bad bad1:Bool}{x:α}(g:α→β)(h:RdS p b a bad x a1 bad1):RdS (yi p fun v=>xS (g v)) b a bad (g x) a1 bad1:=
  h.bind (RdS.pure _ h.le)
theorem RdS.badly{α:Type}{p:List UInt8→Nat→Option (α×Nat)}{b:List UInt8}{a a':Nat}{bad:Bool}{x:α}(c:bad=true)(d:a'≤b.length):RdS p b a bad x a' bad:=
  ⟨d,id,fun v k h=>(by rw[c]at h;cases h),fun h=>(by rw[c]at h;cases h)⟩
theorem RdS.fail{α:Type}{p:List UInt8→Nat→Option (α×Nat)}{b:List UInt8}{a a':Nat}{bad:Bool}{x:α}(d:a'≤b.length)(hp:bad=false→p b a=none):RdS p b a bad x a' true:=
  ⟨d,fun _=>rfl,fun v k h c=>(by rw[hp h]at c;cases c),fun _ _=>rfl⟩
theorem RdS.done{α:Type}{p:List UInt8→Nat→Option (α×Nat)}{b:List UInt8}{a a':Nat}{bad:Bool}{x:α}(d:a'≤b.length)(hp:p b a=some (x,a')):RdS p b a bad x a' bad:=
  ⟨d,id,fun v k h c=>(by rw[hp]at c;cases c;exact⟨h,rfl,rfl⟩),fun _ c=>(by rw[hp]at c;cases c)⟩
theorem _root_.Go.Sc.qF{p:Prop}(h:p:=by first|omega|(simp<;>omega)):p:=h
theorem yz{S:List Nat}(o:Nat)(v:Value)(b:List UInt8)(a:Nat)(bad:Bool)(w:World)(hl:zg b.length)(m:a≤b.length)(l:Own w S [Res.row o 389 [v,Vj a, .bool bad]] w)(hb:Rd w S (Res.sl v b.length (b.map vb))):Rets Tryz.prog 129 #[.pointer (some ⟨o,0,none⟩)] w fun s i=>∃ (n:Nat) (p:Nat) (j:Bool),s=Vn n∧RdS x9 b a bad n p j∧n<18446744073709551616∧Own w S [Res.row o 389 [v,Vj p, .bool j]] i:=by
  refine zO Tryz.func129 O Tryz.ntmps129 l (zB (zG O (zA (zK (zB (zC O (zV O O (zI (o:=2) O O (zJ 0 (v:= .bool bad) O O O O (zA (ku O (fun q=> ?_) (fun q=> ?_))))))))))))
  ·refine zB (zG O (zA (zP (zn (v:=Vn 0) O O (fun i e=>⟨0,a,bad,O,RdS.badly q m,qE,e⟩)))))
  refine zN (zK (zc [0] O V qD (fun i e d=>zD 0 O za d (zD 1 O (zX O) d (zD 2 O (zL (o:=0) O) d (zD 3 O (zZ 0 (v:=v) O O O) d (zD 4 O za d (zD 5 O (zX O) d (zD 6 O (zL (o:=1) O) d (zD 7 O (zZ 0 (v:=Vj a) O O O) d (zM 8 O e (zH O O (fun i e=>((zOp v b a i qG qF (e.rd0 hb)).mono ?_))))))))))))))
  rintro _ u ⟨g,h,k,rfl,c,x⟩
  refine(?_:CL _ _ _ _ _ _ (Own w S [_])) u (e.qb x)
  refine zE [0] O V (fun i e d=>zD 9 O za d (zD 10 O (yD (vs:=[Vn g,Vj h,Vi k]) O O) d (zD 11 O (yD (vs:=[Vn g,Vj h,Vi k]) O O) d (zD 12 O (yD (vs:=[Vn g,Vj h,Vi k]) O O) d (zD 13 O z7 d (zD 14 O z7 d (zD 15 O z7 d (zY ((?_:C _ _ _ _ _ _ _ (Own w S [_])) _ e)))))))))
  refine zK (zB (zC O (yd O O O (zA (zT O (fun r=> ?_) (fun r=> ?_))))))
  ·refine zB (zC O (zV O O (zI (o:=2) O O (zi (cs:=[v,Vj a, .bool bad]) 0 O O O O O (zA (zB (zG O (zA (zP (zn (v:=Vn 0) O O (fun i e=>⟨0,a,true,O,RdS.fail m fun _=>c.no r,qE,e⟩)))))))))))
  refine zN (zB (zC O (zC O (zV O O (zI (o:=1) O O (zi (cs:=[v,Vj a, .bool bad]) 0 O O O O O (zA (zB (zC O (zG O (zA (zP (zn (v:=Vn g) O O (fun i e=>⟨g,h,bad,O,RdS.done (xr (c.yes qE)).2.1 (c.yes qE),(xr (c.yes qE)).1,e⟩))))))))))))))
def jq(most:Nat):List UInt8→Nat→Option (Nat×Nat):=fun b a=>(x9 b a).bind fun q=>if most<q.1 then none else some q
theorem zDN{most:Nat}{b:List UInt8}{a n k:Nat}(h:jq most b a=some (n,k)):x9 b a=some (n,k)∧n≤most:=by
  simp only[jq,Option.bind_eq_some_iff]at h
  obtain⟨q,h1,h2⟩:=h
  split at h2
  · cases h2
  cases h2;exact⟨h1,by omega⟩
theorem je{S:List Nat}(o:Nat)(v:Value)(b:List UInt8)(a:Nat)(bad:Bool)(most:Nat)(w:World)(hl:zg b.length)(ha:a≤b.length)(hm:most≤1000000)(s:Own w S [Res.row o 389 [v,Vj a, .bool bad]] w)(hb:Rd w S (Res.sl v b.length (b.map vb))):Rets Tryz.prog 130 #[.pointer (some ⟨o,0,none⟩),Vj most] w fun z m=>∃ (n:Nat) (x:Nat) (i:Bool),z=Vj n∧RdS (jq most) b a bad n x i∧n≤most∧Own w S [Res.row o 389 [v,Vj x, .bool i]] m:=by
  refine zO Tryz.func130 O Tryz.ntmps130 s (zB (zG O (zA (zB (zC O (zH O O (fun m j=>(yz o v b a bad m qG qF (j.give [0] O V) (j.rdTo hb [0] O)).mono ?_)))))))
  rintro _ w1 ⟨p,g,e,rfl,d,r,hO⟩
  have y:=d.le
  refine fq [0] O j hO (zG O (zA (zK (zB (zC O (zC O (ya (c:=((most:Nat):Int)) qD O (yp qE) O ?_ qD)))))))
  refine yU O O O (zA (zT O (fun c1=> ?_) (fun c1=> ?_)))
  ·refine zB (zC O (zV O O (zI (o:=2) O O (zi (cs:=[v,Vj g, .bool e]) 0 O O O O O (zA (zB (zG O (zA (zP (zn (v:=Vi 0) O O (fun m j=>⟨0,g,true,O,RdS.fail y fun l=>(by cases hp:jq most b a with|none=>rfl|some q=>obtain⟨h1,h2⟩:=zDN hp;obtain⟨_,h3,_⟩:=d.ok q.1 q.2 l h1;omega),qE,j⟩)))))))))))
  refine zN (zB (zC O (ya qD O (zt qE) O ?_ qD)))
  refine zG O (zA (zP (zn (v:=Vj p) O O (fun m j=>⟨p,g,e,O,⟨y,d.st,fun u k l h=>d.ok u k l (zDN h).1,fun l h=>(by cases hp:x9 b a with|none=>exact d.no l hp|some q=>simp only[jq,hp,Option.bind_some]at h;obtain⟨_,h3,_⟩:=d.ok q.1 q.2 l hp;rw[if_neg qE]at h;cases h)⟩,qE,j⟩))))
theorem zDR{S:List Nat}(o:Nat)(v:Value)(b:List UInt8)(a:Nat)(bad:Bool)(w:World)(hl:zg b.length)(r:a≤b.length)(l:Own w S [Res.row o 389 [v,Vj a, .bool bad]] w)(hb:Rd w S (Res.sl v b.length (b.map vb))):Rets Tryz.prog 312 #[.pointer (some ⟨o,0,none⟩)] w fun p k=>∃ (f:Bool) (m:Nat) (d:Bool),p= .bool f∧RdS (yi (jq 1) fun n=>xS (n==1)) b a bad f m d∧Own w S [Res.row o 389 [v,Vj m, .bool d]] k:=by
  refine zO Tryz.func312 O Tryz.ntmps312 l (zB (zG O (zA (zB (zC O (zH O O (fun k g=>(je o v b a bad 1 k qG qF qF (g.give [0] O V) (g.rdTo hb [0] O)).mono ?_)))))))
  rintro _ s ⟨h,i,c,rfl,e,j,q⟩
  refine fq [0] O g q (yR O O O (zG O (zA (zP (zn (v:= .bool (decide (((h:Nat):Int)=1))) O O (fun k g=>⟨h==1,i,c,(by congr 1;rw[Bool.eq_iff_iff];simp;omega),e.map (· ==1),g⟩))))))
def ko(b:List UInt8)(a:Nat):Option (List UInt8×Nat):=(x9 b a).bind fun q=>if b.length - q.2<q.1 then none else some ((b.take (q.2+q.1)).drop q.2,q.2+q.1)
theorem zCY{b d:List UInt8}{a k:Nat}(h:ko b a=some (d,k)):k≤b.length∧d.length≤b.length:=by
  simp only[ko,Option.bind_eq_some_iff]at h
  obtain⟨⟨n,j⟩,h1,h2⟩:=h
  have:=(xr h1).2.1
  split at h2
  · cases h2
  cases h2;simp;omega
theorem yu(v:Value)(l:List UInt8)(w:World)(hl:zg l.length)(hv:Rd w [] (Res.sl v l.length (l.map vb))):Rets Tryz.prog 53 #[v] w fun h b=>∃ (r:Value),h=r∧Own w [] [Res.vec 5 1 r l.length (l.map vb)] b:=by
  refine zO Tryz.func53 O Tryz.ntmps53 (Own.start w) (zB (zG O (zA (zK (zB (zC O (zAg (len:=l.length) (cs:=(l.map vb)) qD O O (fun b a=>Own.rd hv a) O (zA (ku O (fun d=> ?_) (fun d=> ?_))))))))))
  ·refine zB (zG O (zA (zP (zn (v:=zW) O O (fun b c=>⟨.slice none 0 0,O,by obtain⟨_,i⟩:=Sl.isNil hv.φ d;rw[List.eq_nil_of_length_eq_zero i];exact zq c 5 1⟩)))))
  refine zN (zB (yC (e:=5) (sz:=1) (vs:=[]) qD O O qJ V O (fun j=>zC O (zAJ (l:=([]:List UInt8)) (l':=l) 0 qD O O O (fun b a=>Own.rd hv a) qF O (fun g=>zG O (zA (zP (zn (v:=g) O O (fun b c=>⟨g,O,c⟩)))))))))
def BytesPost(p:Option (List UInt8×Nat))(d:List UInt8)(k:Nat)(e:Int):Prop:=(e=0∧p=some (d,k))∨(e≠0∧p=none)
theorem zNX(v:Value)(b:List UInt8)(a:Nat)(w:World)(hl:zg b.length)(ha:a≤b.length)(hb:Rd w [] (Res.sl v b.length (b.map vb))):Rets Tryz.prog 224 #[v,Vj a] w fun u_ n=>∃ (r:Value) (d:List UInt8) (k:Nat) (e:Int),u_= .tuple #[r,Vj k,Vi e]∧BytesPost (ko b a) d k e∧Own w [] [Res.vec 5 1 r d.length (d.map vb)] n:=by
  refine zO Tryz.func224 O Tryz.ntmps224 (Own.start w) (zB (zG O (zG O (zG O (zA (zB (zC O (zC O (zH O O (fun n j=>(zOp v b a n qG qF (j.rd0 hb)).mono ?_))))))))))
  rintro _ s ⟨i,c,m,rfl,o,u⟩
  have z:=o
  refine(?_:CL _ _ _ _ _ _ (Own w [] [])) s (j.qb u)
  refine zC O (zb (vs:=[Vn i,Vj c,Vi m]) O O O (zb (vs:=[Vn i,Vj c,Vi m]) O O O (zb (vs:=[Vn i,Vj c,Vi m]) O O O (zG O (zG O (zG O (zA (zK (zB (zC O (yd O O O (zA (zT O (fun x=> ?_) (fun x=> ?_))))))))))))))
  ·refine zB (zC O (zG O (zG O (zG O (zA (zP (jj (v:=zW) (v':=Vi 0) (v'':=Vi m) O O O O (fun n j=>⟨.slice none 0 0,[],0,m,O, .inr ⟨x,by unfold ko;rw[z.no x];rfl⟩,zq j.drop 5 1⟩))))))))
  have y:=z.yes qE
  obtain⟨a0,a1,a2⟩:=xr y
  have hu:u64 (((b.length:Nat):Int) - ((c:Nat):Int))=b.length - c:=by unfold u64;omega
  refine zN (zK (zB (zC O (zC O (zo (pR hb) O O (zC O (y5 O O (zt qE) O (ya qD O (yx _) O ?_ qD))))))))
  refine yU O O O (zA (zT O (fun c2=> ?_) (fun c2=> ?_)))
  ·refine zB (zG O (zG O (zG O (zA (zP (jj (v:=zW) (v':=Vi 0) (v'':=Vi 5) O O O O (fun n j=>⟨.slice none 0 0,[],0,5,O, .inr ⟨by decide,by unfold ko;rw[y];simp only[Option.bind_some];rw[if_pos qE]⟩,zq j.drop 5 1⟩)))))))
  refine zN (zB (zC O (zC O (ya qD O (zt qE) O ?_ qD))))
  refine zr O O (zt qE) O (zG O (zA (zB (zC O (zC O (zC O (zBE (pR hb) 1 c (c+i) qD O ⟨_,O⟩ ⟨_,O⟩ qE qE O ?_)))))))
  have p:=Rd.subL_m (g:=vb) (xs:=b) hb (l:=c) (h:=c+i) qE qE
  refine zH O O (fun n j=>(yu (xa v c (c+i) 1) ((b.take (c+i)).drop c) n qG (j.rd0 p)).mono ?_)
  rintro q s ⟨_,rfl,u⟩
  refine(?_:CL _ _ _ _ _ _ (Own w [] [_])) s (j.qb u)
  refine zC O (zG O (zG O (zG O (zA (zP (jj (v:=q) (v':=Vj (c+i)) (v'':=Vi 0) O O O O (fun n j=>⟨q,((b.take (c+i)).drop c),c+i,0,O, .inl ⟨O,by unfold ko;rw[y];simp only[Option.bind_some];rw[if_neg qE]⟩,j⟩)))))))
end Go.Proofs.YtmpaljnacfidaaaGreatDoor