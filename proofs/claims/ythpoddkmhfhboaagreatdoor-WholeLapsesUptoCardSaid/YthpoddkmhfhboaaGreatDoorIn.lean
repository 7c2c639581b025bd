import Derived.Test.YthpoddkmhfhboaaGreatDoorFwT
import Derived.Test.YthpoddkmhfhboaaGreatDoorChecked
set_option linter.unusedSimpArgs false
set_option linter.unusedVariables false
namespace Go.Sc
open Go
theorem fq{P:Program}{n:Nat}{ops:Array Oper}{l:List Oper}{N:K}{f:Nat→Value}{L Lin Lout:List Res}{w0 w w':World}{S:List Nat}(m:List Nat)(a:m.mapM (fun i=>L[i]?)=some Lin)(h:Own w0 S L w)(b:Own w (xL Lin) Lout w')(k:CL P n ops l N f (Own w0 S (y5 m 0 L++Lout))):WL P n ops l N f w':=k w' (h.qc m a b)
end Go.Sc
set_option maxRecDepth 10000
namespace Go.Proofs.YthpoddkmhfhboaaGreatDoor
open Go.Sc
abbrev EncOk(n:Nat):Prop:=n≤100000000000
def fl(f:Bool):Nat:=bif f then 1 else 0
theorem zF9(b:Bool):fl b<18446744073709551616:=by cases b<;>simp[fl]
def zE9(ns:List Int):List UInt8:=yO (u64 ns.length::ns.map u64)
def Res.bv(o:Nat)(T:TypeId)(v:Value)(bs:List UInt8):Res:=(Res.row o T [v]).both (Res.vec T8 1 v bs.length (bs.map vb))
theorem _root_.Go.Sc.Own.splitBv{w0 w:World}{S:List Nat}{L:List Res}{i o:Nat}{T:TypeId}{v:Value}{bs:List UInt8}(a:L[i]?=some (Res.bv o T v bs))(h:Own w0 S L w):Own w0 S (L.set i (Res.row o T [v])++[Res.vec T8 1 v bs.length (bs.map vb)]) w:=h.splitBoth a
theorem _root_.Go.Sc.Own.joinBv{w0 w:World}{S:List Nat}{L:List Res}{i j o:Nat}{T:TypeId}{v:Value}{bs:List UInt8}(a:i≠j)(h1:L[i]?=some (Res.row o T [v]))(h2:L[j]?=some (Res.vec T8 1 v bs.length (bs.map vb)))(h:Own w0 S L w):Own w0 S ((L.set i (Res.bv o T v bs)).eraseIdx j) w:=h.joinBoth a h1 h2
theorem zCH(v:Value)(bs:List UInt8)(n:Nat)(w:World)(a:n<18446744073709551616)(hb:bs.length≤1000000000000)(hv:Rd w [] (Res.sl v bs.length (bs.map vb))):Rets Tryz.prog 312 #[v,Vn n] w fun b c=>∃ (r:Value),b=r∧Own w [] [Res.vec 5 1 r (bs++xS n).length ((bs++xS n).map vb)] c:=by
 refine(zGD v bs n a w hv.φ hb).mono ?_
 intro r w1 hO
 exact⟨r,O,hO⟩
theorem _root_.Go.Sc.qK{p:Prop}(h:p:=by first|omega|(simp<;>omega)|(constructor<;>(first|omega|(simp<;>omega)))):p:=h
theorem jH{S:List Nat}(o:Nat)(p:Value)(bs:List UInt8)(lv:Value)(ns:List Nat)(w:World)(c:∀ n∈ns,n<18446744073709551616)(hb:bs.length+9*ns.length≤100000000000)(l:Own w S [Res.bv o yy p bs] w)(hl:Rd w S (Res.sl lv ns.length (ns.flatMap U1))):Rets Tryz.prog 277 #[.pointer (some ⟨o,0,none⟩),lv] w fun r b=>∃ (m:Value),r= .tuple #[]∧Own w S [Res.bv o yy m (bs++yO ns)] b:=by
 refine zO Tryz.func277 O Tryz.ntmps277 l (zB (zC O (zn (pR hl) O O (zC O (zA (zU (xD (fun(k:Nat) (s:Value)=>[(0, .pointer (some ⟨o,0,none⟩)),(6,lv),(7,Vj ns.length),(8,Vj k)]) (fun(k:Nat) (s:Value)=>k≤ns.length) (fun(k:Nat) (s:Value)=>[Res.bv o yy s (bs++yO (ns.take k))]) (fun(k:Nat) (s:Value)=>ns.length - k) (fun b a=>⟨0,p,⟨O,O,O,O,trivial⟩,Nat.zero_le _,by simpa [yO]using a⟩) (fun k s g hΦ=> ?_))))))))
 have u:=yS (ns:=ns.take k) (fun n x=>c n (List.mem_of_mem_take x))
 have q:(ns.take k).length=k:=by simp;omega
 refine zB (zu O O O (zA (zK (zT O (fun y=> ?_) (fun y=> ?_)))))
 ·refine zN (zK (zU (zB (yL (pR hl) 1 k O O O qG O (xC (pR hl) 1 k 0 (fun _=>O) O O qG O O (zF O (zA (ze (zC O (zC O (zV O O (zI (o:=0) O O (kC [Res.row o yy [s],Res.vec 5 1 s (bs++yO (ns.take k)).length ((bs++yO (ns.take k)).map vb)] (fun b a=>a.splitBv (i:=0) (o:=o) (T:=yy) (v:=s) (bs:=(bs++yO (ns.take k))) O) (zJ 0 (v:=s) O O O O (zC O (zG O O (fun b a=>(zCH s (bs++yO (ns.take k)) (zc ns k) b (c _ (zy qG)) qK (a.qj 1 O)).mono ?_)))))))))))))))))
  rintro d z ⟨_,rfl,hO⟩
  refine(?_:CL _ _ _ _ _ _ (Own w S [_,_,_])) z (a.qb hO)
  refine zV O O (zI (o:=0) O O (zS (fun b a=>Own.qa (i:=2) O a) (fun e=>(zi (cs:=[s]) 0 O O O e O (zA (ze (zr O O (zt qG) O (zC O (zx (fun b a=>⟨k+1,d,⟨O,O,O,O,trivial⟩,qG,by rw[yl qG];have h:=(a.joinBv (i:=0) (j:=2) (o:=o) (T:=yy) (v:=d) (bs:=bs++yO (ns.take k)++xS (zc ns k)) V rfl rfl).one 0 rfl;simpa [yO]using h,qG⟩))))))))))
 exact xy O (yq O (fun b a=>⟨s,O,by rw[List.take_of_length_le qG]at a;exact a⟩))
theorem _root_.Go.Sc.qT{p:Prop}(h:p:=by first|assumption|(simp[ya];done)|(simp[ya];omega)|(simp;omega)):p:=h
theorem zH6{S:List Nat}(o:Nat)(l:Value)(bs:List UInt8)(lv:Value)(ns:List Int)(w:World)(hb:bs.length+9*ns.length≤100000000000)(h:Own w S [Res.bv o yy l bs] w)(hl:Rd w S (Res.sl lv ns.length (ns.flatMap I1))):Rets Tryz.prog 294 #[.pointer (some ⟨o,0,none⟩),lv] w fun p d=>∃ (i:Value),p= .tuple #[]∧Own w S [Res.bv o yy i (bs++yO (ns.map u64))] d:=by
 refine zO Tryz.func294 O Tryz.ntmps294 h (zB (zC O (zn (pR hl) O O (zC O (zA (zU (xD (fun(k:Nat) (s:Value)=>[(0, .pointer (some ⟨o,0,none⟩)),(6,lv),(7,Vj ns.length),(8,Vj k)]) (fun(k:Nat) (s:Value)=>k≤ns.length) (fun(k:Nat) (s:Value)=>[Res.bv o yy s (bs++yO ((ns.map u64).take k))]) (fun(k:Nat) (s:Value)=>ns.length - k) (fun d b=>⟨0,l,⟨O,O,O,O,trivial⟩,Nat.zero_le _,by simpa [yO]using b⟩) (fun k s g x=> ?_))))))))
 have q:=yS (ns:=(ns.map u64).take k) (fun n r=>by obtain⟨a,_,rfl⟩:=List.mem_map.1 (List.mem_of_mem_take r);exact ya a)
 have m:((ns.map u64).take k).length=k:=by simp;omega
 refine zB (zu O O O (zA (zK (zT O (fun u=> ?_) (fun u=> ?_)))))
 ·refine zN (zK (zU (zB (yL (pR hl) 1 k O O O qG O (xC (pR hl) 1 k 0 (fun _=>O) O O qG O O (zF O (zA (ze (zC O (zC O (yh qF O (y0 _) O ?_ qF)))))))))))
  refine yH (e:=31) (sz:=1) (vs:=[Vn (u64 (zc ns k))]) qF O O qL V O (fun j=>zG O O (fun d b=>(jH o s (bs++yO ((ns.map u64).take k)) (.slice (some ⟨j,0,none⟩) 1 1) [u64 (zc ns k)] d qT qK (b.give [0] O V) (b.rdVec 1 O [0] O O)).mono ?_))
  rintro _ y ⟨c,rfl,v⟩
  refine fq [0] O b v (zA (ze (zr O O (zt qG) O (zC O (zx (fun d b=>⟨k+1,c,⟨O,O,O,O,trivial⟩,qG,by rw[yl qN,show zc (ns.map u64) k=u64 (zc ns k)from nth_map qG];simpa [yO]using b.one 1 rfl,qG⟩))))))
 exact xy O (yq O (fun d b=>⟨s,O,by rw[List.take_of_length_le qN]at b;exact b⟩))
theorem zIz{S:List Nat}(o:Nat)(r:Value)(bs:List UInt8)(lv:Value)(fs:List Bool)(w:World)(hb:bs.length+9*fs.length≤100000000000)(i:Own w S [Res.bv o yy r bs] w)(hl:Rd w S (Res.sl lv fs.length (fs.flatMap B1))):Rets Tryz.prog 276 #[.pointer (some ⟨o,0,none⟩),lv] w fun v c=>∃ (j:Value),v= .tuple #[]∧Own w S [Res.bv o yy j (bs++yO (fs.map fl))] c:=by
 refine zO Tryz.func276 O Tryz.ntmps276 i (zB (zC O (zn (pR hl) O O (zC O (zA (zU (xD (fun(k:Nat) (s:Value)=>[(0, .pointer (some ⟨o,0,none⟩)),(6,lv),(7,Vj fs.length),(8,Vj k)]) (fun(k:Nat) (s:Value)=>k≤fs.length) (fun(k:Nat) (s:Value)=>[Res.bv o yy s (bs++yO ((fs.map fl).take k))]) (fun(k:Nat) (s:Value)=>fs.length - k) (fun c b=>⟨0,r,⟨O,O,O,O,trivial⟩,Nat.zero_le _,by simpa [yO]using b⟩) (fun k s g hΦ=> ?_))))))))
 have x:=yS (ns:=(fs.map fl).take k) (fun n y=>by obtain⟨a,_,rfl⟩:=List.mem_map.1 (List.mem_of_mem_take y);exact zF9 a)
 have u:((fs.map fl).take k).length=k:=by simp;omega
 refine zB (zu O O O (zA (zK (zT O (fun z=> ?_) (fun z=> ?_)))))
 ·refine zN (zK (zU (zB (yL (pR hl) 1 k O O O qG O (xC (pR hl) 1 k 0 (fun _=>O) O O qG O O (zF O (zA (zB (zC O (zA (jJ O (fun l=> ?_) (fun l=> ?_))))))))))))
  ·refine ze (zC O (yH (e:=31) (sz:=1) (vs:=[Vn 1]) qF O O qL V O (fun m=>zG O O (fun c b=>(jH o s (bs++yO ((fs.map fl).take k)) (.slice (some ⟨m,0,none⟩) 1 1) [1] c qT qK (b.give [0] O V) (b.rdVec 1 O [0] O O)).mono ?_))))
   rintro _ w1 ⟨d,rfl,p⟩
   refine fq [0] O b p (zA (ze (zr O O (zt qG) O (zC O (zx (fun c b=>⟨k+1,d,⟨O,O,O,O,trivial⟩,qG,by rw[yl qN,show zc (fs.map fl) k=fl (zc fs k)from nth_map qG,l];simpa [yO,fl]using b.one 1 rfl,qG⟩))))))
  refine ze (zC O (yH (e:=31) (sz:=1) (vs:=[Vn 0]) qF O O qL V O (fun q=>zG O O (fun c b=>(jH o s (bs++yO ((fs.map fl).take k)) (.slice (some ⟨q,0,none⟩) 1 1) [0] c qT qK (b.give [0] O V) (b.rdVec 1 O [0] O O)).mono ?_))))
  rintro _ w1 ⟨h,rfl,p⟩
  refine fq [0] O b p (zA (ze (zr O O (zt qG) O (zC O (zx (fun c b=>⟨k+1,h,⟨O,O,O,O,trivial⟩,qG,by rw[yl qN,show zc (fs.map fl) k=fl (zc fs k)from nth_map qG,l];simpa [yO,fl]using b.one 1 rfl,qG⟩))))))
 exact xy O (yq O (fun c b=>⟨s,O,by rw[List.take_of_length_le qN]at b;exact b⟩))
theorem zPy{S:List Nat}(o:Nat)(k:Value)(bs:List UInt8)(lv:Value)(ns:List Int)(w:World)(hb:bs.length+9*(ns.length+1)≤100000000000)(g:Own w S [Res.bv o yy k bs] w)(hl:Rd w S (Res.sl lv ns.length (ns.flatMap I1))):Rets Tryz.prog 424 #[.pointer (some ⟨o,0,none⟩),lv] w fun l d=>∃ (i:Value),l= .tuple #[]∧Own w S [Res.bv o yy i (bs++zE9 ns)] d:=by
 have m:=yS (ns:=[u64 ns.length]) (by simp[ya])
 simp only[List.length_cons,List.length_nil]at m
 refine zO Tryz.func424 O Tryz.ntmps424 g (zB (zC O (zC O (zn (pR hl) O O (yH (e:=3) (sz:=1) (vs:=[Vj ns.length]) qF O O qL V O (fun n=>zG O O (fun d a=>(zH6 o _ _ (.slice (some ⟨n,0,none⟩) 1 1) [((ns.length:Nat):Int)] d qK (a.give [0] O V) (a.rdVec 1 O [0] O O)).mono ?_)))))))
 rintro _ p ⟨b,rfl,j⟩
 refine fq [0] O a j (zA (ze (zC O (zC O (zG O O (fun d a=>(zH6 o b (bs++yO ([((ns.length:Nat):Int)].map u64)) lv ns d qK (a.give [1] O V) (a.rdTo hl [1] O)).mono ?_))))))
 rintro _ p ⟨c,rfl,j⟩
 refine fq [1] O a j (zx (yq O (fun d a=>⟨c,O,by have h:=a.one 1 rfl;simpa [zE9,yO]using h⟩)))
def le(n:Nat):Nat→List UInt8
 |0=>[]
 |k+1=>le n k++[UInt8.ofNat (n / 256 ^ k)]
theorem jQ:yV 0=0:=by simp[yV,yK]
theorem zAC{m:Nat}(h:0<m):yV m=yV (m / 256)+1:=by
 by_cases h8:256≤m
 · have:=jO (n:=m) (k:=8) h8
   unfold yV
   rw[this]
   show(yK (m / 256)+8+7) / 8=(yK (m / 256)+7) / 8+1
   omega
 have e:m / 256=0:=by omega
 rw[e,jQ]
 have h1:=zDR h
 have h2:=kD (n:=m) (k:=8) qG
 unfold yV
 omega
theorem xz(d:List UInt8)(h:d.length<18446744073709551616):(dat d).length≤d.length+9:=by
 have:=jz h
 simp[dat];omega
theorem jG{α β:Type}(f:α→List β)(l:List α)(k:Nat):((l.take k).flatMap f).length≤(l.flatMap f).length:=by
 have:l.flatMap f=(l.take k).flatMap f++(l.drop k).flatMap f:=by rw[←List.flatMap_append,List.take_append_drop]
 rw[this,List.length_append];omega
def beN(l:List UInt8):Nat:=l.foldl (fun n c=>n*256+c.toNat) 0
theorem zMT(l:List UInt8)(c:UInt8):beN (l++[c])=beN l*256+c.toNat:=by simp[beN]
theorem zD6:∀ (l:List UInt8) (n:Nat),l.foldl (fun n c=>n*256+c.toNat) n<(n+1)*256 ^ l.length
 | [],n=>by simp
 |c::l,n=>by
   have h:=zD6 l (n*256+c.toNat)
   have a:=c.toNat_lt
   rw[List.foldl_cons,List.length_cons,Nat.pow_succ]
   refine Nat.lt_of_lt_of_le h ?_
   rw[show(n+1)*(256 ^ l.length*256)=((n+1)*256)*256 ^ l.length by rw[Nat.mul_assoc,Nat.mul_comm (256 ^ l.length)]]
   exact Nat.mul_le_mul_right _ qG
theorem zKq(l:List UInt8):beN l<256 ^ l.length:=by
 have:=zD6 l 0
 simpa [beN]using this
theorem zJJ{k:Nat}(h:k≤8):256 ^ k≤18446744073709551616:=by
 have:=Nat.pow_le_pow_right (n:=256) qG h
 simpa using this
theorem zHO{k:Nat}(h:k≤7):256 ^ k≤72057594037927936:=by
 have:=Nat.pow_le_pow_right (n:=256) qG h
 simpa using this
theorem zRi{m c:Nat}(h:c<256):(m*256)|||c=m*256+c:=by
 have:=Nat.two_pow_add_eq_or_of_lt (i:=8) (b:=c) (by simpa using h) m
 rw[Nat.mul_comm];simpa using this.symm
theorem zRP{m c:Nat}(a:m<72057594037927936)(h:c<256):IntKind.u64.wrap ((((((m*256:Nat):Int)%2 ^ IntKind.u64.bits).toNat|||(((c:Nat):Int)%2 ^ IntKind.u64.bits).toNat:Nat)):Int)=((m*256+c:Nat):Int):=by
 have e1:(((m*256:Nat):Int)%2 ^ IntKind.u64.bits).toNat=m*256:=by simp[IntKind.bits];omega
 have e2:(((c:Nat):Int)%2 ^ IntKind.u64.bits).toNat=c:=by simp[IntKind.bits];omega
 rw[e1,e2,zRi h]
 exact yz qG
theorem zNl{m:Nat}(a:m<72057594037927936):IntKind.u64.wrap (((m:Nat):Int)*2 ^ (min (8:Int).toNat IntKind.u64.bits))=((m*256:Nat):Int):=by
 have e:(2:Int) ^ (min (8:Int).toNat IntKind.u64.bits)=256:=by decide
 rw[e,yz qG];omega
def zB6(l:List UInt8):Option (Nat×Nat):=
 if l.length=0 then none else if 8<(zc l 0).toNat∨(1<l.length∧0<(zc l 0).toNat)∧(zc l 1).toNat=0 then none else if l.length≤(zc l 0).toNat then none else some (beN ((l.take (1+(zc l 0).toNat)).drop 1),1+(zc l 0).toNat)
def kI(b:List UInt8)(at_:Nat):Option (Nat×Nat):=(zB6 (b.drop at_)).map fun q=>(q.1,at_+q.2)
theorem zH4{l:List UInt8}{n k:Nat}(h:zB6 l=some (n,k)):n<18446744073709551616∧k≤l.length∧1≤k:=by
 unfold zB6 at h
 split at h
 · cases h
 split at h
 · cases h
 split at h
 · cases h
 rename_i h1 h2 h3
 simp only[Option.some.injEq,Prod.mk.injEq]at h
 obtain⟨rfl,rfl⟩:=h
 refine⟨Nat.lt_of_lt_of_le (zKq _)<|zJJ qN,by omega,by omega⟩
theorem x7{b:List UInt8}{a n k:Nat}(h:kI b a=some (n,k)):n<18446744073709551616∧k≤b.length∧a<k:=by
 unfold kI at h
 rw[Option.map_eq_some_iff]at h
 obtain⟨⟨e,f⟩,h1,h2⟩:=h
 simp only[Prod.mk.injEq]at h2
 obtain⟨rfl,rfl⟩:=h2
 obtain⟨c,d,g⟩:=zH4 h1
 rw[List.length_drop]at d
 exact⟨c,by omega,by omega⟩
theorem zL9(v:Value)(b:List UInt8)(a:Nat)(w:World)(hl:zg b.length)(hb:Rd w [] (Res.sl v b.length (b.map vb))):Rets Tryz.prog 358 #[v,Vj a] w fun h e=>h= .bool (decide (a≤b.length))∧Own w [] [] e:=by
 refine zO Tryz.func358 O Tryz.ntmps358 (Own.start w)<|zB<|zF O<|zA<|zB<|zC O<|xJ O O O<|zC O<|yA (q:=0≤((a:Nat):Int)) 4 2 [11,10,9,8] (((a:Nat):Int)≤((b.length:Nat):Int)) O O O O O O trivial O (fun c=> ?_)<|fun g=> ?_
 ·refine zQ O (gT c)<|zC O<|zQ O (gT c)<|zC O<|zQ O (gT c)<|zn (pR hb) O O<|zQ O (gT c)<|yx O O O<|z8 O<|fun _ d=>d
 refine zF O<|zA<|zP<|zm (v:= .bool (decide ((0≤((a:Nat):Int))∧(((a:Nat):Int)≤((b.length:Nat):Int))))) O O<|fun e d=>⟨(by congr 1;exact decide_eq_decide.2 qG),d.drop⟩
def NumPost(p:Option (Nat×Nat))(n k:Nat)(e:Int):Prop:=(e=0∧p=some (n,k))∨(e≠0∧n=0∧k=0∧p=none)
theorem NumPost.yes{p:Option (Nat×Nat)}{n k:Nat}{e:Int}(h:NumPost p n k e)(a:e=0):p=some (n,k):=by
 rcases h with h|h
 · exact h.2
 exact absurd a h.1
theorem NumPost.no{p:Option (Nat×Nat)}{n k:Nat}{e:Int}(h:NumPost p n k e)(a:e≠0):p=none:=by
 rcases h with h|h
 · exact absurd h.1 a
 exact h.2.2.2
theorem _root_.Go.Sc.qI{p:Prop}(h:p:=by first|assumption|omega|(simp<;>omega)|(constructor<;>(first|omega|(simp only[zg];omega)|(simp<;>omega)))):p:=h
theorem zPn(v:Value)(b:List UInt8)(a:Nat)(w:World)(hl:zg b.length)(ha:a≤b.length)(hb:Rd w [] (Res.sl v b.length (b.map vb))):Rets Tryz.prog 393 #[v,Vj a] w fun u_ t=>∃ (n:Nat) (k:Nat) (e:Int),u_= .tuple #[Vn n,Vj k,Vi e]∧NumPost (kI b a) n k e∧Own w [] [] t:=by
 have hk:=(zc (b.drop a) 0).toNat_lt
 have hd:(b.drop a).length=b.length - a:=by simp
 have a2:(((b.drop a).take (1+(zc (b.drop a) 0).toNat)).drop 1).length=min (1+(zc (b.drop a) 0).toNat) (b.length - a) - 1:=by simp
 refine zO Tryz.func393 O Tryz.ntmps393 (Own.start w)<|zB<|zF O<|zF O<|zF O<|zA<|zK<|zB<|zC O<|zC O<|zG O O<|fun t o=>(zL9 v b a t qI<|o.rd0 hb).mono ?_
 rintro _ w1 ⟨rfl,hO⟩
 refine(?_:CL _ _ _ _ _ _ (Own w [] [])) w1<|o.qb hO
 refine xQ (q:=a≤b.length) O O<|zA<|zQt O qG<|zN<|zB<|zC O<|zC O<|zBS (pR hb) 1 a b.length qF O ⟨_,O⟩ O qG qG O ?_
 have d:=Rd.dropL_m (g:=vb) (xs:=b) hb (l:=a) qG
 refine zF O<|zA<|zK<|zU<|zB<|zC O<|zn (pR d) O O<|yT O O O<|zF O<|zA<|zT O (fun c2=> ?_)<|fun c2=> ?_
 ·refine zB<|zF O<|zF O<|zF O<|zA<|zP<|zAB (v:=Vn 0) (v':=Vi 0) (v'':=Vi 5) O O O O<|fun t o=>⟨0,0,5,O, .inr ⟨by decide,O,O,by unfold kI zB6;rw[if_pos qG];rfl⟩,o.drop⟩
 refine zB<|zC O<|yL (pR d) 1 0 O O O qG O<|zCO (pR d) 0 O qG qG O<|yY O O O<|zC O<|yP (q:=((8:Nat):Int)<(((zc (b.drop a) 0).toNat:Nat):Int)) 15 4 [42,41,40,39,38,37,36,35,34,33,32,31,30,29,28] (((1<(((b.drop a).length:Nat):Int))∧(((0:Nat):Int)<(((zc (b.drop a) 0).toNat:Nat):Int)))∧((((zc (b.drop a) 1).toNat:Nat):Int)=((0:Nat):Int))) O O O O O O trivial O (fun m=> ?_)<|fun u=> ?_
 ·refine zQ O (gF m)<|zC O<|zQ O (gF m)<|zn (pR d) O O<|zQ O (gF m)<|yY O O O<|zQ O (gF m)<|zC O<|yA (q:=1<(((b.drop a).length:Nat):Int)) 4 8 [35,34,33,32] (((0:Nat):Int)<(((zc (b.drop a) 0).toNat:Nat):Int)) O O O O O O ⟨_,O,O,gF m⟩ O (fun r=> ?_)<|fun x=> ?_
  ·refine zQ O (gT r)<|zC O<|zQ O (gT r)<|yL (pR d) 1 0 O O O qG O<|zQ O (gT r)<|zCO (pR d) 0 O qG qG O<|zQ O (gT r)<|yY O O O<|z8 O<|fun _ o=>o
  refine zQ O (gF m)<|zC O<|yA (q:=(1<(((b.drop a).length:Nat):Int))∧(((0:Nat):Int)<(((zc (b.drop a) 0).toNat:Nat):Int))) 4 14 [41,40,39,38] ((((zc (b.drop a) 1).toNat:Nat):Int)=((0:Nat):Int)) O O O O O O ⟨_,O,O,gF m⟩ O (fun p=> ?_)<|fun y=> ?_
  ·refine zQ O (gT p)<|zC O<|zQ O (gT p)<|yL (pR d) 1 1 O O O qG O<|zQ O (gT p)<|zCO (pR d) 1 O qG qG O<|zQ O (gT p)<|yT O O O<|z8 O<|fun _ o=>o
  exact z8 O<|fun _ o=>o
 refine zF O<|zA<|zT O (fun c3=> ?_)<|fun c3=> ?_
 ·refine zB<|zF O<|zF O<|zF O<|zA<|zP<|zAB (v:=Vn 0) (v':=Vi 0) (v'':=Vi 4) O O O O<|fun t o=>⟨0,0,4,O, .inr ⟨by decide,O,O,by unfold kI zB6;rw[if_neg qG,if_pos qG];rfl⟩,o.drop⟩
 refine zN<|zB<|zC O<|yL (pR d) 1 0 O O O qG O<|zCO (pR d) 0 O qG qG O<|yh qF O (zt qG) O ?_ qF
 refine zF O<|zA<|zK<|zB<|zC O<|zn (pR d) O O<|zC O<|yx O O O<|zA<|zT O (fun c4=> ?_)<|fun c4=> ?_
 ·refine zB<|zF O<|zF O<|zF O<|zA<|zP<|zAB (v:=Vn 0) (v':=Vi 0) (v'':=Vi 5) O O O O<|fun t o=>⟨0,0,5,O, .inr ⟨by decide,O,O,by unfold kI zB6;rw[if_neg qG,if_neg qG,if_pos qG];rfl⟩,o.drop⟩
 refine zN<|zK<|zB<|zC O<|zC O<|zr O O (zt qG) O<|zBS (pR d) 1 1 (1+((zc (b.drop a) 0).toNat)) qF O ⟨_,O⟩ ⟨_,O⟩ qG qG O ?_
 have s:=Rd.subL_m (g:=vb) (xs:=(b.drop a)) d (l:=1) (h:=1+((zc (b.drop a) 0).toNat)) qG qG
 refine zn (pR s) O O<|zC O<|zA<|zU<|yQ (fun(j:Nat)=>[(1,Vj a),(4,Vn<|beN<|(((b.drop a).take<|1+(zc (b.drop a) 0).toNat).drop 1).take j),(8,Vj<|(zc (b.drop a) 0).toNat),(55,(xj (xj v a b.length 1) 1 (1+((zc (b.drop a) 0).toNat)) 1)),(56,Vj<|(((b.drop a).take<|1+((zc (b.drop a) 0).toNat)).drop 1).length),(57,Vj j)]) (fun(j:Nat)=>j≤(((b.drop a).take<|1+(zc (b.drop a) 0).toNat).drop 1).length) (fun(j:Nat)=>[]) (fun(j:Nat)=>(((b.drop a).take<|1+(zc (b.drop a) 0).toNat).drop 1).length - j) (fun t o=>⟨0,⟨O,O,O,O,O,O,trivial⟩,Nat.zero_le _,o⟩)<|fun j g hΦ=> ?_
 have z:=zKq ((((b.drop a).take (1+(zc (b.drop a) 0).toNat)).drop 1).take j)
 have a0:((((b.drop a).take (1+(zc (b.drop a) 0).toNat)).drop 1).take j).length=j:=by rw[List.length_take];omega
 rw[a0]at z
 refine zB<|zu O O O<|zA<|zK<|zT O (fun c5=> ?_)<|fun c5=> ?_
 ·have a3:=zHO (k:=j) qG
  have a1:=(zc (((b.drop a).take (1+(zc (b.drop a) 0).toNat)).drop 1) j).toNat_lt
  refine zN<|zK<|zU<|zB<|yL (pR s) 1 j O O O qG O<|zCO (pR s) j O qG qG O<|zF O<|zA<|ze<|zC O<|zTi (c:=(((beN<|(((b.drop a).take<|1+(zc (b.drop a) 0).toNat).drop 1).take j)*256:Nat):Int)) O O V (zNl qG) O<|zC O<|yh qF O (yz qG) O ?_ qF
  refine zUh (c:=(((beN<|(((b.drop a).take<|1+(zc (b.drop a) 0).toNat).drop 1).take j)*256+(zc (((b.drop a).take<|1+(zc (b.drop a) 0).toNat).drop 1) j).toNat:Nat):Int)) O O (zRP qG a1) O<|zF O<|zA<|ze<|zr O O (zt qG) O<|zC O<|zx<|fun t o=>⟨j+1,⟨O,by rw[yl qG,zMT];rfl,O,O,O,O,trivial⟩,qG,o,qG⟩
 refine zw O<|zB<|zC O<|zC O<|zr O O (zt qG) O<|zC O<|zr O O (zt qG) O<|zF O<|zF O<|zF O<|zA<|zP<|zAB (v:=Vn (beN<|(((b.drop a).take<|1+(zc (b.drop a) 0).toNat).drop 1).take j)) (v':=Vj ((a+1)+((zc (b.drop a) 0).toNat))) (v'':=Vi 0) O O O O<|fun t o=>⟨(beN<|(((b.drop a).take<|1+(zc (b.drop a) 0).toNat).drop 1).take j),(a+1)+((zc (b.drop a) 0).toNat),0,O, .inl ⟨O,by unfold kI zB6;rw[if_neg qG,if_neg qG,if_neg qG,List.take_of_length_le (i:=j) qG];simp[Nat.add_assoc]⟩,o.drop⟩
structure RdS{α:Type}(p:List UInt8→Nat→Option (α×Nat))(b:List UInt8)(a:Nat)(bad:Bool)(x:α)(a':Nat)(bad':Bool):Prop where
 le:a'≤b.length
 st:bad=true→bad'=true
 ok:∀ v k,bad=false→p b a=some (v,k)→bad'=false∧x=v∧a'=k
 no:bad=false→p b a=none→bad'=true
theorem RdS.good{α:Type}{p:List UInt8→Nat→Option (α×Nat)}{b:List UInt8}{a a':Nat}{bad bad':Bool}{x:α}(h:RdS p b a bad x a' bad')(hb:bad'=false):bad=false∧p b a=some (x,a'):=by
 have c:bad=false:=by cases bad;rfl;have:=h.st rfl;rw[this]at hb;cases hb
 refine⟨c,?_⟩
 cases hp:p b a with
 |none=>have:=h.no c hp;rw[this]at hb;cases hb
 |some q=>obtain⟨v,k⟩:=q;obtain⟨_,rfl,rfl⟩:=h.ok v k c hp;rfl
def xZ{α:Type}(x:α):List UInt8→Nat→Option (α×Nat):=fun _ a=>some (x,a)
def yp{α β:Type}(p:List UInt8→Nat→Option (α×Nat))(q:α→List UInt8→Nat→Option (β×Nat)):List UInt8→Nat→Option (β×Nat):=fun b a=>(p b a).bind fun r=>q r.1 b r.2
theorem RdS.pure{α:Type}{b:List UInt8}{a:Nat}{bad:Bool}(x:α)(h:a≤b.length):RdS (xZ x) b a bad x a bad:=
 ⟨h,id,fun v k hb h=>(by simp only[xZ,Option.some.injEq,Prod.mk.injEq]at h;exact⟨hb,h.1,h.2⟩),fun _ h=>(by cases h)⟩
theorem RdS.bind{α β:Type}{p:List UInt8→Nat→Option (α×Nat)}{q:α→List UInt8→Nat→Option (β×Nat)}{b:List UInt8}{a a1 a2:Nat}{bad bad1 bad2:Bool}{x:α}{y:β}
   (h1:RdS p b a bad x a1 bad1) (h2:RdS (q x) b a1 bad1 y a2 bad2):RdS (yp p q) b a bad y a2 bad2:=by
 refine⟨h2.le,fun h=>h2.st<|h1.st h,fun v k hb h=> ?_,fun hb h=> ?_⟩
 · simp only[yp,Option.bind_eq_some_iff]at h
   obtain⟨⟨u,j⟩,c,d⟩:=h
   obtain⟨e1,rfl,rfl⟩:=h1.ok u j hb c
   exact h2.ok v k e1 d
 cases hp:p b a with
 |none=>exact h2.st (h1.no hb hp)
 |some r=>
   obtain⟨u,j⟩:=r
   obtain⟨e1,rfl,rfl⟩:=h1.ok u j hb hp
   simp only[yp,hp,Option.bind_some]at h
   exact h2.no e1 h
theorem RdS.map{α β:Type}{p:List UInt8→Nat→Option (α×Nat)}{b:List UInt8}{a a1:Nat}{bad bad1:Bool}{x:α}(g:α→β)(h:RdS p b a bad x a1 bad1):RdS (yp p fun v=>xZ (g v)) b a bad (g x) a1 bad1:=
 h.bind (RdS.pure _ h.le)
theorem RdS.badly{α:Type}{p:List UInt8→Nat→Option (α×Nat)}{b:List UInt8}{a a':Nat}{bad:Bool}{x:α}(c:bad=true)(d:a'≤b.length):RdS p b a bad x a' bad:=
 ⟨d,id,fun v k h=>(by rw[c]at h;cases h),fun h=>(by rw[c]at h;cases h)⟩
theorem RdS.fail{α:Type}{p:List UInt8→Nat→Option (α×Nat)}{b:List UInt8}{a a':Nat}{bad:Bool}{x:α}(d:a'≤b.length)(hp:bad=false→p b a=none):RdS p b a bad x a' true:=
 ⟨d,fun _=>rfl,fun v k h c=>(by rw[hp h]at c;cases c),fun _ _=>rfl⟩
theorem RdS.done{α:Type}{p:List UInt8→Nat→Option (α×Nat)}{b:List UInt8}{a a':Nat}{bad:Bool}{x:α}(d:a'≤b.length)(hp:p b a=some (x,a')):RdS p b a bad x a' bad:=
 ⟨d,id,fun v k h c=>(by rw[hp]at c;cases c;exact⟨h,rfl,rfl⟩),fun _ c=>(by rw[hp]at c;cases c)⟩
theorem _root_.Go.Sc.qH{p:Prop}(h:p:=by first|omega|(simp<;>omega)):p:=h
theorem y6{S:List Nat}(o:Nat)(v:Value)(b:List UInt8)(a:Nat)(bad:Bool)(w:World)(hl:zg b.length)(m:a≤b.length)(l:Own w S [Res.row o 470 [v,Vj a, .bool bad]] w)(hb:Rd w S (Res.sl v b.length (b.map vb))):Rets Tryz.prog 281 #[.pointer (some ⟨o,0,none⟩)] w fun s i=>∃ (n:Nat) (p:Nat) (j:Bool),s=Vn n∧RdS kI b a bad n p j∧n<18446744073709551616∧Own w S [Res.row o 470 [v,Vj p, .bool j]] i:=by
 refine zO Tryz.func281 O Tryz.ntmps281 l<|zB<|zF O<|zA<|zK<|zB<|zC O<|zV O O<|zI (o:=2) O O<|zJ 0 (v:= .bool bad) O O O O<|zA<|jJ O (fun q=> ?_)<|fun q=> ?_
 ·refine zB<|zF O<|zA<|zP<|zm (v:=Vn 0) O O<|fun i e=>⟨0,a,bad,O,RdS.badly q m,qG,e⟩
 refine zN<|zK<|zd [0] O V qF<|fun i e d=>zD 0 O za d<|zD 1 O (zY O) d<|zD 2 O (zL (o:=0) O) d<|zD 3 O (zZ 0 (v:=v) O O O) d<|zD 4 O za d<|zD 5 O (zY O) d<|zD 6 O (zL (o:=1) O) d<|zD 7 O (zZ 0 (v:=Vj a) O O O) d<|zM 8 O e<|zG O O<|fun i e=>((zPn v b a i qI qH<|e.rd0 hb).mono ?_)
 rintro _ u ⟨g,h,k,rfl,c,x⟩
 refine(?_:CL _ _ _ _ _ _ (Own w S [_])) u<|e.qb x
 refine zE [0] O V<|fun i e d=>zD 9 O za d<|zD 10 O (yG (vs:=[Vn g,Vj h,Vi k]) O O) d<|zD 11 O (yG (vs:=[Vn g,Vj h,Vi k]) O O) d<|zD 12 O (yG (vs:=[Vn g,Vj h,Vi k]) O O) d<|zD 13 O yB d<|zD 14 O yB d<|zD 15 O yB d<|zX<|(?_:C _ _ _ _ _ _ _ (Own w S [_])) _ e
 refine zK<|zB<|zC O<|yf O O O<|zA<|zT O (fun r=> ?_)<|fun r=> ?_
 ·refine zB<|zC O<|zV O O<|zI (o:=2) O O<|zi (cs:=[v,Vj a, .bool bad]) 0 O O O O O<|zA<|zB<|zF O<|zA<|zP<|zm (v:=Vn 0) O O<|fun i e=>⟨0,a,true,O,RdS.fail m fun _=>c.no r,qG,e⟩
 refine zN<|zB<|zC O<|zC O<|zV O O<|zI (o:=1) O O<|zi (cs:=[v,Vj a, .bool bad]) 0 O O O O O<|zA<|zB<|zC O<|zF O<|zA<|zP<|zm (v:=Vn g) O O<|fun i e=>⟨g,h,bad,O,RdS.done (x7<|c.yes qG).2.1<|c.yes qG,(x7<|c.yes qG).1,e⟩
def j9(most:Nat):List UInt8→Nat→Option (Nat×Nat):=fun b a=>(kI b a).bind fun q=>if most<q.1 then none else some q
theorem zDg{most:Nat}{b:List UInt8}{a n k:Nat}(h:j9 most b a=some (n,k)):kI b a=some (n,k)∧n≤most:=by
 simp only[j9,Option.bind_eq_some_iff]at h
 obtain⟨q,h1,h2⟩:=h
 split at h2
 · cases h2
 cases h2;exact⟨h1,by omega⟩
theorem j3{S:List Nat}(o:Nat)(v:Value)(b:List UInt8)(a:Nat)(bad:Bool)(most:Nat)(w:World)(hl:zg b.length)(ha:a≤b.length)(hm:most≤1000000)(s:Own w S [Res.row o 470 [v,Vj a, .bool bad]] w)(hb:Rd w S (Res.sl v b.length (b.map vb))):Rets Tryz.prog 296 #[.pointer (some ⟨o,0,none⟩),Vj most] w fun z m=>∃ (n:Nat) (x:Nat) (i:Bool),z=Vj n∧RdS (j9 most) b a bad n x i∧n≤most∧Own w S [Res.row o 470 [v,Vj x, .bool i]] m:=by
 refine zO Tryz.func296 O Tryz.ntmps296 s<|zB<|zF O<|zA<|zB<|zC O<|zG O O<|fun m j=>(y6 o v b a bad m qI qH (j.give [0] O V)<|j.rdTo hb [0] O).mono ?_
 rintro _ w1 ⟨p,g,e,rfl,d,r,hO⟩
 have y:=d.le
 refine fq [0] O j hO<|zF O<|zA<|zK<|zB<|zC O<|zC O<|yh (c:=((most:Nat):Int)) qF O (yz qG) O ?_ qF
 refine yY O O O<|zA<|zT O (fun c1=> ?_)<|fun c1=> ?_
 ·refine zB<|zC O<|zV O O<|zI (o:=2) O O<|zi (cs:=[v,Vj g, .bool e]) 0 O O O O O<|zA<|zB<|zF O<|zA<|zP<|zm (v:=Vi 0) O O<|fun m j=>⟨0,g,true,O,RdS.fail y fun l=>(by cases hp:j9 most b a with|none=>rfl|some q=>obtain⟨h1,h2⟩:=zDg hp;obtain⟨_,h3,_⟩:=d.ok q.1 q.2 l h1;omega),qG,j⟩
 refine zN<|zB<|zC O<|yh qF O (zt qG) O ?_ qF
 refine zF O<|zA<|zP<|zm (v:=Vj p) O O<|fun m j=>⟨p,g,e,O,⟨y,d.st,fun u k l h=>d.ok u k l (zDg h).1,fun l h=>(by cases hp:kI b a with|none=>exact d.no l hp|some q=>simp only[j9,hp,Option.bind_some]at h;obtain⟨_,h3,_⟩:=d.ok q.1 q.2 l hp;rw[if_neg qG]at h;cases h)⟩,qG,j⟩
theorem zDk{S:List Nat}(o:Nat)(v:Value)(b:List UInt8)(a:Nat)(bad:Bool)(w:World)(hl:zg b.length)(r:a≤b.length)(l:Own w S [Res.row o 470 [v,Vj a, .bool bad]] w)(hb:Rd w S (Res.sl v b.length (b.map vb))):Rets Tryz.prog 280 #[.pointer (some ⟨o,0,none⟩)] w fun p k=>∃ (f:Bool) (m:Nat) (d:Bool),p= .bool f∧RdS (yp (j9 1) fun n=>xZ (n==1)) b a bad f m d∧Own w S [Res.row o 470 [v,Vj m, .bool d]] k:=by
 refine zO Tryz.func280 O Tryz.ntmps280 l<|zB<|zF O<|zA<|zB<|zC O<|zG O O<|fun k g=>(j3 o v b a bad 1 k qI qH qH (g.give [0] O V)<|g.rdTo hb [0] O).mono ?_
 rintro _ s ⟨h,i,c,rfl,e,j,q⟩
 refine fq [0] O g q<|yT O O O<|zF O<|zA<|zP<|zm (v:= .bool (decide (((h:Nat):Int)=1))) O O<|fun k g=>⟨h==1,i,c,(by congr 1;rw[Bool.eq_iff_iff];simp;omega),e.map (· ==1),g⟩
def jE(b:List UInt8)(a:Nat):Option (List UInt8×Nat):=(kI b a).bind fun q=>if b.length - q.2<q.1 then none else some ((b.take (q.2+q.1)).drop q.2,q.2+q.1)
theorem zCt{b d:List UInt8}{a k:Nat}(h:jE b a=some (d,k)):k≤b.length∧d.length≤b.length:=by
 simp only[jE,Option.bind_eq_some_iff]at h
 obtain⟨⟨n,j⟩,h1,h2⟩:=h
 have:=(x7 h1).2.1
 split at h2
 · cases h2
 cases h2;simp;omega
theorem y3(v:Value)(l:List UInt8)(w:World)(hl:zg l.length)(hv:Rd w [] (Res.sl v l.length (l.map vb))):Rets Tryz.prog 43 #[v] w fun h b=>∃ (r:Value),h=r∧Own w [] [Res.vec 5 1 r l.length (l.map vb)] b:=by
 refine zO Tryz.func43 O Tryz.ntmps43 (Own.start w)<|zB<|zF O<|zA<|zK<|zB<|zC O<|zAu (len:=l.length) (cs:=(l.map vb)) qF O O (fun b a=>Own.rd hv a) O<|zA<|jJ O (fun d=> ?_)<|fun d=> ?_
 ·refine zB<|zF O<|zA<|zP<|zm (v:=zW) O O<|fun b c=>⟨.slice none 0 0,O,by obtain⟨_,i⟩:=Sl.isNil hv.φ d;rw[List.eq_nil_of_length_eq_zero i];exact zq c 5 1⟩
 refine zN<|zB<|yH (e:=5) (sz:=1) (vs:=[]) qF O O qL V O<|fun j=>zC O<|zAe (l:=([]:List UInt8)) (l':=l) 0 qF O O O (fun b a=>Own.rd hv a) qH O<|fun g=>zF O<|zA<|zP<|zm (v:=g) O O<|fun b c=>⟨g,O,c⟩
def BytesPost(p:Option (List UInt8×Nat))(d:List UInt8)(k:Nat)(e:Int):Prop:=(e=0∧p=some (d,k))∨(e≠0∧p=none)
theorem zOt(v:Value)(b:List UInt8)(a:Nat)(w:World)(hl:zg b.length)(ha:a≤b.length)(hb:Rd w [] (Res.sl v b.length (b.map vb))):Rets Tryz.prog 394 #[v,Vj a] w fun u_ n=>∃ (r:Value) (d:List UInt8) (k:Nat) (e:Int),u_= .tuple #[r,Vj k,Vi e]∧BytesPost (jE b a) d k e∧Own w [] [Res.vec 5 1 r d.length (d.map vb)] n:=by
 refine zO Tryz.func394 O Tryz.ntmps394 (Own.start w)<|zB<|zF O<|zF O<|zF O<|zA<|zB<|zC O<|zC O<|zG O O<|fun n j=>(zPn v b a n qI qH<|j.rd0 hb).mono ?_
 rintro _ s ⟨i,c,m,rfl,o,u⟩
 have z:=o
 refine(?_:CL _ _ _ _ _ _ (Own w [] [])) s<|j.qb u
 refine zC O<|zb (vs:=[Vn i,Vj c,Vi m]) O O O<|zb (vs:=[Vn i,Vj c,Vi m]) O O O<|zb (vs:=[Vn i,Vj c,Vi m]) O O O<|zF O<|zF O<|zF O<|zA<|zK<|zB<|zC O<|yf O O O<|zA<|zT O (fun x=> ?_)<|fun x=> ?_
 ·refine zB<|zC O<|zF O<|zF O<|zF O<|zA<|zP<|zAB (v:=zW) (v':=Vi 0) (v'':=Vi m) O O O O<|fun n j=>⟨.slice none 0 0,[],0,m,O, .inr ⟨x,by unfold jE;rw[z.no x];rfl⟩,zq j.drop 5 1⟩
 have y:=z.yes qG
 obtain⟨a0,a1,a2⟩:=x7 y
 have hu:u64 (((b.length:Nat):Int) - ((c:Nat):Int))=b.length - c:=by unfold u64;omega
 refine zN<|zK<|zB<|zC O<|zC O<|zn (pR hb) O O<|zC O<|y9 O O (zt qG) O<|yh qF O (y0 _) O ?_ qF
 refine yY O O O<|zA<|zT O (fun c2=> ?_)<|fun c2=> ?_
 ·refine zB<|zF O<|zF O<|zF O<|zA<|zP<|zAB (v:=zW) (v':=Vi 0) (v'':=Vi 5) O O O O<|fun n j=>⟨.slice none 0 0,[],0,5,O, .inr ⟨by decide,by unfold jE;rw[y];simp only[Option.bind_some];rw[if_pos qG]⟩,zq j.drop 5 1⟩
 refine zN<|zB<|zC O<|zC O<|yh qF O (zt qG) O ?_ qF
 refine zr O O (zt qG) O<|zF O<|zA<|zB<|zC O<|zC O<|zC O<|zBS (pR hb) 1 c (c+i) qF O ⟨_,O⟩ ⟨_,O⟩ qG qG O ?_
 have p:=Rd.subL_m (g:=vb) (xs:=b) hb (l:=c) (h:=c+i) qG qG
 refine zG O O<|fun n j=>(y3 (xj v c (c+i) 1) ((b.take<|c+i).drop c) n qI<|j.rd0 p).mono ?_
 rintro q s ⟨_,rfl,u⟩
 refine(?_:CL _ _ _ _ _ _ (Own w [] [_])) s<|j.qb u
 refine zC O<|zF O<|zF O<|zF O<|zA<|zP<|zAB (v:=q) (v':=Vj (c+i)) (v'':=Vi 0) O O O O<|fun n j=>⟨q,((b.take<|c+i).drop c),c+i,0,O, .inl ⟨O,by unfold jE;rw[y];simp only[Option.bind_some];rw[if_neg qG]⟩,j⟩
end Go.Proofs.YthpoddkmhfhboaaGreatDoor