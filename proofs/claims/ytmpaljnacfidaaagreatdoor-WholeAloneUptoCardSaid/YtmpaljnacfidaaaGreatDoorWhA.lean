import Derived.Test.YtmpaljnacfidaaaGreatDoorMsgD
import Derived.Test.YtmpaljnacfidaaaGreatDoorIn
import Derived.Test.YtmpaljnacfidaaaGreatDoorFw3
set_option linter.unusedSectionVars false
set_option linter.unusedSimpArgs false
set_option linter.unusedVariables false
set_option maxRecDepth 10000
namespace Go.Proofs.YtmpaljnacfidaaaGreatDoor
open Go Go.Sc Go.Proofs
def zH7:List UInt8→Nat→Option (Bool×Nat):=yi (jq 1) fun n=>xS (n==1)
abbrev zDH(α:Type):=List UInt8→Nat→Option (α×Nat)
def Rt{α:Type}(p:zDH α)(x:α)(e:List UInt8):Prop:=∀ pre s:List UInt8,p (pre++e++s) pre.length=some (x,(pre++e).length)
theorem Rt.pure{α:Type}(x:α):Rt (xS x) x []:=fun a s=>by simp[xS]
theorem Rt.bind{α β:Type}{p:zDH α}{q:α→zDH β}{x:α}{y:β}{e f:List UInt8}(h1:Rt p x e)(h2:Rt (q x) y f):Rt (yi p q) y (e++f):=fun a s=>by
  have b:=h1 a (f++s)
  have c:=h2 (a++e) s
  simp only[yi]
  rw[show a++(e++f)++s=a++e++(f++s)by simp,b]
  simp only[Option.bind_some]
  rw[show a++e++(f++s)=a++e++f++s by simp,c]
  simp
theorem Rt.map{α β:Type}{p:zDH α}{x:α}{e:List UInt8}(h:Rt p x e)(g:α→β):Rt (yi p fun v=>xS (g v)) (g x) e:=by
  have:=h.bind (q:=fun v=>xS (g v)) (Rt.pure (g x));rwa [List.append_nil]at this
theorem zMZ{α:Type}[Inhabited α]{l m:List α}{j:Nat}(h:j<l.length):zf (l++m) j=zf l j:=by
  simp[zf,List.getElem?_append_left h]
theorem zDD:∀ (l:List UInt8) (n:Nat),l.foldl (fun n c=>n*256+c.toNat) n=n*256 ^ l.length+beN l
  | [],n=>by simp[beN]
  |c::l,n=>by
    have h1:=zDD l (n*256+c.toNat)
    have h2:=zDD l (0*256+c.toNat)
    simp only[beN,List.foldl_cons,List.length_cons]at *
    rw[h1,h2,Nat.pow_succ,Nat.add_mul,Nat.mul_assoc,Nat.mul_comm 256];simp only[Nat.zero_mul,Nat.zero_add];omega
theorem zKe(c:UInt8)(l:List UInt8):beN (c::l)=c.toNat*256 ^ l.length+beN l:=by
  have:=zDD l (0*256+c.toNat)
  simp only[beN,List.foldl_cons,Nat.zero_mul,Nat.zero_add]at *
  exact this
theorem zOU(k:Nat):2 ^ (8*k)=256 ^ k:=by rw[Nat.pow_mul]
theorem zLk(n:Nat):∀ k,beN (be n k)=n%256 ^ k
  |0=>by simp[be,beN,Nat.mod_one]
  |k+1=>by
    rw[be,zKe,zAn,zLk n k,zOU,Nat.pow_succ,Nat.mod_mul]
    have:(UInt8.ofNat (n / 256 ^ k)).toNat=n / 256 ^ k%256:=by simp
    rw[this,Nat.mul_comm,Nat.add_comm]
theorem zDg(n:Nat):n<256 ^ yV n:=by
  have h1:=zCA n
  have:2 ^ yJ n≤2 ^ (8*yV n):=Nat.pow_le_pow_right qE (by unfold yV;omega)
  rw[zOU]at this;omega
theorem zFC{n k:Nat}(h:yV n=k+1):0<n / 256 ^ k∧n / 256 ^ k<256:=by
  have a:0<n:=by
    rcases Nat.eq_zero_or_pos n with rfl|a
    · simp[yV,yJ]at h
    exact a
  have h1:=zAd a
  have h2:256 ^ k≤n:=by
    rw[←zOU]
    refine Nat.le_trans (Nat.pow_le_pow_right qE ?_) h1
    unfold yV at h;omega
  have b:=zDg n
  rw[h,Nat.pow_succ]at b
  have hp:0<256 ^ k:=Nat.pow_pos qE
  exact⟨Nat.div_pos h2 hp,(Nat.div_lt_iff_lt_mul hp).2 qE⟩
theorem zI9{n:Nat}(h:n<18446744073709551616)(s:List UInt8):zBs (kA n++s)=some (n,(kA n).length):=by
  have c:=zBI h
  have hl:=zCt n
  have b:zf (kA n++s) 0=UInt8.ofNat (yV n):=rfl
  have e1:(UInt8.ofNat (yV n)).toNat=yV n:=by simp;omega
  unfold zBs
  rw[b,e1,if_neg (by simp[hl]),if_neg,if_neg (by simp[hl];omega)]
  · rw[List.take_append_of_le_length qE,List.take_of_length_le qE]
    have:(kA n).drop 1=be n (yV n):=rfl
    rw[this,zLk,Nat.mod_eq_of_lt (zDg n),hl];simp[Nat.add_comm]
  rintro(h|⟨⟨_,d⟩,a⟩)
  · omega
  obtain⟨k,hk⟩:∃ k,yV n=k+1:=⟨yV n - 1,by omega⟩
  obtain⟨e,f⟩:=zFC hk
  have e2:zf (kA n++s) 1=UInt8.ofNat (n / 2 ^ (8*k)):=by
    rw[zMZ qE]
    show zf (UInt8.ofNat (yV n)::be n (yV n)) 1=_
    rw[hk];rfl
  rw[e2,zOU]at a
  simp at a;omega
theorem x0{n:Nat}(h:n<18446744073709551616):Rt x9 n (kA n):=fun a s=>by
  unfold x9
  rw[List.append_assoc,List.drop_left,zI9 h];simp
theorem zIB{n most:Nat}(h:n<18446744073709551616)(b:n≤most):Rt (jq most) n (kA n):=fun a s=>by
  simp only[jq,x0 h a s,Option.bind_some];rw[if_neg qE]
theorem zGS{a:Int}{most:Nat}(b:0≤a)(c:a≤most)(d:most<18446744073709551616):Rt (zFI most) a (kA (u64 a)):=by
  have e:u64 a=a.toNat:=by unfold u64;omega
  have h:=(zIB (n:=a.toNat) (most:=most) qE qE).map (fun n:Nat=>(n:Int))
  rw[Int.toNat_of_nonneg b]at h
  rw[e];exact h
theorem _root_.Go.Sc.qW{p:Prop}(h:p:=by simp only[List.length_append];omega):p:=h
theorem zFp{d:List UInt8}(h:d.length<18446744073709551616):Rt ko d (dat d):=fun a s=>by
  have h1:=x0 h a (d++s)
  have e:a++dat d++s=a++kA d.length++(d++s):=by simp[dat]
  rw[e]
  simp only[ko,h1,Option.bind_some]
  rw[if_neg qW]
  rw[show a++kA d.length++(d++s)=(a++kA d.length++d)++s by simp,List.take_append_of_le_length qW,List.take_of_length_le qW,List.drop_left]
  simp[dat,Nat.add_assoc]
theorem zEZ(f:Bool):Rt zH7 f (kA (fl f)):=by
  have h:=(zIB (n:=fl f) (most:=1) (zF0 f) (by cases f<;>decide)).map (fun n:Nat=>n==1)
  have e:(fl f==1)=f:=by cases f<;>decide
  rw[e]at h;exact h
theorem zB2{α:Type}{p:zDH α}{ok:α→Prop}[DecidablePred ok]{x:α}{e:List UInt8}(h:Rt p x e)(a:ok x):whole p ok e=some x:=by
  have h:=h [] []
  simp only[List.append_nil,List.nil_append,List.length_nil]at h
  simp only[whole,h,Option.bind_some];rw[if_pos ⟨trivial,a⟩]
theorem zQD(r s:RepD):eqL [(0,some (some .u64)),(1,some (some .u64)),(2,some (some .i64)),(3,some (some .u64)),(4,some (some .i64)),(5,some (some .i64))] r.cells s.cells=decide (r=s):=by
  obtain⟨a,b,c,d,e,f⟩:=r
  obtain⟨g,i,j,k,l,o⟩:=s
  simp[eqL,RepD.cells,eqC,RepD.mk.injEq,Bool.decide_and]
  have h:∀ m n:Nat,decide ((m:Int)=n)=decide (m=n):=fun m n=>decide_eq_decide.2 qE
  simp only[h]
structure AskD where
  look:Bool
  lazy:Bool
  seq:Nat
  cmd:CmdD
  key:ByteArray
  deriving DecidableEq
structure TldD where
  seq:Nat
  retry:Bool
  lead:Int
  reply:RepD
  most:Int
  lent:Int
  deriving DecidableEq
def askZ:AskD:=⟨false,false,0,zGX,⟨#[]⟩⟩
def zPL:TldD:=⟨0,false,0,zTT,0,0⟩
def AskD.cells(x:AskD):List Value:=[.bool x.look, .bool x.lazy, .int .u64 x.seq]++(x.cmd.cells++[.string x.key])
def TldD.cells(x:TldD):List Value:=[.int .u64 x.seq, .bool x.retry, .int .i64 x.lead]++(x.reply.cells++[.int .i64 x.most, .int .i64 x.lent])
def AskD.ok(x:AskD):Prop:=if x.look=true then x.cmd=zGX∧x.key.size≤64 else(x.cmd.ok∧x.key=⟨#[]⟩)∧x.lazy=false
instance iWh1(x:AskD):Decidable x.ok:=by unfold AskD.ok;infer_instance
def TldD.ok(x:TldD):Prop:=(0≤x.lead∧x.lead≤16)∧x.reply.ok
instance iWh2(x:TldD):Decidable x.ok:=inferInstanceAs (Decidable ((_∧_)∧_))
def zQQ:List UInt8→Nat→Option (AskD×Nat):=yi zH7 fun l=>yi zH7 fun z=>yi x9 fun q=>yi zKi fun c=>yi ko fun k=>xS ⟨l,z,q,c,zCR k⟩
def zQy:List UInt8→Nat→Option (TldD×Nat):=yi x9 fun q=>yi zH7 fun r=>yi (zFI 16) fun d=>yi zNj fun p=>yi x9 fun c=>yi x9 fun l=>xS ⟨q,r,d,p,xw c,xw l⟩
instance iWh3:DecidablePred TldD.ok:=fun x=>inferInstance
instance iWh4:DecidablePred AskD.ok:=fun x=>inferInstance
def zDO(b:List UInt8):Option AskD:=whole zQQ AskD.ok b
def zCM(b:List UInt8):Option TldD:=whole zQy TldD.ok b
theorem zCy(x:AskD)(cb:Nat)(w:World)(r:x.key.size≤1048576)(s:x.cmd.key.size≤1048576)(g:Rd w [] (Res.row cb 191 [.func (.func 124) #[] #[], .func (.func 125) #[] #[], .func (.func 128) #[] #[]])):Rets Tryz.prog 308 #[.agg (AskD.cells x).toArray, .pointer (some ⟨cb,0,none⟩)] w fun m h=>m= .bool (decide x.ok)∧Own w [] [] h:=by
  refine zO Tryz.func308 O Tryz.ntmps308 (Own.start w) (zB (zj O O (fun u=>zG O (zA (zK (zB (zI (o:=0) O O (zJ 0 (v:= .bool x.look) O O O O (zA (ku O (fun i=> ?_) (fun i=> ?_)))))))))))
  ·refine zB (zI (o:=3) O O (xC 0 (CmdD.cells x.cmd) O O (ye 3 O) qD O (yG (cs:=[Vn 0,Vn 0,Vi 0,yh,Vi 0,Vi 0,Vn 0]) (z:=[Vn 0,Vn 0,Vi 0,yh,Vi 0,Vi 0,Vn 0]) (pl:=[(0,1),(1,1),(2,1),(3,1),(4,1),(5,1),(6,1)]) qD qD O (yI O (zR9 (zQs x.cmd ({session:=0,seq:=0,op:=0,key:=yEb,amount:=0,span:=0,lease:=0}:CmdD)) qD qD O O O O) (zC O (yA (q:=x.cmd=({session:=0,seq:=0,op:=0,key:=yEb,amount:=0,span:=0,lease:=0}:CmdD)) 4 4 [14,13,12,11] (((x.key.size:Nat):Int)≤64) O O O O O O trivial O (fun c=> ?_) (fun k=> ?_)))))))
   ·refine zQ O (gT c) (zI (o:=10) O O (zQ O (gT c) (zJ 0 (v:= .string x.key) O O O O (zQ O (gT c) (zCO qD O O (zQ O (gT c) (yq O O O (z8 O (fun _ d=>d)))))))))
   refine zG O (zA (zP (zn (v:= .bool (decide ((x.cmd=({session:=0,seq:=0,op:=0,key:=yEb,amount:=0,span:=0,lease:=0}:CmdD))∧(((x.key.size:Nat):Int)≤64)))) O O (fun h d=>⟨(by congr 1;exact decide_eq_decide.2 (by unfold AskD.ok;rw[if_pos i];exact and_congr_right fun _=>by omega)),d.drop⟩))))
  refine zN (zB (zI (o:=0) O O (zAF (v:= .func (.func 124) #[] #[]) O (g.φ.cell O) (g.far _ qK) qD O (zI (o:=3) O O (xC 0 (CmdD.cells x.cmd) O O (ye 3 O) qD O (yO (fst:=[]) (cap:=[]) O qD O O (fun h d=>(zBK x.cmd h qF).mono ?_)))))))
  rintro _ n ⟨rfl,p⟩
  refine(?_:CL _ _ _ _ _ _ (Own w [] [_])) n (d.qb p)
  refine zC O (yA (q:=x.cmd.ok) 3 5 [24,23,22] (x.key=yEb) O O O O O O trivial O (fun e=> ?_) (fun l=> ?_))
  ·refine zQ O (gT e) (zI (o:=10) O O (zQ O (gT e) (zJ 0 (v:= .string x.key) O O O O (zQ O (gT e) (zGF O O O (z8 O (fun _ d=>d)))))))
  refine zC O (yA (q:=x.cmd.ok∧(x.key=yEb)) 3 10 [29,28,27] ((!x.lazy)=true) O O O O O O trivial O (fun a=> ?_) (fun j=> ?_))
  ·refine zQ O (gT a) (zI (o:=1) O O (zQ O (gT a) (zJ 0 (v:= .bool x.lazy) O O O O (zQ O (gT a) (xi (b:=x.lazy) O O (z8 (yt _) (fun _ d=>d)))))))
  refine zG O (zA (zP (zn (v:= .bool (decide ((x.cmd.ok∧(x.key=yEb))∧((!x.lazy)=true)))) O O (fun h d=>⟨(by congr 1;exact decide_eq_decide.2 (by unfold AskD.ok;rw[if_neg (by rw[i];decide)];cases x.lazy<;>simp)),d.drop⟩))))
theorem zDP(x:TldD)(cb:Nat)(w:World)(d:Rd w [] (Res.row cb 270 [.func (.func 225) #[] #[], .func (.func 226) #[] #[], .func (.func 227) #[] #[]])):Rets Tryz.prog 329 #[.agg (TldD.cells x).toArray, .pointer (some ⟨cb,0,none⟩)] w fun i e=>i= .bool (decide x.ok)∧Own w [] [] e:=by
  refine zO Tryz.func329 O Tryz.ntmps329 (Own.start w) (zB (zj O O (fun l=>zG O (zA (zB (zI (o:=2) O O (zJ 0 (v:=Vi x.lead) O O O O (xE O O O (zC O (yA (q:=0≤x.lead) 3 3 [10,9,8] (x.lead≤16) O O O O O O trivial O (fun b=> ?_) (fun h=> ?_)))))))))))
  ·refine zQ O (gT b) (zI (o:=2) O O (zQ O (gT b) (zJ 0 (v:=Vi x.lead) O O O O (zQ O (gT b) (yq O O O (z8 O (fun _ c=>c)))))))
  refine zC O (yA (q:=(0≤x.lead)∧(x.lead≤16)) 5 8 [17,16,15,14,13] (x.reply.ok) O O O O O O trivial O (fun a=> ?_) (fun g=> ?_))
  ·refine zQ O (gT a) (zI (o:=0) O O (zQ O (gT a) (zAF (v:= .func (.func 225) #[] #[]) O (d.φ.cell O) (d.far _ qK) qD O (zQ O (gT a) (zI (o:=3) O O (zQ O (gT a) (xC 0 (RepD.cells x.reply) O O (ye 3 O) qD O (zQ O (gT a) (yO (fst:=[]) (cap:=[]) O qD O O (fun e c=>(zDU x.reply e).mono ?_))))))))))
   rintro _ j ⟨rfl,k⟩
   refine(?_:CL _ _ _ _ _ _ (Own w [] [_])) j (c.qb k)
   exact z8 O (fun _ c=>c)
  refine zG O (zA (zP (zn (v:= .bool (decide (((0≤x.lead)∧(x.lead≤16))∧x.reply.ok))) O O (fun e c=>⟨O,c.drop⟩))))
theorem zJa{S:List Nat}(o:Nat)(v:Value)(b:List UInt8)(a:Nat)(bad:Bool)(cb:Nat)(w:World)(hl:zg b.length)(ha:a≤b.length)(aj:Own w S [Res.row o 389 [v,Vj a, .bool bad]] w)(ae:Rd w S (Res.row cb 191 [.func (.func 124) #[] #[], .func (.func 125) #[] #[], .func (.func 128) #[] #[]]))(hb:Rd w S (Res.sl v b.length (b.map vb))):Rets Tryz.prog 311 #[.pointer (some ⟨o,0,none⟩), .pointer (some ⟨cb,0,none⟩)] w fun u_ d=>∃ (lo:Bool) (la:Bool) (sq:Nat) (s:Nat) (q:Nat) (op:Nat) (k:ByteArray) (am:Int) (sp:Int) (le:Nat) (k2:ByteArray) (a':Nat) (a8:Bool),u_= .agg #[.bool lo, .bool la,Vn sq,Vn s,Vn q,Vj op, .string k,Vi am,Vi sp,Vn le, .string k2]∧RdS zQQ b a bad (⟨lo,la,sq,⟨s,q,(op:Int),k,am,sp,le⟩,k2⟩:AskD) a' a8∧k.size≤b.length∧k2.size≤b.length∧Own w S [Res.row o 389 [v,Vj a', .bool a8]] d:=by
  refine zO Tryz.func311 O Tryz.ntmps311 aj (zB (zk (v:= .agg #[zu,zu,Vn 0,Vn 0,Vn 0,Vi 0,yh,Vi 0,Vi 0,Vn 0,yh]) qD O (fun b3=>zA (zK (zc [] O V qD (fun d c hS=>zD 0 O za hS (zD 2 O za hS (zD 4 O za hS (zD 6 O (zL (o:=2) O) hS (zD 7 O (zA3 (v:= .func (.func 128) #[] #[]) O (ae.φ.cell O) (ae.far _ qK) qD) hS (zD 8 O za hS (zD 10 O za hS (zM 1 O c (zH O O (fun d c=>(zDR o v b a bad d qG qF (c.give [0] O V) (c.rdTo hb [0] O)).mono ?_)))))))))))))))
  rintro _ w1 ⟨a9,af,a5,rfl,p,hO⟩
  have an:=p.le
  refine fq [0] O c hO (zAr 3 O (zH O O (fun d c=>(zDR o v b af a5 d qG qF (c.give [1] O V) (c.rdTo hb [1] O)).mono ?_)))
  rintro _ w1 ⟨aa,ag,a6,rfl,r,hO⟩
  have ao:=r.le
  refine fq [1] O c hO (zAr 5 O (zH O O (fun d c=>(yz o v b ag a6 d qG qF (c.give [1] O V) (c.rdTo hb [1] O)).mono ?_)))
  rintro _ w1 ⟨ab,ah,a7,rfl,u,ai,hO⟩
  have ap:=u.le
  refine fq [1] O c hO (zAr 9 O (yO (fst:=[]) (cap:=[]) O qD O O (fun d c=>(zDr o v b ah a7 d qG qF (c.give [1] O V) (c.rdTo hb [1] O)).mono ?_)))
  rintro _ w1 ⟨x,y,e,a0,g,h,j,ac,a1,rfl,a2,a3,hO⟩
  have aq:=a2.le
  refine fq [1] O c hO (zAr 11 O (zH O O (fun d c=>(zFS o v b ac a1 d qG qF (c.give [1] O V) (c.rdTo hb [1] O)).mono ?_)))
  rintro al w1 ⟨_,l,ad,a4,rfl,m,n,hO⟩
  refine fq [1] O c hO (zAr 12 O (zFn (bs:=l) qD qD O (fun d ak=>Vec.sl (Own.holds ak 2 _ O)) O (zE [] O V (fun d c hS=>zD 13 O (xU (cs:=[.bool a9, .bool aa,Vn ab,Vn x,Vn y,Vj e, .string a0,Vi g,Vi h,Vn j, .string (⟨l.toArray⟩:ByteArray)]) (z:=[zu,zu,Vn 0,Vn 0,Vn 0,Vi 0,yh,Vi 0,Vi 0,Vn 0,yh]) (pl:=[(0,1),(1,1),(2,1),(3,7),(10,1)]) qD qD) hS (zM 14 O c (ze 0 O O O (z6 O) O (zE [] O V (fun d c hS=>zY ((?_:C _ _ _ _ _ _ _ (Own w S [_,_,_])) _ c)))))))))
  exact zP (xc (cs:=[.bool a9, .bool aa,Vn ab,Vn x,Vn y,Vj e, .string a0,Vi g,Vi h,Vn j, .string (⟨l.toArray⟩:ByteArray)]) O O qD (Own.qc (i:=0) O) (fun d c=>⟨a9,aa,ab,x,y,e,a0,g,h,j,(⟨l.toArray⟩:ByteArray),ad,a4,O,p.bind (r.bind (u.bind (a2.bind (m.bind (RdS.pure _ m.le))))),a3,n,c.sel [1] O V⟩))
theorem zI3{S:List Nat}(o:Nat)(v:Value)(b:List UInt8)(a:Nat)(bad:Bool)(cb:Nat)(w:World)(hl:zg b.length)(ha:a≤b.length)(ap:Own w S [Res.row o 389 [v,Vj a, .bool bad]] w)(ai:Rd w S (Res.row cb 270 [.func (.func 225) #[] #[], .func (.func 226) #[] #[], .func (.func 227) #[] #[]]))(hb:Rd w S (Res.sl v b.length (b.map vb))):Rets Tryz.prog 331 #[.pointer (some ⟨o,0,none⟩), .pointer (some ⟨cb,0,none⟩)] w fun u_ e=>∃ (sq:Nat) (rt:Bool) (ld:Nat) (s:Nat) (q:Nat) (op:Nat) (le:Nat) (am:Int) (sp:Int) (mo:Int) (ln:Int) (a':Nat) (ab:Bool),u_= .agg #[Vn sq, .bool rt,Vj ld,Vn s,Vn q,Vj op,Vn le,Vi am,Vi sp,Vi mo,Vi ln]∧RdS zQy b a bad (⟨sq,rt,(ld:Int),⟨s,q,(op:Int),le,am,sp⟩,mo,ln⟩:TldD) a' ab∧Own w S [Res.row o 389 [v,Vj a', .bool ab]] e:=by
  refine zO Tryz.func331 O Tryz.ntmps331 ap (zB (zk (v:= .agg #[Vn 0,zu,Vi 0,Vn 0,Vn 0,Vi 0,Vn 0,Vi 0,Vi 0,Vi 0,Vi 0]) qD O (fun b3=>zA (zK (zc [] O V qD (fun e d l=>zD 0 O za l (zD 2 O za l (zD 4 O za l (zD 6 O (zL (o:=2) O) l (zD 7 O (zA3 (v:= .func (.func 227) #[] #[]) O (ai.φ.cell O) (ai.far _ qK) qD) l (zD 8 O za l (zD 10 O za l (zD 13 O za l (zM 1 O d (zH O O (fun e d=>(yz o v b a bad e qG qF (d.give [0] O V) (d.rdTo hb [0] O)).mono ?_))))))))))))))))
  rintro _ w1 ⟨ac,aj,a8,rfl,y,ak,hO⟩
  have aq:=y.le
  refine fq [0] O d hO (zAr 3 O (zH O O (fun e d=>(zDR o v b aj a8 e qG qF (d.give [1] O V) (d.rdTo hb [1] O)).mono ?_)))
  rintro _ w1 ⟨ad,al,a9,rfl,a0,hO⟩
  have ar:=a0.le
  refine fq [1] O d hO (zAr 5 O (zH O O (fun e d=>(je o v b al a9 16 e qG qF qF (d.give [1] O V) (d.rdTo hb [1] O)).mono ?_)))
  rintro _ w1 ⟨ae,an,aa,rfl,a1,ao,hO⟩
  have au:=a1.le
  refine fq [1] O d hO (zAr 9 O (yO (fst:=[]) (cap:=[]) O qD O O (fun e d=>(zFK o v b an aa e qG qF (d.give [1] O V) (d.rdTo hb [1] O)).mono ?_)))
  rintro _ w1 ⟨a2,a3,g,h,j,k,af,a4,rfl,a5,hO⟩
  have av:=a5.le
  refine fq [1] O d hO (zAr 11 O (zH O O (fun e d=>(yz o v b af a4 e qG qF (d.give [1] O V) (d.rdTo hb [1] O)).mono ?_)))
  rintro _ w1 ⟨m,ag,a6,rfl,n,u,hO⟩
  have aw:=n.le
  refine fq [1] O d hO (zE [] O V (fun e d l=>zD 12 O (kP (c:=xw m) qD O (kQ u) qD) l (zM 14 O d (zH O O (fun e d=>(yz o v b ag a6 e qG qF (d.give [1] O V) (d.rdTo hb [1] O)).mono ?_)))))
  rintro _ w1 ⟨p,ah,a7,rfl,r,x,hO⟩
  refine fq [1] O d hO (zE [] O V (fun e d l=>zD 15 O (kP (c:=xw p) qD O (kQ x) qD) l (zD 16 O (xU (cs:=[Vn ac, .bool ad,Vj ae,Vn a2,Vn a3,Vj g,Vn h,Vi j,Vi k,Vi (xw m),Vi (xw p)]) (z:=[Vn 0,zu,Vi 0,Vn 0,Vn 0,Vi 0,Vn 0,Vi 0,Vi 0,Vi 0,Vi 0]) (pl:=[(0,1),(1,1),(2,1),(3,6),(9,1),(10,1)]) qD qD) l (zM 17 O d (ze 0 O O O (z6 O) O (zE [] O V (fun e d l=>zY ((?_:C _ _ _ _ _ _ _ (Own w S [_,_])) _ d))))))))
  exact zP (xc (cs:=[Vn ac, .bool ad,Vj ae,Vn a2,Vn a3,Vj g,Vn h,Vi j,Vi k,Vi (xw m),Vi (xw p)]) O O qD (Own.qc (i:=0) O) (fun e d=>⟨ac,ad,ae,a2,a3,g,h,j,k,xw m,xw p,ah,a7,O,y.bind (a0.bind (RdS.bind a1.int (a5.bind (n.bind (r.bind (RdS.pure _ r.le)))))),d.sel [1] O V⟩))
theorem zLd(w:World):Rets Tryz.prog 178 #[] w fun d b=>∃ (cb:Nat),d= .agg #[.func (.func 308) #[] #[.pointer (some ⟨cb,0,none⟩)], .func (.func 309) #[] #[.pointer (some ⟨cb,0,none⟩)], .func (.func 311) #[] #[.pointer (some ⟨cb,0,none⟩)]]∧Own w [] [Res.row cb 191 [.func (.func 124) #[] #[], .func (.func 125) #[] #[], .func (.func 128) #[] #[]]] b:=by
  refine zO Tryz.func178 O Tryz.ntmps178 (Own.start w) (zB (zk (v:= .agg #[.nilFunc, .nilFunc, .nilFunc]) qD O (fun h=>zA (zB (zH O O (fun b c=>(zBB b).mono ?_))))))
  rintro _ e ⟨rfl,g⟩
  refine(?_:CL _ _ _ _ _ _ (Own w [] [_])) e (c.qb g)
  refine zk (v:= .agg #[.nilFunc, .nilFunc, .nilFunc]) qD O (fun a=>ze 1 O O O (z6 O) O (zA (zB (zAX (va:=[]) (vb:=[.pointer (some ⟨a,0,none⟩)]) O O O (zAX (va:=[]) (vb:=[.pointer (some ⟨a,0,none⟩)]) O O O (zAX (va:=[]) (vb:=[.pointer (some ⟨a,0,none⟩)]) O O O (yG (cs:=[.func (.func 308) #[] #[.pointer (some ⟨a,0,none⟩)], .func (.func 309) #[] #[.pointer (some ⟨a,0,none⟩)], .func (.func 311) #[] #[.pointer (some ⟨a,0,none⟩)]]) (z:=[.nilFunc, .nilFunc, .nilFunc]) (pl:=[(0,1),(1,1),(2,1)]) qD qD O (ze 0 O O O (z6 O) O (zA (zP (xc (cs:=[.func (.func 308) #[] #[.pointer (some ⟨a,0,none⟩)], .func (.func 309) #[] #[.pointer (some ⟨a,0,none⟩)], .func (.func 311) #[] #[.pointer (some ⟨a,0,none⟩)]]) O O qD (Own.qc (i:=0) O) (fun b c=>⟨a,O,c.sel [1] O V⟩))))))))))))
theorem zH1(w:World):Rets Tryz.prog 191 #[] w fun d b=>∃ (cb:Nat),d= .agg #[.func (.func 329) #[] #[.pointer (some ⟨cb,0,none⟩)], .func (.func 330) #[] #[.pointer (some ⟨cb,0,none⟩)], .func (.func 331) #[] #[.pointer (some ⟨cb,0,none⟩)]]∧Own w [] [Res.row cb 270 [.func (.func 225) #[] #[], .func (.func 226) #[] #[], .func (.func 227) #[] #[]]] b:=by
  refine zO Tryz.func191 O Tryz.ntmps191 (Own.start w) (zB (zk (v:= .agg #[.nilFunc, .nilFunc, .nilFunc]) qD O (fun h=>zA (zB (zH O O (fun b c=>(zEA b).mono ?_))))))
  rintro _ e ⟨rfl,g⟩
  refine(?_:CL _ _ _ _ _ _ (Own w [] [_])) e (c.qb g)
  refine zk (v:= .agg #[.nilFunc, .nilFunc, .nilFunc]) qD O (fun a=>ze 1 O O O (z6 O) O (zA (zB (zAX (va:=[]) (vb:=[.pointer (some ⟨a,0,none⟩)]) O O O (zAX (va:=[]) (vb:=[.pointer (some ⟨a,0,none⟩)]) O O O (zAX (va:=[]) (vb:=[.pointer (some ⟨a,0,none⟩)]) O O O (yG (cs:=[.func (.func 329) #[] #[.pointer (some ⟨a,0,none⟩)], .func (.func 330) #[] #[.pointer (some ⟨a,0,none⟩)], .func (.func 331) #[] #[.pointer (some ⟨a,0,none⟩)]]) (z:=[.nilFunc, .nilFunc, .nilFunc]) (pl:=[(0,1),(1,1),(2,1)]) qD qD O (ze 0 O O O (z6 O) O (zA (zP (xc (cs:=[.func (.func 329) #[] #[.pointer (some ⟨a,0,none⟩)], .func (.func 330) #[] #[.pointer (some ⟨a,0,none⟩)], .func (.func 331) #[] #[.pointer (some ⟨a,0,none⟩)]]) O O qD (Own.qc (i:=0) O) (fun b c=>⟨a,O,c.sel [1] O V⟩))))))))))))
theorem zGa(v:Value)(b:List UInt8)(cb:Nat)(w:World)(hl:b.length≤1048576)(a6:Rd w [] (Res.row cb 191 [.func (.func 124) #[] #[], .func (.func 125) #[] #[], .func (.func 128) #[] #[]]))(hb:Rd w [] (Res.sl v b.length (b.map vb))):Rets Tryz.prog 179 #[.agg #[.func (.func 308) #[] #[.pointer (some ⟨cb,0,none⟩)], .func (.func 309) #[] #[.pointer (some ⟨cb,0,none⟩)], .func (.func 311) #[] #[.pointer (some ⟨cb,0,none⟩)]],v] w fun u_ w'=>∃ (lo:Bool) (la:Bool) (sq:Nat) (s:Nat) (q:Nat) (op:Int) (k:ByteArray) (am:Int) (sp:Int) (le:Nat) (k2:ByteArray) (e:Int),u_= .tuple #[.agg #[.bool lo, .bool la,Vn sq,Vn s,Vn q,Vi op, .string k,Vi am,Vi sp,Vn le, .string k2],Vi e]∧ValPost (zDO b) (⟨lo,la,sq,⟨s,q,op,k,am,sp,le⟩,k2⟩:AskD) askZ e∧Own w [] [] w':=by
  refine zO Tryz.func179 O Tryz.ntmps179 (Own.start w) (zB (zj O O (fun b2=>zk (v:= .agg #[zu,zu,Vn 0,Vn 0,Vn 0,Vi 0,yh,Vi 0,Vi 0,Vn 0,yh]) qD O (fun b4=>zG O (zA (zB (zC O (xK (cs:=[v,Vi 0,zu]) (z:=[zW,Vi 0,zu]) (pl:=[(0,1),(1,1),(2,1)]) qD ⟨(Sl.cell1 (Rd.φ hb)),trivial⟩ qD O (zj O O (fun a7=>zG O (zA (zB (zI (o:=2) O O (zJ 0 (v:= .func (.func 311) #[] #[.pointer (some ⟨cb,0,none⟩)]) O O O O (zC O (yO (fst:=[]) (cap:=[.pointer (some ⟨cb,0,none⟩)]) O qD O O (fun w' y=>(zJa a7 v b 0 false cb w' qG qF (y.give [2] O V) (y.rdTo a6 [2] O) (y.rdTo hb [2] O)).mono ?_)))))))))))))))))
  rintro _ w1 ⟨m,n,p,a0,a1,r,a2,u,x,c,d,l,a,rfl,a3,a4,a5,hO⟩
  refine fq [2] O y hO (ze 1 O O O (z6 O) O (zA (zK (zB (zC O (zV O O (zI (o:=2) O O (zJ 2 (v:= .bool a) O O O O (zC O (yK (q:=a=true) 7 4 [26,25,24,23,22,21,20] (((l:Nat):Int)≠((b.length:Nat):Int)) O O (yt _) O O O trivial O (fun g=> ?_) (fun a8=> ?_)))))))))))
  ·refine zQ O (bF g) (zC O (zQ O (bF g) (zV O O (zQ O (bF g) (zI (o:=1) O O (zQ O (bF g) (zJ 2 (v:=Vj l) O O O O (zQ O (bF g) (zC O (zQ O (bF g) (zo (pR hb) O O (zQ O (bF g) (yd O O O (z8 O (fun _ y=>y)))))))))))))))
  refine zC O (yK (q:=(a=true)∨(((l:Nat):Int)≠((b.length:Nat):Int))) 5 13 [33,32,31,30,29] (¬(({look:=m,lazy:=n,seq:=p,cmd:=({session:=a0,seq:=a1,op:=((r:Nat):Int),key:=a2,amount:=u,span:=x,lease:=c}:CmdD),key:=d}:AskD).ok)) O O O O O O trivial O (fun j=> ?_) (fun a9=> ?_))
  ·refine zQ O (gF j) (zI (o:=0) O O (zQ O (gF j) (zJ 0 (v:= .func (.func 308) #[] #[.pointer (some ⟨cb,0,none⟩)]) O O O O (zQ O (gF j) (z1 1 O O O (zQ O (gF j) (yO (fst:=[]) (cap:=[.pointer (some ⟨cb,0,none⟩)]) O qD O O (fun w' y=>(zCy ({look:=m,lazy:=n,seq:=p,cmd:=({session:=a0,seq:=a1,op:=((r:Nat):Int),key:=a2,amount:=u,span:=x,lease:=c}:CmdD),key:=d}:AskD) cb w' (by have:=a5;dsimp only;omega) (by have:=a4;dsimp only;omega) (y.rd0 a6)).mono ?_))))))))
   rintro _ w1 ⟨rfl,hO⟩
   refine(?_:CL _ _ _ _ _ _ (Own w [] [_,_,_])) w1 (y.qb hO)
   refine zQ O (gF j) (xJ (q:=({look:=m,lazy:=n,seq:=p,cmd:=({session:=a0,seq:=a1,op:=((r:Nat):Int),key:=a2,amount:=u,span:=x,lease:=c}:CmdD),key:=d}:AskD).ok) O O (z8 O (fun _ y=>y)))
  refine zA (zT O (fun c1=> ?_) (fun c1=> ?_))
  ·refine zB (zk (v:= .agg #[zu,zu,Vn 0,Vn 0,Vn 0,Vi 0,yh,Vi 0,Vi 0,Vn 0,yh]) qD O (fun b7=>zA (zB (z1 3 O O O (ze 1 O O O (z6 O) O (zG O (zA (zP (yc (cs:=[zu,zu,Vn 0,Vn 0,Vn 0,Vi 0,yh,Vi 0,Vi 0,Vn 0,yh]) (v:=Vi 4) O O O qD (Own.qc (i:=1) O) (fun w' y=>⟨false,false,0,0,0,0,⟨#[]⟩,0,0,0,⟨#[]⟩,4,O, .inr ⟨O,zBS a3 (fun h1 h2 h3=>c1.elim (fun h=>h.elim (fun h=>(by rw[h1]at h;cases h)) (fun h=>h qE)) (fun h=>h h3)),O⟩,y.drop⟩))))))))))
  refine zN (zB (z1 1 O O O (ze 1 O O O (z6 O) O (zG O (zA (zP (yc (cs:=[.bool m, .bool n,Vn p,Vn a0,Vn a1,Vj r, .string a2,Vi u,Vi x,Vn c, .string d]) (v:=Vi 0) O O O qD (Own.qc (i:=1) O) (fun w' y=>⟨m,n,p,a0,a1,((r:Nat):Int),a2,u,x,c,d,0,O, .inl ⟨O,zAj a3 (by cases h:a;rfl;exact absurd (.inl (.inl h)) c1) (by have:¬(l:Int)≠b.length:=fun h=>c1 (.inl (.inr h));omega) (Decidable.not_not.1 fun h=>c1 (.inr h))⟩,y.drop⟩))))))))
theorem zHO(v:Value)(b:List UInt8)(cb:Nat)(w:World)(hl:b.length≤1048576)(a3:Rd w [] (Res.row cb 270 [.func (.func 225) #[] #[], .func (.func 226) #[] #[], .func (.func 227) #[] #[]]))(hb:Rd w [] (Res.sl v b.length (b.map vb))):Rets Tryz.prog 192 #[.agg #[.func (.func 329) #[] #[.pointer (some ⟨cb,0,none⟩)], .func (.func 330) #[] #[.pointer (some ⟨cb,0,none⟩)], .func (.func 331) #[] #[.pointer (some ⟨cb,0,none⟩)]],v] w fun u_ w'=>∃ (sq:Nat) (rt:Bool) (ld:Int) (s:Nat) (q:Nat) (op:Int) (le:Nat) (am:Int) (sp:Int) (mo:Int) (ln:Int) (e:Int),u_= .tuple #[.agg #[Vn sq, .bool rt,Vi ld,Vn s,Vn q,Vi op,Vn le,Vi am,Vi sp,Vi mo,Vi ln],Vi e]∧ValPost (zCM b) (⟨sq,rt,ld,⟨s,q,op,le,am,sp⟩,mo,ln⟩:TldD) zPL e∧Own w [] [] w':=by
  refine zO Tryz.func192 O Tryz.ntmps192 (Own.start w) (zB (zj O O (fun b2=>zk (v:= .agg #[Vn 0,zu,Vi 0,Vn 0,Vn 0,Vi 0,Vn 0,Vi 0,Vi 0,Vi 0,Vi 0]) qD O (fun b4=>zG O (zA (zB (zC O (xK (cs:=[v,Vi 0,zu]) (z:=[zW,Vi 0,zu]) (pl:=[(0,1),(1,1),(2,1)]) qD ⟨(Sl.cell1 (Rd.φ hb)),trivial⟩ qD O (zj O O (fun a4=>zG O (zA (zB (zI (o:=2) O O (zJ 0 (v:= .func (.func 331) #[] #[.pointer (some ⟨cb,0,none⟩)]) O O O O (zC O (yO (fst:=[]) (cap:=[.pointer (some ⟨cb,0,none⟩)]) O qD O O (fun w' y=>(zI3 a4 v b 0 false cb w' qG qF (y.give [2] O V) (y.rdTo a3 [2] O) (y.rdTo hb [2] O)).mono ?_)))))))))))))))))
  rintro _ w1 ⟨l,m,n,a0,a1,p,r,u,x,c,d,k,a,rfl,a2,hO⟩
  refine fq [2] O y hO (ze 1 O O O (z6 O) O (zA (zK (zB (zC O (zV O O (zI (o:=2) O O (zJ 2 (v:= .bool a) O O O O (zC O (yK (q:=a=true) 7 4 [26,25,24,23,22,21,20] (((k:Nat):Int)≠((b.length:Nat):Int)) O O (yt _) O O O trivial O (fun g=> ?_) (fun a5=> ?_)))))))))))
  ·refine zQ O (bF g) (zC O (zQ O (bF g) (zV O O (zQ O (bF g) (zI (o:=1) O O (zQ O (bF g) (zJ 2 (v:=Vj k) O O O O (zQ O (bF g) (zC O (zQ O (bF g) (zo (pR hb) O O (zQ O (bF g) (yd O O O (z8 O (fun _ y=>y)))))))))))))))
  refine zC O (yK (q:=(a=true)∨(((k:Nat):Int)≠((b.length:Nat):Int))) 5 13 [33,32,31,30,29] (¬(({seq:=l,retry:=m,lead:=((n:Nat):Int),reply:=({session:=a0,seq:=a1,e:=((p:Nat):Int),lease:=r,amount:=u,until_:=x}:RepD),most:=c,lent:=d}:TldD).ok)) O O O O O O trivial O (fun j=> ?_) (fun a6=> ?_))
  ·refine zQ O (gF j) (zI (o:=0) O O (zQ O (gF j) (zJ 0 (v:= .func (.func 329) #[] #[.pointer (some ⟨cb,0,none⟩)]) O O O O (zQ O (gF j) (z1 1 O O O (zQ O (gF j) (yO (fst:=[]) (cap:=[.pointer (some ⟨cb,0,none⟩)]) O qD O O (fun w' y=>(zDP ({seq:=l,retry:=m,lead:=((n:Nat):Int),reply:=({session:=a0,seq:=a1,e:=((p:Nat):Int),lease:=r,amount:=u,until_:=x}:RepD),most:=c,lent:=d}:TldD) cb w' (y.rd0 a3)).mono ?_))))))))
   rintro _ w1 ⟨rfl,hO⟩
   refine(?_:CL _ _ _ _ _ _ (Own w [] [_,_,_])) w1 (y.qb hO)
   refine zQ O (gF j) (xJ (q:=({seq:=l,retry:=m,lead:=((n:Nat):Int),reply:=({session:=a0,seq:=a1,e:=((p:Nat):Int),lease:=r,amount:=u,until_:=x}:RepD),most:=c,lent:=d}:TldD).ok) O O (z8 O (fun _ y=>y)))
  refine zA (zT O (fun c1=> ?_) (fun c1=> ?_))
  ·refine zB (zk (v:= .agg #[Vn 0,zu,Vi 0,Vn 0,Vn 0,Vi 0,Vn 0,Vi 0,Vi 0,Vi 0,Vi 0]) qD O (fun b7=>zA (zB (z1 3 O O O (ze 1 O O O (z6 O) O (zG O (zA (zP (yc (cs:=[Vn 0,zu,Vi 0,Vn 0,Vn 0,Vi 0,Vn 0,Vi 0,Vi 0,Vi 0,Vi 0]) (v:=Vi 4) O O O qD (Own.qc (i:=1) O) (fun w' y=>⟨0,false,0,0,0,0,0,0,0,0,0,4,O, .inr ⟨O,zBS a2 (fun h1 h2 h3=>c1.elim (fun h=>h.elim (fun h=>(by rw[h1]at h;cases h)) (fun h=>h qE)) (fun h=>h h3)),O⟩,y.drop⟩))))))))))
  refine zN (zB (z1 1 O O O (ze 1 O O O (z6 O) O (zG O (zA (zP (yc (cs:=[Vn l, .bool m,Vj n,Vn a0,Vn a1,Vj p,Vn r,Vi u,Vi x,Vi c,Vi d]) (v:=Vi 0) O O O qD (Own.qc (i:=1) O) (fun w' y=>⟨l,m,((n:Nat):Int),a0,a1,((p:Nat):Int),r,u,x,c,d,0,O, .inl ⟨O,zAj a2 (by cases h:a;rfl;exact absurd (.inl (.inl h)) c1) (by have:¬(k:Int)≠b.length:=fun h=>c1 (.inl (.inr h));omega) (Decidable.not_not.1 fun h=>c1 (.inr h))⟩,y.drop⟩))))))))
theorem zMl(v:Value)(b:List UInt8)(w:World)(hl:b.length≤1048576)(hb:Rd w [] (Res.sl v b.length (b.map vb))):Rets Tryz.prog 107 #[v] w fun u_ x=>∃ (lo:Bool) (la:Bool) (sq:Nat) (s:Nat) (q:Nat) (op:Int) (k:ByteArray) (am:Int) (sp:Int) (le:Nat) (k2:ByteArray) (e:Int),u_= .tuple #[.agg #[.bool lo, .bool la,Vn sq,Vn s,Vn q,Vi op, .string k,Vi am,Vi sp,Vn le, .string k2],Vi e]∧ValPost (zDO b) (⟨lo,la,sq,⟨s,q,op,k,am,sp,le⟩,k2⟩:AskD) askZ e∧Own w [] [] x:=by
  refine zO Tryz.func107 O Tryz.ntmps107 (Own.start w) (zB (zk (v:= .agg #[zu,zu,Vn 0,Vn 0,Vn 0,Vi 0,yh,Vi 0,Vi 0,Vn 0,yh]) qD O (fun b2=>zG O (zA (zB (zH O O (fun x t=>(zLd x).mono ?_)))))))
  rintro _ z ⟨y,rfl,hO⟩
  refine(?_:CL _ _ _ _ _ _ (Own w [] [_,_])) z (t.qb hO)
  refine zC O (zH O O (fun x t=>(zGa v b y x qF (t.rdRes0 1 O) (t.rd0 hb)).mono ?_))
  rintro _ z ⟨g,h,j,o,p,l,r,m,a,c,d,n,rfl,u,hO⟩
  refine(?_:CL _ _ _ _ _ _ (Own w [] [_,_])) z (t.qb hO)
  refine zb (vs:=[.agg #[.bool g, .bool h,Vn j,Vn o,Vn p,Vi l, .string r,Vi m,Vi a,Vn c, .string d],Vi n]) O O O (zb (vs:=[.agg #[.bool g, .bool h,Vn j,Vn o,Vn p,Vi l, .string r,Vi m,Vi a,Vn c, .string d],Vi n]) O O O (ze 0 O O O (z6 O) O (zG O (zA (zP (yc (cs:=[.bool g, .bool h,Vn j,Vn o,Vn p,Vi l, .string r,Vi m,Vi a,Vn c, .string d]) (v:=Vi n) O O O qD (Own.qc (i:=0) O) (fun x t=>⟨g,h,j,o,p,l,r,m,a,c,d,n,O,u,t.drop⟩)))))))
theorem zIf(v:Value)(b:List UInt8)(w:World)(hl:b.length≤1048576)(hb:Rd w [] (Res.sl v b.length (b.map vb))):Rets Tryz.prog 113 #[v] w fun u_ u=>∃ (sq:Nat) (rt:Bool) (ld:Int) (s:Nat) (q:Nat) (op:Int) (le:Nat) (am:Int) (sp:Int) (mo:Int) (ln:Int) (e:Int),u_= .tuple #[.agg #[Vn sq, .bool rt,Vi ld,Vn s,Vn q,Vi op,Vn le,Vi am,Vi sp,Vi mo,Vi ln],Vi e]∧ValPost (zCM b) (⟨sq,rt,ld,⟨s,q,op,le,am,sp⟩,mo,ln⟩:TldD) zPL e∧Own w [] [] u:=by
  refine zO Tryz.func113 O Tryz.ntmps113 (Own.start w) (zB (zk (v:= .agg #[Vn 0,zu,Vi 0,Vn 0,Vn 0,Vi 0,Vn 0,Vi 0,Vi 0,Vi 0,Vi 0]) qD O (fun b2=>zG O (zA (zB (zH O O (fun u r=>(zH1 u).mono ?_)))))))
  rintro _ y ⟨x,rfl,z⟩
  refine(?_:CL _ _ _ _ _ _ (Own w [] [_,_])) y (r.qb z)
  refine zC O (zH O O (fun u r=>(zHO v b x u qF (r.rdRes0 1 O) (r.rd0 hb)).mono ?_))
  rintro _ y ⟨g,h,j,o,p,k,l,m,a,c,d,n,rfl,t,z⟩
  refine(?_:CL _ _ _ _ _ _ (Own w [] [_,_])) y (r.qb z)
  refine zb (vs:=[.agg #[Vn g, .bool h,Vi j,Vn o,Vn p,Vi k,Vn l,Vi m,Vi a,Vi c,Vi d],Vi n]) O O O (zb (vs:=[.agg #[Vn g, .bool h,Vi j,Vn o,Vn p,Vi k,Vn l,Vi m,Vi a,Vi c,Vi d],Vi n]) O O O (ze 0 O O O (z6 O) O (zG O (zA (zP (yc (cs:=[Vn g, .bool h,Vi j,Vn o,Vn p,Vi k,Vn l,Vi m,Vi a,Vi c,Vi d]) (v:=Vi n) O O O qD (Own.qc (i:=0) O) (fun u r=>⟨g,h,j,o,p,k,l,m,a,c,d,n,O,t,r.drop⟩)))))))
structure AskD.wf(x:AskD):Prop where
  seq:x.seq<18446744073709551616
  cmd:x.cmd.wf
  key:x.key.size≤1048576
def AskD.enc(x:AskD):List UInt8:=yN [fl x.look,fl x.lazy]++yN [x.seq]++x.cmd.enc++dat (jp x.key)
structure TldD.wf(x:TldD):Prop where
  seq:x.seq<18446744073709551616
  reply:x.reply.wf
  most:x3 x.most
  lent:x3 x.lent
def TldD.enc(x:TldD):List UInt8:=kA x.seq++(kA (fl x.retry)++(kA (u64 x.lead)++(x.reply.enc++(kA (u64 x.most)++kA (u64 x.lent)))))
theorem zGn{x:CmdD}(h:x.wf):x.enc.length≤1048700:=by
  have d:=xQ x.key
  have a:=h.key
  have e:=xm (jp x.key) qE
  have b:=yL (ns:=[x.session,x.seq,u64 x.op]) (by have:=h.session;have:=h.seq;simp[yW, *])
  have c:=yL (ns:=[u64 x.amount,u64 x.span,x.lease]) (by have:=h.lease;simp[yW, *])
  simp only[CmdD.enc,List.length_append,List.length_cons,List.length_nil]at *
  omega
theorem zCv{x:RepD}(h:x.wf):x.enc.length≤100:=by
  have a:=yL (ns:=[x.session,x.seq,u64 x.e,x.lease,u64 x.amount,u64 x.until_]) (by have:=h.session;have:=h.seq;have:=h.lease;simp[yW, *])
  simp only[RepD.enc,List.length_cons,List.length_nil]at *
  omega
theorem zKz(f:Bool):(kA (fl f)).length≤9:=ja (zF0 f)
theorem zBP{x:TldD}(h:x.wf):x.enc.length≤1000:=by
  have h1:=ja h.seq
  have h2:=zKz x.retry
  have a:=ja (yW x.lead)
  have b:=zCv h.reply
  have c:=ja (yW x.most)
  have d:=ja (yW x.lent)
  simp only[TldD.enc,List.length_append];omega
theorem zHw{x:TldD}(h:x.wf)(ho:x.ok):zCM x.enc=some x:=by
  have a:=h.reply
  have b:=zAo a.amount
  have c:=zAo a.until_
  have e1:x.reply.enc=kA x.reply.session++(kA x.reply.seq++(kA (u64 x.reply.e)++(kA x.reply.lease++(kA (u64 x.reply.amount)++(kA (u64 x.reply.until_)++[]))))):=by simp[RepD.enc,yN]
  have d:Rt zNj x.reply x.reply.enc:=by
    rw[e1]
    have f:Rt (yi x9 fun u=>xS (⟨x.reply.session,x.reply.seq,x.reply.e,x.reply.lease,xw (u64 x.reply.amount),xw u⟩:RepD)) x.reply (kA (u64 x.reply.until_)++[]):=
      (x0 (yW _)).bind (q:=fun u=>xS (⟨x.reply.session,x.reply.seq,x.reply.e,x.reply.lease,xw (u64 x.reply.amount),xw u⟩:RepD)) (by rw[b,c];exact Rt.pure x.reply)
    exact(x0 a.session).bind ((x0 a.seq).bind ((zGS ho.2.1 ho.2.2 V).bind ((x0 a.lease).bind ((x0 (yW _)).bind f))))
  have g:=zAo h.most
  have hl:=zAo h.lent
  have e2:x.enc=kA x.seq++(kA (fl x.retry)++(kA (u64 x.lead)++(x.reply.enc++(kA (u64 x.most)++(kA (u64 x.lent)++[]))))):=by simp[TldD.enc]
  have i:Rt (yi x9 fun l=>xS (⟨x.seq,x.retry,x.lead,x.reply,xw (u64 x.most),xw l⟩:TldD)) x (kA (u64 x.lent)++[]):=
    (x0 (yW _)).bind (q:=fun l=>xS (⟨x.seq,x.retry,x.lead,x.reply,xw (u64 x.most),xw l⟩:TldD)) (by rw[g,hl];exact Rt.pure x)
  rw[e2]
  exact zB2 (p:=zQy) ((x0 h.seq).bind ((zEZ _).bind ((zGS ho.1.1 ho.1.2 V).bind (d.bind ((x0 (yW _)).bind i))))) ho
theorem _root_.Go.Sc.qU{p:Prop}(h:p:=by simp only[List.length_append,List.length_cons,List.length_nil];omega):p:=h
theorem zGT{S:List Nat}(o:Nat)(sl:Value)(bs:List UInt8)(x:AskD)(cb:Nat)(w:World)(k:x.wf)(hb:bs.length≤1000000)(q:Own w S [Res.bv o yo sl bs] w)(l:Rd w S (Res.row cb 191 [.func (.func 124) #[] #[], .func (.func 125) #[] #[], .func (.func 128) #[] #[]])):Rets Tryz.prog 309 #[.pointer (some ⟨o,0,none⟩), .agg (AskD.cells x).toArray, .pointer (some ⟨cb,0,none⟩)] w fun u_ b=>∃ (r:Value),u_= .tuple #[]∧Own w S [Res.bv o yo r (bs++x.enc)] b:=by
  have hk:x.key.data.toList.length=x.key.size:=xQ x.key
  have a2:=k.key
  have hd:=xm x.key.data.toList qE
  have a3:=zGn k.cmd
  have s:=yL (ns:=[x.look,x.lazy].map fl) (by simp[zF0])
  have u:=yL (ns:=[x.seq]) (by simpa using k.seq)
  simp only[List.length_cons,List.length_nil,List.length_map]at s u
  refine zO Tryz.func309 O Tryz.ntmps309 q (zB (zj O O (fun b4=>zA (zB (zC O (zI (o:=0) O O (zJ 1 (v:= .bool x.look) O O O O (zI (o:=1) O O (zJ 1 (v:= .bool x.lazy) O O O O (yC (e:=4) (sz:=1) (vs:=[.bool x.look, .bool x.lazy]) qD O O qJ V O (fun y=>zH O O (fun b a=>(zH8 o _ _ (.slice (some ⟨y,0,none⟩) 2 2) [x.look,x.lazy] b qL (a.give [0] O V) (a.rdVec 2 O [0] O O)).mono ?_))))))))))))
  rintro _ z ⟨c,rfl,d⟩
  refine fq [0] O a d (zA (zB (zC O (zI (o:=2) O O (zJ 0 (v:=Vn x.seq) O O O O (yC (e:=31) (sz:=1) (vs:=[Vn x.seq]) qD O O qJ V O (fun a0=>zH O O (fun b a=>(kz o c (bs++yN ([x.look,x.lazy].map fl)) (.slice (some ⟨a0,0,none⟩) 1 1) [x.seq] b (by simpa using k.seq) qU (a.give [2] O V) (a.rdVec 3 O [2] O O)).mono ?_))))))))
  rintro _ z ⟨g,rfl,d⟩
  refine fq [2] O a d (zA (zB (zI (o:=1) O O (zAF (v:= .func (.func 125) #[] #[]) O (l.φ.cell O) (l.far _ qK) qD O (zC O (zI (o:=3) O O (xC 0 (CmdD.cells x.cmd) O O (ye 3 O) qD O (yO (fst:=[]) (cap:=[]) O qD O O (fun b a=>(zCu o g ((bs++yN ([x.look,x.lazy].map fl))++yN [x.seq]) x.cmd b k.cmd qW (a.give [3] O V)).mono ?_)))))))))
  rintro _ z ⟨i,rfl,d⟩
  refine fq [3] O a d (zA (zd (zC O (zI (o:=10) O O (zJ 0 (v:= .string x.key) O O O O (zOw qD qD O (by rw[y3];omega) O (fun m=>(zS (fun b a=>Sl.cell1 (Own.holds a 4 _ O)) (fun n=>(kU (e:=77) (vs:=[m]) qD O O (zF n zh) V O (fun a1=>zH O O (fun b a=>(zEm o i (((bs++yN ([x.look,x.lazy].map fl))++yN [x.seq])++x.cmd.enc) (.slice (some ⟨a1,0,none⟩) 1 1) [(m,x.key.data.toList)] b (by simp only[xh,List.flatMap_cons,List.flatMap_nil,List.append_nil,List.length_append];omega) (by show 1≤_;omega) (a.give [3] O V) (a.rdVec 5 O [3] O O) (all_cons (a.rdRes 4 O [3] O O) (fun p hp=>by cases hp))).mono ?_))))))))))))
  rintro _ z ⟨j,rfl,d⟩
  refine fq [3] O a d (zw (yl O (fun b a=>⟨j,O,by have h:=a.one 5 rfl;simpa [AskD.enc,xh,jp]using h⟩)))
theorem zGd(x:AskD)(cb:Nat)(w:World)(k:x.wf)(e:Rd w [] (Res.row cb 191 [.func (.func 124) #[] #[], .func (.func 125) #[] #[], .func (.func 128) #[] #[]])):Rets Tryz.prog 332 #[.agg #[.func (.func 308) #[] #[.pointer (some ⟨cb,0,none⟩)], .func (.func 309) #[] #[.pointer (some ⟨cb,0,none⟩)], .func (.func 311) #[] #[.pointer (some ⟨cb,0,none⟩)]], .agg (AskD.cells x).toArray] w fun p c=>∃ (r:Value),p= .tuple #[r,Vi (yB x.ok)]∧Own w [] [Res.vec 5 1 r (if x.ok then x.enc else []).length ((if x.ok then x.enc else []).map vb)] c:=by
  have u:=k.key
  have s:=k.cmd.key
  refine zO Tryz.func332 O Tryz.ntmps332 (Own.start w) (zB (zj O O (fun l=>zj O O (fun m=>zG O (zG O (zA (zK (zB (zI (o:=0) O O (zJ 0 (v:= .func (.func 308) #[] #[.pointer (some ⟨cb,0,none⟩)]) O O O O (z1 (cs:=(AskD.cells x)) 1 O O O (yO (fst:=[]) (cap:=[.pointer (some ⟨cb,0,none⟩)]) O qD O O (fun c b=>(zCy x cb c qF qF (b.rd0 e)).mono ?_)))))))))))))
  rintro _ n ⟨rfl,h⟩
  refine(?_:CL _ _ _ _ _ _ (Own w [] [_,_])) n (b.qb h)
  refine xJ (q:=x.ok) O O (zA (zT O (fun g=> ?_) (fun g=> ?_)))
  ·refine zB (zG O (zG O (zA (zP (yg (v:=zW) (v':=Vi 2) O O O (fun c b=>⟨.slice none 0 0,(by rw[jT g]),by rw[if_neg g];exact(zq b T8 1).one 2 rfl⟩))))))
  refine zN (zB (yG (cs:=[zW]) (z:=[zW]) (pl:=[(0,1)]) qD qD O (zj O O (fun d=>zG O (zA (zB (zI (o:=1) O O (zJ 0 (v:= .func (.func 309) #[] #[.pointer (some ⟨cb,0,none⟩)]) O O O O (zC O (z1 (cs:=(AskD.cells x)) 1 O O O (x5 [Res.row l 329 [.func (.func 308) #[] #[.pointer (some ⟨cb,0,none⟩)], .func (.func 309) #[] #[.pointer (some ⟨cb,0,none⟩)], .func (.func 311) #[] #[.pointer (some ⟨cb,0,none⟩)]],Res.row m 109 (AskD.cells x),Res.bv d yo zW ([]:List UInt8)] (fun c b=>(zq b T8 1).joinBv (i:=2) (j:=3) V O O) (yO (fst:=[]) (cap:=[.pointer (some ⟨cb,0,none⟩)]) O qD O O (fun c b=>(zGT d zW ([]:List UInt8) x cb c ‹_› qI (b.give [2] O V) (b.rdTo e [2] O)).mono ?_)))))))))))))
  rintro _ n ⟨a,rfl,h⟩
  refine fq [2] O b h (zA (zB (zC O (zV O O (zI (o:=0) O O (x5 [Res.row l 329 [.func (.func 308) #[] #[.pointer (some ⟨cb,0,none⟩)], .func (.func 309) #[] #[.pointer (some ⟨cb,0,none⟩)], .func (.func 311) #[] #[.pointer (some ⟨cb,0,none⟩)]],Res.row m 109 (AskD.cells x),Res.row d yo [a],Res.vec 5 1 a (([]:List UInt8)++x.enc).length ((([]:List UInt8)++x.enc).map vb)] (fun c b=>b.splitBv (i:=2) (o:=d) (T:=yo) (v:=a) (bs:=(([]:List UInt8)++x.enc)) O) (zJ 2 (v:=a) O O O O (zG O (zG O (zA (zP (yg (v:=a) (v':=Vi 0) O O O (fun c b=>⟨a,(by rw[xe (Decidable.not_not.1 g)]),by rw[if_pos (Decidable.not_not.1 g)];exact b.one 3 rfl⟩)))))))))))))
theorem zKc(x:AskD)(w:World)(j:x.wf):Rets Tryz.prog 193 #[.agg (AskD.cells x).toArray] w fun i b=>∃ (r:Value),i= .tuple #[r,Vi (yB x.ok)]∧Own w [] [Res.vec 5 1 r (if x.ok then x.enc else []).length ((if x.ok then x.enc else []).map vb)] b:=by
  refine zO Tryz.func193 O Tryz.ntmps193 (Own.start w) (zB (zj O O (fun k=>zG O (zG O (zA (zK (zc [0] O V qD (fun b a d=>zD 1 O (xB (cs:=(AskD.cells x)) 0 O O) d (zM 0 O a (zH O O (fun b a=>(zLd b).mono ?_)))))))))))
  rintro _ g ⟨e,rfl,h⟩
  refine(?_:CL _ _ _ _ _ _ (Own w [] [_,_])) g (a.qb h)
  refine zE [0] O V (fun b a d=>zM 2 O a (zH O O (fun b a=>(zGd x e b ‹_› (a.rdRes0 1 O)).mono ?_)))
  rintro _ g ⟨c,rfl,h⟩
  refine(?_:CL _ _ _ _ _ _ (Own w [] [_,_,_])) g (a.qb h)
  refine zE [0] O V (fun b a d=>zD 3 O (yD (vs:=[c,Vi (yB x.ok)]) O O) d (zD 4 O (yD (vs:=[c,Vi (yB x.ok)]) O O) d (zD 5 O z7 d (zD 6 O z7 d (zY ((?_:C _ _ _ _ _ _ _ (Own w [] [_,_,_])) _ a))))))
  exact zP (yg (v:=c) (v':=Vi (yB x.ok)) O O O (fun b a=>⟨c,O,a.sel [2] O V⟩))
theorem zGj{S:List Nat}(o:Nat)(sl:Value)(bs:List UInt8)(x:TldD)(cb:Nat)(w:World)(n:x.wf)(hb:bs.length≤1000000)(p:Own w S [Res.bv o yo sl bs] w)(l:Rd w S (Res.row cb 270 [.func (.func 225) #[] #[], .func (.func 226) #[] #[], .func (.func 227) #[] #[]])):Rets Tryz.prog 330 #[.pointer (some ⟨o,0,none⟩), .agg (TldD.cells x).toArray, .pointer (some ⟨cb,0,none⟩)] w fun u_ b=>∃ (q:Value),u_= .tuple #[]∧Own w S [Res.bv o yo q (bs++x.enc)] b:=by
  have a1:=zCv n.reply
  have r:=yL (ns:=[x.seq]) (by simpa using n.seq)
  have s:=yL (ns:=[x.retry].map fl) (by simp[zF0])
  have u:=yL (ns:=[x.lead].map u64) (by simp[yW])
  simp only[List.length_cons,List.length_nil,List.length_map]at r s u
  refine zO Tryz.func330 O Tryz.ntmps330 p (zB (zj O O (fun b4=>zA (zB (zC O (zI (o:=0) O O (zJ 1 (v:=Vn x.seq) O O O O (yC (e:=31) (sz:=1) (vs:=[Vn x.seq]) qD O O qJ V O (fun b8=>zH O O (fun b a=>(kz o _ _ (.slice (some ⟨b8,0,none⟩) 1 1) [x.seq] b (by simpa using n.seq) qI (a.give [0] O V) (a.rdVec 2 O [0] O O)).mono ?_))))))))))
  rintro _ m ⟨d,rfl,c⟩
  refine fq [0] O a c (zA (zB (zC O (zI (o:=1) O O (zJ 0 (v:= .bool x.retry) O O O O (yC (e:=4) (sz:=1) (vs:=[.bool x.retry]) qD O O qJ V O (fun y=>zH O O (fun b a=>(zH8 o d (bs++yN [x.seq]) (.slice (some ⟨y,0,none⟩) 1 1) [x.retry] b qU (a.give [2] O V) (a.rdVec 3 O [2] O O)).mono ?_))))))))
  rintro _ m ⟨g,rfl,c⟩
  refine fq [2] O a c (zA (zB (zC O (zI (o:=2) O O (zJ 0 (v:=Vi x.lead) O O O O (yC (e:=3) (sz:=1) (vs:=[Vi x.lead]) qD O O qJ V O (fun z=>zH O O (fun b a=>(zHX o g ((bs++yN [x.seq])++yN ([x.retry].map fl)) (.slice (some ⟨z,0,none⟩) 1 1) [x.lead] b qU (a.give [3] O V) (a.rdVec 4 O [3] O O)).mono ?_))))))))
  rintro _ m ⟨i,rfl,c⟩
  refine fq [3] O a c (zA (zB (zI (o:=1) O O (zAF (v:= .func (.func 226) #[] #[]) O (l.φ.cell O) (l.far _ qK) qD O (zC O (zI (o:=3) O O (xC 0 (RepD.cells x.reply) O O (ye 3 O) qD O (yO (fst:=[]) (cap:=[]) O qD O O (fun b a=>(zC7 o i (((bs++yN [x.seq])++yN ([x.retry].map fl))++yN ([x.lead].map u64)) x.reply b n.reply qU (a.give [4] O V)).mono ?_)))))))))
  rintro _ m ⟨j,rfl,c⟩
  refine fq [4] O a c (zA (zd (zC O (zI (o:=9) O O (zJ 0 (v:=Vi x.most) O O O O (ya qD O (yx _) O ?_ qD))))))
  refine zI (o:=10) O O (zJ 0 (v:=Vi x.lent) O O O O (ya qD O (yx _) O ?_ qD))
  refine yC (e:=31) (sz:=1) (vs:=[Vn (u64 x.most),Vn (u64 x.lent)]) qD O O qJ V O (fun a0=>zH O O (fun b a=>(kz o j ((((bs++yN [x.seq])++yN ([x.retry].map fl))++yN ([x.lead].map u64))++x.reply.enc) (.slice (some ⟨a0,0,none⟩) 2 2) [u64 x.most,u64 x.lent] b qR qU (a.give [4] O V) (a.rdVec 5 O [4] O O)).mono ?_))
  rintro _ m ⟨k,rfl,c⟩
  refine(?_:CL _ _ _ _ _ _ (Own w S [_,_,_,_,_,_])) m (a.qi [4] O c)
  exact zw (yl O (fun b a=>⟨k,O,by have h:=a.one 5 rfl;simpa [TldD.enc,yN]using h⟩))
theorem zHJ(x:TldD)(cb:Nat)(w:World)(p:x.wf)(e:Rd w [] (Res.row cb 270 [.func (.func 225) #[] #[], .func (.func 226) #[] #[], .func (.func 227) #[] #[]])):Rets Tryz.prog 424 #[.agg #[.func (.func 329) #[] #[.pointer (some ⟨cb,0,none⟩)], .func (.func 330) #[] #[.pointer (some ⟨cb,0,none⟩)], .func (.func 331) #[] #[.pointer (some ⟨cb,0,none⟩)]], .agg (TldD.cells x).toArray] w fun n c=>∃ (r:Value),n= .tuple #[r,Vi (yB x.ok)]∧Own w [] [Res.vec 5 1 r (if x.ok then x.enc else []).length ((if x.ok then x.enc else []).map vb)] c:=by
  refine zO Tryz.func424 O Tryz.ntmps424 (Own.start w) (zB (zj O O (fun l=>zj O O (fun m=>zG O (zG O (zA (zK (zB (zI (o:=0) O O (zJ 0 (v:= .func (.func 329) #[] #[.pointer (some ⟨cb,0,none⟩)]) O O O O (z1 (cs:=(TldD.cells x)) 1 O O O (yO (fst:=[]) (cap:=[.pointer (some ⟨cb,0,none⟩)]) O qD O O (fun c b=>(zDP x cb c (b.rd0 e)).mono ?_)))))))))))))
  rintro _ h ⟨rfl,k⟩
  refine(?_:CL _ _ _ _ _ _ (Own w [] [_,_])) h (b.qb k)
  refine xJ (q:=x.ok) O O (zA (zT O (fun g=> ?_) (fun g=> ?_)))
  ·refine zB (zG O (zG O (zA (zP (yg (v:=zW) (v':=Vi 2) O O O (fun c b=>⟨.slice none 0 0,(by rw[jT g]),by rw[if_neg g];exact(zq b T8 1).one 2 rfl⟩))))))
  refine zN (zB (yG (cs:=[zW]) (z:=[zW]) (pl:=[(0,1)]) qD qD O (zj O O (fun d=>zG O (zA (zB (zI (o:=1) O O (zJ 0 (v:= .func (.func 330) #[] #[.pointer (some ⟨cb,0,none⟩)]) O O O O (zC O (z1 (cs:=(TldD.cells x)) 1 O O O (x5 [Res.row l 353 [.func (.func 329) #[] #[.pointer (some ⟨cb,0,none⟩)], .func (.func 330) #[] #[.pointer (some ⟨cb,0,none⟩)], .func (.func 331) #[] #[.pointer (some ⟨cb,0,none⟩)]],Res.row m 148 (TldD.cells x),Res.bv d yo zW ([]:List UInt8)] (fun c b=>(zq b T8 1).joinBv (i:=2) (j:=3) V O O) (yO (fst:=[]) (cap:=[.pointer (some ⟨cb,0,none⟩)]) O qD O O (fun c b=>(zGj d zW ([]:List UInt8) x cb c ‹_› qI (b.give [2] O V) (b.rdTo e [2] O)).mono ?_)))))))))))))
  rintro _ h ⟨a,rfl,k⟩
  refine(?_:CL _ _ _ _ _ _ (Own w [] [_,_,_])) h (b.qi [2] O k)
  refine zA (zB (zC O (zV O O (zI (o:=0) O O (x5 [Res.row l 353 [.func (.func 329) #[] #[.pointer (some ⟨cb,0,none⟩)], .func (.func 330) #[] #[.pointer (some ⟨cb,0,none⟩)], .func (.func 331) #[] #[.pointer (some ⟨cb,0,none⟩)]],Res.row m 148 (TldD.cells x),Res.row d yo [a],Res.vec 5 1 a (([]:List UInt8)++x.enc).length ((([]:List UInt8)++x.enc).map vb)] (fun c b=>b.splitBv (i:=2) (o:=d) (T:=yo) (v:=a) (bs:=(([]:List UInt8)++x.enc)) O) (zJ 2 (v:=a) O O O O (zG O (zG O (zA (zP (yg (v:=a) (v':=Vi 0) O O O (fun c b=>⟨a,(by rw[xe (Decidable.not_not.1 g)]),by rw[if_pos (Decidable.not_not.1 g)];exact b.one 3 rfl⟩))))))))))))
theorem zJC(x:TldD)(w:World)(j:x.wf):Rets Tryz.prog 289 #[.agg (TldD.cells x).toArray] w fun i b=>∃ (r:Value),i= .tuple #[r,Vi (yB x.ok)]∧Own w [] [Res.vec 5 1 r (if x.ok then x.enc else []).length ((if x.ok then x.enc else []).map vb)] b:=by
  refine zO Tryz.func289 O Tryz.ntmps289 (Own.start w) (zB (zj O O (fun k=>zG O (zG O (zA (zK (zc [0] O V qD (fun b a d=>zD 1 O (xB (cs:=(TldD.cells x)) 0 O O) d (zM 0 O a (zH O O (fun b a=>(zH1 b).mono ?_)))))))))))
  rintro _ g ⟨e,rfl,h⟩
  refine(?_:CL _ _ _ _ _ _ (Own w [] [_,_])) g (a.qb h)
  refine zE [0] O V (fun b a d=>zM 2 O a (zH O O (fun b a=>(zHJ x e b ‹_› (a.rdRes0 1 O)).mono ?_)))
  rintro _ g ⟨c,rfl,h⟩
  refine(?_:CL _ _ _ _ _ _ (Own w [] [_,_,_])) g (a.qb h)
  refine zE [0] O V (fun b a d=>zD 3 O (yD (vs:=[c,Vi (yB x.ok)]) O O) d (zD 4 O (yD (vs:=[c,Vi (yB x.ok)]) O O) d (zD 5 O z7 d (zD 6 O z7 d (zY ((?_:C _ _ _ _ _ _ _ (Own w [] [_,_,_])) _ a))))))
  exact zP (yg (v:=c) (v':=Vi (yB x.ok)) O O O (fun b a=>⟨c,O,a.sel [2] O V⟩))
end Go.Proofs.YtmpaljnacfidaaaGreatDoor
