import Derived.Test.YthpoddkmhfhboaaGreatDoorMsgD
set_option linter.unusedSimpArgs false
set_option linter.unusedVariables false
set_option maxRecDepth 10000
namespace Go.Proofs.YthpoddkmhfhboaaGreatDoor
open Go.Sc
def zIJ:List UInt8→Nat→Option (Bool×Nat):=yp (j9 1) fun n=>xZ (n==1)
abbrev zDj(α:Type):=List UInt8→Nat→Option (α×Nat)
def Rt{α:Type}(p:zDj α)(x:α)(e:List UInt8):Prop:=∀ pre s:List UInt8,p (pre++e++s) pre.length=some (x,(pre++e).length)
theorem Rt.pure{α:Type}(x:α):Rt (xZ x) x []:=fun a s=>by simp[xZ]
theorem Rt.bind{α β:Type}{p:zDj α}{q:α→zDj β}{x:α}{y:β}{e f:List UInt8}(h1:Rt p x e)(h2:Rt (q x) y f):Rt (yp p q) y (e++f):=fun a s=>by
 have b:=h1 a (f++s)
 have c:=h2 (a++e) s
 simp only[yp]
 rw[show a++(e++f)++s=a++e++(f++s)by simp,b]
 simp only[Option.bind_some]
 rw[show a++e++(f++s)=a++e++f++s by simp,c]
 simp
theorem Rt.map{α β:Type}{p:zDj α}{x:α}{e:List UInt8}(h:Rt p x e)(g:α→β):Rt (yp p fun v=>xZ (g v)) (g x) e:=by
 have:=h.bind (q:=fun v=>xZ (g v)) (Rt.pure (g x));rwa [List.append_nil]at this
theorem zNr{α:Type}[Inhabited α]{l m:List α}{j:Nat}(h:j<l.length):zc (l++m) j=zc l j:=by
 simp[zc,List.getElem?_append_left h]
theorem zDc:∀ (l:List UInt8) (n:Nat),l.foldl (fun n c=>n*256+c.toNat) n=n*256 ^ l.length+beN l
 | [],n=>by simp[beN]
 |c::l,n=>by
   have h1:=zDc l (n*256+c.toNat)
   have h2:=zDc l (0*256+c.toNat)
   simp only[beN,List.foldl_cons,List.length_cons]at *
   rw[h1,h2,Nat.pow_succ,Nat.add_mul,Nat.mul_assoc,Nat.mul_comm 256];simp only[Nat.zero_mul,Nat.zero_add];omega
theorem zKZ(c:UInt8)(l:List UInt8):beN (c::l)=c.toNat*256 ^ l.length+beN l:=by
 have:=zDc l (0*256+c.toNat)
 simp only[beN,List.foldl_cons,Nat.zero_mul,Nat.zero_add]at *
 exact this
theorem zNp(k:Nat):2 ^ (8*k)=256 ^ k:=by rw[Nat.pow_mul]
theorem zLK(n:Nat):∀ k,beN (be n k)=n%256 ^ k
 |0=>by simp[be,beN,Nat.mod_one]
 |k+1=>by
   rw[be,zKZ,zAv,zLK n k,zNp,Nat.pow_succ,Nat.mod_mul]
   have:(UInt8.ofNat (n / 256 ^ k)).toNat=n / 256 ^ k%256:=by simp
   rw[this,Nat.mul_comm,Nat.add_comm]
theorem zDY(n:Nat):n<256 ^ yV n:=by
 have h1:=zCV n
 have:2 ^ yK n≤2 ^ (8*yV n):=Nat.pow_le_pow_right qG (by unfold yV;omega)
 rw[zNp]at this;omega
theorem zFc{n k:Nat}(h:yV n=k+1):0<n / 256 ^ k∧n / 256 ^ k<256:=by
 have a:0<n:=by
   rcases Nat.eq_zero_or_pos n with rfl|a
   · simp[yV,yK]at h
   exact a
 have h1:=zAs a
 have h2:256 ^ k≤n:=by
   rw[←zNp]
   refine Nat.le_trans (Nat.pow_le_pow_right qG ?_) h1
   unfold yV at h;omega
 have b:=zDY n
 rw[h,Nat.pow_succ]at b
 have hp:0<256 ^ k:=Nat.pow_pos qG
 exact⟨Nat.div_pos h2 hp,(Nat.div_lt_iff_lt_mul hp).2 qG⟩
theorem zKK{n:Nat}(h:n<18446744073709551616)(s:List UInt8):zB6 (xS n++s)=some (n,(xS n).length):=by
 have c:=zBY h
 have hl:=jV n
 have b:zc (xS n++s) 0=UInt8.ofNat (yV n):=rfl
 have e1:(UInt8.ofNat (yV n)).toNat=yV n:=by simp;omega
 unfold zB6
 rw[b,e1,if_neg (by simp[hl]),if_neg,if_neg (by simp[hl];omega)]
 · rw[List.take_append_of_le_length qG,List.take_of_length_le qG]
   have:(xS n).drop 1=be n (yV n):=rfl
   rw[this,zLK,Nat.mod_eq_of_lt (zDY n),hl];simp[Nat.add_comm]
 rintro(h|⟨⟨_,d⟩,a⟩)
 · omega
 obtain⟨k,hk⟩:∃ k,yV n=k+1:=⟨yV n - 1,by omega⟩
 obtain⟨e,f⟩:=zFc hk
 have e2:zc (xS n++s) 1=UInt8.ofNat (n / 2 ^ (8*k)):=by
   rw[zNr qG]
   show zc (UInt8.ofNat (yV n)::be n (yV n)) 1=_
   rw[hk];rfl
 rw[e2,zNp]at a
 simp at a;omega
theorem x8{n:Nat}(h:n<18446744073709551616):Rt kI n (xS n):=fun a s=>by
 unfold kI
 rw[List.append_assoc,List.drop_left,zKK h];simp
theorem zIO{n most:Nat}(h:n<18446744073709551616)(b:n≤most):Rt (j9 most) n (xS n):=fun a s=>by
 simp only[j9,x8 h a s,Option.bind_some];rw[if_neg qG]
theorem zHY{a:Int}{most:Nat}(b:0≤a)(c:a≤most)(d:most<18446744073709551616):Rt (zGI most) a (xS (u64 a)):=by
 have e:u64 a=a.toNat:=by unfold u64;omega
 have h:=(zIO (n:=a.toNat) (most:=most) qG qG).map (fun n:Nat=>(n:Int))
 rw[Int.toNat_of_nonneg b]at h
 rw[e];exact h
theorem _root_.Go.Sc.qY{p:Prop}(h:p:=by simp only[List.length_append];omega):p:=h
theorem zGE{d:List UInt8}(h:d.length<18446744073709551616):Rt jE d (dat d):=fun a s=>by
 have h1:=x8 h a (d++s)
 have e:a++dat d++s=a++xS d.length++(d++s):=by simp[dat]
 rw[e]
 simp only[jE,h1,Option.bind_some]
 rw[if_neg qY]
 rw[show a++xS d.length++(d++s)=(a++xS d.length++d)++s by simp,List.take_append_of_le_length qY,List.take_of_length_le qY,List.drop_left]
 simp[dat,Nat.add_assoc]
theorem zE5(f:Bool):Rt zIJ f (xS (fl f)):=by
 have h:=(zIO (n:=fl f) (most:=1) (zF9 f) (by cases f<;>decide)).map (fun n:Nat=>n==1)
 have e:(fl f==1)=f:=by cases f<;>decide
 rw[e]at h;exact h
theorem zCY{α:Type}{p:zDj α}{ok:α→Prop}[DecidablePred ok]{x:α}{e:List UInt8}(h:Rt p x e)(a:ok x):whole p ok e=some x:=by
 have h:=h [] []
 simp only[List.append_nil,List.nil_append,List.length_nil]at h
 simp only[whole,h,Option.bind_some];rw[if_pos ⟨trivial,a⟩]
structure AskD where
 look:Bool
 lazy:Bool
 seq:Nat
 cmd:CmdD
 key:ByteArray
 deriving DecidableEq
structure TldD where
 seq:Nat
 retry:Bool
 lead:Int
 reply:RepD
 most:Int
 lent:Int
 deriving DecidableEq
def askZ:AskD:=⟨false,false,0,zJe,⟨#[]⟩⟩
def zQv:TldD:=⟨0,false,0,zUT,0,0⟩
def AskD.cells(x:AskD):List Value:=[.bool x.look, .bool x.lazy, .int .u64 x.seq]++(x.cmd.cells++[.string x.key])
def TldD.cells(x:TldD):List Value:=[.int .u64 x.seq, .bool x.retry, .int .i64 x.lead]++(x.reply.cells++[.int .i64 x.most, .int .i64 x.lent])
def AskD.ok(x:AskD):Prop:=if x.look=true then x.cmd=zJe∧x.key.size≤64 else(x.cmd.ok∧x.key=⟨#[]⟩)∧x.lazy=false
instance iWh1(x:AskD):Decidable x.ok:=by unfold AskD.ok;infer_instance
def TldD.ok(x:TldD):Prop:=(0≤x.lead∧x.lead≤16)∧x.reply.ok
instance iWh2(x:TldD):Decidable x.ok:=inferInstanceAs (Decidable ((_∧_)∧_))
def zRw:List UInt8→Nat→Option (AskD×Nat):=yp zIJ fun l=>yp zIJ fun z=>yp kI fun q=>yp zMk fun c=>yp jE fun k=>xZ ⟨l,z,q,c,zCr k⟩
def zRU:List UInt8→Nat→Option (TldD×Nat):=yp kI fun q=>yp zIJ fun r=>yp (zGI 16) fun d=>yp zNt fun p=>yp kI fun c=>yp kI fun l=>xZ ⟨q,r,d,p,x6 c,x6 l⟩
instance iWh3:DecidablePred TldD.ok:=fun x=>inferInstance
instance iWh4:DecidablePred AskD.ok:=fun x=>inferInstance
def zDG(b:List UInt8):Option AskD:=whole zRw AskD.ok b
def zCP(b:List UInt8):Option TldD:=whole zRU TldD.ok b
theorem zDv(x:AskD)(cb:Nat)(w:World)(r:x.key.size≤1048576)(s:x.cmd.key.size≤1048576)(g:Rd w [] (Res.row cb 462 [.func (.func 414) #[] #[], .func (.func 415) #[] #[], .func (.func 416) #[] #[]])):Rets Tryz.prog 274 #[.agg (AskD.cells x).toArray, .pointer (some ⟨cb,0,none⟩)] w fun m h=>m= .bool (decide x.ok)∧Own w [] [] h:=by
 refine zO Tryz.func274 O Tryz.ntmps274 (Own.start w)<|zB<|zj O O<|fun u=>zF O<|zA<|zK<|zB<|zI (o:=0) O O<|zJ 0 (v:= .bool x.look) O O O O<|zA<|jJ O (fun i=> ?_)<|fun i=> ?_
 ·refine zB<|zI (o:=3) O O<|xI 0 (CmdD.cells x.cmd) O O (yj 3 O) qF O<|yJ (cs:=[Vn 0,Vn 0,Vi 0,ym,Vi 0,Vi 0,Vn 0]) (z:=[Vn 0,Vn 0,Vi 0,ym,Vi 0,Vi 0,Vn 0]) (pl:=[(0,1),(1,1),(2,1),(3,1),(4,1),(5,1),(6,1)]) qF qF O<|yN O (zS9 (zQX x.cmd ({session:=0,seq:=0,op:=0,key:=yEb,amount:=0,span:=0,lease:=0}:CmdD)) qF qF O O O O)<|zC O<|yA (q:=x.cmd=({session:=0,seq:=0,op:=0,key:=yEb,amount:=0,span:=0,lease:=0}:CmdD)) 4 4 [14,13,12,11] (((x.key.size:Nat):Int)≤64) O O O O O O trivial O (fun c=> ?_)<|fun k=> ?_
  ·refine zQ O (gT c)<|zI (o:=10) O O<|zQ O (gT c)<|zJ 0 (v:= .string x.key) O O O O<|zQ O (gT c)<|zCa qF O O<|zQ O (gT c)<|yx O O O<|z8 O<|fun _ d=>d
  refine zF O<|zA<|zP<|zm (v:= .bool (decide ((x.cmd=({session:=0,seq:=0,op:=0,key:=yEb,amount:=0,span:=0,lease:=0}:CmdD))∧(((x.key.size:Nat):Int)≤64)))) O O<|fun h d=>⟨(by congr 1;exact decide_eq_decide.2 (by unfold AskD.ok;rw[if_pos i];exact and_congr_right fun _=>by omega)),d.drop⟩
 refine zN<|zB<|zI (o:=0) O O<|zAT (v:= .func (.func 414) #[] #[]) O (g.φ.cell O) (g.far _ qM) qF O<|zI (o:=3) O O<|xI 0 (CmdD.cells x.cmd) O O (yj 3 O) qF O<|yM (fst:=[]) (cap:=[]) O qF O O<|fun h d=>(zBQ x.cmd h qH).mono ?_
 rintro _ n ⟨rfl,p⟩
 refine(?_:CL _ _ _ _ _ _ (Own w [] [_])) n<|d.qb p
 refine zC O<|yA (q:=x.cmd.ok) 3 5 [24,23,22] (x.key=yEb) O O O O O O trivial O (fun e=> ?_)<|fun l=> ?_
 ·refine zQ O (gT e)<|zI (o:=10) O O<|zQ O (gT e)<|zJ 0 (v:= .string x.key) O O O O<|zQ O (gT e)<|zEq O O O<|z8 O<|fun _ d=>d
 refine zC O<|yA (q:=x.cmd.ok∧(x.key=yEb)) 3 10 [29,28,27] ((!x.lazy)=true) O O O O O O trivial O (fun a=> ?_)<|fun j=> ?_
 ·refine zQ O (gT a)<|zI (o:=1) O O<|zQ O (gT a)<|zJ 0 (v:= .bool x.lazy) O O O O<|zQ O (gT a)<|xo (b:=x.lazy) O O<|z8 (y2 _)<|fun _ d=>d
 refine zF O<|zA<|zP<|zm (v:= .bool (decide ((x.cmd.ok∧(x.key=yEb))∧((!x.lazy)=true)))) O O<|fun h d=>⟨(by congr 1;exact decide_eq_decide.2 (by unfold AskD.ok;rw[if_neg (by rw[i];decide)];cases x.lazy<;>simp)),d.drop⟩
theorem zDN(x:TldD)(cb:Nat)(w:World)(d:Rd w [] (Res.row cb 495 [.func (.func 434) #[] #[], .func (.func 435) #[] #[], .func (.func 436) #[] #[]])):Rets Tryz.prog 303 #[.agg (TldD.cells x).toArray, .pointer (some ⟨cb,0,none⟩)] w fun i e=>i= .bool (decide x.ok)∧Own w [] [] e:=by
 refine zO Tryz.func303 O Tryz.ntmps303 (Own.start w)<|zB<|zj O O<|fun l=>zF O<|zA<|zB<|zI (o:=2) O O<|zJ 0 (v:=Vi x.lead) O O O O<|xJ O O O<|zC O<|yA (q:=0≤x.lead) 3 3 [10,9,8] (x.lead≤16) O O O O O O trivial O (fun b=> ?_)<|fun h=> ?_
 ·refine zQ O (gT b)<|zI (o:=2) O O<|zQ O (gT b)<|zJ 0 (v:=Vi x.lead) O O O O<|zQ O (gT b)<|yx O O O<|z8 O<|fun _ c=>c
 refine zC O<|yA (q:=(0≤x.lead)∧(x.lead≤16)) 5 8 [17,16,15,14,13] (x.reply.ok) O O O O O O trivial O (fun a=> ?_)<|fun g=> ?_
 ·refine zQ O (gT a)<|zI (o:=0) O O<|zQ O (gT a)<|zAT (v:= .func (.func 434) #[] #[]) O (d.φ.cell O) (d.far _ qM) qF O<|zQ O (gT a)<|zI (o:=3) O O<|zQ O (gT a)<|xI 0 (RepD.cells x.reply) O O (yj 3 O) qF O<|zQ O (gT a)<|yM (fst:=[]) (cap:=[]) O qF O O<|fun e c=>(zDt x.reply e).mono ?_
  rintro _ j ⟨rfl,k⟩
  refine(?_:CL _ _ _ _ _ _ (Own w [] [_])) j<|c.qb k
  exact z8 O<|fun _ c=>c
 refine zF O<|zA<|zP<|zm (v:= .bool (decide (((0≤x.lead)∧(x.lead≤16))∧x.reply.ok))) O O<|fun e c=>⟨O,c.drop⟩
theorem zJf{S:List Nat}(o:Nat)(v:Value)(b:List UInt8)(a:Nat)(bad:Bool)(cb:Nat)(w:World)(hl:zg b.length)(ha:a≤b.length)(aj:Own w S [Res.row o 470 [v,Vj a, .bool bad]] w)(ae:Rd w S (Res.row cb 462 [.func (.func 414) #[] #[], .func (.func 415) #[] #[], .func (.func 416) #[] #[]]))(hb:Rd w S (Res.sl v b.length (b.map vb))):Rets Tryz.prog 279 #[.pointer (some ⟨o,0,none⟩), .pointer (some ⟨cb,0,none⟩)] w fun u_ d=>∃ (lo:Bool) (la:Bool) (sq:Nat) (s:Nat) (q:Nat) (op:Nat) (k:ByteArray) (am:Int) (sp:Int) (le:Nat) (k2:ByteArray) (a':Nat) (a8:Bool),u_= .agg #[.bool lo, .bool la,Vn sq,Vn s,Vn q,Vj op, .string k,Vi am,Vi sp,Vn le, .string k2]∧RdS zRw b a bad (⟨lo,la,sq,⟨s,q,(op:Int),k,am,sp,le⟩,k2⟩:AskD) a' a8∧k.size≤b.length∧k2.size≤b.length∧Own w S [Res.row o 470 [v,Vj a', .bool a8]] d:=by
 refine zO Tryz.func279 O Tryz.ntmps279 aj<|zB<|zk (v:= .agg #[yC,yC,Vn 0,Vn 0,Vn 0,Vi 0,ym,Vi 0,Vi 0,Vn 0,ym]) qF O<|fun b3=>zA<|zK<|zd [] O V qF<|fun d c hS=>zD 0 O za hS<|zD 2 O za hS<|zD 4 O za hS<|zD 6 O (zL (o:=2) O) hS<|zD 7 O (zBG (v:= .func (.func 416) #[] #[]) O (ae.φ.cell O) (ae.far _ qM) qF) hS<|zD 8 O za hS<|zD 10 O za hS<|zM 1 O c<|zG O O<|fun d c=>(zDk o v b a bad d qI qH (c.give [0] O V)<|c.rdTo hb [0] O).mono ?_
 rintro _ w1 ⟨a9,af,a5,rfl,p,hO⟩
 have an:=p.le
 refine fq [0] O c hO<|zA3 3 O<|zG O O<|fun d c=>(zDk o v b af a5 d qI qH (c.give [1] O V)<|c.rdTo hb [1] O).mono ?_
 rintro _ w1 ⟨aa,ag,a6,rfl,r,hO⟩
 have ao:=r.le
 refine fq [1] O c hO<|zA3 5 O<|zG O O<|fun d c=>(y6 o v b ag a6 d qI qH (c.give [1] O V)<|c.rdTo hb [1] O).mono ?_
 rintro _ w1 ⟨ab,ah,a7,rfl,u,ai,hO⟩
 have ap:=u.le
 refine fq [1] O c hO<|zA3 9 O<|yM (fst:=[]) (cap:=[]) O qF O O<|fun d c=>(zEc o v b ah a7 d qI qH (c.give [1] O V)<|c.rdTo hb [1] O).mono ?_
 rintro _ w1 ⟨x,y,e,a0,g,h,j,ac,a1,rfl,a2,a3,hO⟩
 have aq:=a2.le
 refine fq [1] O c hO<|zA3 11 O<|zG O O<|fun d c=>(zGB o v b ac a1 d qI qH (c.give [1] O V)<|c.rdTo hb [1] O).mono ?_
 rintro al w1 ⟨_,l,ad,a4,rfl,m,n,hO⟩
 refine fq [1] O c hO<|zA3 12 O<|zGR (bs:=l) qF qF O (fun d ak=>Vec.sl<|Own.holds ak 2 _ O) O<|zE [] O V<|fun d c hS=>zD 13 O (xY (cs:=[.bool a9, .bool aa,Vn ab,Vn x,Vn y,Vj e, .string a0,Vi g,Vi h,Vn j, .string (⟨l.toArray⟩:ByteArray)]) (z:=[yC,yC,Vn 0,Vn 0,Vn 0,Vi 0,ym,Vi 0,Vi 0,Vn 0,ym]) (pl:=[(0,1),(1,1),(2,1),(3,7),(10,1)]) qF qF) hS<|zM 14 O c<|zf 0 O O O (zz O) O<|zE [] O V<|fun d c hS=>zX<|(?_:C _ _ _ _ _ _ _ (Own w S [_,_,_])) _ c
 exact zP<|xg (cs:=[.bool a9, .bool aa,Vn ab,Vn x,Vn y,Vj e, .string a0,Vi g,Vi h,Vn j, .string (⟨l.toArray⟩:ByteArray)]) O O qF (Own.qd (i:=0) O)<|fun d c=>⟨a9,aa,ab,x,y,e,a0,g,h,j,(⟨l.toArray⟩:ByteArray),ad,a4,O,p.bind<|r.bind<|u.bind<|a2.bind<|m.bind<|RdS.pure _ m.le,a3,n,c.sel [1] O V⟩
theorem zJz{S:List Nat}(o:Nat)(v:Value)(b:List UInt8)(a:Nat)(bad:Bool)(cb:Nat)(w:World)(hl:zg b.length)(ha:a≤b.length)(ap:Own w S [Res.row o 470 [v,Vj a, .bool bad]] w)(ai:Rd w S (Res.row cb 495 [.func (.func 434) #[] #[], .func (.func 435) #[] #[], .func (.func 436) #[] #[]]))(hb:Rd w S (Res.sl v b.length (b.map vb))):Rets Tryz.prog 305 #[.pointer (some ⟨o,0,none⟩), .pointer (some ⟨cb,0,none⟩)] w fun u_ e=>∃ (sq:Nat) (rt:Bool) (ld:Nat) (s:Nat) (q:Nat) (op:Nat) (le:Nat) (am:Int) (sp:Int) (mo:Int) (ln:Int) (a':Nat) (ab:Bool),u_= .agg #[Vn sq, .bool rt,Vj ld,Vn s,Vn q,Vj op,Vn le,Vi am,Vi sp,Vi mo,Vi ln]∧RdS zRU b a bad (⟨sq,rt,(ld:Int),⟨s,q,(op:Int),le,am,sp⟩,mo,ln⟩:TldD) a' ab∧Own w S [Res.row o 470 [v,Vj a', .bool ab]] e:=by
 refine zO Tryz.func305 O Tryz.ntmps305 ap<|zB<|zk (v:= .agg #[Vn 0,yC,Vi 0,Vn 0,Vn 0,Vi 0,Vn 0,Vi 0,Vi 0,Vi 0,Vi 0]) qF O<|fun b3=>zA<|zK<|zd [] O V qF<|fun e d l=>zD 0 O za l<|zD 2 O za l<|zD 4 O za l<|zD 6 O (zL (o:=2) O) l<|zD 7 O (zBG (v:= .func (.func 436) #[] #[]) O (ai.φ.cell O) (ai.far _ qM) qF) l<|zD 8 O za l<|zD 10 O za l<|zD 13 O za l<|zM 1 O d<|zG O O<|fun e d=>(y6 o v b a bad e qI qH (d.give [0] O V)<|d.rdTo hb [0] O).mono ?_
 rintro _ w1 ⟨ac,aj,a8,rfl,y,ak,hO⟩
 have aq:=y.le
 refine fq [0] O d hO<|zA3 3 O<|zG O O<|fun e d=>(zDk o v b aj a8 e qI qH (d.give [1] O V)<|d.rdTo hb [1] O).mono ?_
 rintro _ w1 ⟨ad,al,a9,rfl,a0,hO⟩
 have ar:=a0.le
 refine fq [1] O d hO<|zA3 5 O<|zG O O<|fun e d=>(j3 o v b al a9 16 e qI qH qH (d.give [1] O V)<|d.rdTo hb [1] O).mono ?_
 rintro _ w1 ⟨ae,an,aa,rfl,a1,ao,hO⟩
 have au:=a1.le
 refine fq [1] O d hO<|zA3 9 O<|yM (fst:=[]) (cap:=[]) O qF O O<|fun e d=>(zFn o v b an aa e qI qH (d.give [1] O V)<|d.rdTo hb [1] O).mono ?_
 rintro _ w1 ⟨a2,a3,g,h,j,k,af,a4,rfl,a5,hO⟩
 have av:=a5.le
 refine fq [1] O d hO<|zA3 11 O<|zG O O<|fun e d=>(y6 o v b af a4 e qI qH (d.give [1] O V)<|d.rdTo hb [1] O).mono ?_
 rintro _ w1 ⟨m,ag,a6,rfl,n,u,hO⟩
 have aw:=n.le
 refine fq [1] O d hO<|zE [] O V<|fun e d l=>zD 12 O (kQ (c:=x6 m) qF O (kX u) qF) l<|zM 14 O d<|zG O O<|fun e d=>(y6 o v b ag a6 e qI qH (d.give [1] O V)<|d.rdTo hb [1] O).mono ?_
 rintro _ w1 ⟨p,ah,a7,rfl,r,x,hO⟩
 refine fq [1] O d hO<|zE [] O V<|fun e d l=>zD 15 O (kQ (c:=x6 p) qF O (kX x) qF) l<|zD 16 O (xY (cs:=[Vn ac, .bool ad,Vj ae,Vn a2,Vn a3,Vj g,Vn h,Vi j,Vi k,Vi (x6 m),Vi (x6 p)]) (z:=[Vn 0,yC,Vi 0,Vn 0,Vn 0,Vi 0,Vn 0,Vi 0,Vi 0,Vi 0,Vi 0]) (pl:=[(0,1),(1,1),(2,1),(3,6),(9,1),(10,1)]) qF qF) l<|zM 17 O d<|zf 0 O O O (zz O) O<|zE [] O V<|fun e d l=>zX<|(?_:C _ _ _ _ _ _ _ (Own w S [_,_])) _ d
 exact zP<|xg (cs:=[Vn ac, .bool ad,Vj ae,Vn a2,Vn a3,Vj g,Vn h,Vi j,Vi k,Vi (x6 m),Vi (x6 p)]) O O qF (Own.qd (i:=0) O)<|fun e d=>⟨ac,ad,ae,a2,a3,g,h,j,k,x6 m,x6 p,ah,a7,O,y.bind<|a0.bind<|RdS.bind a1.int<|a5.bind<|n.bind<|r.bind<|RdS.pure _ r.le,d.sel [1] O V⟩
theorem zLP(w:World):Rets Tryz.prog 149 #[] w fun d b=>∃ (cb:Nat),d= .agg #[.func (.func 274) #[] #[.pointer (some ⟨cb,0,none⟩)], .func (.func 275) #[] #[.pointer (some ⟨cb,0,none⟩)], .func (.func 279) #[] #[.pointer (some ⟨cb,0,none⟩)]]∧Own w [] [Res.row cb 462 [.func (.func 414) #[] #[], .func (.func 415) #[] #[], .func (.func 416) #[] #[]]] b:=by
 refine zO Tryz.func149 O Tryz.ntmps149 (Own.start w)<|zB<|zk (v:= .agg #[.nilFunc, .nilFunc, .nilFunc]) qF O<|fun h=>zA<|zB<|zG O O<|fun b c=>(zBO b).mono ?_
 rintro _ e ⟨rfl,g⟩
 refine(?_:CL _ _ _ _ _ _ (Own w [] [_])) e<|c.qb g
 refine zk (v:= .agg #[.nilFunc, .nilFunc, .nilFunc]) qF O<|fun a=>zf 1 O O O (zz O) O<|zA<|zB<|j7 (va:=[]) (vb:=[.pointer (some ⟨a,0,none⟩)]) O O O<|j7 (va:=[]) (vb:=[.pointer (some ⟨a,0,none⟩)]) O O O<|j7 (va:=[]) (vb:=[.pointer (some ⟨a,0,none⟩)]) O O O<|yJ (cs:=[.func (.func 274) #[] #[.pointer (some ⟨a,0,none⟩)], .func (.func 275) #[] #[.pointer (some ⟨a,0,none⟩)], .func (.func 279) #[] #[.pointer (some ⟨a,0,none⟩)]]) (z:=[.nilFunc, .nilFunc, .nilFunc]) (pl:=[(0,1),(1,1),(2,1)]) qF qF O<|zf 0 O O O (zz O) O<|zA<|zP<|xg (cs:=[.func (.func 274) #[] #[.pointer (some ⟨a,0,none⟩)], .func (.func 275) #[] #[.pointer (some ⟨a,0,none⟩)], .func (.func 279) #[] #[.pointer (some ⟨a,0,none⟩)]]) O O qF (Own.qd (i:=0) O)<|fun b c=>⟨a,O,c.sel [1] O V⟩
theorem zIn(w:World):Rets Tryz.prog 163 #[] w fun d b=>∃ (cb:Nat),d= .agg #[.func (.func 303) #[] #[.pointer (some ⟨cb,0,none⟩)], .func (.func 304) #[] #[.pointer (some ⟨cb,0,none⟩)], .func (.func 305) #[] #[.pointer (some ⟨cb,0,none⟩)]]∧Own w [] [Res.row cb 495 [.func (.func 434) #[] #[], .func (.func 435) #[] #[], .func (.func 436) #[] #[]]] b:=by
 refine zO Tryz.func163 O Tryz.ntmps163 (Own.start w)<|zB<|zk (v:= .agg #[.nilFunc, .nilFunc, .nilFunc]) qF O<|fun h=>zA<|zB<|zG O O<|fun b c=>(zEZ b).mono ?_
 rintro _ e ⟨rfl,g⟩
 refine(?_:CL _ _ _ _ _ _ (Own w [] [_])) e<|c.qb g
 refine zk (v:= .agg #[.nilFunc, .nilFunc, .nilFunc]) qF O<|fun a=>zf 1 O O O (zz O) O<|zA<|zB<|j7 (va:=[]) (vb:=[.pointer (some ⟨a,0,none⟩)]) O O O<|j7 (va:=[]) (vb:=[.pointer (some ⟨a,0,none⟩)]) O O O<|j7 (va:=[]) (vb:=[.pointer (some ⟨a,0,none⟩)]) O O O<|yJ (cs:=[.func (.func 303) #[] #[.pointer (some ⟨a,0,none⟩)], .func (.func 304) #[] #[.pointer (some ⟨a,0,none⟩)], .func (.func 305) #[] #[.pointer (some ⟨a,0,none⟩)]]) (z:=[.nilFunc, .nilFunc, .nilFunc]) (pl:=[(0,1),(1,1),(2,1)]) qF qF O<|zf 0 O O O (zz O) O<|zA<|zP<|xg (cs:=[.func (.func 303) #[] #[.pointer (some ⟨a,0,none⟩)], .func (.func 304) #[] #[.pointer (some ⟨a,0,none⟩)], .func (.func 305) #[] #[.pointer (some ⟨a,0,none⟩)]]) O O qF (Own.qd (i:=0) O)<|fun b c=>⟨a,O,c.sel [1] O V⟩
theorem zIC(v:Value)(b:List UInt8)(cb:Nat)(w:World)(hl:b.length≤1048576)(a6:Rd w [] (Res.row cb 462 [.func (.func 414) #[] #[], .func (.func 415) #[] #[], .func (.func 416) #[] #[]]))(hb:Rd w [] (Res.sl v b.length (b.map vb))):Rets Tryz.prog 150 #[.agg #[.func (.func 274) #[] #[.pointer (some ⟨cb,0,none⟩)], .func (.func 275) #[] #[.pointer (some ⟨cb,0,none⟩)], .func (.func 279) #[] #[.pointer (some ⟨cb,0,none⟩)]],v] w fun u_ w'=>∃ (lo:Bool) (la:Bool) (sq:Nat) (s:Nat) (q:Nat) (op:Int) (k:ByteArray) (am:Int) (sp:Int) (le:Nat) (k2:ByteArray) (e:Int),u_= .tuple #[.agg #[.bool lo, .bool la,Vn sq,Vn s,Vn q,Vi op, .string k,Vi am,Vi sp,Vn le, .string k2],Vi e]∧ValPost (zDG b) (⟨lo,la,sq,⟨s,q,op,k,am,sp,le⟩,k2⟩:AskD) askZ e∧Own w [] [] w':=by
 refine zO Tryz.func150 O Tryz.ntmps150 (Own.start w)<|zB<|zj O O<|fun b2=>zk (v:= .agg #[yC,yC,Vn 0,Vn 0,Vn 0,Vi 0,ym,Vi 0,Vi 0,Vn 0,ym]) qF O<|fun b4=>zF O<|zA<|zB<|zC O<|xP (cs:=[v,Vi 0,yC]) (z:=[zW,Vi 0,yC]) (pl:=[(0,1),(1,1),(2,1)]) qF ⟨(Sl.cell1<|Rd.φ hb),trivial⟩ qF O<|zj O O<|fun a7=>zF O<|zA<|zB<|zI (o:=2) O O<|zJ 0 (v:= .func (.func 279) #[] #[.pointer (some ⟨cb,0,none⟩)]) O O O O<|zC O<|yM (fst:=[]) (cap:=[.pointer (some ⟨cb,0,none⟩)]) O qF O O<|fun w' y=>(zJf a7 v b 0 false cb w' qI qH (y.give [2] O V) (y.rdTo a6 [2] O)<|y.rdTo hb [2] O).mono ?_
 rintro _ w1 ⟨m,n,p,a0,a1,r,a2,u,x,c,d,l,a,rfl,a3,a4,a5,hO⟩
 refine fq [2] O y hO<|zf 1 O O O (zz O) O<|zA<|zK<|zB<|zC O<|zV O O<|zI (o:=2) O O<|zJ 2 (v:= .bool a) O O O O<|zC O<|yP (q:=a=true) 7 4 [26,25,24,23,22,21,20] (((l:Nat):Int)≠((b.length:Nat):Int)) O O (y2 _) O O O trivial O (fun g=> ?_)<|fun a8=> ?_
 ·refine zQ O (bF g)<|zC O<|zQ O (bF g)<|zV O O<|zQ O (bF g)<|zI (o:=1) O O<|zQ O (bF g)<|zJ 2 (v:=Vj l) O O O O<|zQ O (bF g)<|zC O<|zQ O (bF g)<|zn (pR hb) O O<|zQ O (bF g)<|yf O O O<|z8 O<|fun _ y=>y
 refine zC O<|yP (q:=(a=true)∨(((l:Nat):Int)≠((b.length:Nat):Int))) 5 13 [33,32,31,30,29] (¬(({look:=m,lazy:=n,seq:=p,cmd:=({session:=a0,seq:=a1,op:=((r:Nat):Int),key:=a2,amount:=u,span:=x,lease:=c}:CmdD),key:=d}:AskD).ok)) O O O O O O trivial O (fun j=> ?_)<|fun a9=> ?_
 ·refine zQ O (gF j)<|zI (o:=0) O O<|zQ O (gF j)<|zJ 0 (v:= .func (.func 274) #[] #[.pointer (some ⟨cb,0,none⟩)]) O O O O<|zQ O (gF j)<|z6 1 O O O<|zQ O (gF j)<|yM (fst:=[]) (cap:=[.pointer (some ⟨cb,0,none⟩)]) O qF O O<|fun w' y=>(zDv ({look:=m,lazy:=n,seq:=p,cmd:=({session:=a0,seq:=a1,op:=((r:Nat):Int),key:=a2,amount:=u,span:=x,lease:=c}:CmdD),key:=d}:AskD) cb w' (by have:=a5;dsimp only;omega) (by have:=a4;dsimp only;omega)<|y.rd0 a6).mono ?_
  rintro _ w1 ⟨rfl,hO⟩
  refine(?_:CL _ _ _ _ _ _ (Own w [] [_,_,_])) w1<|y.qb hO
  refine zQ O (gF j)<|xQ (q:=({look:=m,lazy:=n,seq:=p,cmd:=({session:=a0,seq:=a1,op:=((r:Nat):Int),key:=a2,amount:=u,span:=x,lease:=c}:CmdD),key:=d}:AskD).ok) O O<|z8 O<|fun _ y=>y
 refine zA<|zT O (fun c1=> ?_)<|fun c1=> ?_
 ·refine zB<|zk (v:= .agg #[yC,yC,Vn 0,Vn 0,Vn 0,Vi 0,ym,Vi 0,Vi 0,Vn 0,ym]) qF O<|fun b7=>zA<|zB<|z6 3 O O O<|zf 1 O O O (zz O) O<|zF O<|zA<|zP<|yk (cs:=[yC,yC,Vn 0,Vn 0,Vn 0,Vi 0,ym,Vi 0,Vi 0,Vn 0,ym]) (v:=Vi 4) O O O qF (Own.qd (i:=1) O)<|fun w' y=>⟨false,false,0,0,0,0,⟨#[]⟩,0,0,0,⟨#[]⟩,4,O, .inr ⟨O,zBi a3<|fun h1 h2 h3=>c1.elim (fun h=>h.elim (fun h=>(by rw[h1]at h;cases h))<|fun h=>h qG)<|fun h=>h h3,O⟩,y.drop⟩
 refine zN<|zB<|z6 1 O O O<|zf 1 O O O (zz O) O<|zF O<|zA<|zP<|yk (cs:=[.bool m, .bool n,Vn p,Vn a0,Vn a1,Vj r, .string a2,Vi u,Vi x,Vn c, .string d]) (v:=Vi 0) O O O qF (Own.qd (i:=1) O)<|fun w' y=>⟨m,n,p,a0,a1,((r:Nat):Int),a2,u,x,c,d,0,O, .inl ⟨O,zA0 a3 (by cases h:a;rfl;exact absurd (.inl (.inl h)) c1) (by have:¬(l:Int)≠b.length:=fun h=>c1 (.inl (.inr h));omega)<|Decidable.not_not.1 fun h=>c1<|.inr h⟩,y.drop⟩
theorem zH5(v:Value)(b:List UInt8)(cb:Nat)(w:World)(hl:b.length≤1048576)(a3:Rd w [] (Res.row cb 495 [.func (.func 434) #[] #[], .func (.func 435) #[] #[], .func (.func 436) #[] #[]]))(hb:Rd w [] (Res.sl v b.length (b.map vb))):Rets Tryz.prog 164 #[.agg #[.func (.func 303) #[] #[.pointer (some ⟨cb,0,none⟩)], .func (.func 304) #[] #[.pointer (some ⟨cb,0,none⟩)], .func (.func 305) #[] #[.pointer (some ⟨cb,0,none⟩)]],v] w fun u_ w'=>∃ (sq:Nat) (rt:Bool) (ld:Int) (s:Nat) (q:Nat) (op:Int) (le:Nat) (am:Int) (sp:Int) (mo:Int) (ln:Int) (e:Int),u_= .tuple #[.agg #[Vn sq, .bool rt,Vi ld,Vn s,Vn q,Vi op,Vn le,Vi am,Vi sp,Vi mo,Vi ln],Vi e]∧ValPost (zCP b) (⟨sq,rt,ld,⟨s,q,op,le,am,sp⟩,mo,ln⟩:TldD) zQv e∧Own w [] [] w':=by
 refine zO Tryz.func164 O Tryz.ntmps164 (Own.start w)<|zB<|zj O O<|fun b2=>zk (v:= .agg #[Vn 0,yC,Vi 0,Vn 0,Vn 0,Vi 0,Vn 0,Vi 0,Vi 0,Vi 0,Vi 0]) qF O<|fun b4=>zF O<|zA<|zB<|zC O<|xP (cs:=[v,Vi 0,yC]) (z:=[zW,Vi 0,yC]) (pl:=[(0,1),(1,1),(2,1)]) qF ⟨(Sl.cell1<|Rd.φ hb),trivial⟩ qF O<|zj O O<|fun a4=>zF O<|zA<|zB<|zI (o:=2) O O<|zJ 0 (v:= .func (.func 305) #[] #[.pointer (some ⟨cb,0,none⟩)]) O O O O<|zC O<|yM (fst:=[]) (cap:=[.pointer (some ⟨cb,0,none⟩)]) O qF O O<|fun w' y=>(zJz a4 v b 0 false cb w' qI qH (y.give [2] O V) (y.rdTo a3 [2] O)<|y.rdTo hb [2] O).mono ?_
 rintro _ w1 ⟨l,m,n,a0,a1,p,r,u,x,c,d,k,a,rfl,a2,hO⟩
 refine fq [2] O y hO<|zf 1 O O O (zz O) O<|zA<|zK<|zB<|zC O<|zV O O<|zI (o:=2) O O<|zJ 2 (v:= .bool a) O O O O<|zC O<|yP (q:=a=true) 7 4 [26,25,24,23,22,21,20] (((k:Nat):Int)≠((b.length:Nat):Int)) O O (y2 _) O O O trivial O (fun g=> ?_)<|fun a5=> ?_
 ·refine zQ O (bF g)<|zC O<|zQ O (bF g)<|zV O O<|zQ O (bF g)<|zI (o:=1) O O<|zQ O (bF g)<|zJ 2 (v:=Vj k) O O O O<|zQ O (bF g)<|zC O<|zQ O (bF g)<|zn (pR hb) O O<|zQ O (bF g)<|yf O O O<|z8 O<|fun _ y=>y
 refine zC O<|yP (q:=(a=true)∨(((k:Nat):Int)≠((b.length:Nat):Int))) 5 13 [33,32,31,30,29] (¬(({seq:=l,retry:=m,lead:=((n:Nat):Int),reply:=({session:=a0,seq:=a1,e:=((p:Nat):Int),lease:=r,amount:=u,until_:=x}:RepD),most:=c,lent:=d}:TldD).ok)) O O O O O O trivial O (fun j=> ?_)<|fun a6=> ?_
 ·refine zQ O (gF j)<|zI (o:=0) O O<|zQ O (gF j)<|zJ 0 (v:= .func (.func 303) #[] #[.pointer (some ⟨cb,0,none⟩)]) O O O O<|zQ O (gF j)<|z6 1 O O O<|zQ O (gF j)<|yM (fst:=[]) (cap:=[.pointer (some ⟨cb,0,none⟩)]) O qF O O<|fun w' y=>(zDN ({seq:=l,retry:=m,lead:=((n:Nat):Int),reply:=({session:=a0,seq:=a1,e:=((p:Nat):Int),lease:=r,amount:=u,until_:=x}:RepD),most:=c,lent:=d}:TldD) cb w'<|y.rd0 a3).mono ?_
  rintro _ w1 ⟨rfl,hO⟩
  refine(?_:CL _ _ _ _ _ _ (Own w [] [_,_,_])) w1<|y.qb hO
  refine zQ O (gF j)<|xQ (q:=({seq:=l,retry:=m,lead:=((n:Nat):Int),reply:=({session:=a0,seq:=a1,e:=((p:Nat):Int),lease:=r,amount:=u,until_:=x}:RepD),most:=c,lent:=d}:TldD).ok) O O<|z8 O<|fun _ y=>y
 refine zA<|zT O (fun c1=> ?_)<|fun c1=> ?_
 ·refine zB<|zk (v:= .agg #[Vn 0,yC,Vi 0,Vn 0,Vn 0,Vi 0,Vn 0,Vi 0,Vi 0,Vi 0,Vi 0]) qF O<|fun b7=>zA<|zB<|z6 3 O O O<|zf 1 O O O (zz O) O<|zF O<|zA<|zP<|yk (cs:=[Vn 0,yC,Vi 0,Vn 0,Vn 0,Vi 0,Vn 0,Vi 0,Vi 0,Vi 0,Vi 0]) (v:=Vi 4) O O O qF (Own.qd (i:=1) O)<|fun w' y=>⟨0,false,0,0,0,0,0,0,0,0,0,4,O, .inr ⟨O,zBi a2<|fun h1 h2 h3=>c1.elim (fun h=>h.elim (fun h=>(by rw[h1]at h;cases h))<|fun h=>h qG)<|fun h=>h h3,O⟩,y.drop⟩
 refine zN<|zB<|z6 1 O O O<|zf 1 O O O (zz O) O<|zF O<|zA<|zP<|yk (cs:=[Vn l, .bool m,Vj n,Vn a0,Vn a1,Vj p,Vn r,Vi u,Vi x,Vi c,Vi d]) (v:=Vi 0) O O O qF (Own.qd (i:=1) O)<|fun w' y=>⟨l,m,((n:Nat):Int),a0,a1,((p:Nat):Int),r,u,x,c,d,0,O, .inl ⟨O,zA0 a2 (by cases h:a;rfl;exact absurd (.inl (.inl h)) c1) (by have:¬(k:Int)≠b.length:=fun h=>c1 (.inl (.inr h));omega)<|Decidable.not_not.1 fun h=>c1<|.inr h⟩,y.drop⟩
theorem zOy(v:Value)(b:List UInt8)(w:World)(hl:b.length≤1048576)(hb:Rd w [] (Res.sl v b.length (b.map vb))):Rets Tryz.prog 90 #[v] w fun u_ x=>∃ (lo:Bool) (la:Bool) (sq:Nat) (s:Nat) (q:Nat) (op:Int) (k:ByteArray) (am:Int) (sp:Int) (le:Nat) (k2:ByteArray) (e:Int),u_= .tuple #[.agg #[.bool lo, .bool la,Vn sq,Vn s,Vn q,Vi op, .string k,Vi am,Vi sp,Vn le, .string k2],Vi e]∧ValPost (zDG b) (⟨lo,la,sq,⟨s,q,op,k,am,sp,le⟩,k2⟩:AskD) askZ e∧Own w [] [] x:=by
 refine zO Tryz.func90 O Tryz.ntmps90 (Own.start w)<|zB<|zk (v:= .agg #[yC,yC,Vn 0,Vn 0,Vn 0,Vi 0,ym,Vi 0,Vi 0,Vn 0,ym]) qF O<|fun b2=>zF O<|zA<|zB<|zG O O<|fun x t=>(zLP x).mono ?_
 rintro _ z ⟨y,rfl,hO⟩
 refine(?_:CL _ _ _ _ _ _ (Own w [] [_,_])) z<|t.qb hO
 refine zC O<|zG O O<|fun x t=>(zIC v b y x qH (t.rdRes0 1 O)<|t.rd0 hb).mono ?_
 rintro _ z ⟨g,h,j,o,p,l,r,m,a,c,d,n,rfl,u,hO⟩
 refine(?_:CL _ _ _ _ _ _ (Own w [] [_,_])) z<|t.qb hO
 refine zb (vs:=[.agg #[.bool g, .bool h,Vn j,Vn o,Vn p,Vi l, .string r,Vi m,Vi a,Vn c, .string d],Vi n]) O O O<|zb (vs:=[.agg #[.bool g, .bool h,Vn j,Vn o,Vn p,Vi l, .string r,Vi m,Vi a,Vn c, .string d],Vi n]) O O O<|zf 0 O O O (zz O) O<|zF O<|zA<|zP<|yk (cs:=[.bool g, .bool h,Vn j,Vn o,Vn p,Vi l, .string r,Vi m,Vi a,Vn c, .string d]) (v:=Vi n) O O O qF (Own.qd (i:=0) O)<|fun x t=>⟨g,h,j,o,p,l,r,m,a,c,d,n,O,u,t.drop⟩
theorem zIT(v:Value)(b:List UInt8)(w:World)(hl:b.length≤1048576)(hb:Rd w [] (Res.sl v b.length (b.map vb))):Rets Tryz.prog 96 #[v] w fun u_ u=>∃ (sq:Nat) (rt:Bool) (ld:Int) (s:Nat) (q:Nat) (op:Int) (le:Nat) (am:Int) (sp:Int) (mo:Int) (ln:Int) (e:Int),u_= .tuple #[.agg #[Vn sq, .bool rt,Vi ld,Vn s,Vn q,Vi op,Vn le,Vi am,Vi sp,Vi mo,Vi ln],Vi e]∧ValPost (zCP b) (⟨sq,rt,ld,⟨s,q,op,le,am,sp⟩,mo,ln⟩:TldD) zQv e∧Own w [] [] u:=by
 refine zO Tryz.func96 O Tryz.ntmps96 (Own.start w)<|zB<|zk (v:= .agg #[Vn 0,yC,Vi 0,Vn 0,Vn 0,Vi 0,Vn 0,Vi 0,Vi 0,Vi 0,Vi 0]) qF O<|fun b2=>zF O<|zA<|zB<|zG O O<|fun u r=>(zIn u).mono ?_
 rintro _ y ⟨x,rfl,z⟩
 refine(?_:CL _ _ _ _ _ _ (Own w [] [_,_])) y<|r.qb z
 refine zC O<|zG O O<|fun u r=>(zH5 v b x u qH (r.rdRes0 1 O)<|r.rd0 hb).mono ?_
 rintro _ y ⟨g,h,j,o,p,k,l,m,a,c,d,n,rfl,t,z⟩
 refine(?_:CL _ _ _ _ _ _ (Own w [] [_,_])) y<|r.qb z
 refine zb (vs:=[.agg #[Vn g, .bool h,Vi j,Vn o,Vn p,Vi k,Vn l,Vi m,Vi a,Vi c,Vi d],Vi n]) O O O<|zb (vs:=[.agg #[Vn g, .bool h,Vi j,Vn o,Vn p,Vi k,Vn l,Vi m,Vi a,Vi c,Vi d],Vi n]) O O O<|zf 0 O O O (zz O) O<|zF O<|zA<|zP<|yk (cs:=[Vn g, .bool h,Vi j,Vn o,Vn p,Vi k,Vn l,Vi m,Vi a,Vi c,Vi d]) (v:=Vi n) O O O qF (Own.qd (i:=0) O)<|fun u r=>⟨g,h,j,o,p,k,l,m,a,c,d,n,O,t,r.drop⟩
structure AskD.wf(x:AskD):Prop where
 seq:x.seq<18446744073709551616
 cmd:x.cmd.wf
 key:x.key.size≤1048576
def AskD.enc(x:AskD):List UInt8:=yO [fl x.look,fl x.lazy]++yO [x.seq]++x.cmd.enc++dat (jW x.key)
structure TldD.wf(x:TldD):Prop where
 seq:x.seq<18446744073709551616
 reply:x.reply.wf
 most:kE x.most
 lent:kE x.lent
def TldD.enc(x:TldD):List UInt8:=xS x.seq++(xS (fl x.retry)++(xS (u64 x.lead)++(x.reply.enc++(xS (u64 x.most)++xS (u64 x.lent)))))
theorem zHc{x:CmdD}(h:x.wf):x.enc.length≤1048700:=by
 have d:=xa x.key
 have a:=h.key
 have e:=xz (jW x.key) qG
 have b:=yS (ns:=[x.session,x.seq,u64 x.op]) (by have:=h.session;have:=h.seq;simp[ya, *])
 have c:=yS (ns:=[u64 x.amount,u64 x.span,x.lease]) (by have:=h.lease;simp[ya, *])
 simp only[CmdD.enc,List.length_append,List.length_cons,List.length_nil]at *
 omega
theorem zDp{x:RepD}(h:x.wf):x.enc.length≤100:=by
 have a:=yS (ns:=[x.session,x.seq,u64 x.e,x.lease,u64 x.amount,u64 x.until_]) (by have:=h.session;have:=h.seq;have:=h.lease;simp[ya, *])
 simp only[RepD.enc,List.length_cons,List.length_nil]at *
 omega
theorem zMq(f:Bool):(xS (fl f)).length≤9:=jz (zF9 f)
theorem zBe{x:TldD}(h:x.wf):x.enc.length≤1000:=by
 have h1:=jz h.seq
 have h2:=zMq x.retry
 have a:=jz (ya x.lead)
 have b:=zDp h.reply
 have c:=jz (ya x.most)
 have d:=jz (ya x.lent)
 simp only[TldD.enc,List.length_append];omega
theorem zIN{x:TldD}(h:x.wf)(ho:x.ok):zCP x.enc=some x:=by
 have a:=h.reply
 have b:=zAx a.amount
 have c:=zAx a.until_
 have e1:x.reply.enc=xS x.reply.session++(xS x.reply.seq++(xS (u64 x.reply.e)++(xS x.reply.lease++(xS (u64 x.reply.amount)++(xS (u64 x.reply.until_)++[]))))):=by simp[RepD.enc,yO]
 have rr:Rt zNt x.reply x.reply.enc:=by
   rw[e1]
   have d:Rt (yp kI fun u=>xZ (⟨x.reply.session,x.reply.seq,x.reply.e,x.reply.lease,x6 (u64 x.reply.amount),x6 u⟩:RepD)) x.reply (xS (u64 x.reply.until_)++[]):=
     (x8 (ya _)).bind (q:=fun u=>xZ (⟨x.reply.session,x.reply.seq,x.reply.e,x.reply.lease,x6 (u64 x.reply.amount),x6 u⟩:RepD)) (by rw[b,c];exact Rt.pure x.reply)
   exact(x8 a.session).bind<|(x8 a.seq).bind<|(zHY ho.2.1 ho.2.2 V).bind<|(x8 a.lease).bind<|(x8<|ya _).bind d
 have f:=zAx h.most
 have hl:=zAx h.lent
 have e2:x.enc=xS x.seq++(xS (fl x.retry)++(xS (u64 x.lead)++(x.reply.enc++(xS (u64 x.most)++(xS (u64 x.lent)++[]))))):=by simp[TldD.enc]
 have g:Rt (yp kI fun l=>xZ (⟨x.seq,x.retry,x.lead,x.reply,x6 (u64 x.most),x6 l⟩:TldD)) x (xS (u64 x.lent)++[]):=
   (x8 (ya _)).bind (q:=fun l=>xZ (⟨x.seq,x.retry,x.lead,x.reply,x6 (u64 x.most),x6 l⟩:TldD)) (by rw[f,hl];exact Rt.pure x)
 rw[e2]
 exact zCY (p:=zRU) ((x8 h.seq).bind<|(zE5 _).bind<|(zHY ho.1.1 ho.1.2 V).bind<|rr.bind<|(x8<|ya _).bind g) ho
theorem _root_.Go.Sc.qW{p:Prop}(h:p:=by simp only[List.length_append,List.length_cons,List.length_nil];omega):p:=h
theorem zG5{S:List Nat}(o:Nat)(sl:Value)(bs:List UInt8)(x:AskD)(cb:Nat)(w:World)(k:x.wf)(hb:bs.length≤1000000)(q:Own w S [Res.bv o yy sl bs] w)(l:Rd w S (Res.row cb 462 [.func (.func 414) #[] #[], .func (.func 415) #[] #[], .func (.func 416) #[] #[]])):Rets Tryz.prog 275 #[.pointer (some ⟨o,0,none⟩), .agg (AskD.cells x).toArray, .pointer (some ⟨cb,0,none⟩)] w fun u_ b=>∃ (r:Value),u_= .tuple #[]∧Own w S [Res.bv o yy r (bs++x.enc)] b:=by
 have hk:x.key.data.toList.length=x.key.size:=xa x.key
 have a2:=k.key
 have hd:=xz x.key.data.toList qG
 have a3:=zHc k.cmd
 have s:=yS (ns:=[x.look,x.lazy].map fl) (by simp[zF9])
 have u:=yS (ns:=[x.seq]) (by simpa using k.seq)
 simp only[List.length_cons,List.length_nil,List.length_map]at s u
 refine zO Tryz.func275 O Tryz.ntmps275 q<|zB<|zj O O<|fun b4=>zA<|zB<|zC O<|zI (o:=0) O O<|zJ 1 (v:= .bool x.look) O O O O<|zI (o:=1) O O<|zJ 1 (v:= .bool x.lazy) O O O O<|yH (e:=4) (sz:=1) (vs:=[.bool x.look, .bool x.lazy]) qF O O qL V O<|fun y=>zG O O<|fun b a=>(zIz o _ _ (.slice (some ⟨y,0,none⟩) 2 2) [x.look,x.lazy] b qN (a.give [0] O V)<|a.rdVec 2 O [0] O O).mono ?_
 rintro _ z ⟨c,rfl,d⟩
 refine fq [0] O a d<|zA<|zB<|zC O<|zI (o:=2) O O<|zJ 0 (v:=Vn x.seq) O O O O<|yH (e:=31) (sz:=1) (vs:=[Vn x.seq]) qF O O qL V O<|fun a0=>zG O O<|fun b a=>(jH o c (bs++yO ([x.look,x.lazy].map fl)) (.slice (some ⟨a0,0,none⟩) 1 1) [x.seq] b (by simpa using k.seq) qW (a.give [2] O V)<|a.rdVec 3 O [2] O O).mono ?_
 rintro _ z ⟨g,rfl,d⟩
 refine fq [2] O a d<|zA<|zB<|zI (o:=1) O O<|zAT (v:= .func (.func 415) #[] #[]) O (l.φ.cell O) (l.far _ qM) qF O<|zC O<|zI (o:=3) O O<|xI 0 (CmdD.cells x.cmd) O O (yj 3 O) qF O<|yM (fst:=[]) (cap:=[]) O qF O O<|fun b a=>(zDm o g ((bs++yO ([x.look,x.lazy].map fl))++yO [x.seq]) x.cmd b k.cmd qY<|a.give [3] O V).mono ?_
 rintro _ z ⟨i,rfl,d⟩
 refine fq [3] O a d<|zA<|ze<|zC O<|zI (o:=10) O O<|zJ 0 (v:= .string x.key) O O O O<|zP0 qF qF O (by rw[xB];omega) O<|fun m=>(zS (fun b a=>Sl.cell1<|Own.holds a 4 _ O)<|fun n=>(ko (e:=73) (vs:=[m]) qF O O (zH n zh) V O<|fun a1=>zG O O<|fun b a=>(zFI o i (((bs++yO ([x.look,x.lazy].map fl))++yO [x.seq])++x.cmd.enc) (.slice (some ⟨a1,0,none⟩) 1 1) [(m,x.key.data.toList)] b (by simp only[xq,List.flatMap_cons,List.flatMap_nil,List.append_nil,List.length_append];omega) (by show 1≤_;omega) (a.give [3] O V) (a.rdVec 5 O [3] O O)<|all_cons (a.rdRes 4 O [3] O O) (fun p hp=>by cases hp)).mono ?_))
 rintro _ z ⟨j,rfl,d⟩
 refine fq [3] O a d<|zx<|yq O<|fun b a=>⟨j,O,by have h:=a.one 5 rfl;simpa [AskD.enc,xq,jW]using h⟩
theorem zHQ(x:AskD)(cb:Nat)(w:World)(k:x.wf)(e:Rd w [] (Res.row cb 462 [.func (.func 414) #[] #[], .func (.func 415) #[] #[], .func (.func 416) #[] #[]])):Rets Tryz.prog 306 #[.agg #[.func (.func 274) #[] #[.pointer (some ⟨cb,0,none⟩)], .func (.func 275) #[] #[.pointer (some ⟨cb,0,none⟩)], .func (.func 279) #[] #[.pointer (some ⟨cb,0,none⟩)]], .agg (AskD.cells x).toArray] w fun p c=>∃ (r:Value),p= .tuple #[r,Vi (yI x.ok)]∧Own w [] [Res.vec 5 1 r (if x.ok then x.enc else []).length ((if x.ok then x.enc else []).map vb)] c:=by
 have u:=k.key
 have s:=k.cmd.key
 refine zO Tryz.func306 O Tryz.ntmps306 (Own.start w)<|zB<|zj O O<|fun l=>zj O O<|fun m=>zF O<|zF O<|zA<|zK<|zB<|zI (o:=0) O O<|zJ 0 (v:= .func (.func 274) #[] #[.pointer (some ⟨cb,0,none⟩)]) O O O O<|z6 (cs:=(AskD.cells x)) 1 O O O<|yM (fst:=[]) (cap:=[.pointer (some ⟨cb,0,none⟩)]) O qF O O<|fun c b=>(zDv x cb c qH qH<|b.rd0 e).mono ?_
 rintro _ n ⟨rfl,h⟩
 refine(?_:CL _ _ _ _ _ _ (Own w [] [_,_])) n<|b.qb h
 refine xQ (q:=x.ok) O O<|zA<|zT O (fun g=> ?_)<|fun g=> ?_
 ·refine zB<|zF O<|zF O<|zA<|zP<|yg (v:=zW) (v':=Vi 2) O O O<|fun c b=>⟨.slice none 0 0,(by rw[jr g]),by rw[if_neg g];exact(zq b T8 1).one 2 rfl⟩
 refine zN<|zB<|yJ (cs:=[zW]) (z:=[zW]) (pl:=[(0,1)]) qF qF O<|zj O O<|fun d=>zF O<|zA<|zB<|zI (o:=1) O O<|zJ 0 (v:= .func (.func 275) #[] #[.pointer (some ⟨cb,0,none⟩)]) O O O O<|zC O<|z6 (cs:=(AskD.cells x)) 1 O O O<|kC [Res.row l 291 [.func (.func 274) #[] #[.pointer (some ⟨cb,0,none⟩)], .func (.func 275) #[] #[.pointer (some ⟨cb,0,none⟩)], .func (.func 279) #[] #[.pointer (some ⟨cb,0,none⟩)]],Res.row m 92 (AskD.cells x),Res.bv d yy zW ([]:List UInt8)] (fun c b=>(zq b T8 1).joinBv (i:=2) (j:=3) V O O)<|yM (fst:=[]) (cap:=[.pointer (some ⟨cb,0,none⟩)]) O qF O O<|fun c b=>(zG5 d zW ([]:List UInt8) x cb c ‹_› qK (b.give [2] O V)<|b.rdTo e [2] O).mono ?_
 rintro _ n ⟨a,rfl,h⟩
 refine fq [2] O b h<|zA<|zB<|zC O<|zV O O<|zI (o:=0) O O<|kC [Res.row l 291 [.func (.func 274) #[] #[.pointer (some ⟨cb,0,none⟩)], .func (.func 275) #[] #[.pointer (some ⟨cb,0,none⟩)], .func (.func 279) #[] #[.pointer (some ⟨cb,0,none⟩)]],Res.row m 92 (AskD.cells x),Res.row d yy [a],Res.vec 5 1 a (([]:List UInt8)++x.enc).length ((([]:List UInt8)++x.enc).map vb)] (fun c b=>b.splitBv (i:=2) (o:=d) (T:=yy) (v:=a) (bs:=(([]:List UInt8)++x.enc)) O)<|zJ 2 (v:=a) O O O O<|zF O<|zF O<|zA<|zP<|yg (v:=a) (v':=Vi 0) O O O<|fun c b=>⟨a,(by rw[xp (Decidable.not_not.1 g)]),by rw[if_pos (Decidable.not_not.1 g)];exact b.one 3 rfl⟩
theorem zM2(x:AskD)(w:World)(j:x.wf):Rets Tryz.prog 165 #[.agg (AskD.cells x).toArray] w fun i b=>∃ (r:Value),i= .tuple #[r,Vi (yI x.ok)]∧Own w [] [Res.vec 5 1 r (if x.ok then x.enc else []).length ((if x.ok then x.enc else []).map vb)] b:=by
 refine zO Tryz.func165 O Tryz.ntmps165 (Own.start w)<|zB<|zj O O<|fun k=>zF O<|zF O<|zA<|zK<|zd [0] O V qF<|fun b a d=>zD 1 O (xG (cs:=(AskD.cells x)) 0 O O) d<|zM 0 O a<|zG O O<|fun b a=>(zLP b).mono ?_
 rintro _ g ⟨e,rfl,h⟩
 refine(?_:CL _ _ _ _ _ _ (Own w [] [_,_])) g<|a.qb h
 refine zE [0] O V<|fun b a d=>zM 2 O a<|zG O O<|fun b a=>(zHQ x e b ‹_› (a.rdRes0 1 O)).mono ?_
 rintro _ g ⟨c,rfl,h⟩
 refine(?_:CL _ _ _ _ _ _ (Own w [] [_,_,_])) g<|a.qb h
 refine zE [0] O V<|fun b a d=>zD 3 O (yG (vs:=[c,Vi (yI x.ok)]) O O) d<|zD 4 O (yG (vs:=[c,Vi (yI x.ok)]) O O) d<|zD 5 O yB d<|zD 6 O yB d<|zX<|(?_:C _ _ _ _ _ _ _ (Own w [] [_,_,_])) _ a
 exact zP<|yg (v:=c) (v':=Vi (yI x.ok)) O O O<|fun b a=>⟨c,O,a.sel [2] O V⟩
theorem zHH{S:List Nat}(o:Nat)(sl:Value)(bs:List UInt8)(x:TldD)(cb:Nat)(w:World)(n:x.wf)(hb:bs.length≤1000000)(p:Own w S [Res.bv o yy sl bs] w)(l:Rd w S (Res.row cb 495 [.func (.func 434) #[] #[], .func (.func 435) #[] #[], .func (.func 436) #[] #[]])):Rets Tryz.prog 304 #[.pointer (some ⟨o,0,none⟩), .agg (TldD.cells x).toArray, .pointer (some ⟨cb,0,none⟩)] w fun u_ b=>∃ (q:Value),u_= .tuple #[]∧Own w S [Res.bv o yy q (bs++x.enc)] b:=by
 have a1:=zDp n.reply
 have r:=yS (ns:=[x.seq]) (by simpa using n.seq)
 have s:=yS (ns:=[x.retry].map fl) (by simp[zF9])
 have u:=yS (ns:=[x.lead].map u64) (by simp[ya])
 simp only[List.length_cons,List.length_nil,List.length_map]at r s u
 refine zO Tryz.func304 O Tryz.ntmps304 p<|zB<|zj O O<|fun b4=>zA<|zB<|zC O<|zI (o:=0) O O<|zJ 1 (v:=Vn x.seq) O O O O<|yH (e:=31) (sz:=1) (vs:=[Vn x.seq]) qF O O qL V O<|fun b8=>zG O O<|fun b a=>(jH o _ _ (.slice (some ⟨b8,0,none⟩) 1 1) [x.seq] b (by simpa using n.seq) qK (a.give [0] O V)<|a.rdVec 2 O [0] O O).mono ?_
 rintro _ m ⟨d,rfl,c⟩
 refine fq [0] O a c<|zA<|zB<|zC O<|zI (o:=1) O O<|zJ 0 (v:= .bool x.retry) O O O O<|yH (e:=4) (sz:=1) (vs:=[.bool x.retry]) qF O O qL V O<|fun y=>zG O O<|fun b a=>(zIz o d (bs++yO [x.seq]) (.slice (some ⟨y,0,none⟩) 1 1) [x.retry] b qW (a.give [2] O V)<|a.rdVec 3 O [2] O O).mono ?_
 rintro _ m ⟨g,rfl,c⟩
 refine fq [2] O a c<|zA<|zB<|zC O<|zI (o:=2) O O<|zJ 0 (v:=Vi x.lead) O O O O<|yH (e:=3) (sz:=1) (vs:=[Vi x.lead]) qF O O qL V O<|fun z=>zG O O<|fun b a=>(zH6 o g ((bs++yO [x.seq])++yO ([x.retry].map fl)) (.slice (some ⟨z,0,none⟩) 1 1) [x.lead] b qW (a.give [3] O V)<|a.rdVec 4 O [3] O O).mono ?_
 rintro _ m ⟨i,rfl,c⟩
 refine fq [3] O a c<|zA<|zB<|zI (o:=1) O O<|zAT (v:= .func (.func 435) #[] #[]) O (l.φ.cell O) (l.far _ qM) qF O<|zC O<|zI (o:=3) O O<|xI 0 (RepD.cells x.reply) O O (yj 3 O) qF O<|yM (fst:=[]) (cap:=[]) O qF O O<|fun b a=>(zDM o i (((bs++yO [x.seq])++yO ([x.retry].map fl))++yO ([x.lead].map u64)) x.reply b n.reply qW<|a.give [4] O V).mono ?_
 rintro _ m ⟨j,rfl,c⟩
 refine fq [4] O a c<|zA<|ze<|zC O<|zI (o:=9) O O<|zJ 0 (v:=Vi x.most) O O O O<|yh qF O (y0 _) O ?_ qF
 refine zI (o:=10) O O<|zJ 0 (v:=Vi x.lent) O O O O<|yh qF O (y0 _) O ?_ qF
 refine yH (e:=31) (sz:=1) (vs:=[Vn (u64 x.most),Vn (u64 x.lent)]) qF O O qL V O<|fun a0=>zG O O<|fun b a=>(jH o j ((((bs++yO [x.seq])++yO ([x.retry].map fl))++yO ([x.lead].map u64))++x.reply.enc) (.slice (some ⟨a0,0,none⟩) 2 2) [u64 x.most,u64 x.lent] b qT qW (a.give [4] O V)<|a.rdVec 5 O [4] O O).mono ?_
 rintro _ m ⟨k,rfl,c⟩
 refine(?_:CL _ _ _ _ _ _ (Own w S [_,_,_,_,_,_])) m<|a.qc [4] O c
 exact zx<|yq O<|fun b a=>⟨k,O,by have h:=a.one 5 rfl;simpa [TldD.enc,yO]using h⟩
theorem zH7(x:TldD)(cb:Nat)(w:World)(p:x.wf)(e:Rd w [] (Res.row cb 495 [.func (.func 434) #[] #[], .func (.func 435) #[] #[], .func (.func 436) #[] #[]])):Rets Tryz.prog 404 #[.agg #[.func (.func 303) #[] #[.pointer (some ⟨cb,0,none⟩)], .func (.func 304) #[] #[.pointer (some ⟨cb,0,none⟩)], .func (.func 305) #[] #[.pointer (some ⟨cb,0,none⟩)]], .agg (TldD.cells x).toArray] w fun n c=>∃ (r:Value),n= .tuple #[r,Vi (yI x.ok)]∧Own w [] [Res.vec 5 1 r (if x.ok then x.enc else []).length ((if x.ok then x.enc else []).map vb)] c:=by
 refine zO Tryz.func404 O Tryz.ntmps404 (Own.start w)<|zB<|zj O O<|fun l=>zj O O<|fun m=>zF O<|zF O<|zA<|zK<|zB<|zI (o:=0) O O<|zJ 0 (v:= .func (.func 303) #[] #[.pointer (some ⟨cb,0,none⟩)]) O O O O<|z6 (cs:=(TldD.cells x)) 1 O O O<|yM (fst:=[]) (cap:=[.pointer (some ⟨cb,0,none⟩)]) O qF O O<|fun c b=>(zDN x cb c<|b.rd0 e).mono ?_
 rintro _ h ⟨rfl,k⟩
 refine(?_:CL _ _ _ _ _ _ (Own w [] [_,_])) h<|b.qb k
 refine xQ (q:=x.ok) O O<|zA<|zT O (fun g=> ?_)<|fun g=> ?_
 ·refine zB<|zF O<|zF O<|zA<|zP<|yg (v:=zW) (v':=Vi 2) O O O<|fun c b=>⟨.slice none 0 0,(by rw[jr g]),by rw[if_neg g];exact(zq b T8 1).one 2 rfl⟩
 refine zN<|zB<|yJ (cs:=[zW]) (z:=[zW]) (pl:=[(0,1)]) qF qF O<|zj O O<|fun d=>zF O<|zA<|zB<|zI (o:=1) O O<|zJ 0 (v:= .func (.func 304) #[] #[.pointer (some ⟨cb,0,none⟩)]) O O O O<|zC O<|z6 (cs:=(TldD.cells x)) 1 O O O<|kC [Res.row l 317 [.func (.func 303) #[] #[.pointer (some ⟨cb,0,none⟩)], .func (.func 304) #[] #[.pointer (some ⟨cb,0,none⟩)], .func (.func 305) #[] #[.pointer (some ⟨cb,0,none⟩)]],Res.row m 135 (TldD.cells x),Res.bv d yy zW ([]:List UInt8)] (fun c b=>(zq b T8 1).joinBv (i:=2) (j:=3) V O O)<|yM (fst:=[]) (cap:=[.pointer (some ⟨cb,0,none⟩)]) O qF O O<|fun c b=>(zHH d zW ([]:List UInt8) x cb c ‹_› qK (b.give [2] O V)<|b.rdTo e [2] O).mono ?_
 rintro _ h ⟨a,rfl,k⟩
 refine(?_:CL _ _ _ _ _ _ (Own w [] [_,_,_])) h<|b.qc [2] O k
 refine zA<|zB<|zC O<|zV O O<|zI (o:=0) O O<|kC [Res.row l 317 [.func (.func 303) #[] #[.pointer (some ⟨cb,0,none⟩)], .func (.func 304) #[] #[.pointer (some ⟨cb,0,none⟩)], .func (.func 305) #[] #[.pointer (some ⟨cb,0,none⟩)]],Res.row m 135 (TldD.cells x),Res.row d yy [a],Res.vec 5 1 a (([]:List UInt8)++x.enc).length ((([]:List UInt8)++x.enc).map vb)] (fun c b=>b.splitBv (i:=2) (o:=d) (T:=yy) (v:=a) (bs:=(([]:List UInt8)++x.enc)) O)<|zJ 2 (v:=a) O O O O<|zF O<|zF O<|zA<|zP<|yg (v:=a) (v':=Vi 0) O O O<|fun c b=>⟨a,(by rw[xp (Decidable.not_not.1 g)]),by rw[if_pos (Decidable.not_not.1 g)];exact b.one 3 rfl⟩
theorem zKD(x:TldD)(w:World)(j:x.wf):Rets Tryz.prog 254 #[.agg (TldD.cells x).toArray] w fun i b=>∃ (r:Value),i= .tuple #[r,Vi (yI x.ok)]∧Own w [] [Res.vec 5 1 r (if x.ok then x.enc else []).length ((if x.ok then x.enc else []).map vb)] b:=by
 refine zO Tryz.func254 O Tryz.ntmps254 (Own.start w)<|zB<|zj O O<|fun k=>zF O<|zF O<|zA<|zK<|zd [0] O V qF<|fun b a d=>zD 1 O (xG (cs:=(TldD.cells x)) 0 O O) d<|zM 0 O a<|zG O O<|fun b a=>(zIn b).mono ?_
 rintro _ g ⟨e,rfl,h⟩
 refine(?_:CL _ _ _ _ _ _ (Own w [] [_,_])) g<|a.qb h
 refine zE [0] O V<|fun b a d=>zM 2 O a<|zG O O<|fun b a=>(zH7 x e b ‹_› (a.rdRes0 1 O)).mono ?_
 rintro _ g ⟨c,rfl,h⟩
 refine(?_:CL _ _ _ _ _ _ (Own w [] [_,_,_])) g<|a.qb h
 refine zE [0] O V<|fun b a d=>zD 3 O (yG (vs:=[c,Vi (yI x.ok)]) O O) d<|zD 4 O (yG (vs:=[c,Vi (yI x.ok)]) O O) d<|zD 5 O yB d<|zD 6 O yB d<|zX<|(?_:C _ _ _ _ _ _ _ (Own w [] [_,_,_])) _ a
 exact zP<|yg (v:=c) (v':=Vi (yI x.ok)) O O O<|fun b a=>⟨c,O,a.sel [2] O V⟩
end Go.Proofs.YthpoddkmhfhboaaGreatDoor
