import Derived.Test.YthpoddkmhfhboaaGreatDoorFwN
set_option linter.unusedSimpArgs false
set_option linter.unusedVariables false
set_option maxRecDepth 10000
namespace Go.Proofs.YthpoddkmhfhboaaGreatDoor
open Go.Sc
def x6(n:Nat):Int:=if n≤9223372036854775807 then n else(n:Int) - 18446744073709551616
theorem kX{n:Nat}(h:n<18446744073709551616):IntKind.i64.wrap (n:Int)=x6 n:=by
 rw[zRr qG];unfold x6;split<;>split<;>omega
theorem zAx{a:Int}(h:kE a):x6 (u64 a)=a:=by unfold kE at h;unfold x6 u64;split<;>omega
theorem RdS.int{most:Nat}{b:List UInt8}{a a1 n:Nat}{bad bad1:Bool}(h:RdS (j9 most) b a bad n a1 bad1):RdS (zGI most) b a bad (n:Int) a1 bad1:=RdS.map (fun n:Nat=>(n:Int)) h
structure CmdD where
 session:Nat
 seq:Nat
 op:Int
 key:ByteArray
 amount:Int
 span:Int
 lease:Nat
 deriving DecidableEq
structure CmdD.wf(x:CmdD):Prop where
 session:x.session<18446744073709551616
 seq:x.seq<18446744073709551616
 key:x.key.size≤1048576
 amount:kE x.amount
 span:kE x.span
 lease:x.lease<18446744073709551616
def CmdD.cells(x:CmdD):List Value:=[.int .u64 x.session, .int .u64 x.seq, .int .i64 x.op, .string x.key, .int .i64 x.amount, .int .i64 x.span, .int .u64 x.lease]
def CmdD.ok(x:CmdD):Prop:=(1≤x.op∧x.op≤5)∧x.key.size≤64
instance iLe1(x:CmdD):Decidable x.ok:=inferInstanceAs (Decidable ((_∧_)∧_))
def jW(s:ByteArray):List UInt8:=s.data.toList
theorem xa(s:ByteArray):(jW s).length=s.size:=by unfold jW;rw[Array.length_toList];rfl
def CmdD.enc(x:CmdD):List UInt8:=yO [x.session,x.seq,u64 x.op]++dat (jW x.key)++yO [u64 x.amount,u64 x.span,x.lease]
structure RepD where
 session:Nat
 seq:Nat
 e:Int
 lease:Nat
 amount:Int
 until_:Int
 deriving DecidableEq
structure RepD.wf(r:RepD):Prop where
 session:r.session<18446744073709551616
 seq:r.seq<18446744073709551616
 lease:r.lease<18446744073709551616
 amount:kE r.amount
 until_:kE r.until_
def RepD.cells(r:RepD):List Value:=[.int .u64 r.session, .int .u64 r.seq, .int .i64 r.e, .int .u64 r.lease, .int .i64 r.amount, .int .i64 r.until_]
def RepD.ok(r:RepD):Prop:=0≤r.e∧r.e≤20
instance iLe2(r:RepD):Decidable r.ok:=inferInstanceAs (Decidable (_∧_))
def RepD.enc(r:RepD):List UInt8:=yO [r.session,r.seq,u64 r.e,r.lease,u64 r.amount,u64 r.until_]
theorem zBQ(x:CmdD)(w:World)(i:x.key.size≤1048576):Rets Tryz.prog 414 #[.agg (CmdD.cells x).toArray] w fun h e=>h= .bool (decide x.ok)∧Own w [] [] e:=by
 refine zO Tryz.func414 O Tryz.ntmps414 (Own.start w)<|zB<|zj O O<|fun j=>zF O<|zA<|zB<|zI (o:=2) O O<|zJ 0 (v:=Vi x.op) O O O O<|xJ O O O<|zC O<|yA (q:=1≤x.op) 3 3 [9,8,7] (x.op≤5) O O O O O O trivial O (fun b=> ?_)<|fun g=> ?_
 ·refine zQ O (gT b)<|zI (o:=2) O O<|zQ O (gT b)<|zJ 0 (v:=Vi x.op) O O O O<|zQ O (gT b)<|yx O O O<|z8 O<|fun _ c=>c
 refine zC O<|yA (q:=(1≤x.op)∧(x.op≤5)) 4 8 [15,14,13,12] (((x.key.size:Nat):Int)≤64) O O O O O O trivial O (fun a=> ?_)<|fun d=> ?_
 ·refine zQ O (gT a)<|zI (o:=3) O O<|zQ O (gT a)<|zJ 0 (v:= .string x.key) O O O O<|zQ O (gT a)<|zCa qF O O<|zQ O (gT a)<|yx O O O<|z8 O<|fun _ c=>c
 refine zF O<|zA<|zP<|zm (v:= .bool (decide (((1≤x.op)∧(x.op≤5))∧(((x.key.size:Nat):Int)≤64)))) O O<|fun e c=>⟨(by congr 1;exact decide_eq_decide.2 (by unfold CmdD.ok;omega)),c.drop⟩
theorem zDm{S:List Nat}(o:Nat)(z:Value)(bs:List UInt8)(x:CmdD)(w:World)(j:x.wf)(hb:bs.length≤1000000000)(m:Own w S [Res.bv o yy z bs] w):Rets Tryz.prog 415 #[.pointer (some ⟨o,0,none⟩), .agg (CmdD.cells x).toArray] w fun u_ b=>∃ (n:Value),u_= .tuple #[]∧Own w S [Res.bv o yy n (bs++x.enc)] b:=by
 have hk:x.key.data.toList.length=x.key.size:=xa x.key
 have a0:=j.key
 have hd:=xz x.key.data.toList qG
 have q:=yS (ns:=[x.session,x.seq,u64 x.op]) (by have:=j.session;have:=j.seq;simp[ya, *])
 simp only[List.length_cons,List.length_nil]at q
 refine zO Tryz.func415 O Tryz.ntmps415 m<|zB<|zj O O<|fun b3=>zA<|zB<|zC O<|zI (o:=0) O O<|zJ 1 (v:=Vn x.session) O O O O<|zI (o:=1) O O<|zJ 1 (v:=Vn x.seq) O O O O<|zI (o:=2) O O<|zJ 1 (v:=Vi x.op) O O O O<|yh qF O (y0 _) O ?_ qF
 refine yH (e:=31) (sz:=1) (vs:=[Vn x.session,Vn x.seq,Vn (u64 x.op)]) qF O O qL V O<|fun r=>zG O O<|fun b a=>(jH o _ _ (.slice (some ⟨r,0,none⟩) 3 3) [x.session,x.seq,u64 x.op] b (by have:=j.session;have:=j.seq;simp[ya, *]) qK (a.give [0] O V)<|a.rdVec 2 O [0] O O).mono ?_
 rintro _ y ⟨c,rfl,k⟩
 refine fq [0] O a k<|zA<|zB<|zC O<|zI (o:=3) O O<|zJ 0 (v:= .string x.key) O O O O<|zP0 qF qF O (by rw[xB];omega) O<|fun d=>(zS (fun b a=>Sl.cell1<|Own.holds a 3 _ O)<|fun l=>(ko (e:=73) (vs:=[d]) qF O O (zH l zh) V O<|fun s=>zG O O<|fun b a=>(zFI o c (bs++yO [x.session,x.seq,u64 x.op]) (.slice (some ⟨s,0,none⟩) 1 1) [(d,x.key.data.toList)] b (by simp[xq];omega) (by show 1≤_;omega) (a.give [2] O V) (a.rdVec 4 O [2] O O)<|all_cons (a.rdRes 3 O [2] O O) (fun p hp=>by cases hp)).mono ?_))
 rintro _ y ⟨g,rfl,k⟩
 refine fq [2] O a k<|zA<|ze<|zC O<|zI (o:=4) O O<|zJ 0 (v:=Vi x.amount) O O O O<|yh qF O (y0 _) O ?_ qF
 refine zI (o:=5) O O<|zJ 0 (v:=Vi x.span) O O O O<|yh qF O (y0 _) O ?_ qF
 refine zI (o:=6) O O<|zJ 0 (v:=Vn x.lease) O O O O<|yH (e:=31) (sz:=1) (vs:=[Vn (u64 x.amount),Vn (u64 x.span),Vn x.lease]) qF O O qL V O<|fun u=>zG O O<|fun b a=>(jH o g ((bs++yO [x.session,x.seq,u64 x.op])++xq [(d,x.key.data.toList)]) (.slice (some ⟨u,0,none⟩) 3 3) [u64 x.amount,u64 x.span,x.lease] b (by have:=j.lease;simp[ya, *]) (by simp[xq];omega) (a.give [4] O V)<|a.rdVec 5 O [4] O O).mono ?_
 rintro _ y ⟨i,rfl,k⟩
 refine fq [4] O a k<|zx<|yq O<|fun b a=>⟨i,O,by have h:=a.one 5 rfl;simpa [CmdD.enc,xq,jW]using h⟩
theorem zBO(w:World):Rets Tryz.prog 273 #[] w fun b a=>b= .agg #[.func (.func 414) #[] #[], .func (.func 415) #[] #[], .func (.func 416) #[] #[]]∧Own w [] [] a:=by
 refine zO Tryz.func273 O Tryz.ntmps273 (Own.start w)<|zB<|zk (v:= .agg #[.nilFunc, .nilFunc, .nilFunc]) qF O<|fun d=>zA<|zB<|yJ (cs:=[.func (.func 414) #[] #[], .func (.func 415) #[] #[], .func (.func 416) #[] #[]]) (z:=[.nilFunc, .nilFunc, .nilFunc]) (pl:=[(0,1),(1,1),(2,1)]) qF qF O<|zf 0 O O O (zz O) O<|zA<|zP<|xg (cs:=[.func (.func 414) #[] #[], .func (.func 415) #[] #[], .func (.func 416) #[] #[]]) O O qF (Own.qd (i:=0) O)<|fun a c=>⟨O,c.drop⟩
theorem zH3(x:CmdD)(w:World)(m:x.wf):Rets Tryz.prog 284 #[.agg #[.func (.func 414) #[] #[], .func (.func 415) #[] #[], .func (.func 416) #[] #[]], .agg (CmdD.cells x).toArray] w fun n c=>∃ (r:Value),n= .tuple #[r,Vi (yI x.ok)]∧Own w [] [Res.vec 5 1 r (if x.ok then x.enc else []).length ((if x.ok then x.enc else []).map vb)] c:=by
 have p:=m.key
 refine zO Tryz.func284 O Tryz.ntmps284 (Own.start w)<|zB<|zj O O<|fun h=>zj O O<|fun k=>zF O<|zF O<|zA<|zK<|zB<|zI (o:=0) O O<|zJ 0 (v:= .func (.func 414) #[] #[]) O O O O<|z6 (cs:=(CmdD.cells x)) 1 O O O<|yM (fst:=[]) (cap:=[]) O qF O O<|fun c b=>(zBQ x c qH).mono ?_
 rintro _ l ⟨rfl,g⟩
 refine(?_:CL _ _ _ _ _ _ (Own w [] [_,_])) l<|b.qb g
 refine xQ (q:=x.ok) O O<|zA<|zT O (fun e=> ?_)<|fun e=> ?_
 ·refine zB<|zF O<|zF O<|zA<|zP<|yg (v:=zW) (v':=Vi 2) O O O<|fun c b=>⟨.slice none 0 0,(by rw[jr e]),by rw[if_neg e];exact(zq b T8 1).one 2 rfl⟩
 refine zN<|zB<|yJ (cs:=[zW]) (z:=[zW]) (pl:=[(0,1)]) qF qF O<|zj O O<|fun d=>zF O<|zA<|zB<|zI (o:=1) O O<|zJ 0 (v:= .func (.func 415) #[] #[]) O O O O<|zC O<|z6 (cs:=(CmdD.cells x)) 1 O O O<|kC [Res.row h 462 [.func (.func 414) #[] #[], .func (.func 415) #[] #[], .func (.func 416) #[] #[]],Res.row k 33 (CmdD.cells x),Res.bv d yy zW ([]:List UInt8)] (fun c b=>(zq b T8 1).joinBv (i:=2) (j:=3) V O O)<|yM (fst:=[]) (cap:=[]) O qF O O<|fun c b=>(zDm d zW ([]:List UInt8) x c ‹_› qK<|b.give [2] O V).mono ?_
 rintro _ l ⟨a,rfl,g⟩
 refine fq [2] O b g<|zA<|zB<|zC O<|zV O O<|zI (o:=0) O O<|kC [Res.row h 462 [.func (.func 414) #[] #[], .func (.func 415) #[] #[], .func (.func 416) #[] #[]],Res.row k 33 (CmdD.cells x),Res.row d yy [a],Res.vec 5 1 a (([]:List UInt8)++x.enc).length ((([]:List UInt8)++x.enc).map vb)] (fun c b=>b.splitBv (i:=2) (o:=d) (T:=yy) (v:=a) (bs:=(([]:List UInt8)++x.enc)) O)<|zJ 2 (v:=a) O O O O<|zF O<|zF O<|zA<|zP<|yg (v:=a) (v':=Vi 0) O O O<|fun c b=>⟨a,(by rw[xp (Decidable.not_not.1 e)]),by rw[if_pos (Decidable.not_not.1 e)];exact b.one 3 rfl⟩
theorem zBk(x:CmdD)(w:World)(i:x.wf):Rets Tryz.prog 154 #[.agg (CmdD.cells x).toArray] w fun h b=>∃ (r:Value),h= .tuple #[r,Vi (yI x.ok)]∧Own w [] [Res.vec 5 1 r (if x.ok then x.enc else []).length ((if x.ok then x.enc else []).map vb)] b:=by
 refine zO Tryz.func154 O Tryz.ntmps154 (Own.start w)<|zB<|zj O O<|fun j=>zF O<|zF O<|zA<|zK<|zd [0] O V qF<|fun b a d=>zD 1 O (xG (cs:=(CmdD.cells x)) 0 O O) d<|zM 0 O a<|zG O O<|fun b a=>(zBO b).mono ?_
 rintro _ e ⟨rfl,g⟩
 refine(?_:CL _ _ _ _ _ _ (Own w [] [_])) e<|a.qb g
 refine zE [0] O V<|fun b a d=>zM 2 O a<|zG O O<|fun b a=>(zH3 x b ‹_›).mono ?_
 rintro _ e ⟨c,rfl,g⟩
 refine(?_:CL _ _ _ _ _ _ (Own w [] [_,_])) e<|a.qb g
 refine zE [0] O V<|fun b a d=>zD 3 O (yG (vs:=[c,Vi (yI x.ok)]) O O) d<|zD 4 O (yG (vs:=[c,Vi (yI x.ok)]) O O) d<|zD 5 O yB d<|zD 6 O yB d<|zX<|(?_:C _ _ _ _ _ _ _ (Own w [] [_,_])) _ a
 exact zP<|yg (v:=c) (v':=Vi (yI x.ok)) O O O<|fun b a=>⟨c,O,a.sel [1] O V⟩
theorem zDt(x:RepD)(w:World):Rets Tryz.prog 434 #[.agg (RepD.cells x).toArray] w fun g c=>g= .bool (decide x.ok)∧Own w [] [] c:=by
 refine zO Tryz.func434 O Tryz.ntmps434 (Own.start w)<|zB<|zj O O<|fun h=>zF O<|zA<|zB<|zI (o:=2) O O<|zJ 0 (v:=Vi x.e) O O O O<|xJ O O O<|zC O<|yA (q:=0≤x.e) 3 3 [9,8,7] (x.e≤20) O O O O O O trivial O (fun a=> ?_)<|fun d=> ?_
 ·refine zQ O (gT a)<|zI (o:=2) O O<|zQ O (gT a)<|zJ 0 (v:=Vi x.e) O O O O<|zQ O (gT a)<|yx O O O<|z8 O<|fun _ b=>b
 refine zF O<|zA<|zP<|zm (v:= .bool (decide ((0≤x.e)∧(x.e≤20)))) O O<|fun c b=>⟨O,b.drop⟩
theorem zDM{S:List Nat}(o:Nat)(j:Value)(bs:List UInt8)(x:RepD)(w:World)(d:x.wf)(hb:bs.length≤1000000000)(g:Own w S [Res.bv o yy j bs] w):Rets Tryz.prog 435 #[.pointer (some ⟨o,0,none⟩), .agg (RepD.cells x).toArray] w fun k c=>∃ (h:Value),k= .tuple #[]∧Own w S [Res.bv o yy h (bs++x.enc)] c:=by
 refine zO Tryz.func435 O Tryz.ntmps435 g<|zB<|zj O O<|fun m=>zA<|ze<|zC O<|zI (o:=0) O O<|zJ 1 (v:=Vn x.session) O O O O<|zI (o:=1) O O<|zJ 1 (v:=Vn x.seq) O O O O<|zI (o:=2) O O<|zJ 1 (v:=Vi x.e) O O O O<|yh qF O (y0 _) O ?_ qF
 refine zI (o:=3) O O<|zJ 1 (v:=Vn x.lease) O O O O<|zI (o:=4) O O<|zJ 1 (v:=Vi x.amount) O O O O<|yh qF O (y0 _) O ?_ qF
 refine zI (o:=5) O O<|zJ 1 (v:=Vi x.until_) O O O O<|yh qF O (y0 _) O ?_ qF
 refine yH (e:=31) (sz:=1) (vs:=[Vn x.session,Vn x.seq,Vn (u64 x.e),Vn x.lease,Vn (u64 x.amount),Vn (u64 x.until_)]) qF O O qL V O<|fun i=>zG O O<|fun c b=>(jH o _ _ (.slice (some ⟨i,0,none⟩) 6 6) [x.session,x.seq,u64 x.e,x.lease,u64 x.amount,u64 x.until_] c (by have:=d.session;have:=d.seq;have:=d.lease;simp[ya, *]) qK (b.give [0] O V)<|b.rdVec 2 O [0] O O).mono ?_
 rintro _ n ⟨a,rfl,l⟩
 refine fq [0] O b l<|zx<|yq O<|fun c b=>⟨a,O,b.sel [2] O V⟩
theorem zEZ(w:World):Rets Tryz.prog 302 #[] w fun b a=>b= .agg #[.func (.func 434) #[] #[], .func (.func 435) #[] #[], .func (.func 436) #[] #[]]∧Own w [] [] a:=by
 refine zO Tryz.func302 O Tryz.ntmps302 (Own.start w)<|zB<|zk (v:= .agg #[.nilFunc, .nilFunc, .nilFunc]) qF O<|fun d=>zA<|zB<|yJ (cs:=[.func (.func 434) #[] #[], .func (.func 435) #[] #[], .func (.func 436) #[] #[]]) (z:=[.nilFunc, .nilFunc, .nilFunc]) (pl:=[(0,1),(1,1),(2,1)]) qF qF O<|zf 0 O O O (zz O) O<|zA<|zP<|xg (cs:=[.func (.func 434) #[] #[], .func (.func 435) #[] #[], .func (.func 436) #[] #[]]) O O qF (Own.qd (i:=0) O)<|fun a c=>⟨O,c.drop⟩
theorem zHU(x:RepD)(w:World)(n:x.wf):Rets Tryz.prog 444 #[.agg #[.func (.func 434) #[] #[], .func (.func 435) #[] #[], .func (.func 436) #[] #[]], .agg (RepD.cells x).toArray] w fun m c=>∃ (r:Value),m= .tuple #[r,Vi (yI x.ok)]∧Own w [] [Res.vec 5 1 r (if x.ok then x.enc else []).length ((if x.ok then x.enc else []).map vb)] c:=by
 refine zO Tryz.func444 O Tryz.ntmps444 (Own.start w)<|zB<|zj O O<|fun h=>zj O O<|fun k=>zF O<|zF O<|zA<|zK<|zB<|zI (o:=0) O O<|zJ 0 (v:= .func (.func 434) #[] #[]) O O O O<|z6 (cs:=(RepD.cells x)) 1 O O O<|yM (fst:=[]) (cap:=[]) O qF O O<|fun c b=>(zDt x c).mono ?_
 rintro _ l ⟨rfl,g⟩
 refine(?_:CL _ _ _ _ _ _ (Own w [] [_,_])) l<|b.qb g
 refine xQ (q:=x.ok) O O<|zA<|zT O (fun e=> ?_)<|fun e=> ?_
 ·refine zB<|zF O<|zF O<|zA<|zP<|yg (v:=zW) (v':=Vi 2) O O O<|fun c b=>⟨.slice none 0 0,(by rw[jr e]),by rw[if_neg e];exact(zq b T8 1).one 2 rfl⟩
 refine zN<|zB<|yJ (cs:=[zW]) (z:=[zW]) (pl:=[(0,1)]) qF qF O<|zj O O<|fun d=>zF O<|zA<|zB<|zI (o:=1) O O<|zJ 0 (v:= .func (.func 435) #[] #[]) O O O O<|zC O<|z6 (cs:=(RepD.cells x)) 1 O O O<|kC [Res.row h 495 [.func (.func 434) #[] #[], .func (.func 435) #[] #[], .func (.func 436) #[] #[]],Res.row k 37 (RepD.cells x),Res.bv d yy zW ([]:List UInt8)] (fun c b=>(zq b T8 1).joinBv (i:=2) (j:=3) V O O)<|yM (fst:=[]) (cap:=[]) O qF O O<|fun c b=>(zDM d zW ([]:List UInt8) x c ‹_› qK<|b.give [2] O V).mono ?_
 rintro _ l ⟨a,rfl,g⟩
 refine fq [2] O b g<|zA<|zB<|zC O<|zV O O<|zI (o:=0) O O<|kC [Res.row h 495 [.func (.func 434) #[] #[], .func (.func 435) #[] #[], .func (.func 436) #[] #[]],Res.row k 37 (RepD.cells x),Res.row d yy [a],Res.vec 5 1 a (([]:List UInt8)++x.enc).length ((([]:List UInt8)++x.enc).map vb)] (fun c b=>b.splitBv (i:=2) (o:=d) (T:=yy) (v:=a) (bs:=(([]:List UInt8)++x.enc)) O)<|zJ 2 (v:=a) O O O O<|zF O<|zF O<|zA<|zP<|yg (v:=a) (v':=Vi 0) O O O<|fun c b=>⟨a,(by rw[xp (Decidable.not_not.1 e)]),by rw[if_pos (Decidable.not_not.1 e)];exact b.one 3 rfl⟩
theorem zG7(x:RepD)(w:World)(i:x.wf):Rets Tryz.prog 319 #[.agg (RepD.cells x).toArray] w fun h b=>∃ (r:Value),h= .tuple #[r,Vi (yI x.ok)]∧Own w [] [Res.vec 5 1 r (if x.ok then x.enc else []).length ((if x.ok then x.enc else []).map vb)] b:=by
 refine zO Tryz.func319 O Tryz.ntmps319 (Own.start w)<|zB<|zj O O<|fun j=>zF O<|zF O<|zA<|zK<|zd [0] O V qF<|fun b a d=>zD 1 O (xG (cs:=(RepD.cells x)) 0 O O) d<|zM 0 O a<|zG O O<|fun b a=>(zEZ b).mono ?_
 rintro _ e ⟨rfl,g⟩
 refine(?_:CL _ _ _ _ _ _ (Own w [] [_])) e<|a.qb g
 refine zE [0] O V<|fun b a d=>zM 2 O a<|zG O O<|fun b a=>(zHU x b ‹_›).mono ?_
 rintro _ e ⟨c,rfl,g⟩
 refine(?_:CL _ _ _ _ _ _ (Own w [] [_,_])) e<|a.qb g
 refine zE [0] O V<|fun b a d=>zD 3 O (yG (vs:=[c,Vi (yI x.ok)]) O O) d<|zD 4 O (yG (vs:=[c,Vi (yI x.ok)]) O O) d<|zD 5 O yB d<|zD 6 O yB d<|zX<|(?_:C _ _ _ _ _ _ _ (Own w [] [_,_])) _ a
 exact zP<|yg (v:=c) (v':=Vi (yI x.ok)) O O O<|fun b a=>⟨c,O,a.sel [1] O V⟩
theorem zQX(r s:CmdD):eqL [(0,some (some .u64)),(1,some (some .u64)),(2,some (some .i64)),(3,some none),(4,some (some .i64)),(5,some (some .i64)),(6,some (some .u64))] r.cells s.cells=decide (r=s):=by
 obtain⟨a,b,c,d,e,f,g⟩:=r
 obtain⟨i,j,k,l,o,p,q⟩:=s
 simp[eqL,CmdD.cells,eqC,CmdD.mk.injEq,Bool.decide_and]
 have h:∀ m n:Nat,decide ((m:Int)=n)=decide (m=n):=fun m n=>decide_eq_decide.2 qG
 simp only[h]
def zCr(l:List UInt8):ByteArray:=⟨l.toArray⟩
def zMk:List UInt8→Nat→Option (CmdD×Nat):=yp kI fun s=>yp kI fun q=>yp (zGI 5) fun o=>yp jE fun k=>yp kI fun a=>yp kI fun p=>yp kI fun l=>xZ ⟨s,q,o,zCr k,x6 a,x6 p,l⟩
def zNt:List UInt8→Nat→Option (RepD×Nat):=yp kI fun s=>yp kI fun q=>yp (zGI 20) fun e=>yp kI fun l=>yp kI fun a=>yp kI fun u=>xZ ⟨s,q,e,l,x6 a,x6 u⟩
def zJe:CmdD:=⟨0,0,0,⟨#[]⟩,0,0,0⟩
def zUT:RepD:=⟨0,0,0,0,0,0⟩
instance iLe3:DecidablePred CmdD.ok:=fun x=>inferInstance
instance iLe4:DecidablePred RepD.ok:=fun x=>inferInstance
def zAK(b:List UInt8):Option CmdD:=whole zMk CmdD.ok b
def decRpl(b:List UInt8):Option RepD:=whole zNt RepD.ok b
theorem zEc{S:List Nat}(o:Nat)(v:Value)(b:List UInt8)(a:Nat)(bad:Bool)(w:World)(hl:zg b.length)(ha:a≤b.length)(bg:Own w S [Res.row o 470 [v,Vj a, .bool bad]] w)(hb:Rd w S (Res.sl v b.length (b.map vb))):Rets Tryz.prog 416 #[.pointer (some ⟨o,0,none⟩)] w fun u_ g=>∃ (s:Nat) (q:Nat) (op:Nat) (k:ByteArray) (am:Int) (sp:Int) (le:Nat) (a':Nat) (az:Bool),u_= .agg #[Vn s,Vn q,Vj op, .string k,Vi am,Vi sp,Vn le]∧RdS zMk b a bad (⟨s,q,(op:Int),k,am,sp,le⟩:CmdD) a' az∧k.size≤b.length∧Own w S [Res.row o 470 [v,Vj a', .bool az]] g:=by
 refine zO Tryz.func416 O Tryz.ntmps416 bg<|zB<|zk (v:= .agg #[Vn 0,Vn 0,Vi 0,ym,Vi 0,Vi 0,Vn 0]) qF O<|fun b2=>zA<|zK<|zd [] O V qF<|fun g d p=>zD 0 O za p<|zD 2 O za p<|zD 4 O za p<|zD 6 O za p<|zD 9 O za p<|zD 12 O za p<|zD 15 O za p<|zM 1 O d<|zG O O<|fun g d=>(y6 o v b a bad g qI qH (d.give [0] O V)<|d.rdTo hb [0] O).mono ?_
 rintro _ y ⟨a0,b8,aw,rfl,a3,b9,hO⟩
 have bj:=a3.le
 refine(?_:CL _ _ _ _ _ _ (Own w S [_,_])) y<|d.qc [0] O hO
 refine zA3 3 O<|zG O O<|fun g d=>(y6 o v b b8 aw g qI qH (d.give [1] O V)<|d.rdTo hb [1] O).mono ?_
 rintro _ y ⟨a1,ba,ax,rfl,a4,bb,hO⟩
 have bk:=a4.le
 refine(?_:CL _ _ _ _ _ _ (Own w S [_,_])) y<|d.qc [1] O hO
 refine zA3 5 O<|zG O O<|fun g d=>(j3 o v b ba ax 5 g qI qH qH (d.give [1] O V)<|d.rdTo hb [1] O).mono ?_
 rintro _ y ⟨a2,bc,ay,rfl,a5,bd,hO⟩
 have bl:=a5.le
 refine(?_:CL _ _ _ _ _ _ (Own w S [_,_])) y<|d.qc [1] O hO
 refine zA3 7 O<|zG O O<|fun g d=>(zGB o v b bc ay g qI qH (d.give [1] O V)<|d.rdTo hb [1] O).mono ?_
 rintro bi y ⟨_,h,af,a8,rfl,a6,r,hO⟩
 have bm:=a6.le
 refine(?_:CL _ _ _ _ _ _ (Own w S [_,_,_])) y<|d.qc [1] O hO
 refine zE [] O V<|fun g d p=>z7 8 10 ?_ ?_
 ·refine zo 8 O d<|zGR (bs:=h) qF qF O (fun g ab=>Vec.sl<|Own.holds ab 2 _ O) O<|zA3 10 O<|zG O O<|fun g d=>(y6 o v b af a8 g qI qH (d.give [1] O V)<|d.rdTo hb [1] O).mono ?_
  rintro _ y ⟨ac,b0,ag,rfl,m,u,hO⟩
  have bh:=m.le
  refine(?_:CL _ _ _ _ _ _ (Own w S [_,_,_])) y<|d.qc [1] O hO
  refine zE [] O V<|fun g d p=>zD 11 O (kQ (c:=x6 ac) qF O (kX u) qF) p<|zM 13 O d<|zG O O<|fun g d=>(y6 o v b b0 ag g qI qH (d.give [2] O V)<|d.rdTo hb [2] O).mono ?_
  rintro _ y ⟨ad,b1,ah,rfl,j,l,hO⟩
  have bf:=j.le
  refine(?_:CL _ _ _ _ _ _ (Own w S [_,_,_])) y<|d.qc [2] O hO
  refine zE [] O V<|fun g d p=>zD 14 O (kQ (c:=x6 ad) qF O (kX l) qF) p<|zM 16 O d<|zG O O<|fun g d=>(y6 o v b b1 ah g qI qH (d.give [2] O V)<|d.rdTo hb [2] O).mono ?_
  rintro _ y ⟨ai,b3,aj,rfl,e,x,hO⟩
  refine(?_:CL _ _ _ _ _ _ (Own w S [_,_,_])) y<|d.qc [2] O hO
  refine zE [] O V<|fun g d p=>zD 17 O (xY (cs:=[Vn a0,Vn a1,Vj a2, .string (⟨h.toArray⟩:ByteArray),Vi (x6 ac),Vi (x6 ad),Vn ai]) (z:=[Vn 0,Vn 0,Vi 0,ym,Vi 0,Vi 0,Vn 0]) (pl:=[(0,1),(1,1),(2,1),(3,1),(4,1),(5,1),(6,1)]) qF qF) p<|zM 18 O d<|zf 0 O O O (zz O) O<|zE [] O V<|fun g d p=>zX<|(?_:C _ _ _ _ _ _ _ (Own w S [_,_,_])) _ d
  exact zP<|xg (cs:=[Vn a0,Vn a1,Vj a2, .string (⟨h.toArray⟩:ByteArray),Vi (x6 ac),Vi (x6 ad),Vn ai]) O O qF (Own.qd (i:=0) O)<|fun g d=>⟨a0,a1,a2,(⟨h.toArray⟩:ByteArray),x6 ac,x6 ad,ai,b3,aj,O,a3.bind<|a4.bind<|RdS.bind a5.int<|a6.bind<|m.bind<|j.bind<|e.bind<|RdS.pure _ e.le,r,d.sel [2] O V⟩
 refine zo 10 O d<|zG O O<|fun g d=>(y6 o v b af a8 g qI qH (d.give [1] O V)<|d.rdTo hb [1] O).mono ?_
 rintro _ y ⟨n,ak,a9,rfl,m,u,hO⟩
 have bh:=m.le
 refine(?_:CL _ _ _ _ _ _ (Own w S [_,_,_])) y<|d.qc [1] O hO
 refine zE [] O V<|fun g d p=>zD 11 O (kQ (c:=x6 n) qF O (kX u) qF) p<|z7 8 13 ?_ ?_
 ·refine zo 8 O d<|zGR (bs:=h) qF qF O (fun g ab=>Vec.sl<|Own.holds ab 1 _ O) O<|zA3 13 O<|zG O O<|fun g d=>(y6 o v b ak a9 g qI qH (d.give [2] O V)<|d.rdTo hb [2] O).mono ?_
  rintro _ y ⟨ae,b4,al,rfl,j,l,hO⟩
  have bf:=j.le
  refine(?_:CL _ _ _ _ _ _ (Own w S [_,_,_])) y<|d.qc [2] O hO
  refine zE [] O V<|fun g d p=>zD 14 O (kQ (c:=x6 ae) qF O (kX l) qF) p<|zM 16 O d<|zG O O<|fun g d=>(y6 o v b b4 al g qI qH (d.give [2] O V)<|d.rdTo hb [2] O).mono ?_
  rintro _ y ⟨an,b5,ao,rfl,e,x,hO⟩
  refine(?_:CL _ _ _ _ _ _ (Own w S [_,_,_])) y<|d.qc [2] O hO
  refine zE [] O V<|fun g d p=>zD 17 O (xY (cs:=[Vn a0,Vn a1,Vj a2, .string (⟨h.toArray⟩:ByteArray),Vi (x6 n),Vi (x6 ae),Vn an]) (z:=[Vn 0,Vn 0,Vi 0,ym,Vi 0,Vi 0,Vn 0]) (pl:=[(0,1),(1,1),(2,1),(3,1),(4,1),(5,1),(6,1)]) qF qF) p<|zM 18 O d<|zf 0 O O O (zz O) O<|zE [] O V<|fun g d p=>zX<|(?_:C _ _ _ _ _ _ _ (Own w S [_,_,_])) _ d
  exact zP<|xg (cs:=[Vn a0,Vn a1,Vj a2, .string (⟨h.toArray⟩:ByteArray),Vi (x6 n),Vi (x6 ae),Vn an]) O O qF (Own.qd (i:=0) O)<|fun g d=>⟨a0,a1,a2,(⟨h.toArray⟩:ByteArray),x6 n,x6 ae,an,b5,ao,O,a3.bind<|a4.bind<|RdS.bind a5.int<|a6.bind<|m.bind<|j.bind<|e.bind<|RdS.pure _ e.le,r,d.sel [2] O V⟩
 refine zo 13 O d<|zG O O<|fun g d=>(y6 o v b ak a9 g qI qH (d.give [2] O V)<|d.rdTo hb [2] O).mono ?_
 rintro _ y ⟨a7,ap,aa,rfl,j,l,hO⟩
 have bf:=j.le
 refine(?_:CL _ _ _ _ _ _ (Own w S [_,_,_])) y<|d.qc [2] O hO
 refine zE [] O V<|fun g d p=>zD 14 O (kQ (c:=x6 a7) qF O (kX l) qF) p<|z7 8 16 ?_ ?_
 ·refine zo 8 O d<|zGR (bs:=h) qF qF O (fun g ab=>Vec.sl<|Own.holds ab 1 _ O) O<|zA3 16 O<|zG O O<|fun g d=>(y6 o v b ap aa g qI qH (d.give [2] O V)<|d.rdTo hb [2] O).mono ?_
  rintro _ y ⟨aq,b6,ar,rfl,e,x,hO⟩
  refine(?_:CL _ _ _ _ _ _ (Own w S [_,_,_])) y<|d.qc [2] O hO
  refine zE [] O V<|fun g d p=>zD 17 O (xY (cs:=[Vn a0,Vn a1,Vj a2, .string (⟨h.toArray⟩:ByteArray),Vi (x6 n),Vi (x6 a7),Vn aq]) (z:=[Vn 0,Vn 0,Vi 0,ym,Vi 0,Vi 0,Vn 0]) (pl:=[(0,1),(1,1),(2,1),(3,1),(4,1),(5,1),(6,1)]) qF qF) p<|zM 18 O d<|zf 0 O O O (zz O) O<|zE [] O V<|fun g d p=>zX<|(?_:C _ _ _ _ _ _ _ (Own w S [_,_,_])) _ d
  exact zP<|xg (cs:=[Vn a0,Vn a1,Vj a2, .string (⟨h.toArray⟩:ByteArray),Vi (x6 n),Vi (x6 a7),Vn aq]) O O qF (Own.qd (i:=0) O)<|fun g d=>⟨a0,a1,a2,(⟨h.toArray⟩:ByteArray),x6 n,x6 a7,aq,b6,ar,O,a3.bind<|a4.bind<|RdS.bind a5.int<|a6.bind<|m.bind<|j.bind<|e.bind<|RdS.pure _ e.le,r,d.sel [2] O V⟩
 refine zo 16 O d<|zG O O<|fun g d=>(y6 o v b ap aa g qI qH (d.give [2] O V)<|d.rdTo hb [2] O).mono ?_
 rintro _ y ⟨au,b7,av,rfl,e,x,hO⟩
 refine(?_:CL _ _ _ _ _ _ (Own w S [_,_,_])) y<|d.qc [2] O hO
 refine zA3 8 O<|zGR (bs:=h) qF qF O (fun g ab=>Vec.sl<|Own.holds ab 1 _ O) O<|zE [] O V<|fun g d p=>zD 17 O (xY (cs:=[Vn a0,Vn a1,Vj a2, .string (⟨h.toArray⟩:ByteArray),Vi (x6 n),Vi (x6 a7),Vn au]) (z:=[Vn 0,Vn 0,Vi 0,ym,Vi 0,Vi 0,Vn 0]) (pl:=[(0,1),(1,1),(2,1),(3,1),(4,1),(5,1),(6,1)]) qF qF) p<|zM 18 O d<|zf 0 O O O (zz O) O<|zE [] O V<|fun g d p=>zX<|(?_:C _ _ _ _ _ _ _ (Own w S [_,_,_])) _ d
 exact zP<|xg (cs:=[Vn a0,Vn a1,Vj a2, .string (⟨h.toArray⟩:ByteArray),Vi (x6 n),Vi (x6 a7),Vn au]) O O qF (Own.qd (i:=0) O)<|fun g d=>⟨a0,a1,a2,(⟨h.toArray⟩:ByteArray),x6 n,x6 a7,au,b7,av,O,a3.bind<|a4.bind<|RdS.bind a5.int<|a6.bind<|m.bind<|j.bind<|e.bind<|RdS.pure _ e.le,r,d.sel [2] O V⟩
theorem zHa(v:Value)(b:List UInt8)(w:World)(hl:b.length≤1048576)(hb:Rd w [] (Res.sl v b.length (b.map vb))):Rets Tryz.prog 484 #[.agg #[.func (.func 414) #[] #[], .func (.func 415) #[] #[], .func (.func 416) #[] #[]],v] w fun u_ w'=>∃ (s:Nat) (q:Nat) (op:Int) (k:ByteArray) (am:Int) (sp:Int) (le:Nat) (e:Int),u_= .tuple #[.agg #[Vn s,Vn q,Vi op, .string k,Vi am,Vi sp,Vn le],Vi e]∧ValPost (zAK b) (⟨s,q,op,k,am,sp,le⟩:CmdD) zJe e∧Own w [] [] w':=by
 refine zO Tryz.func484 O Tryz.ntmps484 (Own.start w)<|zB<|zj O O<|fun b2=>zk (v:= .agg #[Vn 0,Vn 0,Vi 0,ym,Vi 0,Vi 0,Vn 0]) qF O<|fun b4=>zF O<|zA<|zB<|zC O<|xP (cs:=[v,Vi 0,yC]) (z:=[zW,Vi 0,yC]) (pl:=[(0,1),(1,1),(2,1)]) qF ⟨(Sl.cell1<|Rd.φ hb),trivial⟩ qF O<|zj O O<|fun a0=>zF O<|zA<|zB<|zI (o:=2) O O<|zJ 0 (v:= .func (.func 416) #[] #[]) O O O O<|zC O<|yM (fst:=[]) (cap:=[]) O qF O O<|fun w' p=>(zEc a0 v b 0 false w' qI qH (p.give [2] O V)<|p.rdTo hb [2] O).mono ?_
 rintro _ w1 ⟨r,t,g,u,j,l,m,n,a,rfl,x,y,hO⟩
 refine(?_:CL _ _ _ _ _ _ (Own w [] [_,_,_])) w1<|p.qc [2] O hO
 refine zf 1 O O O (zz O) O<|zA<|zK<|zB<|zC O<|zV O O<|zI (o:=2) O O<|zJ 2 (v:= .bool a) O O O O<|zC O<|yP (q:=a=true) 7 4 [26,25,24,23,22,21,20] (((n:Nat):Int)≠((b.length:Nat):Int)) O O (y2 _) O O O trivial O (fun c=> ?_)<|fun a1=> ?_
 ·refine zQ O (bF c)<|zC O<|zQ O (bF c)<|zV O O<|zQ O (bF c)<|zI (o:=1) O O<|zQ O (bF c)<|zJ 2 (v:=Vj n) O O O O<|zQ O (bF c)<|zC O<|zQ O (bF c)<|zn (pR hb) O O<|zQ O (bF c)<|yf O O O<|z8 O<|fun _ p=>p
 refine zC O<|yP (q:=(a=true)∨(((n:Nat):Int)≠((b.length:Nat):Int))) 5 13 [33,32,31,30,29] (¬(({session:=r,seq:=t,op:=((g:Nat):Int),key:=u,amount:=j,span:=l,lease:=m}:CmdD).ok)) O O O O O O trivial O (fun d=> ?_)<|fun a2=> ?_
 ·refine zQ O (gF d)<|zI (o:=0) O O<|zQ O (gF d)<|zJ 0 (v:= .func (.func 414) #[] #[]) O O O O<|zQ O (gF d)<|z6 1 O O O<|zQ O (gF d)<|yM (fst:=[]) (cap:=[]) O qF O O<|fun w' p=>(zBQ ({session:=r,seq:=t,op:=((g:Nat):Int),key:=u,amount:=j,span:=l,lease:=m}:CmdD) w' (by have:=y;dsimp only;omega)).mono ?_
  rintro _ w1 ⟨rfl,hO⟩
  refine(?_:CL _ _ _ _ _ _ (Own w [] [_,_,_])) w1<|p.qb hO
  refine zQ O (gF d)<|xQ (q:=({session:=r,seq:=t,op:=((g:Nat):Int),key:=u,amount:=j,span:=l,lease:=m}:CmdD).ok) O O<|z8 O<|fun _ p=>p
 refine zA<|zT O (fun c1=> ?_)<|fun c1=> ?_
 ·refine zB<|zk (v:= .agg #[Vn 0,Vn 0,Vi 0,ym,Vi 0,Vi 0,Vn 0]) qF O<|fun b7=>zA<|zB<|z6 3 O O O<|zf 1 O O O (zz O) O<|zF O<|zA<|zP<|yk (cs:=[Vn 0,Vn 0,Vi 0,ym,Vi 0,Vi 0,Vn 0]) (v:=Vi 4) O O O qF (Own.qd (i:=1) O)<|fun w' p=>⟨0,0,0,⟨#[]⟩,0,0,0,4,O, .inr ⟨O,zBi x<|fun h1 h2 h3=>c1.elim (fun h=>h.elim (fun h=>(by rw[h1]at h;cases h))<|fun h=>h qG)<|fun h=>h h3,O⟩,p.drop⟩
 refine zN<|zB<|z6 1 O O O<|zf 1 O O O (zz O) O<|zF O<|zA<|zP<|yk (cs:=[Vn r,Vn t,Vj g, .string u,Vi j,Vi l,Vn m]) (v:=Vi 0) O O O qF (Own.qd (i:=1) O)<|fun w' p=>⟨r,t,((g:Nat):Int),u,j,l,m,0,O, .inl ⟨O,zA0 x (by cases h:a;rfl;exact absurd (.inl (.inl h)) c1) (by have:¬(n:Int)≠b.length:=fun h=>c1 (.inl (.inr h));omega)<|Decidable.not_not.1 fun h=>c1<|.inr h⟩,p.drop⟩
theorem zOq(v:Value)(b:List UInt8)(w:World)(hl:b.length≤1048576)(hb:Rd w [] (Res.sl v b.length (b.map vb))):Rets Tryz.prog 408 #[v] w fun y o=>∃ (s:Nat) (q:Nat) (op:Int) (k:ByteArray) (u:Int) (x:Int) (le:Nat) (e:Int),y= .tuple #[.agg #[Vn s,Vn q,Vi op, .string k,Vi u,Vi x,Vn le],Vi e]∧ValPost (zAK b) (⟨s,q,op,k,u,x,le⟩:CmdD) zJe e∧Own w [] [] o:=by
 refine zO Tryz.func408 O Tryz.ntmps408 (Own.start w)<|zB<|zk (v:= .agg #[Vn 0,Vn 0,Vi 0,ym,Vi 0,Vi 0,Vn 0]) qF O<|fun z=>zF O<|zA<|zB<|zG O O<|fun o p=>(zBO o).mono ?_
 rintro _ r ⟨rfl,t⟩
 refine(?_:CL _ _ _ _ _ _ (Own w [] [_])) r<|p.qb t
 refine zC O<|zG O O<|fun o p=>(zHa v b o qH<|p.rd0 hb).mono ?_
 rintro _ r ⟨h,j,a,l,c,d,g,m,rfl,n,t⟩
 refine(?_:CL _ _ _ _ _ _ (Own w [] [_])) r<|p.qb t
 refine zb (vs:=[.agg #[Vn h,Vn j,Vi a, .string l,Vi c,Vi d,Vn g],Vi m]) O O O<|zb (vs:=[.agg #[Vn h,Vn j,Vi a, .string l,Vi c,Vi d,Vn g],Vi m]) O O O<|zf 0 O O O (zz O) O<|zF O<|zA<|zP<|yk (cs:=[Vn h,Vn j,Vi a, .string l,Vi c,Vi d,Vn g]) (v:=Vi m) O O O qF (Own.qd (i:=0) O)<|fun o p=>⟨h,j,a,l,c,d,g,m,O,n,p.drop⟩
theorem zFn{S:List Nat}(o:Nat)(v:Value)(b:List UInt8)(a:Nat)(bad:Bool)(w:World)(hl:zg b.length)(ha:a≤b.length)(ak:Own w S [Res.row o 470 [v,Vj a, .bool bad]] w)(hb:Rd w S (Res.sl v b.length (b.map vb))):Rets Tryz.prog 436 #[.pointer (some ⟨o,0,none⟩)] w fun u_ e=>∃ (s:Nat) (q:Nat) (op:Nat) (le:Nat) (am:Int) (sp:Int) (a':Nat) (a6:Bool),u_= .agg #[Vn s,Vn q,Vj op,Vn le,Vi am,Vi sp]∧RdS zNt b a bad (⟨s,q,(op:Int),le,am,sp⟩:RepD) a' a6∧Own w S [Res.row o 470 [v,Vj a', .bool a6]] e:=by
 refine zO Tryz.func436 O Tryz.ntmps436 ak<|zB<|zk (v:= .agg #[Vn 0,Vn 0,Vi 0,Vn 0,Vi 0,Vi 0]) qF O<|fun b2=>zA<|zB<|zC O<|zG O O<|fun e d=>(y6 o v b a bad e qI qH (d.give [0] O V)<|d.rdTo hb [0] O).mono ?_
 rintro _ w1 ⟨a7,ad,a3,rfl,l,ae,m⟩
 have al:=l.le
 refine fq [0] O d m<|zC O<|zG O O<|fun e d=>(y6 o v b ad a3 e qI qH (d.give [1] O V)<|d.rdTo hb [1] O).mono ?_
 rintro _ w1 ⟨a8,af,a4,rfl,n,ag,m⟩
 have an:=n.le
 refine fq [1] O d m<|zC O<|zG O O<|fun e d=>(j3 o v b af a4 20 e qI qH qH (d.give [1] O V)<|d.rdTo hb [1] O).mono ?_
 rintro _ w1 ⟨a9,ah,a5,rfl,p,ai,m⟩
 have ao:=p.le
 refine fq [1] O d m<|zC O<|zG O O<|fun e d=>(y6 o v b ah a5 e qI qH (d.give [1] O V)<|d.rdTo hb [1] O).mono ?_
 rintro _ w1 ⟨r,aa,u,rfl,x,aj,m⟩
 have ap:=x.le
 refine fq [1] O d m<|zC O<|zG O O<|fun e d=>(y6 o v b aa u e qI qH (d.give [1] O V)<|d.rdTo hb [1] O).mono ?_
 rintro _ w1 ⟨g,ab,y,rfl,a0,a1,m⟩
 have aq:=a0.le
 refine fq [1] O d m<|yh (c:=x6 g) qF O (kX a1) O ?_ qF
 refine zC O<|zG O O<|fun e d=>(y6 o v b ab y e qI qH (d.give [1] O V)<|d.rdTo hb [1] O).mono ?_
 rintro _ w1 ⟨h,ac,a2,rfl,j,k,m⟩
 refine fq [1] O d m<|yh (c:=x6 h) qF O (kX k) O ?_ qF
 refine yJ (cs:=[Vn a7,Vn a8,Vj a9,Vn r,Vi (x6 g),Vi (x6 h)]) (z:=[Vn 0,Vn 0,Vi 0,Vn 0,Vi 0,Vi 0]) (pl:=[(0,1),(1,1),(2,1),(3,1),(4,1),(5,1)]) qF qF O<|zf 0 O O O (zz O) O<|zA<|zP<|xg (cs:=[Vn a7,Vn a8,Vj a9,Vn r,Vi (x6 g),Vi (x6 h)]) O O qF (Own.qd (i:=0) O)<|fun e d=>⟨a7,a8,a9,r,x6 g,x6 h,ac,a2,O,l.bind<|n.bind<|RdS.bind p.int<|x.bind<|a0.bind<|j.bind<|RdS.pure _ j.le,d.sel [1] O V⟩
structure MsgA where
 kind:Int
 src:Int
 dst:Int
 term:Nat
 index:Nat
 qp:Nat
 qf:Nat
 round:Nat
 flag:Bool
 qs:List EntA
 conf:ConfA
 off:Int
 data:List UInt8
 deriving DecidableEq
structure MsgD where
 kind:Int
 src:Int
 dst:Int
 term:Nat
 index:Nat
 qp:Nat
 qf:Nat
 round:Nat
 flag:Bool
 ev:Value
 qs:List EntD
 conf:ConfD
 off:Int
 dv:Value
 data:List UInt8
def MsgD.a(x:MsgD):MsgA:=⟨x.kind,x.src,x.dst,x.term,x.index,x.qp,x.qf,x.round,x.flag,x.qs.map EntD.toEntA,x.conf.a,x.off,x.data⟩
structure MsgD.wf(x:MsgD):Prop where
 term:x.term<18446744073709551616
 index:x.index<18446744073709551616
 qp:x.qp<18446744073709551616
 qf:x.qf<18446744073709551616
 round:x.round<18446744073709551616
 qs:x.qs.length≤1048576
 each:∀ e∈x.qs,e.wf
 conf:x.conf.few
 fewer:x.conf.vs.length≤1048576∧x.conf.ls.length≤1048576
 data:x.data.length≤1000000000
 all:(x.qs.map fun e=>e.data.length).sum≤100000000
def MsgD.cells(x:MsgD):List Value:=[.int .i64 x.kind, .int .i64 x.src, .int .i64 x.dst, .int .u64 x.term, .int .u64 x.index, .int .u64 x.qp, .int .u64 x.qf, .int .u64 x.round, .bool x.flag,x.ev]++(x.conf.cells++[.int .i64 x.off,x.dv])
structure MsgD.rd(x:MsgD)(w:World)(S:List Nat):Prop where
 ev:Rd w S (Res.sl x.ev x.qs.length (x.qs.flatMap EntD.cells))
 ev_all:∀ p∈x.qs,EntD.rd p w S
 conf:x.conf.rd w S
 dv:Rd w S (Res.sl x.dv x.data.length (x.data.map vb))
def MsgA.head(x:MsgA):Prop:=((1≤x.kind∧x.kind≤9)∧(1≤x.src∧x.src≤16)∧(1≤x.dst∧x.dst≤16)∧(0≤x.off∧x.off≤65536)∧x.data.length≤256∧x.qs.length≤8)∧(if x.kind=7 then x.conf.ok else x.conf.vs.length=0∧x.conf.ls.length=0)
instance iMs1(x:MsgA):Decidable x.head:=by unfold MsgA.head;infer_instance
def MsgA.ok(x:MsgA):Prop:=x.head∧∀ e∈x.qs,e.ok
instance iMs2(x:MsgA):Decidable x.ok:=by unfold MsgA.ok;infer_instance
def zTm(es:List EntA):List UInt8:=es.flatMap EntA.enc
def MsgA.enc(x:MsgA):List UInt8:=yO [u64 x.kind,u64 x.src,u64 x.dst]++yO [x.term,x.index,x.qp,x.qf,x.round]++yO [fl x.flag]++yO [x.qs.length]++zTm x.qs++x.conf.enc++yO [u64 x.off]++dat x.data
def entsD(es:List EntD):List UInt8:=es.flatMap fun e=>e.enc
def MsgD.headB(x:MsgD):List UInt8:=yO ([x.kind,x.src,x.dst].map u64)++yO [x.term,x.index,x.qp,x.qf,x.round]++yO ([x.flag].map fl)++yO ([(x.qs.length:Int)].map u64)
end Go.Proofs.YthpoddkmhfhboaaGreatDoor
