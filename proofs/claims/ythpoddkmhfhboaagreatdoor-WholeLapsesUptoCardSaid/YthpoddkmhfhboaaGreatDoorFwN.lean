import Derived.Test.YthpoddkmhfhboaaGreatDoorConfDec
set_option linter.unusedSectionVars false
set_option linter.unusedSimpArgs false
set_option linter.unusedVariables false
set_option maxRecDepth 10000
namespace Go.Proofs.YthpoddkmhfhboaaGreatDoor
open Go.Sc
def pv(p:Value×List UInt8):List Value:=[p.1]
abbrev BsRd(p:Value×List UInt8)(w:World)(S:List Nat):Prop:=Rd w S (Res.sl p.1 p.2.length (p.2.map vb))
theorem BsRd.at0{p:Value×List UInt8}{w0 w:World}{S:List Nat}{L:List Res}(h:BsRd p w0 S)(a:Own w0 S L w):BsRd p w []:=a.rd0 h
def xq(ps:List (Value×List UInt8)):List UInt8:=ps.flatMap fun p=>dat p.2
theorem zHb(v:Value)(bs:List UInt8)(lv:Value)(ps:List (Value×List UInt8))(w:World)(hb:bs.length+(xq ps).length≤100000000000)(z:zg ps.length)(hv:Rd w [] (Res.sl v bs.length (bs.map vb)))(hl:Rd w [] (Res.sl lv ps.length (ps.flatMap pv)))(a:∀ p∈ps,BsRd p w []):Rets Tryz.prog 316 #[v,lv] w fun q c=>∃ (r:Value),q=r∧Own w [] [Res.vec 5 1 r (bs++xq ps).length ((bs++xq ps).map vb)] c:=by
 have s:bs.length≤100000000000:=by omega
 refine zO Tryz.func316 O Tryz.ntmps316 (Own.start w)<|zB<|zF O<|zA<|zB<|zC O<|zG O O<|fun c b=>(y3 v bs c qI<|b.rd0 hv).mono ?_
 rintro e i ⟨_,rfl,j⟩
 refine(?_:CL _ _ _ _ _ _ (Own w [] [_])) i<|b.qb j
 refine zF O<|zA<|zK<|zB<|zC O<|zn (pR hl) O O<|zC O<|zA<|zU<|xD (fun(k:Nat) (o:Value)=>[(5,o),(10,lv),(11,Vj ps.length),(12,Vj k)]) (fun(k:Nat) (o:Value)=>k≤ps.length) (fun(k:Nat) (o:Value)=>[Res.vec 5 1 o (bs++xq (ps.take k)).length ((bs++xq (ps.take k)).map vb)]) (fun(k:Nat) (o:Value)=>ps.length - k) (fun c b=>⟨0,e,⟨O,O,O,O,trivial⟩,Nat.zero_le _,by simpa [xq]using b⟩)<|fun k o g hΦ=> ?_
 have d:=jG (fun p:Value×List UInt8=>dat p.2) ps (k+1)
 refine zB<|zu O O O<|zA<|zK<|zT O (fun u=> ?_)<|fun u=> ?_
 ·rw[yl qG,List.flatMap_append]at d
  simp only[List.length_append,List.flatMap_cons,List.flatMap_nil,List.append_nil,dat]at d
  have x:(xq (ps.take k)).length+((xS (zc ps k).2.length).length+(zc ps k).2.length)≤(xq ps).length:=d
  refine zN<|zK<|zU<|zB<|yL (pR hl) 1 k O O O qG O<|xC (pR hl) 1 k 0 (fun _=>O) O O qG O O<|zF O<|zA<|ze<|zC O<|zC O<|zn (pR<|a _<|zy qG) O O<|yh qF O (yz qG) O ?_ qF
  refine zG O O<|fun c b=>(zCH o (bs++xq (ps.take k)) (((zc ps k).2).length) c qH qK<|b.qj 0 O).mono ?_
  rintro y i ⟨_,rfl,j⟩
  refine(?_:CL _ _ _ _ _ _ (Own w [] [_,_])) i<|b.qb j
  refine zC O<|zAe (l:=((bs++xq (ps.take k))++xS (((zc ps k).2).length))) (l':=(zc ps k).2) 1 qF O O O (fun c m=>Own.rd (a _<|zy qG) m) qH O<|fun n=>zF O<|zA<|ze<|zr O O (zt qG) O<|zC O<|zx<|fun c b=>⟨k+1,n,⟨O,O,O,O,trivial⟩,qG,by rw[yl qG];have h:=b.one 1 rfl;simpa [xq,dat]using h,qG⟩
 refine zw O<|zB<|zC O<|zF O<|zA<|zP<|zm (v:=o) O O<|fun c b=>⟨o,O,by rw[List.take_of_length_le qG]at b;exact b⟩
theorem zFI{S:List Nat}(o:Nat)(c:Value)(bs:List UInt8)(lv:Value)(ps:List (Value×List UInt8))(w:World)(hb:bs.length+(xq ps).length≤100000000000)(q:zg ps.length)(h:Own w S [Res.bv o yy c bs] w)(hl:Rd w S (Res.sl lv ps.length (ps.flatMap pv)))(b:∀ p∈ps,BsRd p w S):Rets Tryz.prog 278 #[.pointer (some ⟨o,0,none⟩),lv] w fun l d=>∃ (k:Value),l= .tuple #[]∧Own w S [Res.bv o yy k (bs++xq ps)] d:=by
 refine zO Tryz.func278 O Tryz.ntmps278 h<|ze<|zC O<|zC O<|zV O O<|zI (o:=0) O O<|kC [Res.row o yy [c],Res.vec 5 1 c bs.length (bs.map vb)] (fun d a=>a.splitBv (i:=0) (o:=o) (T:=yy) (v:=c) (bs:=bs) O)<|zJ 0 (v:=c) O O O O<|zC O<|zG O O<|fun d a=>(zHb c bs lv ps d qH qI (a.qj 1 O) (a.rd0 hl)<|fun p hp=>BsRd.at0 (b p hp) a).mono ?_
 rintro e m ⟨_,rfl,n⟩
 refine(?_:CL _ _ _ _ _ _ (Own w S [_,_,_])) m<|a.qb n
 refine zV O O<|zI (o:=0) O O<|zS (fun d a=>Own.qa (i:=2) O a)<|fun g=>(zi (cs:=[c]) 0 O O O g O<|zx<|yq O<|fun d a=>⟨e,O,(a.joinBv (i:=0) (j:=2) (o:=o) (T:=yy) (v:=e) (bs:=bs++xq ps) V O O).one 0 O⟩)
structure EntA where
 index:Nat
 term:Nat
 kind:Int
 delta:Int
 data:List UInt8
 deriving DecidableEq,Inhabited
structure EntD extends EntA where
 dv:Value
 deriving Inhabited
structure EntA.wf(x:EntA):Prop where
 index:x.index<18446744073709551616
 term:x.term<18446744073709551616
 data:x.data.length≤1000000000
def EntD.cells(x:EntD):List Value:=[.int .u64 x.index, .int .u64 x.term, .int .i64 x.kind, .int .i64 x.delta,x.dv]
structure EntD.rd(x:EntD)(w:World)(S:List Nat):Prop where
 dv:Rd w S (Res.sl x.dv x.data.length (x.data.map vb))
theorem EntD.rd.at0{x:EntD}{w0 w:World}{S:List Nat}{L:List Res}(h:x.rd w0 S)(a:Own w0 S L w):x.rd w []:=⟨a.rd0 h.dv⟩
theorem EntD.rd.at{x:EntD}{w0 w:World}{S:List Nat}{L Lin:List Res}(h:x.rd w0 S)(a:Own w0 S L w)(m:List Nat)(b:m.mapM (fun i=>L[i]?)=some Lin):x.rd w (xL Lin):=⟨a.rdTo h.dv m b⟩
def EntD.dres(x:EntD):Res:=Res.vec 5 1 x.dv x.data.length (x.data.map vb)
theorem EntD.dres_rd{x:EntD}{w:World}{S:List Nat}(h:Rd w S x.dres):x.rd w S:=⟨h.sub Vec.sl zAA⟩
theorem EntD.rd.star0{es:List EntD}{w0 w:World}{S:List Nat}{L:List Res}(j:Nat)(a:L[j]?=some (Res.star (es.map EntD.dres)))(h:Own w0 S L w):∀ p∈es,p.rd w []:=fun p hp=>EntD.dres_rd (h.star0 j a _ (List.mem_map_of_mem hp))
theorem EntD.rd.star{es:List EntD}{w0 w:World}{S:List Nat}{L Lin:List Res}(j:Nat)(a:L[j]?=some (Res.star (es.map EntD.dres)))(m:List Nat)(b:m.mapM (fun i=>L[i]?)=some Lin)(c:m.any (Nat.beq j)=false)(h:Own w0 S L w):∀ p∈es,p.rd w (xL Lin):=fun p hp=>EntD.dres_rd (h.star j a m b c _ (List.mem_map_of_mem hp))
def EntA.ok(x:EntA):Prop:=((1≤x.index∧1≤x.term)∧(x.index≤4611686018427387904∧x.term≤4611686018427387904)∧(0≤x.delta∧x.delta≤1099511627776)∧x.data.length≤4096)∧
 if x.kind=1 then x.data.length=0 else if x.kind=3 then(zAJ x.data).isSome=true else x.kind=2
instance (x:EntA):Decidable x.ok:=by unfold EntA.ok;infer_instance
def EntA.enc(x:EntA):List UInt8:=yO [x.index,x.term,u64 x.kind,u64 x.delta]++dat x.data
theorem EntA.enc_le{x:EntA}(h:x.wf):x.enc.length≤x.data.length+60:=by
 have h1:=yS (ns:=[x.index,x.term,u64 x.kind,u64 x.delta]) (by have:=h.index;have:=h.term;simp[ya, *])
 have h2:=xz x.data (by have:=h.data;omega)
 simp only[EntA.enc,List.length_append,List.length_cons,List.length_nil]at *
 omega
theorem ValPost.iff{α:Type}{d:Option α}{x z:α}{e:Int}(h:ValPost d x z e):e=0↔d.isSome=true:=by
 rcases h with⟨rfl,h⟩|⟨rfl,h,_⟩<;>simp[h]
theorem zIB(x:EntD)(w:World)(hx:x.wf)(j:EntD.rd x w []):Rets Tryz.prog 427 #[.agg (EntD.cells x).toArray] w fun u_ l=>u_= .bool (decide x.ok)∧Own w [] [] l:=by
 have hd:=hx.data
 have h1:=hx.index
 have h2:=hx.term
 refine zO Tryz.func427 O Tryz.ntmps427 (Own.start w)<|zB<|zj O O<|fun b1=>zF O<|zA<|zK<|zB<|zI (o:=0) O O<|zJ 0 (v:=Vn x.index) O O O O<|zu O O O<|zC O<|yP (q:=((x.index:Nat):Int)<((1:Nat):Int)) 3 3 [11,10,9] (((x.term:Nat):Int)<((1:Nat):Int)) O O O O O O trivial O (fun k=> ?_)<|fun a4=> ?_
 ·refine zQ O (gF k)<|zI (o:=1) O O<|zQ O (gF k)<|zJ 0 (v:=Vn x.term) O O O O<|zQ O (gF k)<|zu O O O<|z8 O<|fun _ a=>a
 refine zC O<|yP (q:=(((x.index:Nat):Int)<((1:Nat):Int))∨(((x.term:Nat):Int)<((1:Nat):Int))) 6 8 [19,18,17,16,15,14] (((4611686018427387904:Nat):Int)<((max x.index x.term:Nat):Int)) O O O O O O trivial O (fun b=> ?_)<|fun a0=> ?_
 ·refine zQ O (gF b)<|zI (o:=0) O O<|zQ O (gF b)<|zJ 0 (v:=Vn x.index) O O O O<|zQ O (gF b)<|zI (o:=1) O O<|zQ O (gF b)<|zJ 0 (v:=Vn x.term) O O O O<|zQ O (gF b)<|zCi (c:=((max x.index x.term:Nat):Int)) O O (zMi _ _) O<|zQ O (gF b)<|yY O O O<|z8 O<|fun _ a=>a
 refine zC O<|yP (q:=((((x.index:Nat):Int)<((1:Nat):Int))∨(((x.term:Nat):Int)<((1:Nat):Int)))∨(((4611686018427387904:Nat):Int)<((max x.index x.term:Nat):Int))) 3 16 [24,23,22] (x.delta<0) O O O O O O trivial O (fun e=> ?_)<|fun a1=> ?_
 ·refine zQ O (gF e)<|zI (o:=3) O O<|zQ O (gF e)<|zJ 0 (v:=Vi x.delta) O O O O<|zQ O (gF e)<|zu O O O<|z8 O<|fun _ a=>a
 refine zC O<|yP (q:=(((((x.index:Nat):Int)<((1:Nat):Int))∨(((x.term:Nat):Int)<((1:Nat):Int)))∨(((4611686018427387904:Nat):Int)<((max x.index x.term:Nat):Int)))∨(x.delta<0)) 3 21 [29,28,27] (1099511627776<x.delta) O O O O O O trivial O (fun g=> ?_)<|fun a2=> ?_
 ·refine zQ O (gF g)<|zI (o:=3) O O<|zQ O (gF g)<|zJ 0 (v:=Vi x.delta) O O O O<|zQ O (gF g)<|yY O O O<|z8 O<|fun _ a=>a
 refine zC O<|yP (q:=((((((x.index:Nat):Int)<((1:Nat):Int))∨(((x.term:Nat):Int)<((1:Nat):Int)))∨(((4611686018427387904:Nat):Int)<((max x.index x.term:Nat):Int)))∨(x.delta<0))∨(1099511627776<x.delta)) 4 26 [35,34,33,32] (4096<((x.data.length:Nat):Int)) O O O O O O trivial O (fun d=> ?_)<|fun a3=> ?_
 ·refine zQ O (gF d)<|zI (o:=4) O O<|zQ O (gF d)<|zJ 0 (v:=x.dv) O O O O<|zQ O (gF d)<|zn (pR j.dv) O O<|zQ O (gF d)<|yY O O O<|z8 O<|fun _ a=>a
 refine zA<|zT O (fun c1=> ?_)<|fun c1=> ?_
 ·refine zB<|zF O<|zA<|zP<|zm (v:=yC) O O<|fun l a=>⟨(by rw[decide_eq_false];rintro⟨h,_⟩;omega),a.drop⟩
 refine zN<|zK<|zB<|zI (o:=2) O O<|zJ 0 (v:=Vi x.kind) O O O O<|zA<|zU<|zB<|yT O O O<|zF O<|zA<|zT O (fun z=> ?_)<|fun z=> ?_
 ·refine zB<|zI (o:=4) O O<|zJ 0 (v:=x.dv) O O O O<|zn (pR j.dv) O O<|yT O O O<|zF O<|zA<|zP<|zm (v:= .bool (decide (((x.data.length:Nat):Int)=0))) O O<|fun l a=>⟨(by congr 1;exact decide_eq_decide.2 (by unfold EntA.ok;rw[if_pos z];exact⟨fun h=>⟨by omega,by omega⟩,fun h=>by have:=h.2;omega⟩)),a.drop⟩
 refine zB<|yT O O O<|zF O<|zA<|zT O (fun c3=> ?_)<|fun c3=> ?_
 ·refine zB<|zI (o:=4) O O<|zJ 0 (v:=x.dv) O O O O<|zG O O<|fun l a=>(zGf x.dv x.data l qI<|a.rd0 j.dv).mono ?_
  rintro _ w1 ⟨m,a5,n,a6,p,rfl,r,s,t,hO⟩
  refine(?_:CL _ _ _ _ _ _ (Own w [] [_,_,_])) w1<|a.qb hO
  refine zC O<|zb (vs:=[.agg #[m,n],Vi p]) O O O<|zb (vs:=[.agg #[m,n],Vi p]) O O O<|zk (v:= .agg #[zW,zW]) qF O<|fun b3=>(zS (fun l a=>Own.qa (i:=1) O a)<|fun u=>(zS (fun l a=>Own.qa (i:=2) O a)<|fun y=>(zf 3 O O O (zH u<|zH y zh) O<|zF O<|zA<|zB<|zC O<|yT O O O<|zF O<|zA<|zP<|zm (v:= .bool (decide (p=0))) O O<|fun l a=>⟨(by congr 1;exact decide_eq_decide.2 (by unfold EntA.ok;rw[if_neg z,if_pos c3,←r.iff];exact⟨fun h=>⟨by omega,h⟩,fun h=>h.2⟩)),a.drop⟩)))
 refine zN<|zB<|zI (o:=2) O O<|zJ 0 (v:=Vi x.kind) O O O O<|yT O O O<|zF O<|zA<|zP<|zm (v:= .bool (decide (x.kind=2))) O O<|fun l a=>⟨(by congr 1;exact decide_eq_decide.2 (by unfold EntA.ok;rw[if_neg z,if_neg c3];exact⟨fun h=>⟨by omega,h⟩,fun h=>h.2⟩)),a.drop⟩
theorem zG1{S:List Nat}(o:Nat)(q:Value)(bs:List UInt8)(x:EntD)(w:World)(i:x.wf)(hb:bs.length+x.enc.length≤10000000000)(j:Own w S [Res.bv o yy q bs] w)(b:EntD.rd x w S):Rets Tryz.prog 428 #[.pointer (some ⟨o,0,none⟩), .agg (EntD.cells x).toArray] w fun r g=>∃ (k:Value),r= .tuple #[]∧Own w S [Res.bv o yy k (bs++x.enc)] g:=by
 have u:=i.data
 have h1:=i.index
 have h2:=i.term
 have y:x.enc.length=(yO [x.index,x.term,u64 x.kind,u64 x.delta]).length+(dat x.data).length:=by simp[EntA.enc]
 refine zO Tryz.func428 O Tryz.ntmps428 j<|zB<|zj O O<|fun z=>zA<|zB<|zC O<|zI (o:=0) O O<|zJ 1 (v:=Vn x.index) O O O O<|zI (o:=1) O O<|zJ 1 (v:=Vn x.term) O O O O<|zI (o:=2) O O<|zJ 1 (v:=Vi x.kind) O O O O<|yh qF O (y0 _) O ?_ qF
 refine zI (o:=3) O O<|zJ 1 (v:=Vi x.delta) O O O O<|yh qF O (y0 _) O ?_ qF
 refine yH (e:=31) (sz:=1) (vs:=[Vn x.index,Vn x.term,Vn (u64 x.kind),Vn (u64 x.delta)]) qF O O qL V O<|fun l=>zG O O<|fun g a=>(jH o _ _ (.slice (some ⟨l,0,none⟩) 4 4) [x.index,x.term,u64 x.kind,u64 x.delta] g qT qK (a.give [0] O V)<|a.rdVec 2 O [0] O O).mono ?_
 rintro _ s ⟨c,rfl,m⟩
 refine fq [0] O a m<|zA<|ze<|zC O<|zI (o:=4) O O<|zJ 0 (v:=x.dv) O O O O<|ko (e:=73) (vs:=[x.dv]) qF O O (zH (Sl.cell1<|Rd.φ b.dv) zh) V O<|fun n=>zG O O<|fun g a=>(zFI o c (bs++yO [x.index,x.term,u64 x.kind,u64 x.delta]) (.slice (some ⟨n,0,none⟩) 1 1) [(x.dv,x.data)] g (by simp[xq];omega) (by show 1≤_;omega) (a.give [2] O V) (a.rdVec 3 O [2] O O)<|all_cons (a.rdTo b.dv [2] O) (fun p hp=>by cases hp)).mono ?_
 rintro _ s ⟨d,rfl,m⟩
 refine fq [2] O a m<|zx<|yq O<|fun g a=>⟨d,O,by have h:=a.one 3 rfl;simpa [EntA.enc,xq]using h⟩
theorem zJ9(w:World):Rets Tryz.prog 288 #[] w fun b a=>b= .agg #[.func (.func 427) #[] #[], .func (.func 428) #[] #[], .func (.func 429) #[] #[]]∧Own w [] [] a:=by
 refine zO Tryz.func288 O Tryz.ntmps288 (Own.start w)<|zB<|zk (v:= .agg #[.nilFunc, .nilFunc, .nilFunc]) qF O<|fun d=>zA<|zB<|yJ (cs:=[.func (.func 427) #[] #[], .func (.func 428) #[] #[], .func (.func 429) #[] #[]]) (z:=[.nilFunc, .nilFunc, .nilFunc]) (pl:=[(0,1),(1,1),(2,1)]) qF qF O<|zf 0 O O O (zz O) O<|zA<|zP<|xg (cs:=[.func (.func 427) #[] #[], .func (.func 428) #[] #[], .func (.func 429) #[] #[]]) O O qF (Own.qd (i:=0) O)<|fun a c=>⟨O,c.drop⟩
theorem zGt(x:EntD)(w:World)(k:x.wf)(e:EntD.rd x w []):Rets Tryz.prog 483 #[.agg #[.func (.func 427) #[] #[], .func (.func 428) #[] #[], .func (.func 429) #[] #[]], .agg (EntD.cells x).toArray] w fun p c=>∃ (r:Value),p= .tuple #[r,Vi (yI x.ok)]∧Own w [] [Res.vec 5 1 r (if x.ok then x.enc else []).length ((if x.ok then x.enc else []).map vb)] c:=by
 have s:=k.data
 have hl:=EntA.enc_le k
 refine zO Tryz.func483 O Tryz.ntmps483 (Own.start w)<|zB<|zj O O<|fun l=>zj O O<|fun m=>zF O<|zF O<|zA<|zK<|zB<|zI (o:=0) O O<|zJ 0 (v:= .func (.func 427) #[] #[]) O O O O<|z6 (cs:=(EntD.cells x)) 1 O O O<|yM (fst:=[]) (cap:=[]) O qF O O<|fun c b=>(zIB x c ‹_› (e.at0 b)).mono ?_
 rintro _ n ⟨rfl,h⟩
 refine(?_:CL _ _ _ _ _ _ (Own w [] [_,_])) n<|b.qb h
 refine xQ (q:=x.ok) O O<|zA<|zT O (fun g=> ?_)<|fun g=> ?_
 ·refine zB<|zF O<|zF O<|zA<|zP<|yg (v:=zW) (v':=Vi 2) O O O<|fun c b=>⟨.slice none 0 0,(by rw[jr g]),by rw[if_neg g];exact(zq b T8 1).one 2 rfl⟩
 refine zN<|zB<|yJ (cs:=[zW]) (z:=[zW]) (pl:=[(0,1)]) qF qF O<|zj O O<|fun d=>zF O<|zA<|zB<|zI (o:=1) O O<|zJ 0 (v:= .func (.func 428) #[] #[]) O O O O<|zC O<|z6 (cs:=(EntD.cells x)) 1 O O O<|kC [Res.row l 485 [.func (.func 427) #[] #[], .func (.func 428) #[] #[], .func (.func 429) #[] #[]],Res.row m 113 (EntD.cells x),Res.bv d yy zW ([]:List UInt8)] (fun c b=>(zq b T8 1).joinBv (i:=2) (j:=3) V O O)<|yM (fst:=[]) (cap:=[]) O qF O O<|fun c b=>(zG1 d zW ([]:List UInt8) x c ‹_› qK (b.give [2] O V)<|e.at b [2] O).mono ?_
 rintro _ n ⟨a,rfl,h⟩
 refine fq [2] O b h<|zA<|zB<|zC O<|zV O O<|zI (o:=0) O O<|kC [Res.row l 485 [.func (.func 427) #[] #[], .func (.func 428) #[] #[], .func (.func 429) #[] #[]],Res.row m 113 (EntD.cells x),Res.row d yy [a],Res.vec 5 1 a (([]:List UInt8)++x.enc).length ((([]:List UInt8)++x.enc).map vb)] (fun c b=>b.splitBv (i:=2) (o:=d) (T:=yy) (v:=a) (bs:=(([]:List UInt8)++x.enc)) O)<|zJ 2 (v:=a) O O O O<|zF O<|zF O<|zA<|zP<|yg (v:=a) (v':=Vi 0) O O O<|fun c b=>⟨a,(by rw[xp (Decidable.not_not.1 g)]),by rw[if_pos (Decidable.not_not.1 g)];exact b.one 3 rfl⟩
theorem zBW(x:EntD)(w:World)(j:x.wf)(e:EntD.rd x w []):Rets Tryz.prog 391 #[.agg (EntD.cells x).toArray] w fun i b=>∃ (r:Value),i= .tuple #[r,Vi (yI x.ok)]∧Own w [] [Res.vec 5 1 r (if x.ok then x.enc else []).length ((if x.ok then x.enc else []).map vb)] b:=by
 refine zO Tryz.func391 O Tryz.ntmps391 (Own.start w)<|zB<|zj O O<|fun k=>zF O<|zF O<|zA<|zK<|zd [0] O V qF<|fun b a d=>zD 1 O (xG (cs:=(EntD.cells x)) 0 O O) d<|zM 0 O a<|zG O O<|fun b a=>(zJ9 b).mono ?_
 rintro _ g ⟨rfl,h⟩
 refine(?_:CL _ _ _ _ _ _ (Own w [] [_])) g<|a.qb h
 refine zE [0] O V<|fun b a d=>zM 2 O a<|zG O O<|fun b a=>(zGt x b ‹_› (e.at0 a)).mono ?_
 rintro _ g ⟨c,rfl,h⟩
 refine(?_:CL _ _ _ _ _ _ (Own w [] [_,_])) g<|a.qb h
 refine zE [0] O V<|fun b a d=>zD 3 O (yG (vs:=[c,Vi (yI x.ok)]) O O) d<|zD 4 O (yG (vs:=[c,Vi (yI x.ok)]) O O) d<|zD 5 O yB d<|zD 6 O yB d<|zX<|(?_:C _ _ _ _ _ _ _ (Own w [] [_,_])) _ a
 exact zP<|yg (v:=c) (v':=Vi (yI x.ok)) O O O<|fun b a=>⟨c,O,a.sel [1] O V⟩
structure ShtA where
 index:Nat
 term:Nat
 conf:ConfA
 data:List UInt8
 deriving DecidableEq
structure ShtD where
 index:Nat
 term:Nat
 conf:ConfD
 dv:Value
 data:List UInt8
def ShtD.a(x:ShtD):ShtA:=⟨x.index,x.term,x.conf.a,x.data⟩
structure ShtD.wf(x:ShtD):Prop where
 index:x.index<18446744073709551616
 term:x.term<18446744073709551616
 conf:x.conf.few
 data:x.data.length≤1000000000
def ShtD.cells(x:ShtD):List Value:=[.int .u64 x.index, .int .u64 x.term]++(x.conf.cells++[x.dv])
structure ShtD.rd(x:ShtD)(w:World)(S:List Nat):Prop where
 conf:x.conf.rd w S
 dv:Rd w S (Res.sl x.dv x.data.length (x.data.map vb))
theorem ShtD.rd.at0{x:ShtD}{w0 w:World}{S:List Nat}{L:List Res}(h:x.rd w0 S)(a:Own w0 S L w):x.rd w []:=⟨h.conf.at0 a,a.rd0 h.dv⟩
theorem ShtD.rd.at{x:ShtD}{w0 w:World}{S:List Nat}{L Lin:List Res}(h:x.rd w0 S)(a:Own w0 S L w)(m:List Nat)(b:m.mapM (fun i=>L[i]?)=some Lin):x.rd w (xL Lin):=⟨h.conf.at a m b,a.rdTo h.dv m b⟩
def ShtA.ok(x:ShtA):Prop:=(((x.conf.ok∧x.data.length≤32768)∧(x.index=0↔x.term=0))∧x.index≤4611686018427387904)∧x.term≤4611686018427387904
instance (x:ShtA):Decidable x.ok:=inferInstanceAs (Decidable ((((_∧_)∧_)∧_)∧_))
def ConfA.enc(c:ConfA):List UInt8:=zE9 c.vs++zE9 c.ls
def ShtA.enc(x:ShtA):List UInt8:=yO [x.index,x.term]++x.conf.enc++dat x.data
theorem ConfD.enc_le{c:ConfD}:c.enc.length≤9*(c.vs.length+c.ls.length+2):=by
 have h1:=zAc c.vs
 have h2:=zAc c.ls
 simp only[ConfD.enc,List.length_append];omega
theorem ShtD.enc_le{x:ShtD}(h:x.wf):x.a.enc.length≤x.data.length+9*(x.conf.vs.length+x.conf.ls.length+2)+40:=by
 have h1:=yS (ns:=[x.index,x.term]) (by have:=h.index;have:=h.term;simp[*])
 have h2:=xz x.data (by have:=h.data;omega)
 have b:x.a.conf.enc.length≤_:=x.conf.enc_le
 have e:x.a.enc.length=(yO [x.index,x.term]).length+x.a.conf.enc.length+(dat x.data).length:=by simp[ShtA.enc,ShtD.a];omega
 simp only[List.length_cons,List.length_nil]at h1
 omega
def confsC:List Value:=[.func (.func 419) #[] #[], .func (.func 423) #[] #[], .func (.func 425) #[] #[]]
theorem zHq(x:ShtD)(cb:Nat)(w:World)(l:x.wf)(j:Rd w [] (Res.row cb 479 [.func (.func 419) #[] #[], .func (.func 423) #[] #[], .func (.func 425) #[] #[]]))(i:ShtD.rd x w []):Rets Tryz.prog 345 #[.agg (ShtD.cells x).toArray, .pointer (some ⟨cb,0,none⟩)] w fun r k=>r= .bool (decide x.a.ok)∧Own w [] [] k:=by
 have y:=l.data
 have z:=l.conf
 have hc:=l.conf.wf
 refine zO Tryz.func345 O Tryz.ntmps345 (Own.start w) (zB (zj O O (fun b2=>zF O (zA (zB (zI (o:=0) O O (zAT (v:= .func (.func 419) #[] #[]) O (j.φ.cell O) (j.far _ qM) qF O (zI (o:=2) O O (xI 0 (ConfD.cells x.conf) O O (yj 2 O) qF O (yM (fst:=[]) (cap:=[]) O qF O O (fun k g=>(jd x.conf k ‹_› (i.conf.at0 g)).mono ?_)))))))))))
 rintro _ s ⟨rfl,u⟩
 refine(?_:CL _ _ _ _ _ _ (Own w [] [_])) s (g.qb u)
 refine zC O (yA (q:=x.conf.ok) 4 5 [13,12,11,10] (((x.data.length:Nat):Int)≤32768) O O O O O O trivial O (fun e=> ?_) (fun m=> ?_))
 ·refine zQ O (gT e) (zI (o:=4) O O (zQ O (gT e) (zJ 0 (v:=x.dv) O O O O (zQ O (gT e) (zn (pR i.dv) O O (zQ O (gT e) (yx O O O (z8 O (fun _ g=>g)))))))))
 refine zC O (yA (q:=x.conf.ok∧(((x.data.length:Nat):Int)≤32768)) 7 11 [22,21,20,19,18,17,16] ((((x.index:Nat):Int)=((0:Nat):Int))↔(((x.term:Nat):Int)=((0:Nat):Int))) O O O O O O trivial O (fun b=> ?_) (fun n=> ?_))
 ·refine zQ O (gT b) (zI (o:=0) O O (zQ O (gT b) (zJ 0 (v:=Vn x.index) O O O O (zQ O (gT b) (yT O O O (zQ O (gT b) (zI (o:=1) O O (zQ O (gT b) (zJ 0 (v:=Vn x.term) O O O O (zQ O (gT b) (yT O O O (zQ O (gT b) (zSX qF O O O (z8 O (fun _ g=>g)))))))))))))))
 refine zC O (yA (q:=(x.conf.ok∧(((x.data.length:Nat):Int)≤32768))∧((((x.index:Nat):Int)=((0:Nat):Int))↔(((x.term:Nat):Int)=((0:Nat):Int)))) 6 20 [30,29,28,27,26,25] (((max x.index x.term:Nat):Int)≤((4611686018427387904:Nat):Int)) O O O O O O trivial O (fun d=> ?_) (fun p=> ?_))
 ·refine zQ O (gT d) (zI (o:=0) O O (zQ O (gT d) (zJ 0 (v:=Vn x.index) O O O O (zQ O (gT d) (zI (o:=1) O O (zQ O (gT d) (zJ 0 (v:=Vn x.term) O O O O (zQ O (gT d) (zCi (c:=((max x.index x.term:Nat):Int)) O O (zMi _ _) O (zQ O (gT d) (yx O O O (z8 O (fun _ g=>g)))))))))))))
 refine zF O (zA (zP (zm (v:= .bool (decide (((x.conf.ok∧(((x.data.length:Nat):Int)≤32768))∧((((x.index:Nat):Int)=((0:Nat):Int))↔(((x.term:Nat):Int)=((0:Nat):Int))))∧(((max x.index x.term:Nat):Int)≤((4611686018427387904:Nat):Int))))) O O (fun k g=>⟨(by congr 1;exact decide_eq_decide.2 (by unfold ShtA.ok ShtD.a;dsimp only;exact⟨fun h=>⟨⟨⟨⟨h.1.1.1,by have:=h.1.1.2;omega⟩,by have:=h.1.2;omega⟩,by have:=h.2;omega⟩,by have:=h.2;omega⟩,fun h=>⟨⟨⟨h.1.1.1.1,by have:=h.1.1.1.2;omega⟩,by have:=h.1.1.2;omega⟩,by have:=h.1.2;have:=h.2;omega⟩⟩)),g.drop⟩))))
theorem zHG{S:List Nat}(o:Nat)(y:Value)(bs:List UInt8)(x:ShtD)(cb:Nat)(w:World)(k:x.wf)(hb:bs.length+x.a.enc.length≤50000000000)(n:Own w S [Res.bv o yy y bs] w)(l:Rd w S (Res.row cb 479 [.func (.func 419) #[] #[], .func (.func 423) #[] #[], .func (.func 425) #[] #[]]))(c:ShtD.rd x w S):Rets Tryz.prog 346 #[.pointer (some ⟨o,0,none⟩), .agg (ShtD.cells x).toArray, .pointer (some ⟨cb,0,none⟩)] w fun z d=>∃ (q:Value),z= .tuple #[]∧Own w S [Res.bv o yy q (bs++x.a.enc)] d:=by
 have hd:=k.data
 have h1:=k.index
 have h2:=k.term
 have hv:=k.conf.vs
 have hl:=k.conf.ls
 have a0:=x.conf.enc_le
 have he:x.a.enc.length=(yO [x.index,x.term]).length+x.conf.enc.length+(dat x.data).length:=by simp[ShtA.enc,ShtD.a,ConfD.enc,ConfA.enc,ConfD.a];omega
 refine zO Tryz.func346 O Tryz.ntmps346 n (zB (zj O O (fun b4=>zA (zB (zC O (zI (o:=0) O O (zJ 1 (v:=Vn x.index) O O O O (zI (o:=1) O O (zJ 1 (v:=Vn x.term) O O O O (yH (e:=31) (sz:=1) (vs:=[Vn x.index,Vn x.term]) qF O O qL V O (fun r=>zG O O (fun d b=>(jH o _ _ (.slice (some ⟨r,0,none⟩) 2 2) [x.index,x.term] d qT qK (b.give [0] O V) (b.rdVec 2 O [0] O O)).mono ?_))))))))))))
 rintro _ u ⟨g,rfl,m⟩
 refine fq [0] O b m (zA (zB (zI (o:=1) O O (zAT (v:= .func (.func 423) #[] #[]) O (l.φ.cell O) (l.far _ qM) qF O (zC O (zI (o:=2) O O (xI 0 (ConfD.cells x.conf) O O (yj 2 O) qF O (yM (fst:=[]) (cap:=[]) O qF O O (fun d b=>(zCk o g (bs++yO [x.index,x.term]) x.conf d qK (b.give [2] O V) (c.conf.at b [2] O)).mono ?_)))))))))
 rintro _ u ⟨i,rfl,m⟩
 refine fq [2] O b m (zA (ze (zC O (zI (o:=4) O O (zJ 0 (v:=x.dv) O O O O (ko (e:=73) (vs:=[x.dv]) qF O O (zH (Sl.cell1 (Rd.φ c.dv)) zh) V O (fun s=>zG O O (fun d b=>(zFI o i ((bs++yO [x.index,x.term])++x.conf.enc) (.slice (some ⟨s,0,none⟩) 1 1) [(x.dv,x.data)] d (by simp[xq];omega) (by show 1≤_;omega) (b.give [2] O V) (b.rdVec 3 O [2] O O) (all_cons (b.rdTo c.dv [2] O) (fun p hp=>by cases hp))).mono ?_))))))))
 rintro _ u ⟨j,rfl,m⟩
 refine fq [2] O b m (zx (yq O (fun d b=>⟨j,O,by have h:=b.one 3 rfl;simpa [ShtA.enc,ShtD.a,ConfD.enc,ConfA.enc,ConfD.a,xq]using h⟩)))
theorem zPQ(w:World):Rets Tryz.prog 204 #[] w fun d b=>∃ (cb:Nat),d= .agg #[.func (.func 345) #[] #[.pointer (some ⟨cb,0,none⟩)], .func (.func 346) #[] #[.pointer (some ⟨cb,0,none⟩)], .func (.func 347) #[] #[.pointer (some ⟨cb,0,none⟩)]]∧Own w [] [Res.row cb 479 [.func (.func 419) #[] #[], .func (.func 423) #[] #[], .func (.func 425) #[] #[]]] b:=by
 refine zO Tryz.func204 O Tryz.ntmps204 (Own.start w) (zB (zk (v:= .agg #[.nilFunc, .nilFunc, .nilFunc]) qF O (fun h=>zA (zB (zG O O (fun b c=>(zFG b).mono ?_))))))
 rintro _ e ⟨rfl,g⟩
 refine(?_:CL _ _ _ _ _ _ (Own w [] [_])) e (c.qb g)
 refine zk (v:= .agg #[.nilFunc, .nilFunc, .nilFunc]) qF O (fun a=>zf 1 O O O (zz O) O (zA (zB (j7 (va:=[]) (vb:=[.pointer (some ⟨a,0,none⟩)]) O O O (j7 (va:=[]) (vb:=[.pointer (some ⟨a,0,none⟩)]) O O O (j7 (va:=[]) (vb:=[.pointer (some ⟨a,0,none⟩)]) O O O (yJ (cs:=[.func (.func 345) #[] #[.pointer (some ⟨a,0,none⟩)], .func (.func 346) #[] #[.pointer (some ⟨a,0,none⟩)], .func (.func 347) #[] #[.pointer (some ⟨a,0,none⟩)]]) (z:=[.nilFunc, .nilFunc, .nilFunc]) (pl:=[(0,1),(1,1),(2,1)]) qF qF O (zf 0 O O O (zz O) O (zA (zP (xg (cs:=[.func (.func 345) #[] #[.pointer (some ⟨a,0,none⟩)], .func (.func 346) #[] #[.pointer (some ⟨a,0,none⟩)], .func (.func 347) #[] #[.pointer (some ⟨a,0,none⟩)]]) O O qF (Own.qd (i:=0) O) (fun b c=>⟨a,O,c.sel [1] O V⟩))))))))))))
theorem zGv(x:ShtD)(cb:Nat)(w:World)(l:x.wf)(h:Rd w [] (Res.row cb 479 [.func (.func 419) #[] #[], .func (.func 423) #[] #[], .func (.func 425) #[] #[]]))(g:ShtD.rd x w []):Rets Tryz.prog 205 #[.agg #[.func (.func 345) #[] #[.pointer (some ⟨cb,0,none⟩)], .func (.func 346) #[] #[.pointer (some ⟨cb,0,none⟩)], .func (.func 347) #[] #[.pointer (some ⟨cb,0,none⟩)]], .agg (ShtD.cells x).toArray] w fun u d=>∃ (r:Value),u= .tuple #[r,Vi (yI x.a.ok)]∧Own w [] [Res.vec 5 1 r (if x.a.ok then x.a.enc else []).length ((if x.a.ok then x.a.enc else []).map vb)] d:=by
 have hd:=l.data
 have y:=ShtD.enc_le l
 have hv:=l.conf.vs
 have hl:=l.conf.ls
 refine zO Tryz.func205 O Tryz.ntmps205 (Own.start w) (zB (zj O O (fun n=>zj O O (fun p=>zF O (zF O (zA (zK (zB (zI (o:=0) O O (zJ 0 (v:= .func (.func 345) #[] #[.pointer (some ⟨cb,0,none⟩)]) O O O O (z6 (cs:=(ShtD.cells x)) 1 O O O (yM (fst:=[]) (cap:=[.pointer (some ⟨cb,0,none⟩)]) O qF O O (fun d c=>(zHq x cb d ‹_› (c.rd0 h) (g.at0 c)).mono ?_)))))))))))))
 rintro _ s ⟨rfl,m⟩
 refine(?_:CL _ _ _ _ _ _ (Own w [] [_,_])) s (c.qb m)
 refine xQ (q:=x.a.ok) O O (zA (zT O (fun k=> ?_) (fun k=> ?_)))
 ·refine zB (zF O (zF O (zA (zP (yg (v:=zW) (v':=Vi 2) O O O (fun d c=>⟨.slice none 0 0,(by rw[jr k]),by rw[if_neg k];exact(zq c T8 1).one 2 rfl⟩))))))
 refine zN (zB (yJ (cs:=[zW]) (z:=[zW]) (pl:=[(0,1)]) qF qF O (zj O O (fun e=>zF O (zA (zB (zI (o:=1) O O (zJ 0 (v:= .func (.func 346) #[] #[.pointer (some ⟨cb,0,none⟩)]) O O O O (zC O (z6 (cs:=(ShtD.cells x)) 1 O O O (kC [Res.row n 364 [.func (.func 345) #[] #[.pointer (some ⟨cb,0,none⟩)], .func (.func 346) #[] #[.pointer (some ⟨cb,0,none⟩)], .func (.func 347) #[] #[.pointer (some ⟨cb,0,none⟩)]],Res.row p 180 (ShtD.cells x),Res.bv e yy zW ([]:List UInt8)] (fun d c=>(zq c T8 1).joinBv (i:=2) (j:=3) V O O) (yM (fst:=[]) (cap:=[.pointer (some ⟨cb,0,none⟩)]) O qF O O (fun d c=>(zHG e zW ([]:List UInt8) x cb d ‹_› qK (c.give [2] O V) (c.rdTo h [2] O) (g.at c [2] O)).mono ?_)))))))))))))
 rintro _ s ⟨b,rfl,m⟩
 refine fq [2] O c m (zA (zB (zC O (zV O O (zI (o:=0) O O (kC [Res.row n 364 [.func (.func 345) #[] #[.pointer (some ⟨cb,0,none⟩)], .func (.func 346) #[] #[.pointer (some ⟨cb,0,none⟩)], .func (.func 347) #[] #[.pointer (some ⟨cb,0,none⟩)]],Res.row p 180 (ShtD.cells x),Res.row e yy [b],Res.vec 5 1 b (([]:List UInt8)++x.a.enc).length ((([]:List UInt8)++x.a.enc).map vb)] (fun d c=>c.splitBv (i:=2) (o:=e) (T:=yy) (v:=b) (bs:=(([]:List UInt8)++x.a.enc)) O) (zJ 2 (v:=b) O O O O (zF O (zF O (zA (zP (yg (v:=b) (v':=Vi 0) O O O (fun d c=>⟨b,(by rw[xp (Decidable.not_not.1 k)]),by rw[if_pos (Decidable.not_not.1 k)];exact c.one 3 rfl⟩)))))))))))))
theorem zEU(x:ShtD)(w:World)(l:x.wf)(g:ShtD.rd x w []):Rets Tryz.prog 110 #[.agg (ShtD.cells x).toArray] w fun k c=>∃ (r:Value),k= .tuple #[r,Vi (yI x.a.ok)]∧Own w [] [Res.vec 5 1 r (if x.a.ok then x.a.enc else []).length ((if x.a.ok then x.a.enc else []).map vb)] c:=by
 refine zO Tryz.func110 O Tryz.ntmps110 (Own.start w) (zB (zj O O (fun m=>zF O (zF O (zA (zK (zd [0] O V qF (fun c b e=>zD 1 O (xG (cs:=(ShtD.cells x)) 0 O O) e (zM 0 O b (zG O O (fun c b=>(zPQ c).mono ?_)))))))))))
 rintro _ i ⟨h,rfl,j⟩
 refine(?_:CL _ _ _ _ _ _ (Own w [] [_,_])) i (b.qb j)
 refine zE [0] O V (fun c b e=>zM 2 O b (zG O O (fun c b=>(zGv x h c ‹_› (b.rdRes0 1 O) (g.at0 b)).mono ?_)))
 rintro _ i ⟨d,rfl,j⟩
 refine(?_:CL _ _ _ _ _ _ (Own w [] [_,_,_])) i (b.qb j)
 refine zE [0] O V (fun c b e=>zD 3 O (yG (vs:=[d,Vi (yI x.a.ok)]) O O) e (zD 4 O (yG (vs:=[d,Vi (yI x.a.ok)]) O O) e (zD 5 O yB e (zD 6 O yB e (zX ((?_:C _ _ _ _ _ _ _ (Own w [] [_,_,_])) _ b))))))
 exact zP (yg (v:=d) (v':=Vi (yI x.a.ok)) O O O (fun c b=>⟨d,O,b.sel [2] O V⟩))
structure HrdD where
 term:Nat
 ql:Int
 deriving DecidableEq
def HrdD.cells(x:HrdD):List Value:=[.int .u64 x.term, .int .i64 x.ql]
def HrdD.ok(x:HrdD):Prop:=0≤x.ql∧x.ql≤16
instance (x:HrdD):Decidable x.ok:=inferInstanceAs (Decidable (_∧_))
def HrdD.enc(x:HrdD):List UInt8:=yO [x.term,u64 x.ql]
theorem zHh(x:HrdD)(w:World):Rets Tryz.prog 388 #[.agg (HrdD.cells x).toArray] w fun e c=>e= .bool (decide x.ok)∧Own w [] [] c:=by
 refine zO Tryz.func388 O Tryz.ntmps388 (Own.start w) (zB (zj O O (fun g=>zF O (zA (zB (zI (o:=1) O O (zJ 0 (v:=Vi x.ql) O O O O (xJ O O O (zC O (yA (q:=0≤x.ql) 3 3 [9,8,7] (x.ql≤16) O O O O O O trivial O (fun a=> ?_) (fun d=> ?_)))))))))))
 ·refine zQ O (gT a) (zI (o:=1) O O (zQ O (gT a) (zJ 0 (v:=Vi x.ql) O O O O (zQ O (gT a) (yx O O O (z8 O (fun _ b=>b)))))))
 refine zF O (zA (zP (zm (v:= .bool (decide ((0≤x.ql)∧(x.ql≤16)))) O O (fun c b=>⟨O,b.drop⟩))))
theorem zHi{S:List Nat}(o:Nat)(i:Value)(bs:List UInt8)(x:HrdD)(w:World)(hb:bs.length≤10000000000)(l:x.term<18446744073709551616)(d:Own w S [Res.bv o yy i bs] w):Rets Tryz.prog 389 #[.pointer (some ⟨o,0,none⟩), .agg (HrdD.cells x).toArray] w fun j c=>∃ (g:Value),j= .tuple #[]∧Own w S [Res.bv o yy g (bs++x.enc)] c:=by
 refine zO Tryz.func389 O Tryz.ntmps389 d (zB (zj O O (fun m=>zA (ze (zC O (zI (o:=0) O O (zJ 1 (v:=Vn x.term) O O O O (zI (o:=1) O O (zJ 1 (v:=Vi x.ql) O O O O (yh qF O (y0 _) O ?_ qF))))))))))
 refine yH (e:=31) (sz:=1) (vs:=[Vn x.term,Vn (u64 x.ql)]) qF O O qL V O (fun h=>zG O O (fun c b=>(jH o _ _ (.slice (some ⟨h,0,none⟩) 2 2) [x.term,u64 x.ql] c qT qK (b.give [0] O V) (b.rdVec 2 O [0] O O)).mono ?_))
 rintro _ n ⟨a,rfl,k⟩
 refine fq [0] O b k (zx (yq O (fun c b=>⟨a,O,b.sel [2] O V⟩)))
theorem zNY(w:World):Rets Tryz.prog 234 #[] w fun b a=>b= .agg #[.func (.func 388) #[] #[], .func (.func 389) #[] #[], .func (.func 390) #[] #[]]∧Own w [] [] a:=by
 refine zO Tryz.func234 O Tryz.ntmps234 (Own.start w) (zB (zk (v:= .agg #[.nilFunc, .nilFunc, .nilFunc]) qF O (fun d=>zA (zB (yJ (cs:=[.func (.func 388) #[] #[], .func (.func 389) #[] #[], .func (.func 390) #[] #[]]) (z:=[.nilFunc, .nilFunc, .nilFunc]) (pl:=[(0,1),(1,1),(2,1)]) qF qF O (zf 0 O O O (zz O) O (zA (zP (xg (cs:=[.func (.func 388) #[] #[], .func (.func 389) #[] #[], .func (.func 390) #[] #[]]) O O qF (Own.qd (i:=0) O) (fun a c=>⟨O,c.drop⟩))))))))))
theorem zGr(x:HrdD)(w:World)(n:x.term<18446744073709551616):Rets Tryz.prog 235 #[.agg #[.func (.func 388) #[] #[], .func (.func 389) #[] #[], .func (.func 390) #[] #[]], .agg (HrdD.cells x).toArray] w fun m c=>∃ (r:Value),m= .tuple #[r,Vi (yI x.ok)]∧Own w [] [Res.vec 5 1 r (if x.ok then x.enc else []).length ((if x.ok then x.enc else []).map vb)] c:=by
 refine zO Tryz.func235 O Tryz.ntmps235 (Own.start w) (zB (zj O O (fun h=>zj O O (fun k=>zF O (zF O (zA (zK (zB (zI (o:=0) O O (zJ 0 (v:= .func (.func 388) #[] #[]) O O O O (z6 (cs:=(HrdD.cells x)) 1 O O O (yM (fst:=[]) (cap:=[]) O qF O O (fun c b=>(zHh x c).mono ?_)))))))))))))
 rintro _ l ⟨rfl,g⟩
 refine(?_:CL _ _ _ _ _ _ (Own w [] [_,_])) l (b.qb g)
 refine xQ (q:=x.ok) O O (zA (zT O (fun e=> ?_) (fun e=> ?_)))
 ·refine zB (zF O (zF O (zA (zP (yg (v:=zW) (v':=Vi 2) O O O (fun c b=>⟨.slice none 0 0,(by rw[jr e]),by rw[if_neg e];exact(zq b T8 1).one 2 rfl⟩))))))
 refine zN (zB (yJ (cs:=[zW]) (z:=[zW]) (pl:=[(0,1)]) qF qF O (zj O O (fun d=>zF O (zA (zB (zI (o:=1) O O (zJ 0 (v:= .func (.func 389) #[] #[]) O O O O (zC O (z6 (cs:=(HrdD.cells x)) 1 O O O (kC [Res.row h 410 [.func (.func 388) #[] #[], .func (.func 389) #[] #[], .func (.func 390) #[] #[]],Res.row k 176 (HrdD.cells x),Res.bv d yy zW ([]:List UInt8)] (fun c b=>(zq b T8 1).joinBv (i:=2) (j:=3) V O O) (yM (fst:=[]) (cap:=[]) O qF O O (fun c b=>(zHi d zW ([]:List UInt8) x c qK qH (b.give [2] O V)).mono ?_)))))))))))))
 rintro _ l ⟨a,rfl,g⟩
 refine fq [2] O b g (zA (zB (zC O (zV O O (zI (o:=0) O O (kC [Res.row h 410 [.func (.func 388) #[] #[], .func (.func 389) #[] #[], .func (.func 390) #[] #[]],Res.row k 176 (HrdD.cells x),Res.row d yy [a],Res.vec 5 1 a (([]:List UInt8)++x.enc).length ((([]:List UInt8)++x.enc).map vb)] (fun c b=>b.splitBv (i:=2) (o:=d) (T:=yy) (v:=a) (bs:=(([]:List UInt8)++x.enc)) O) (zJ 2 (v:=a) O O O O (zF O (zF O (zA (zP (yg (v:=a) (v':=Vi 0) O O O (fun c b=>⟨a,(by rw[xp (Decidable.not_not.1 e)]),by rw[if_pos (Decidable.not_not.1 e)];exact b.one 3 rfl⟩)))))))))))))
theorem zEW(x:HrdD)(w:World)(i:x.term<18446744073709551616):Rets Tryz.prog 119 #[.agg (HrdD.cells x).toArray] w fun h b=>∃ (r:Value),h= .tuple #[r,Vi (yI x.ok)]∧Own w [] [Res.vec 5 1 r (if x.ok then x.enc else []).length ((if x.ok then x.enc else []).map vb)] b:=by
 refine zO Tryz.func119 O Tryz.ntmps119 (Own.start w) (zB (zj O O (fun j=>zF O (zF O (zA (zK (zd [0] O V qF (fun b a d=>zD 1 O (xG (cs:=(HrdD.cells x)) 0 O O) d (zM 0 O a (zG O O (fun b a=>(zNY b).mono ?_)))))))))))
 rintro _ e ⟨rfl,g⟩
 refine(?_:CL _ _ _ _ _ _ (Own w [] [_])) e (a.qb g)
 refine zE [0] O V (fun b a d=>zM 2 O a (zG O O (fun b a=>(zGr x b qH).mono ?_)))
 rintro _ e ⟨c,rfl,g⟩
 refine(?_:CL _ _ _ _ _ _ (Own w [] [_,_])) e (a.qb g)
 refine zE [0] O V (fun b a d=>zD 3 O (yG (vs:=[c,Vi (yI x.ok)]) O O) d (zD 4 O (yG (vs:=[c,Vi (yI x.ok)]) O O) d (zD 5 O yB d (zD 6 O yB d (zX ((?_:C _ _ _ _ _ _ _ (Own w [] [_,_])) _ a))))))
 exact zP (yg (v:=c) (v':=Vi (yI x.ok)) O O O (fun b a=>⟨c,O,a.sel [1] O V⟩))
end Go.Proofs.YthpoddkmhfhboaaGreatDoor
namespace Go.Sc
def zTI (P : Program) (f : Field) : Option (List (Nat × Option (Option IntKind))) :=
  if f.name = "_" then none else
    match P.underlying f.type with
    | some (.int k) => some [(f.offset, some (some k))]
    | some .string => some [(f.offset, some none)]
    | some .bool => some [(f.offset, none)]
    | some (.struct _) =>
      match zAd P f.type with
      | some ks => if (P.info? f.type).isSome && ks.all (fun q => q.1 < P.cellsOf f.type) then some (ks.map fun q => (f.offset + q.1, q.2)) else none
      | none => none
    | _ => none
def flat2(P:Program)(t:TypeId):Option (List (List (Nat×Option (Option IntKind)))):=
 match P.underlying t with
 |some (.struct fs)=>if P.stoodInHeld t then none else fs.toList.mapM (zTI P)
 |_=>none
section
variable {P:Program}
variable {n:Nat} {ops:Array Oper} {N:K} {f:Nat→Value} {A:World→Prop} {rest:List Oper} {d:Nat} {ty:TypeId} {p:String} {af:Array Edge} {x y:Operand} {t t':TypeId}
end
end Go.Sc
