import Derived.Test.YthpoddkmhfhboaaGreatDoorWlP
set_option linter.unusedSimpArgs false
set_option linter.unusedVariables false
set_option maxRecDepth 10000
namespace Go.Proofs.YthpoddkmhfhboaaGreatDoor
open Go.Sc
theorem zF1{p:Prop}[Decidable p](h:yI p≠0):¬ p:=fun k=>h (errOf_zero.2 k)
theorem zCe{p:Prop}[Decidable p](h:¬ yI p≠0):p:=errOf_zero.1 (Decidable.not_not.1 h)
theorem zOM{kr:List (Nat×RepD)}{s q:Nat}{x:RepD}{e:Int}(h:yn kr s q=(x,e))(d:s≠0∧q≠0)(b:¬ e=0)(a:¬ e=13)(c:¬ e=7):e=8:=by
 unfold yn at h
 rw[if_neg qG]at h
 split at h
 · split at h<;>cases h
   · exact absurd rfl c
   rfl
 split at h
 · cases h;rfl
 split at h<;>cases h
 · exact absurd rfl a
 exact absurd rfl b
def zAq(x:LeaD)(e:Int):RepD:=if e≠0 then⟨0,0,e,0,0,0⟩else⟨0,0,0,x.id,x.amount,x.until_⟩
theorem zDO(c:CmdD)(x:LeaD)(e:Int):({zAq x e with session:=c.session,seq:=c.seq}:RepD)=zDe c x e:=by
 unfold zAq zDe zCu
 split<;>rfl
theorem zOz{now:Int}{cnt cnt':Nat}{kb kb':List (ByteArray×Int)}{kl kl':List (Nat×LeaD)}{c:CmdD}{r:RepD}(a:c.wf)(o:0≤now∧now≤2305843009213693952)(j:cnt≤1000000000)(g:0≤yi c.key kl∧yi c.key kl≤9223372036854775807)
   (b:∀ i l,zl i kl=some l→l.id<18446744073709551616∧kE l.amount∧kE l.until_) (h:zJn now cnt kb kl c r cnt' kb' kl'):r.wf:=by
 rcases h with⟨_,rfl,_⟩|⟨_,x,e,e1,m,rfl,_⟩|⟨_,x,e,k,rfl,_⟩|⟨_,x,e,k,rfl,_⟩|⟨_,rfl,_⟩
 · refine⟨a.session,a.seq,by show(0:Nat)<_;omega,?_,by show kE 0;unfold kE;decide⟩
   show kE (if _ then _ else _)
   unfold kE
   split<;>omega
 · by_cases h0:e=0
   · refine zFX a (zKr j a.amount ?_ x m)
     have d:xO c.span:=Decidable.by_contra fun q=>by
       rw[zPs (.inr (.inr (.inr q)))]at e1
       rw[h0]at e1;cases e1
     unfold xO at d
     unfold kE;omega
   unfold zDe;rw[if_pos h0];exact zAg a
 · by_cases h0:e=0
   · refine zFX a ?_
     rcases k with q|q|⟨d,l,hl,_,q|⟨_,_,q,_⟩⟩
     · rw[q.2.1]at h0;cases h0
     · rw[q.2.2.1]at h0;cases h0
     · rw[q.2.1]at h0;cases h0
     rw[q]
     have f:=b _ _ hl
     refine⟨f.1,f.2.1,?_⟩
     show kE (max _ _)
     have n:=f.2.2
     unfold xO at d
     unfold kE at n ⊢
     omega
   unfold zDe;rw[if_pos h0];exact zAg a
 · by_cases h0:e=0
   · refine zFX a ?_
     rcases k with q|⟨l,hl,_,_,q,_⟩
     · rw[q.2.1]at h0;cases h0
     rw[q];exact b _ _ hl
   unfold zDe;rw[if_pos h0];exact zAg a
 exact zAg a
theorem zDy(x:LeaD)(e:Int)(w:World):Rets Tryz.prog 543 #[.agg (LeaD.cells x).toArray,Vi e] w fun d a=>d= .agg (RepD.cells (zAq x e)).toArray∧Own w [] [] a:=by
 refine zO Tryz.func543 O Tryz.ntmps543 (Own.start w)<|zB<|zj O O<|fun g=>zk (v:= .agg #[Vn 0,Vn 0,Vi 0,Vn 0,Vi 0,Vi 0]) qF O<|fun h=>zA<|zK<|zB<|zC O<|yf O O O<|zA<|zT O (fun b=> ?_)<|fun b=> ?_
 ·refine zB<|zC O<|yJ (cs:=[Vn 0,Vn 0,Vi e,Vn 0,Vi 0,Vi 0]) (z:=[Vn 0,Vn 0,Vi 0,Vn 0,Vi 0,Vi 0]) (pl:=[(0,1),(1,1),(2,1),(3,1),(4,1),(5,1)]) qF qF O<|zf 1 O O O (zz O) O<|zA<|zP<|xg (cs:=[Vn 0,Vn 0,Vi e,Vn 0,Vi 0,Vi 0]) O O qF (Own.qd (i:=1) O)<|fun a c=>⟨(by unfold zAq;rw[if_pos b];rfl),c.drop⟩
 refine zN<|zB<|zI (o:=0) O O<|zJ 0 (v:=Vn x.id) O O O O<|zI (o:=3) O O<|zJ 0 (v:=Vi x.amount) O O O O<|zI (o:=4) O O<|zJ 0 (v:=Vi x.until_) O O O O<|yJ (cs:=[Vn 0,Vn 0,Vi 0,Vn x.id,Vi x.amount,Vi x.until_]) (z:=[Vn 0,Vn 0,Vi 0,Vn 0,Vi 0,Vi 0]) (pl:=[(0,1),(1,1),(2,1),(3,1),(4,1),(5,1)]) qF qF O<|zf 1 O O O (zz O) O<|zA<|zP<|xg (cs:=[Vn 0,Vn 0,Vi 0,Vn x.id,Vi x.amount,Vi x.until_]) O O qF (Own.qd (i:=1) O)<|fun a c=>⟨(by unfold zAq;rw[if_neg b];rfl),c.drop⟩
theorem zQR(w:World):Rets Tryz.prog 77 #[] w fun m a=>∃ (b tb cb bm lm rm:Nat),m= .pointer (some ⟨b,0,none⟩)∧Own w [] [Res.row b 126 [.pointer (some ⟨tb,0,none⟩), .pointer (some ⟨cb,0,none⟩),Vn 0],Res.row tb 268 [.map (some bm), .map (some lm),Vi 0,Vn 0],Res.mp Value.string kh bm ([]:List (ByteArray×Int)),Res.mp xr xf lm ([]:List (Nat×LeaD)),Res.row cb 275 [.map (some rm)],Res.mp ekR kj rm ([]:List (Nat×RepD))] a:=by
 refine zO Tryz.func77 O Tryz.ntmps77 (Own.start w)<|zB<|zF O<|zA<|zB<|zG O O<|fun a c=>(zRW a).mono ?_
 rintro _ i ⟨d,e,g,rfl,j⟩
 refine(?_:CL _ _ _ _ _ _ (Own w [] [_,_,_])) i<|c.qb j
 refine zG O O<|fun a c=>(zR4 a).mono ?_
 rintro _ i ⟨h,k,rfl,j⟩
 refine(?_:CL _ _ _ _ _ _ (Own w [] [_,_,_,_,_])) i<|c.qb j
 refine yJ (cs:=[.pointer (some ⟨d,0,none⟩), .pointer (some ⟨h,0,none⟩),Vn 0]) (z:=[.pointer none, .pointer none,Vn 0]) (pl:=[(0,1),(1,1),(2,1)]) qF qF O<|zj O O<|fun l=>zF O<|zA<|zP<|zm (v:= .pointer (some ⟨l,0,none⟩)) O O<|fun a c=>⟨l,d,h,e,g,k,O,c.sel [5,0,1,2,3,4] O V⟩
theorem zRl{S:List Nat}(b tb cb bm lm idx:Nat)(now:Int)(cnt:Nat)(kb:List (ByteArray×Int))(kl:List (Nat×LeaD))(c:CmdD)(w:World)(ab:c.wf)(ht:0≤now∧now≤2305843009213693952)(hc:cnt≤1000000000)(ad:0≤yi c.key kl∧yi c.key kl≤9223372036854775807)(ac:Own w S [Res.row b 126 [.pointer (some ⟨tb,0,none⟩), .pointer (some ⟨cb,0,none⟩),Vn idx],Res.row tb 268 [.map (some bm), .map (some lm),Vi now,Vn cnt],Res.mp Value.string kh bm kb,Res.mp xr xf lm kl] w):Rets Tryz.prog 486 #[.pointer (some ⟨b,0,none⟩), .agg (CmdD.cells c).toArray] w fun u_ g=>∃ (r:RepD) (cnt':Nat) (kb':List (ByteArray×Int)) (kl':List (Nat×LeaD)),u_= .agg (RepD.cells r).toArray∧zJn now cnt kb kl c {r with session:=c.session,seq:=c.seq} cnt' kb' kl'∧Own w S [Res.row b 126 [.pointer (some ⟨tb,0,none⟩), .pointer (some ⟨cb,0,none⟩),Vn idx],Res.row tb 268 [.map (some bm), .map (some lm),Vi now,Vn cnt'],Res.mp Value.string kh bm kb',Res.mp xr xf lm kl'] g:=by
 have ae:=ab.amount
 refine zO Tryz.func486 O Tryz.ntmps486 ac<|zB<|zj O O<|fun b3=>zk (v:= .agg #[Vn 0,Vn 0,Vi 0,Vn 0,Vi 0,Vi 0]) qF O<|fun b4=>zA<|zK<|zB<|zI (o:=2) O O<|zJ 4 (v:=Vi c.op) O O O O<|zA<|zU<|zB<|yT O O O<|zF O<|zA<|zT O (fun c1=> ?_)<|fun c1=> ?_
 ·refine zK<|zd [0,4,5] O V qF<|fun g d a=>zD 0 O za a<|zD 1 O (zY O) a<|zD 2 O (zL (o:=0) O) a<|zD 3 O (zZ 0 (v:= .pointer (some ⟨tb,0,none⟩)) O O O) a<|zD 4 O (zL (o:=3) O) a<|zD 5 O (zZ 1 (v:= .string c.key) O O O) a<|zD 6 O (zL (o:=4) O) a<|zD 7 O (zZ 1 (v:=Vi c.amount) O O O) a<|zM 8 O d<|zG O O<|fun g d=>(zRT tb bm lm now cnt kb kl c.key c.amount g<|d.give [1,2,3] O V).mono ?_
  rintro _ w1 ⟨x,y,a8,rfl,a9,a0,a1,k⟩
  refine fq [1,2,3] O d k<|zE [0,1,2] O V<|fun g d a=>zD 9 O za a<|zD 10 O (yG (vs:=[Vi x,Vi y]) O O) a<|zD 11 O (yG (vs:=[Vi x,Vi y]) O O) a<|zD 12 O yB a<|zD 13 O yB a<|zX<|(?_:C _ _ _ _ _ _ _ (Own w S [_,_,_,_,_,_])) _ d
  refine zB<|zC O<|zC O<|yJ (cs:=[Vn 0,Vn 0,Vi y,Vn 0,Vi x,Vi 0]) (z:=[Vn 0,Vn 0,Vi 0,Vn 0,Vi 0,Vi 0]) (pl:=[(0,1),(1,1),(2,1),(3,1),(4,1),(5,1)]) qF qF O<|zf 2 O O O (zz O) O<|zA<|zP<|xg (cs:=[Vn 0,Vn 0,Vi y,Vn 0,Vi x,Vi 0]) O O qF (Own.qd (i:=2) O)<|fun g d=>⟨({session:=0,seq:=0,e:=y,lease:=0,amount:=x,until_:=0}:RepD),cnt,a8,kl,O, .inl ⟨c1,by rw[a1,a9];rfl,O,a0,O⟩,d.sel [0,3,4,5] O V⟩
 refine zB<|yT O O O<|zF O<|zA<|zT O (fun c2=> ?_)<|fun c2=> ?_
 ·refine zK<|zd [0,4] O V qF<|fun g d a=>zD 0 O za a<|zD 1 O (zY O) a<|zD 2 O (zL (o:=0) O) a<|zD 3 O (zZ 0 (v:= .pointer (some ⟨tb,0,none⟩)) O O O) a<|zD 4 O (zL (o:=0) O) a<|zD 5 O (zZ 1 (v:=Vn c.session) O O O) a<|zD 6 O (zL (o:=3) O) a<|zD 7 O (zZ 1 (v:= .string c.key) O O O) a<|zD 8 O (zL (o:=4) O) a<|zD 9 O (zZ 1 (v:=Vi c.amount) O O O) a<|zD 10 O (zL (o:=5) O) a<|zD 11 O (zZ 1 (v:=Vi c.span) O O O) a<|zM 12 O d<|zG O O<|fun g d=>(zRG tb bm lm now cnt kb kl c.session c.key c.amount c.span g qH ‹_› qH qH<|d.give [1,2,3] O V).mono ?_
  rintro _ w1 ⟨l,m,a2,aa,rfl,a3,n,p,q,k⟩
  refine fq [1,2,3] O d k<|zE [0,1] O V<|fun g d a=>zD 13 O (yG (vs:=[.agg (LeaD.cells l).toArray,Vi m]) O O) a<|zD 14 O (yG (vs:=[.agg (LeaD.cells l).toArray,Vi m]) O O) a<|zM 15 O d<|zG O O<|fun g d=>(zDy l m g).mono ?_
  rintro _ w1 ⟨rfl,k⟩
  refine(?_:CL _ _ _ _ _ _ (Own w S [_,_,_,_,_,_])) w1<|d.qb k
  refine zE [0,1] O V<|fun g d a=>zM 16 O d<|zf 2 O O O (zz O) O<|zE [0,1] O V<|fun g d a=>zX<|(?_:C _ _ _ _ _ _ _ (Own w S [_,_,_,_,_,_])) _ d
  exact zP<|xg (cs:=(RepD.cells<|zAq l m)) O O qF (Own.qd (i:=2) O)<|fun g d=>⟨(zAq l m),a2,kb,aa,O, .inr<|.inl ⟨c2,l,m,a3,n,zDO _ _ _,p,O,q⟩,d.sel [0,3,4,5] O V⟩
 refine zB<|yT O O O<|zF O<|zA<|zT O (fun c3=> ?_)<|fun c3=> ?_
 ·refine zK<|zd [0,4] O V qF<|fun g d a=>zD 0 O za a<|zD 1 O (zY O) a<|zD 2 O (zL (o:=0) O) a<|zD 3 O (zZ 0 (v:= .pointer (some ⟨tb,0,none⟩)) O O O) a<|zD 4 O (zL (o:=0) O) a<|zD 5 O (zZ 1 (v:=Vn c.session) O O O) a<|zD 6 O (zL (o:=6) O) a<|zD 7 O (zZ 1 (v:=Vn c.lease) O O O) a<|zD 8 O (zL (o:=5) O) a<|zD 9 O (zZ 1 (v:=Vi c.span) O O O) a<|zM 10 O d<|zG O O<|fun g d=>(zNq tb bm lm now cnt kb kl c.session c.lease c.span g qH<|d.give [1,2,3] O V).mono ?_
  rintro _ w1 ⟨s,u,a4,rfl,a5,k⟩
  refine fq [1,2,3] O d k<|zE [0,1] O V<|fun g d a=>zD 11 O (yG (vs:=[.agg (LeaD.cells s).toArray,Vi u]) O O) a<|zD 12 O (yG (vs:=[.agg (LeaD.cells s).toArray,Vi u]) O O) a<|zM 13 O d<|zG O O<|fun g d=>(zDy s u g).mono ?_
  rintro _ w1 ⟨rfl,k⟩
  refine(?_:CL _ _ _ _ _ _ (Own w S [_,_,_,_,_,_])) w1<|d.qb k
  refine zE [0,1] O V<|fun g d a=>zM 14 O d<|zf 2 O O O (zz O) O<|zE [0,1] O V<|fun g d a=>zX<|(?_:C _ _ _ _ _ _ _ (Own w S [_,_,_,_,_,_])) _ d
  exact zP<|xg (cs:=(RepD.cells<|zAq s u)) O O qF (Own.qd (i:=2) O)<|fun g d=>⟨(zAq s u),cnt,kb,a4,O, .inr<|.inr<|.inl ⟨c3,s,u,a5,zDO _ _ _,O,O⟩,d.sel [0,3,4,5] O V⟩
 refine zB<|yT O O O<|zF O<|zA<|zT O (fun c4=> ?_)<|fun c4=> ?_
 ·refine zK<|zd [0,2,4] O V qF<|fun g d a=>zD 0 O za a<|zD 1 O (zY O) a<|zD 2 O (zL (o:=0) O) a<|zD 3 O (zZ 0 (v:= .pointer (some ⟨tb,0,none⟩)) O O O) a<|zD 4 O (zL (o:=0) O) a<|zD 5 O (zZ 2 (v:=Vn c.session) O O O) a<|zD 6 O (zL (o:=6) O) a<|zD 7 O (zZ 2 (v:=Vn c.lease) O O O) a<|zM 8 O d<|zG O O<|fun g d=>(zNN tb bm lm now cnt kl c.session c.lease g<|d.give [1,3] O V).mono ?_
  rintro _ w1 ⟨h,j,a6,rfl,a7,k⟩
  refine fq [1,3] O d k<|zE [0,1,2] O V<|fun g d a=>zD 9 O (yG (vs:=[.agg (LeaD.cells h).toArray,Vi j]) O O) a<|zD 10 O (yG (vs:=[.agg (LeaD.cells h).toArray,Vi j]) O O) a<|zM 11 O d<|zG O O<|fun g d=>(zDy h j g).mono ?_
  rintro _ w1 ⟨rfl,k⟩
  refine(?_:CL _ _ _ _ _ _ (Own w S [_,_,_,_,_,_])) w1<|d.qb k
  refine zE [0,1,2] O V<|fun g d a=>zM 12 O d<|zf 3 O O O (zz O) O<|zE [0,1,2] O V<|fun g d a=>zX<|(?_:C _ _ _ _ _ _ _ (Own w S [_,_,_,_,_,_])) _ d
  exact zP<|xg (cs:=(RepD.cells<|zAq h j)) O O qF (Own.qd (i:=3) O)<|fun g d=>⟨(zAq h j),cnt,kb,a6,O, .inr<|.inr<|.inr<|.inl ⟨c4,h,j,a7,zDO _ _ _,O,O⟩,d.sel [0,4,1,5] O V⟩
 refine zN<|zB<|yJ (cs:=[Vn 0,Vn 0,Vi 0,Vn 0,Vi 0,Vi 0]) (z:=[Vn 0,Vn 0,Vi 0,Vn 0,Vi 0,Vi 0]) (pl:=[(0,1),(1,1),(2,1),(3,1),(4,1),(5,1)]) qF qF O<|zf 5 O O O (zz O) O<|zA<|zP<|xg (cs:=[Vn 0,Vn 0,Vi 0,Vn 0,Vi 0,Vi 0]) O O qF (Own.qd (i:=5) O)<|fun g d=>⟨({session:=0,seq:=0,e:=0,lease:=0,amount:=0,until_:=0}:RepD),cnt,kb,kl,O, .inr<|.inr<|.inr<|.inr ⟨⟨⟨c1,c2⟩,c3,c4⟩,O,O,O,O⟩,d.sel [0,1,2,3] O V⟩
theorem zBs{S:List Nat}(b:Nat)(x:RepD)(a:Int)(w:World)(c:Own w S [Res.row b 37 (RepD.cells x)] w):Rets Tryz.prog 485 #[Vi a, .pointer (some ⟨b,0,none⟩)] w fun g d=>g= .tuple #[.agg (RepD.cells ({x with e:=a})).toArray,yC]∧Own w S [Res.row b 37 (RepD.cells ({x with e:=a}))] d:=by
 refine zO Tryz.func485 O Tryz.ntmps485 c<|zB<|zk (v:= .agg #[Vn 0,Vn 0,Vi 0,Vn 0,Vi 0,Vi 0]) qF O<|fun j=>zF O<|zA<|zB<|zC O<|zI (o:=2) O O<|zi (cs:=(RepD.cells x)) 0 O O O O O<|zA<|zB<|z6 0 O O O<|zf 1 O O O (zz O) O<|zF O<|zA<|zP<|yk (cs:=[Vn x.session,Vn x.seq,Vi a,Vn x.lease,Vi x.amount,Vi x.until_]) (v:=yC) O O O qF (Own.qd (i:=1) O)<|fun d h=>⟨O,h.sel [0] O V⟩
theorem zTA{S:List Nat}(b tb cb bm lm rm idx:Nat)(now:Int)(cnt:Nat)(kb:List (ByteArray×Int))(kl:List (Nat×LeaD))(kr:List (Nat×RepD))(c:CmdD)(w:World)(ae:c.wf)(ht:0≤now∧now≤2305843009213693952)(hc:cnt≤1000000000)(ac:0≤yi c.key kl∧yi c.key kl≤9223372036854775807)(af:∀ i l,zl i kl=some l→l.id<18446744073709551616∧kE l.amount∧kE l.until_)(ag:Own w S [Res.row b 126 [.pointer (some ⟨tb,0,none⟩), .pointer (some ⟨cb,0,none⟩),Vn idx],Res.row tb 268 [.map (some bm), .map (some lm),Vi now,Vn cnt],Res.mp Value.string kh bm kb,Res.mp xr xf lm kl,Res.row cb 275 [.map (some rm)],Res.mp ekR kj rm kr] w):Rets Tryz.prog 409 #[.pointer (some ⟨b,0,none⟩), .agg (CmdD.cells c).toArray] w fun u_ d=>∃ (r:RepD) (did:Bool) (cnt':Nat) (kb':List (ByteArray×Int)) (kl':List (Nat×LeaD)) (kr':List (Nat×RepD)),u_= .tuple #[.agg (RepD.cells r).toArray, .bool did]∧DoK now cnt kb kl kr c r did cnt' kb' kl' kr'∧Own w S [Res.row b 126 [.pointer (some ⟨tb,0,none⟩), .pointer (some ⟨cb,0,none⟩),Vn idx],Res.row tb 268 [.map (some bm), .map (some lm),Vi now,Vn cnt'],Res.mp Value.string kh bm kb',Res.mp xr xf lm kl',Res.row cb 275 [.map (some rm)],Res.mp ekR kj rm kr'] d:=by
 refine zO Tryz.func409 O Tryz.ntmps409 ag<|zB<|zj O O<|fun b3=>zk (v:= .agg #[Vn 0,Vn 0,Vi 0,Vn 0,Vi 0,Vi 0]) qF O<|fun b4=>zF O<|zA<|zB<|zI (o:=0) O O<|zJ 6 (v:=Vn c.session) O O O O<|zI (o:=1) O O<|zJ 6 (v:=Vn c.seq) O O O O<|yJ (cs:=[Vn c.session,Vn c.seq,Vi 0,Vn 0,Vi 0,Vi 0]) (z:=[Vn 0,Vn 0,Vi 0,Vn 0,Vi 0,Vi 0]) (pl:=[(0,1),(1,1),(2,1),(3,1),(4,1),(5,1)]) qF qF O<|zk (v:= .agg #[Vn 0,Vn 0,Vi 0,Vn 0,Vi 0,Vi 0]) qF O<|fun p=>zf 8 O O O (zz O) O<|zA<|zB<|j7 (va:=[]) (vb:=[.pointer (some ⟨p,0,none⟩)]) O O O<|zF O<|zA<|zK<|zB<|zC O<|yE qF O O O<|zA<|yW O<|zN<|zK<|zB<|z6 (cs:=(CmdD.cells c)) 6 O O O<|zG O O<|fun d a=>(zBk c d ‹_›).mono ?_
 rintro _ w1 ⟨a4,rfl,j⟩
 refine(?_:CL _ _ _ _ _ _ (Own w S [_,_,_,_,_,_,_,_,_,_])) w1<|a.qb j
 refine zC O<|zb (vs:=[a4,Vi (yI c.ok)]) O O O<|zb (vs:=[a4,Vi (yI c.ok)]) O O O<|zF O<|zF O<|zA<|zB<|zC O<|yf O O O<|zA<|zT O (fun c2=> ?_)<|fun c2=> ?_
 ·have ah:=zF1 c2
  refine zB<|zC O<|yM (fst:=[]) (cap:=[.pointer (some ⟨p,0,none⟩)]) O qF O O<|fun d a=>(zBs p ({session:=c.session,seq:=c.seq,e:=0,lease:=0,amount:=0,until_:=0}:RepD) 2 d<|a.give [8] O V).mono ?_
  rintro _ w1 ⟨rfl,j⟩
  refine fq [8] O a j<|zb (vs:=[.agg (RepD.cells ({({session:=c.session,seq:=c.seq,e:=0,lease:=0,amount:=0,until_:=0}:RepD)with e:=2})).toArray,yC]) O O O<|zb (vs:=[.agg (RepD.cells ({({session:=c.session,seq:=c.seq,e:=0,lease:=0,amount:=0,until_:=0}:RepD)with e:=2})).toArray,yC]) O O O<|zf 7 O O O (zz O) O<|zF O<|zA<|zP<|yk (cs:=(RepD.cells ({({session:=c.session,seq:=c.seq,e:=0,lease:=0,amount:=0,until_:=0}:RepD)with e:=2}))) (v:=yC) O O O qF (Own.qd (i:=7) O)<|fun d a=>⟨{({session:=c.session,seq:=c.seq,e:=0,lease:=0,amount:=0,until_:=0}:RepD)with e:=2},false,cnt,kb,kl,kr,O, .inl ⟨.inl ⟨ah,O⟩,O,O,O,O,O⟩,a.sel [0,1,2,3,4,5] O V⟩
 have a1:=zCe c2
 refine zN<|zK<|zU<|zB<|zI (o:=0) O O<|zJ 6 (v:=Vn c.session) O O O O<|yT O O O<|zC O<|yA (q:=((c.session:Nat):Int)=((0:Nat):Int)) 3 3 [42,41,40] (c.op=5) O O O O O O trivial O (fun y=> ?_)<|fun aj=> ?_
 ·refine zQ O (gT y)<|zI (o:=2) O O<|zQ O (gT y)<|zJ 6 (v:=Vi c.op) O O O O<|zQ O (gT y)<|yT O O O<|z8 O<|fun _ a=>a
 refine zF O<|zA<|zT O (fun c3=> ?_)<|fun c3=> ?_
 ·refine zB<|z6 (cs:=[Vn c.session,Vn c.seq,Vi 0,Vn 0,Vi 0,Vi 0]) 8 O O O<|zf 7 O O O (zz O) O<|zF O<|zA<|zP<|yk (cs:=[Vn c.session,Vn c.seq,Vi 0,Vn 0,Vi 0,Vi 0]) (v:=yC) O O O qF (Own.qd (i:=7) O)<|fun d a=>⟨({session:=c.session,seq:=c.seq,e:=0,lease:=0,amount:=0,until_:=0}:RepD),false,cnt,kb,kl,kr,O, .inl ⟨.inr<|.inl ⟨a1,by omega,by rw[if_pos c3.2];rfl⟩,O,O,O,O,O⟩,a.sel [0,1,2,3,4,5] O V⟩
 refine zB<|zI (o:=0) O O<|zJ 6 (v:=Vn c.session) O O O O<|yT O O O<|zF O<|zA<|zT O (fun c4=> ?_)<|fun c4=> ?_
 ·refine zB<|zC O<|yM (fst:=[]) (cap:=[.pointer (some ⟨p,0,none⟩)]) O qF O O<|fun d a=>(zBs p ({session:=c.session,seq:=c.seq,e:=0,lease:=0,amount:=0,until_:=0}:RepD) 1 d<|a.give [8] O V).mono ?_
  rintro _ w1 ⟨rfl,j⟩
  refine fq [8] O a j<|zb (vs:=[.agg (RepD.cells ({({session:=c.session,seq:=c.seq,e:=0,lease:=0,amount:=0,until_:=0}:RepD)with e:=1})).toArray,yC]) O O O<|zb (vs:=[.agg (RepD.cells ({({session:=c.session,seq:=c.seq,e:=0,lease:=0,amount:=0,until_:=0}:RepD)with e:=1})).toArray,yC]) O O O<|zf 7 O O O (zz O) O<|zF O<|zA<|zP<|yk (cs:=(RepD.cells ({({session:=c.session,seq:=c.seq,e:=0,lease:=0,amount:=0,until_:=0}:RepD)with e:=1}))) (v:=yC) O O O qF (Own.qd (i:=7) O)<|fun d a=>⟨{({session:=c.session,seq:=c.seq,e:=0,lease:=0,amount:=0,until_:=0}:RepD)with e:=1},false,cnt,kb,kl,kr,O, .inl ⟨.inr<|.inl ⟨a1,by omega,by rw[if_neg fun q=>c3 ⟨c4,q⟩];rfl⟩,O,O,O,O,O⟩,a.sel [0,1,2,3,4,5] O V⟩
 refine zB<|zI (o:=1) O O<|zJ 6 (v:=Vn c.seq) O O O O<|yT O O O<|zF O<|zA<|zT O (fun c5=> ?_)<|fun c5=> ?_
 ·refine zB<|zC O<|yM (fst:=[]) (cap:=[.pointer (some ⟨p,0,none⟩)]) O qF O O<|fun d a=>(zBs p ({session:=c.session,seq:=c.seq,e:=0,lease:=0,amount:=0,until_:=0}:RepD) 18 d<|a.give [8] O V).mono ?_
  rintro _ w1 ⟨rfl,j⟩
  refine fq [8] O a j<|zb (vs:=[.agg (RepD.cells ({({session:=c.session,seq:=c.seq,e:=0,lease:=0,amount:=0,until_:=0}:RepD)with e:=18})).toArray,yC]) O O O<|zb (vs:=[.agg (RepD.cells ({({session:=c.session,seq:=c.seq,e:=0,lease:=0,amount:=0,until_:=0}:RepD)with e:=18})).toArray,yC]) O O O<|zf 7 O O O (zz O) O<|zF O<|zA<|zP<|yk (cs:=(RepD.cells ({({session:=c.session,seq:=c.seq,e:=0,lease:=0,amount:=0,until_:=0}:RepD)with e:=18}))) (v:=yC) O O O qF (Own.qd (i:=7) O)<|fun d a=>⟨{({session:=c.session,seq:=c.seq,e:=0,lease:=0,amount:=0,until_:=0}:RepD)with e:=18},false,cnt,kb,kl,kr,O, .inl ⟨.inr<|.inr<|.inl ⟨a1,by omega,by omega,O⟩,O,O,O,O,O⟩,a.sel [0,1,2,3,4,5] O V⟩
 have a0:c.ok∧c.session≠0∧c.seq≠0:=⟨a1,by omega,by omega⟩
 refine zN<|zHu (fun(x:RepD) (e:Int) (bx:Nat)=>[(0, .pointer<|some ⟨b,0,none⟩),(3, .pointer<|some ⟨b3,0,none⟩),(4, .pointer<|some ⟨b4,0,none⟩),(6, .pointer<|some ⟨p,0,none⟩),(7, .func (.func 485) #[] #[.pointer (some ⟨p,0,none⟩)]),(10, .pointer<|some ⟨bx,0,none⟩),(11,Vi e)]) (fun(x:RepD) (e:Int) (bx:Nat)=>yn kr c.session c.seq=(x,e)) (fun(x:RepD) (e:Int) (bx:Nat)=>[Res.row b 126 [.pointer (some ⟨tb,0,none⟩), .pointer (some ⟨cb,0,none⟩),Vn idx],Res.row tb 268 [.map (some bm), .map (some lm),Vi now,Vn cnt],Res.mp Value.string kh bm kb,Res.mp xr xf lm kl,Res.row cb 275 [.map (some rm)],Res.mp ekR kj rm kr,Res.row b3 33 (CmdD.cells c),Res.row b4 37 [Vn 0,Vn 0,Vi 0,Vn 0,Vi 0,Vi 0],Res.row p 37 [Vn c.session,Vn c.seq,Vi 0,Vn 0,Vi 0,Vi 0],Res.vec 5 1 a4 (if c.ok then c.enc else []).length ((if c.ok then c.enc else []).map vb),Res.row bx 37 (RepD.cells x)]) ?_<|fun x e bx g hΦ=> ?_
 ·refine zd [0,1,2,3,6,7,8,9] O V qF<|fun d a h=>zD 0 O za h<|zD 1 O (zY O) h<|zD 2 O (zL (o:=1) O) h<|zD 3 O (zZ 0 (v:= .pointer (some ⟨cb,0,none⟩)) O O O) h<|zD 4 O (zL (o:=0) O) h<|zD 5 O (zZ 4 (v:=Vn c.session) O O O) h<|zD 6 O (zL (o:=1) O) h<|zD 7 O (zZ 4 (v:=Vn c.seq) O O O) h<|z7 8 12 ?_ ?_
  ·refine zo 8 O a<|zG O O<|fun d a=>(zC8 cb rm kr c.session c.seq d<|a.give [4,5] O V).mono ?_
   rintro _ w1 ⟨a5,a6,rfl,k,j⟩
   refine fq [4,5] O a j<|zE [0,1,2,3,4,5,6,7] O V<|fun d a h=>zD 9 O za h<|zD 10 O (yG (vs:=[.agg (RepD.cells a5).toArray,Vi a6]) O O) h<|zD 11 O (yG (vs:=[.agg (RepD.cells a5).toArray,Vi a6]) O O) h<|zM 12 O a<|zk (v:= .agg #[Vn 0,Vn 0,Vi 0,Vn 0,Vi 0,Vi 0]) qF O<|fun a7=>zE [0,1,2,3,4,5,6,7] O V<|fun d a h=>zM 13 O a<|zf 10 O O O (zz O) O<|zE [0,1,2,3,4,5,6,7] O V<|fun d a h=>zD 14 O yB h<|zX (⟨a5,a6,a7,⟨O,O,O,O,O,O,O,trivial⟩,k,a.sel [0,1,2,3,8,9,4,5,6,7,10] O V⟩)
  refine zo 12 O a<|zk (v:= .agg #[Vn 0,Vn 0,Vi 0,Vn 0,Vi 0,Vi 0]) qF O<|fun a7=>zE [0,1,2,3,6,7,8,9] O V<|fun d a h=>zM 8 O a<|zG O O<|fun d a=>(zC8 cb rm kr c.session c.seq d<|a.give [4,5] O V).mono ?_
  rintro _ w1 ⟨a8,a9,rfl,k,j⟩
  refine fq [4,5] O a j<|zE [0,1,2,3,4,5,6,7] O V<|fun d a h=>zD 9 O za h<|zD 10 O (yG (vs:=[.agg (RepD.cells a8).toArray,Vi a9]) O O) h<|zD 11 O (yG (vs:=[.agg (RepD.cells a8).toArray,Vi a9]) O O) h<|zM 13 O a<|zf 8 O O O (zz O) O<|zE [0,1,2,3,4,5,6,7] O V<|fun d a h=>zD 14 O yB h<|zX (⟨a8,a9,a7,⟨O,O,O,O,O,O,O,trivial⟩,k,a.sel [0,1,2,3,9,10,4,5,6,7,8] O V⟩)
 have m:=hΦ
 refine zK<|zB<|zC O<|zA<|zU<|zB<|yT O O O<|zF O<|zA<|zT O (fun c6=> ?_)<|fun c6=> ?_
 ·refine zB<|z6 (cs:=(RepD.cells x)) 10 O O O<|zf 7 O O O (zz O) O<|zF O<|zA<|zP<|yk (cs:=(RepD.cells x)) (v:=yC) O O O qF (Own.qd (i:=7) O)<|fun d a=>⟨x,false,cnt,kb,kl,kr,O, .inl ⟨.inr<|.inr<|.inr ⟨a0,by rw[m,c6];show(0:Int)≠8;decide,by rw[m,if_pos c6]⟩,O,O,O,O,O⟩,a.sel [0,1,2,3,4,5] O V⟩
 refine zB<|yT O O O<|zF O<|zA<|zT O (fun c7=> ?_)<|fun c7=> ?_
 ·refine zB<|zC O<|yM (fst:=[]) (cap:=[.pointer (some ⟨p,0,none⟩)]) O qF O O<|fun d a=>(zBs p ({session:=c.session,seq:=c.seq,e:=0,lease:=0,amount:=0,until_:=0}:RepD) 18 d<|a.give [8] O V).mono ?_
  rintro _ w1 ⟨rfl,j⟩
  refine fq [8] O a j<|zb (vs:=[.agg (RepD.cells ({({session:=c.session,seq:=c.seq,e:=0,lease:=0,amount:=0,until_:=0}:RepD)with e:=18})).toArray,yC]) O O O<|zb (vs:=[.agg (RepD.cells ({({session:=c.session,seq:=c.seq,e:=0,lease:=0,amount:=0,until_:=0}:RepD)with e:=18})).toArray,yC]) O O O<|zf 7 O O O (zz O) O<|zF O<|zA<|zP<|yk (cs:=(RepD.cells ({({session:=c.session,seq:=c.seq,e:=0,lease:=0,amount:=0,until_:=0}:RepD)with e:=18}))) (v:=yC) O O O qF (Own.qd (i:=7) O)<|fun d a=>⟨{({session:=c.session,seq:=c.seq,e:=0,lease:=0,amount:=0,until_:=0}:RepD)with e:=18},false,cnt,kb,kl,kr,O, .inl ⟨.inr<|.inr<|.inr ⟨a0,by rw[m,c7];show(13:Int)≠8;decide,by rw[m,if_neg c6,if_pos c7];rfl⟩,O,O,O,O,O⟩,a.sel [0,1,2,3,4,5] O V⟩
 refine zB<|yT O O O<|zF O<|zA<|zT O (fun c8=> ?_)<|fun c8=> ?_
 ·refine zB<|zC O<|zC O<|yM (fst:=[]) (cap:=[.pointer (some ⟨p,0,none⟩)]) O qF O O<|fun d a=>(zBs p ({session:=c.session,seq:=c.seq,e:=0,lease:=0,amount:=0,until_:=0}:RepD) e d<|a.give [8] O V).mono ?_
  rintro _ w1 ⟨rfl,j⟩
  refine fq [8] O a j<|zb (vs:=[.agg (RepD.cells ({({session:=c.session,seq:=c.seq,e:=0,lease:=0,amount:=0,until_:=0}:RepD)with e:=e})).toArray,yC]) O O O<|zb (vs:=[.agg (RepD.cells ({({session:=c.session,seq:=c.seq,e:=0,lease:=0,amount:=0,until_:=0}:RepD)with e:=e})).toArray,yC]) O O O<|zf 7 O O O (zz O) O<|zF O<|zA<|zP<|yk (cs:=(RepD.cells ({({session:=c.session,seq:=c.seq,e:=0,lease:=0,amount:=0,until_:=0}:RepD)with e:=e}))) (v:=yC) O O O qF (Own.qd (i:=7) O)<|fun d a=>⟨{({session:=c.session,seq:=c.seq,e:=0,lease:=0,amount:=0,until_:=0}:RepD)with e:=e},false,cnt,kb,kl,kr,O, .inl ⟨.inr<|.inr<|.inr ⟨a0,by rw[m,c8];show(7:Int)≠8;decide,by rw[m,if_neg c6,if_neg c7];rfl⟩,O,O,O,O,O⟩,a.sel [0,1,2,3,4,5] O V⟩
 refine zN<|zB<|zC O<|z6 (cs:=(CmdD.cells c)) 6 O O O<|zG O O<|fun d a=>(zRl b tb cb bm lm idx now cnt kb kl c d ‹_› qH qH qH<|a.give [0,1,2,3] O V).mono ?_
 rintro _ w1 ⟨n,a2,aa,ab,rfl,s,j⟩
 have ai:=zOz ae ht hc ac af s
 refine fq [0,1,2,3] O a j<|zf 4 O O O (zz O) O<|zA<|zK<|zd [0,1,2,3,5,6,7,8,9,10] O V qF<|fun d a h=>zD 0 O (zL (o:=0) O) h<|zD 1 O (zZ 2 (v:=Vn c.session) O O O) h<|zD 2 O (zL (o:=1) O) h<|zD 3 O (zZ 2 (v:=Vn c.seq) O O O) h<|zD 4 O (zL (o:=0) O) h<|zM 5 O a<|zi (cs:=(RepD.cells n)) 4 O O O O O<|zE [0,1,2,3,5,6,7,8,9,10] O V<|fun d a h=>zD 6 O (zL (o:=1) O) h<|zM 7 O a<|zi 4 O O O O O<|zE [0,1,2,3,5,6,7,8,9,10] O V<|fun d a h=>zX<|(?_:C _ _ _ _ _ _ _ (Own w S [_,_,_,_,_,_,_,_,_,_,_])) _ a
 refine zK<|zd [2,3,4,5,6,7,8,9,10] O V qF<|fun d a h=>zD 0 O za h<|zD 1 O (zY O) h<|zD 2 O (zL (o:=1) O) h<|zD 3 O (zZ 5 (v:= .pointer (some ⟨cb,0,none⟩)) O O O) h<|zD 4 O (xG 2 O O) h<|zM 5 O a<|zG O O<|fun d a=>(zNh cb rm kr ({n with session:=c.session,seq:=c.seq}:RepD) d ai<|a.give [0,1] O V).mono ?_
 rintro _ w1 ⟨ak,a3,rfl,ad,u,j⟩
 refine fq [0,1] O a j<|zE [0,1,2,3,4,5,6,7,8] O V<|fun d a h=>zX<|(?_:C _ _ _ _ _ _ _ (Own w S [_,_,_,_,_,_,_,_,_,_,_])) _ a
 refine zB<|z6 2 O O O<|zf 1 O O O (zz O) O<|zF O<|zA<|zP<|yk (cs:=[Vn c.session,Vn c.seq,Vi n.e,Vn n.lease,Vi n.amount,Vi n.until_]) (v:=xx) O O O qF (Own.qd (i:=1) O)<|fun d a=>⟨({n with session:=c.session,seq:=c.seq}:RepD),true,a2,aa,ab,a3,O, .inr ⟨⟨a0,by rw[m];exact zOM m a0.2 c6 c7 c8⟩,s,O,u⟩,a.sel [5,6,7,8,9,10] O V⟩
end Go.Proofs.YthpoddkmhfhboaaGreatDoor
