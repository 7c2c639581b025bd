import Derived.Ground.NamesProg
import Derived.Shelf.Strings.SlTrimAscii
import Derived.Test.YtmpaljnacfidaaaGreatDoorProg
import Derived.Test.YtmpaljnacfidaaaGreatDoorWlP
import Derived.Test.YtmpaljnacfidaaaGreatDoorIn
import Derived.Test.YtmpaljnacfidaaaGreatDoorFw3
set_option linter.unusedVariables false
set_option linter.unusedSectionVars false
set_option linter.unusedSimpArgs false
namespace Go.Proofs
open Go.Shelf Go.Sc
def Tryz.lays160_ren:Go.Shelf.Ren:=⟨fun |160=>241|232=>374|231=>373|227=>375|234=>377|233=>376|236=>379|235=>378|228=>473|271=>476|151=>475|197=>474|120=>523|152=>522|260=>521|137=>560|119=>561|224=>562|225=>563|217=>597|266=>609|n=>n,fun |9=>9|4=>4|3=>3|5=>5|117=>543|116=>542|0=>0|124=>546|21=>21|105=>628|46=>275|119=>689|139=>692|138=>691|n=>n,fun |3=>0|4=>1|n=>n⟩
theorem Tryz.lays160:Go.Proofs.Lays.n160 Tryz.prog Tryz.lays160_ren:={
  mixed:=by kernel_rfl
  f119:=Tryz.func561.trans (congrArg some qD)
  f120:=Tryz.func523.trans (congrArg some qD)
  f137:=Tryz.func560.trans (congrArg some qD)
  f151:=Tryz.func475.trans (congrArg some qD)
  f152:=Tryz.func522.trans (congrArg some qD)
  f160:=Tryz.func241.trans (congrArg some qD)
  f197:=Tryz.func474.trans (congrArg some qD)
  f217:=Tryz.func597.trans (congrArg some qD)
  f224:=Tryz.func562.trans (congrArg some qD)
  f225:=Tryz.func563.trans (congrArg some qD)
  f227:=Tryz.func375.trans (congrArg some qD)
  f228:=Tryz.func473.trans (congrArg some qD)
  f231:=Tryz.func373.trans (congrArg some qD)
  f232:=Tryz.func374.trans (congrArg some qD)
  f233:=Tryz.func376.trans (congrArg some qD)
  f234:=Tryz.func377.trans (congrArg some qD)
  f235:=Tryz.func378.trans (congrArg some qD)
  f236:=Tryz.func379.trans (congrArg some qD)
  f260:=Tryz.func521.trans (congrArg some qD)
  f266:=Tryz.func609.trans (congrArg some qD)
  f271:=Tryz.func476.trans (congrArg some qD)
  t0:=Tryz.underlying0
  a0:=Tryz.isAgg0
  z0:=Tryz.sizeOf0
  v0:=Tryz.zeroValue0
  t3:=Tryz.underlying3
  a3:=Tryz.isAgg3
  z3:=Tryz.sizeOf3
  v3:=Tryz.zeroValue3
  t4:=Tryz.underlying4
  a4:=Tryz.isAgg4
  z4:=Tryz.sizeOf4
  v4:=Tryz.zeroValue4
  t5:=Tryz.underlying5
  a5:=Tryz.isAgg5
  z5:=Tryz.sizeOf5
  v5:=Tryz.zeroValue5
  t9:=Tryz.underlying9
  a9:=Tryz.isAgg9
  z9:=Tryz.sizeOf9
  v9:=Tryz.zeroValue9
  t21:=Tryz.underlying21
  a21:=Tryz.isAgg21
  z21:=Tryz.sizeOf21
  v21:=Tryz.zeroValue21
  t46:=Tryz.underlying275
  a46:=Tryz.isAgg275
  z46:=Tryz.sizeOf275
  v46:=Tryz.zeroValue275
  t105:=Tryz.underlying628
  a105:=Tryz.isAgg628
  z105:=Tryz.sizeOf628
  v105:=Tryz.zeroValue628
  t116:=Tryz.underlying542
  a116:=Tryz.isAgg542
  z116:=Tryz.sizeOf542
  t117:=Tryz.underlying543
  a117:=Tryz.isAgg543
  z117:=Tryz.sizeOf543
  v117:=Tryz.zeroValue543
  t119:=Tryz.underlying689
  a119:=Tryz.isAgg689
  z119:=Tryz.sizeOf689
  t124:=Tryz.underlying546
  a124:=Tryz.isAgg546
  z124:=Tryz.sizeOf546
  v124:=Tryz.zeroValue546
  t138:=Tryz.underlying691
  a138:=Tryz.isAgg691
  z138:=Tryz.sizeOf691
  v138:=Tryz.zeroValue691
  t139:=Tryz.underlying692
  a139:=Tryz.isAgg692
  z139:=Tryz.sizeOf692
  v139:=Tryz.zeroValue692
  g3:=by kernel_rfl
  g4:=by kernel_rfl}
end Go.Proofs
set_option linter.unusedVariables false
set_option maxRecDepth 10000
namespace Go.Proofs.YtmpaljnacfidaaaGreatDoor
open Go Go.Sc Go.Proofs
theorem zFx:kH Tryz.prog 204=some (9,77):=by kernel_rfl
theorem zPJ:xn Tryz.prog 77=some (FilD.val kJ):=by kernel_rfl
structure WriD where
  kind:Int
  name:ByteArray
  off:Int
  dv:Value
  deriving Inhabited
def WriD.cells(x:WriD):List Value:=[Vi x.kind, .string x.name,Vi x.off,x.dv]
structure DskD where
  fm:Nat
  sv:Value
  uv:Value
  us:List WriD
  room:Int
  fuse:Int
  down:Bool
def DskD.cells(x:DskD):List Value:=[.map (some x.fm),x.sv,x.uv,Vi x.room,Vi x.fuse, .bool x.down]
def vW(v:Value)(l:List WriD):Res:=Res.vec 359 4 v l.length (l.flatMap WriD.cells)
def sF(kf:List (ByteArray×FilD)):Res:=Res.star ((kf.map Prod.snd).map FilD.dres)
def zAq(b:Nat)(D:DskD):Res:=Res.row b 207 (DskD.cells D)
def mF(b:Nat)(kf:List (ByteArray×FilD)):Res:=Res.mp Value.string FilD.val b kf
structure DskOk(D:DskD):Prop where
  fuse:D.fuse=0
  down:D.down=false
  room:D.room≤4194304
  us:D.us.length≤1000
structure DskCl(D:DskD):Prop where
  ok:DskOk D
  us:D.us=[]
def nameSet:List UInt8:=[97,98,99,100,101,102,103,104,105,106,107,108,109,110,111,112,113,114,115,116,117,118,119,120,121,122,48,49,50,51,52,53,54,55,56,57,46]
theorem zKB{α:Type}{p x:α}{q1 q2:List α}(h:p∈q1++q2):p∈q1++x::q2:=by
  rcases List.mem_append.1 h with h|h
  · exact List.mem_append_left _ h
  exact List.mem_append_right _ (.tail _ h)
theorem zIg{f:FilD}:∀ {kf:List (ByteArray×FilD)},f∈kf.map Prod.snd→f.bs.length≤tot kf
  | [],h=>by cases h
  |(k,g)::r,h=>by
    have e:tot ((k,g)::r)=g.bs.length+tot r:=rfl
    rcases List.mem_cons.1 h with rfl|h
    · show _≤_;rw[e];exact Nat.le_add_right _ _
    have:=zIg h;omega
def kR(s:ByteArray):Prop:=(1≤s.size∧s.size≤32)∧∀ c∈s.data.toList,c∈nameSet
theorem zKK{α:Type}{p:α→Bool}:∀ {l:List α},(∀ c∈l,p c=true)→l.dropWhile p=[]
  | [],_=>rfl
  |x::l,h=>by
    simp only[List.dropWhile,h x qH]
    exact zKK fun c a=>h c (by simp[a])
theorem zFw{l cs:List UInt8}(h:∀ c∈l,c∈cs):Lib.trimS l cs=[]:=by
  have h1:Lib.trimRightS l cs=[]:=by
    unfold Lib.trimRightS
    rw[zKK (fun c a=>by simpa using h c (by simpa using a))];rfl
  unfold Lib.trimS
  rw[h1];rfl
theorem zKv(s c:ByteArray)(w:World)(l:s.size≤1000)(m:c.size≤1000)(g:c.data.toList.all (fun b=>decide (b.toNat<128))=true):Rets Tryz.prog 241 #[.string s, .string c] w fun i d=>i= .string (⟨(Lib.trimS s.data.toList c.data.toList).toArray⟩:ByteArray)∧Own w [] [] d:=by
  have h:=Any.strings_Trim_laid Tryz.lays160 qD s c w qE qE (ascii_of_all g)
  refine Calls.mono h fun e d a=>⟨_,a.1,O,(⟨⟨a.2.os,a.2.tape,a.2.output,a.2.size,fun k j _=>a.2.block k j⟩,by simp,by simp,by simp⟩)⟩
theorem zM3(s:ByteArray)(w:World)(h:kR s):Rets Tryz.prog 382 #[.string s] w fun j e=>j=xl∧Own w [] [] e:=by
  have d:=h.1
  refine zO Tryz.func382 O Tryz.ntmps382 (Own.start w) (zB (zG O (zA (zB (zC O (zLf O O O (zC O (yA (q:=s≠yEb) 3 2 [8,7,6] (((s.size:Nat):Int)≤32) O O O O O O trivial O (fun a=> ?_) (fun i=> ?_)))))))))
  ·refine zQ O (gT a) (zC O (zQ O (gT a) (zCO qD O O (zQ O (gT a) (yq O O O (z8 O (fun _ c=>c)))))))
  refine zC O (yA (q:=(s≠yEb)∧(((s.size:Nat):Int)≤32)) 3 7 [13,12,11] ((⟨(Lib.trimS s.data.toList (⟨#[97,98,99,100,101,102,103,104,105,106,107,108,109,110,111,112,113,114,115,116,117,118,119,120,121,122,48,49,50,51,52,53,54,55,56,57,46]⟩:ByteArray).data.toList).toArray⟩:ByteArray)=yEb) O O O O O O trivial O (fun b=> ?_) (fun g=> ?_))
  ·refine zQ O (gT b) (zC O (zQ O (gT b) (zH O O (fun e c=>(zKv s (⟨#[97,98,99,100,101,102,103,104,105,106,107,108,109,110,111,112,113,114,115,116,117,118,119,120,121,122,48,49,50,51,52,53,54,55,56,57,46]⟩:ByteArray) e qF V qI).mono ?_))))
   rintro _ k ⟨rfl,m⟩
   refine(?_:CL _ _ _ _ _ _ (Own w [] [])) k (c.qb m)
   refine zQ O (gT b) (zGF O O O (z8 O (fun _ c=>c)))
  refine zG O (zA (zP (zn (v:= .bool (decide (((s≠yEb)∧(((s.size:Nat):Int)≤32))∧((⟨(Lib.trimS s.data.toList (⟨#[97,98,99,100,101,102,103,104,105,106,107,108,109,110,111,112,113,114,115,116,117,118,119,120,121,122,48,49,50,51,52,53,54,55,56,57,46]⟩:ByteArray).data.toList).toArray⟩:ByteArray)=yEb)))) O O (fun e c=>⟨(congrArg Value.bool (decide_eq_true ⟨⟨fun q=>by rw[q]at d;exact absurd d.1 V,by omega⟩,congrArg (fun l:List UInt8=>(⟨l.toArray⟩:ByteArray)) (zFw h.2)⟩)),c.drop⟩))))
theorem zLj(v:Value)(l:List UInt8)(m:Nat)(w:World)(j:m≤10000000)(hl:l.length≤10000000)(hv:Rd w [] (Res.sl v l.length (l.map vb))):Rets Tryz.prog 335 #[v,Vj m] w fun h c=>∃ (r:Value) (bs:List UInt8),h=r∧bs.length=m∧Own w [] [vY r bs] c:=by
  refine zO Tryz.func335 O Tryz.ntmps335 (Own.start w) (zB (zG O (zA (zB (zC O (zPh (e:=5) (by':=1) (m:=m) qD qD O O qF V O (fun g=>zG O (zA (zB (zC O (zC O (zL6 (e:=5) (l:=(List.replicate m (0:UInt8))) (bs:=l) 0 0 (.inl ⟨O,O⟩) O (fun c d=>Own.rd hv d) O qE qD qD O (fun _ b a=>zA (zB (zC O (zG O (zA (zP (zn (v:=(.slice (some ⟨g,0,none⟩) m m)) O O (fun c i=>⟨(.slice (some ⟨g,0,none⟩) m m),b,O,(by rw[a,List.length_replicate]),i⟩))))))))))))))))))))
theorem zSm(v:Value)(l:List UInt8)(off:Nat)(dv:Value)(data:List UInt8)(w:World)(ho:off≤4194304)(hl:l.length≤4194304)(q:data.length≤1000000)(hv:Rd w [] (Res.sl v l.length (l.map vb)))(h:Rd w [] (Res.sl dv data.length (data.map vb))):Rets Tryz.prog 334 #[v,Vj off,dv] w fun n i=>∃ (r:Value) (bs:List UInt8),n=r∧bs.length=max l.length (off+data.length)∧Own w [] [vY r bs] i:=by
  refine zO Tryz.func334 O Tryz.ntmps334 (Own.start w) (zB (zG O (zA (zB (zC O (zC O (zo (pR hv) O O (zC O (zC O (zo (pR h) O O (zr O O (zt qE) O (zCP (c:=((max l.length (off+data.length):Nat):Int)) O O (zJu _ _) O (zH O O (fun i k=>((zLj v l (max l.length (off+data.length)) i qF qF (k.rd0 hv)).mono ?_)))))))))))))))
  rintro j o ⟨_,b,rfl,d,p⟩
  refine(?_:CL _ _ _ _ _ _ (Own w [] [_])) o (k.qb p)
  refine zG O (zA (zB (zC O (zC O (zBE (pV 0 O) 1 off b.length qD O ⟨_,O⟩ O qE qE O (zC O (zL6 (e:=5) (l:=b) (bs:=data) 0 off (.inr O) O (fun i m=>Own.rd h m) O qE qD qD O (fun _ g a=>zA (zB (zC O (zG O (zA (zP (zn (v:=j) O O (fun i k=>⟨j,g,O,(a.trans d),k⟩)))))))))))))))
theorem zOK(m:Nat)(nm:ByteArray)(off:Nat)(dv:Value)(data:List UInt8)(w:World)(ho:off≤4194304)(h:m≤10000000)(i:data.length≤1000000)(a:Rd w [] (Res.sl dv data.length (data.map vb))):Rets Tryz.prog 400 #[Vj m, .agg #[Vi 1, .string nm,Vj off,dv]] w fun e b=>e=Vj (max m (off+data.length))∧Own w [] [] b:=by
  refine zO Tryz.func400 O Tryz.ntmps400 (Own.start w) (zB (zj O O (fun j=>zG O (zA (zK (zB (zI (o:=0) O O (zJ 0 (v:=Vi 1) O O O O (zA (zU (zB (yR O O O (zG O (zA (zT O (fun d=> ?_) (fun d=> ?_))))))))))))))))
  ·refine zB (zC O (zI (o:=2) O O (zJ 0 (v:=Vj off) O O O O (zI (o:=3) O O (zJ 0 (v:=dv) O O O O (zo (pR a) O O (zr O O (zt qE) O (zCP (c:=((max m (off+data.length):Nat):Int)) O O (zJu _ _) O (zG O (zA (zP (zn (v:=Vj (max m (off+data.length))) O O (fun b g=>⟨O,g.drop⟩)))))))))))))
  exact absurd O d
theorem zMt{S:List Nat}(fm:Nat)(kf:List (ByteArray×FilD))(w:World)(t:tot kf≤1000000000)(e:Own w S [Res.mp Value.string FilD.val fm kf,Res.star ((kf.map Prod.snd).map FilD.dres)] w):Rets Tryz.prog 401 #[.map (some fm)] w fun r c=>r=Vj (tot kf)∧Own w S [Res.mp Value.string FilD.val fm kf,Res.star ((kf.map Prod.snd).map FilD.dres)] c:=by
  refine zO Tryz.func401 O Tryz.ntmps401 e (zB (zG O (zA (zB (zG O (zA (zK (zB (zC O (ji 0 zFx O O O (fun m=>zA (zU (xI (fun(a:List (ByteArray×FilD)) (n:Nat)=>[(3,Vj n),(7,pt m)]) (fun(a:List (ByteArray×FilD)) (n:Nat)=>n+tot a=tot kf∧∀ p∈a,p∈kf) (fun(a:List (ByteArray×FilD)) (n:Nat)=>[Res.rg Value.string FilD.val fm m kf a,Res.star ((kf.map Prod.snd).map FilD.dres)]) (fun(a:List (ByteArray×FilD)) (n:Nat)=>a.length) (fun c d=>⟨kf,0,⟨O,O,trivial⟩,⟨Nat.zero_add _,fun _ h=>h⟩,d⟩) (fun a n g i=> ?_))))))))))))))
  have o:=i.1
  refine zB (zAl 0 O O O (fun j=> ?_) (fun q1 k v q b=> ?_))
  ·refine zb (vs:=[zu]) O O O (zA (zK (yT O (zz O (zB (zC O (zG O (zA (zP (zn (v:=Vj n) O O (fun c d=>⟨(by rw[show n=tot kf by rw[j]at o;exact o]),(Own.rgEnd 0 d O)⟩)))))))))))
  have s:tot a=tot (q1++q)+v.bs.length:=by rw[b,zIx]
  refine zb (vs:=[xl, .string k,v.v]) O O O (zA (zK (x2 O (zN (zU (zB (jo 0 O O O (zb (vs:=[.string k,v.v]) O O O (zG O (zA (zd (zC O (zC O (zGZ (len:=v.bs.length) (cs:=(v.bs.map vb)) qD O (fun c l=>zLb (Own.star0 1 O l) (List.mem_map_of_mem (f:=Prod.snd) (i.2 (k,v) (by rw[b];simp)))) O (zr O O (zt qE) O (zG O (zw (fun c d=>⟨q1++q,n+v.bs.length,⟨O,O,trivial⟩,⟨by omega,fun p hp=>i.2 p (by rw[b];exact zKB hp)⟩,d,(by rw[b,List.length_append,List.length_append,List.length_cons];omega)⟩))))))))))))))))))
theorem zMD{S:List Nat}(fm:Nat)(kf:List (ByteArray×FilD))(w:World)(o:tot kf≤1000000000)(l:Own w S [Res.mp Value.string FilD.val fm kf,Res.star ((kf.map Prod.snd).map FilD.dres)] w):Rets Tryz.prog 196 #[.map (some fm)] w fun q d=>∃ (r:Nat),q= .map (some r)∧Own w S [Res.mp Value.string FilD.val fm kf,Res.star ((kf.map Prod.snd).map FilD.dres)] d:=by
  refine zO Tryz.func196 O Tryz.ntmps196 l (zB (zG O (zA (zB (xb (α:=FilD) Value.string FilD.val O O (fun j=>zG O (zA (zK (zB (zC O (ji 0 zFx O O O (fun n=>zA (zU (xI (fun(a e:List (ByteArray×FilD))=>[(3, .map (some j)),(8,pt n)]) (fun(a e:List (ByteArray×FilD))=>∀ p∈a,p∈kf) (fun(a e:List (ByteArray×FilD))=>[Res.rg Value.string FilD.val fm n kf a,Res.star ((kf.map Prod.snd).map FilD.dres),Res.mp Value.string FilD.val j e]) (fun(a e:List (ByteArray×FilD))=>a.length) (fun d c=>⟨kf,[],⟨O,O,trivial⟩,fun _ h=>h,c⟩) (fun a e g m=>(zB (zAl 0 O O O (fun s=> ?_) (fun q1 k v t b=> ?_))))))))))))))))))
  ·refine zb (vs:=[zu]) O O O (zA (zK (yT O (zz O (zB (zC O (zG O (zA (zP (zn (v:= .map (some j)) O O (fun d c=>⟨j,O,(Own.rgEnd 0 c O).sel [0,1] O V⟩)))))))))))
  have u:v.bs.length≤1000000000:=Nat.le_trans (zIg (List.mem_map_of_mem (f:=Prod.snd) (m (k,v) (by rw[b];simp)))) o
  refine zb (vs:=[xl, .string k,v.v]) O O O (zA (zK (x2 O (zN (zU (zB (jo 0 O O O (zb (vs:=[.string k,v.v]) O O O (zb (vs:=[.string k,v.v]) O O O (zG O (zG O (zA (zd (zC O (zC O (zC O (zH O O (fun d c=>(yu v.v v.bs d qG (Rd.of (zLb (Own.star0 1 O c) (List.mem_map_of_mem (f:=Prod.snd) (m (k,v) (by rw[b];simp)))))).mono ?_))))))))))))))))))
  rintro i x ⟨_,rfl,y⟩
  refine(?_:CL _ _ _ _ _ _ (Own w S [_,_,_,_])) x (c.qb y)
  refine jD 2 (k:=k) (v:=({v:=i,bs:=v.bs}:FilD)) zDp zFx O O O O (zw (fun d c=>⟨q1++t,yS k ⟨i,v.bs⟩ e,⟨O,O,trivial⟩,fun p hp=>m p (by rw[b];exact zKB hp),c.sel [0,1,2] O V,(by rw[b,List.length_append,List.length_append,List.length_cons];omega)⟩))
theorem zRh{S:List Nat}(fm:Nat)(kf:List (ByteArray×FilD))(nm:ByteArray)(off:Nat)(dv:Value)(data:List UInt8)(w:World)(ho:off≤4194304)(r:tot kf≤4194304)(s:data.length≤1000000)(h:Own w S [Res.mp Value.string FilD.val fm kf,Res.star ((kf.map Prod.snd).map FilD.dres)] w)(i:Rd w S (Res.sl dv data.length (data.map vb))):Rets Tryz.prog 197 #[.map (some fm), .agg #[Vi 1, .string nm,Vj off,dv]] w fun n d=>∃ (f:FilD),n= .tuple #[]∧f.bs.length=max ((zl nm kf).getD kJ).bs.length (off+data.length)∧Own w S [Res.mp Value.string FilD.val fm (yS nm f kf),Res.star (((yS nm f kf).map Prod.snd).map FilD.dres)] d:=by
  have t:=zCr (k:=nm) (l:=kf)
  refine zO Tryz.func197 O Tryz.ntmps197 h (zB (zj O O (fun u=>zA (zB (zI (o:=0) O O (zJ 2 (v:=Vi 1) O O O O (zA (zU (zB (yR O O O (zG O (zA (zT O (fun m=> ?_) (fun m=> ?_))))))))))))))
  ·refine zc [2] O V qD (fun d a b=>zD 0 O za b (zD 1 O (zL (o:=1) O) b (zD 2 O (zZ 0 (v:= .string nm) O O O) b (zD 3 O za b (zD 4 O (zL (o:=1) O) b (zD 5 O (zZ 0 (v:= .string nm) O O O) b (zD 7 O (zL (o:=2) O) b (zD 8 O (zZ 0 (v:=Vj off) O O O) b (zD 9 O (zL (o:=3) O) b (zD 10 O (zZ 0 (v:=dv) O O O) b (zM 6 O a (zR3 (k:=nm) (kv:=kf) (zv:=kJ) zDp zFx zPJ O O (fun d j=>Own.holds j 0 _ O) O (zE [2] O V (fun d a b=>zM 11 O a (zH O O (fun d a=>(zSm ((((zl nm kf).getD kJ)).v) ((((zl nm kf).getD kJ)).bs) off dv data d qF qF qF (Rd.of (zER (Own.star0 1 O a))) (a.rd0 i)).mono ?_))))))))))))))))
   rintro g p ⟨_,c,rfl,e,q⟩
   refine(?_:CL _ _ _ _ _ _ (Own w S [_,_,_,_])) p (a.qb q)
   refine zE [2] O V (fun d a b=>zM 12 O a (jD 0 (k:=nm) (v:=({v:=g,bs:=c}:FilD)) zDp zFx O O O O (zE [2] O V (fun d a b=>zY ((yl O (fun d a=>⟨⟨g,c⟩,O,e,(Own.filPut (k:=nm) (f:=({v:=g,bs:=c}:FilD)) 1 3 V O O a).sel [0,1] O V⟩)) _ a)))))
  exact absurd O m
theorem zDE{S:List Nat}(db:Nat)(D:DskD)(kf:List (ByteArray×FilD))(w:World)(d:DskOk D)(a:Own w S [zAq db D,Res.mp Value.string FilD.val D.fm kf,Res.star ((kf.map Prod.snd).map FilD.dres),vW D.uv D.us] w):Rets Tryz.prog 255 #[pt db] w fun e b=>e=Vi 0∧Own w S [zAq db D,Res.mp Value.string FilD.val D.fm kf,Res.star ((kf.map Prod.snd).map FilD.dres),vW D.uv D.us] b:=by
  refine zO Tryz.func255 O Tryz.ntmps255 a (zB (zG O (zA (zK (zU (zB (zC O (yF qD O O O (zG O (zA (yT O (zB (zC O (zV O O (zI (o:=5) O O (zJ 0 (v:= .bool D.down) O O O O (zG O (zA (ku O (fun c=> ?_) (fun c=> ?_))))))))))))))))))))
  ·exact absurd c (by rw[d.down];decide)
  refine zN (zB (zG O (zA (zP (zn (v:=Vi 0) O O (fun b g=>⟨O,g⟩))))))
theorem zHp{S:List Nat}(db:Nat)(D:DskD)(kf:List (ByteArray×FilD))(w:World)(b:DskOk D)(a:Own w S [zAq db D,Res.mp Value.string FilD.val D.fm kf,Res.star ((kf.map Prod.snd).map FilD.dres),vW D.uv D.us] w):Rets Tryz.prog 402 #[pt db] w fun e c=>e=zu∧Own w S [zAq db D,Res.mp Value.string FilD.val D.fm kf,Res.star ((kf.map Prod.snd).map FilD.dres),vW D.uv D.us] c:=by
  refine zO Tryz.func402 O Tryz.ntmps402 a (zB (zG O (zA (zK (zB (zC O (zV O O (zI (o:=4) O O (zJ 0 (v:=Vi D.fuse) O O O O (yU O O O (zA (zT O (fun d=> ?_) (fun d=> ?_)))))))))))))
  ·exact absurd d (by rw[b.fuse];decide)
  refine zN (zB (zC O (zV O O (zI (o:=5) O O (zJ 0 (v:= .bool D.down) O O O O (zG O (zA (zP (zn (v:= .bool D.down) O O (fun c g=>⟨(by rw[b.down]),g⟩))))))))))
theorem zNo{S:List Nat}(db:Nat)(D:DskD)(kf:List (ByteArray×FilD))(w:World)(c:DskOk D)(a:Own w S [zAq db D,Res.mp Value.string FilD.val D.fm kf,Res.star ((kf.map Prod.snd).map FilD.dres),vW D.uv D.us] w):Rets Tryz.prog 242 #[pt db] w fun d b=>d=zu∧Own w S [zAq db D,Res.mp Value.string FilD.val D.fm kf,Res.star ((kf.map Prod.snd).map FilD.dres),vW D.uv D.us] b:=by
  refine zO Tryz.func242 O Tryz.ntmps242 a (zB (zG O (zA (zB (zC O (yF qD O O O (zC O (zQ O O (zC O (zQ O O (zV O O (zQ O O (zI (o:=5) O O (zQ O O (zJ 0 (v:= .bool D.down) O O O O (y2 O O (zG O (zA (zP (zn (v:= .bool D.down) O O (fun b e=>⟨(by rw[c.down]),e⟩)))))))))))))))))))))
theorem zJH{S:List Nat}(db:Nat)(D:DskD)(kf:List (ByteArray×FilD))(nm:ByteArray)(off:Nat)(dv:Value)(data:List UInt8)(w:World)(hk:DskOk D)(hn:kR nm)(hr:((tot kf+off+data.length:Nat):Int)≤D.room)(hl:kf.length<4096)(hd:data.length≤1000000)(a4:Own w S [zAq db D,Res.mp Value.string FilD.val D.fm kf,Res.star ((kf.map Prod.snd).map FilD.dres),vW D.uv D.us] w)(a0:Rd w S (Res.sl dv data.length (data.map vb))):Rets Tryz.prog 258 #[pt db, .agg #[Vi 1, .string nm,Vj off,dv]] w fun u_ d=>∃ (xu:Value) (xs:List WriD) (f:FilD),u_=Vi 0∧xs.length=D.us.length+1∧f.bs.length=max ((zl nm kf).getD kJ).bs.length (off+data.length)∧Own w S [zAq db ({D with uv:=xu,us:=xs}:DskD),Res.mp Value.string FilD.val D.fm (yS nm f kf),Res.star (((yS nm f kf).map Prod.snd).map FilD.dres),vW xu xs] d:=by
  have a9:=hk.room
  have aa:=hk.us
  have hg:=zCr (k:=nm) (l:=kf)
  refine zO Tryz.func258 O Tryz.ntmps258 a4 (zB (zj O O (fun b3=>zG O (zA (zK (zB (zC O (zH O O (fun d a=>(zDE db D kf d ‹_› (a.give [0,1,2,3] O V)).mono ?_)))))))))
  rintro _ y ⟨rfl,p⟩
  refine fq [0,1,2,3] O a p (zG O (zA (zB (zC O (yd O O O (zA (zT O (fun c1=> ?_) (fun c1=> ?_))))))))
  ·exact absurd O c1
  refine zN (zK (zB (zI (o:=1) O O (zJ 0 (v:= .string nm) O O O O (zH O O (fun d a=>(zM3 nm d ‹_›).mono ?_))))))
  rintro _ y ⟨rfl,p⟩
  refine(?_:CL _ _ _ _ _ _ (Own w S [_,_,_,_,_])) y (a.qb p)
  refine xi (b:=true) O O (zC O (zQ O O (zI (o:=2) O O (zQ O O (zJ 0 (v:=Vj off) O O O O (zQ O O (zy O O O (y2 O O (zC O (yK (q:=((off:Nat):Int)<0) 3 9 [26,25,24] (4194304<((off:Nat):Int)) O O O O O O trivial O (fun r=> ?_) (fun a5=> ?_)))))))))))
  ·refine zQ O (gF r) (zI (o:=2) O O (zQ O (gF r) (zJ 0 (v:=Vj off) O O O O (zQ O (gF r) (yU O O O (z8 O (fun _ a=>a)))))))
  refine zA (zT O (fun c2=> ?_) (fun c2=> ?_))
  ·exact absurd c2 qE
  refine zN (yZ qD qD (zR O za (zR O (zX O) (zR O (zL (o:=0) O) (zR O (zZ 1 (v:= .map (some D.fm)) O O O) (zR O (zL (o:=1) O) (zR O (zZ 0 (v:= .string nm) O O O) (zR O (zGo (k:=nm) (kv:=kf) (zv:=kJ) zDp zFx zPJ O O (fun d h=>Own.holds h 2 _ O)) (zR O za (zR O (yD (vs:=[(((zl nm kf).getD kJ)).v, .bool ((zl nm kf).isSome)]) O O) (zR O (yD (vs:=[(((zl nm kf).getD kJ)).v, .bool ((zl nm kf).isSome)]) O O) (zR O z7 (zR O z7 (xP (zK (zB (zC O (xi (b:=(zl nm kf).isSome) O O (zC O (yA (q:=(!((zl nm kf).isSome))=true) 3 2 [43,42,41] (1≠3) O O (yt _) O O O trivial O (fun s=> ?_) (fun a8=> ?_)))))))))))))))))))))
  ·refine zQ O (bT s) (zI (o:=0) O O (zQ O (bT s) (zJ 0 (v:=Vi 1) O O O O (zQ O (bT s) (yd O O O (z8 O (fun _ a=>a)))))))
  refine zC O (yA (q:=((!((zl nm kf).isSome))=true)∧(1≠3)) 6 7 [51,50,49,48,47,46] (4096≤((kf.length:Nat):Int)) O O O O O O trivial O (fun j=> ?_) (fun a6=> ?_))
  ·refine zQ O (gT j) (zC O (zQ O (gT j) (zV O O (zQ O (gT j) (zI (o:=0) O O (zQ O (gT j) (zJ 1 (v:= .map (some D.fm)) O O O O (zQ O (gT j) (zCq Value.string FilD.val (kv:=kf) zFx O (fun d h=>Own.holds h 2 _ O) O (zQ O (gT j) (xE O O O (z8 O (fun _ a=>a)))))))))))))
  refine zA (zT O (fun c3=> ?_) (fun c3=> ?_))
  ·exact absurd c3.2 qE
  refine zN (jN (fun(u:Unit)=>[(0,pt db),(3,pt b3)]) (fun(u:Unit)=>True) (fun(u:Unit)=>[Res.row b3 359 [Vi 1, .string nm,Vj off,dv],zAq db D,Res.mp Value.string FilD.val D.fm kf,Res.star ((kf.map Prod.snd).map FilD.dres),vW D.uv D.us]) ?_ (fun u g hΦ=> ?_))
  ·refine zB (zC O (zGZ (len:=((((zl nm kf).getD kJ)).bs).length) (cs:=(((((zl nm kf).getD kJ)).bs).map vb)) qD O (fun d h=>zER (Own.star0 3 O h)) O (z1 (cs:=[Vi 1, .string nm,Vj off,dv]) 0 O O O (zH O O (fun d a=>(zOK (((((zl nm kf).getD kJ)).bs).length) _ off dv data d qF qF qF (a.rd0 a0)).mono ?_)))))
   rintro _ y ⟨rfl,p⟩
   refine(?_:CL _ _ _ _ _ _ (Own w S [_,_,_,_,_])) y (a.qb p)
   refine zC O (zGZ (len:=((((zl nm kf).getD kJ)).bs).length) (cs:=(((((zl nm kf).getD kJ)).bs).map vb)) qD O (fun d h=>zER (Own.star0 3 O h)) O (y5 O O (zt qE) O (zG O (zA (zK (zc [0,1,2,4] O V qD (fun d a c=>zD 0 O za c (zD 1 O (zCX O O) c (zD 2 O za c ?_)))))))))
   by_cases g10_2:0<(((max (((((zl nm kf).getD kJ)).bs).length) (off+data.length):Nat):Int) - ((((((zl nm kf).getD kJ)).bs).length:Nat):Int))
   ·refine xM 3 O O (gT g10_2) za c (xM 4 O O (gT g10_2) (zX O) c (xM 5 O O (gT g10_2) (zL (o:=0) O) c (xM 6 O O (gT g10_2) (zZ 1 (v:= .map (some D.fm)) O O O) c (xM 8 O O (gT g10_2) za c (xM 10 O O (gT g10_2) za c (xM 11 O O (gT g10_2) (zX O) c (xM 12 O O (gT g10_2) (zL (o:=3) O) c (xM 13 O O (gT g10_2) (zZ 1 (v:=Vi D.room) O O O) c (zM 7 O a (zQ O (gT g10_2) (zH O O (fun d a=>(zMt D.fm kf d qF (a.give [2,3] O V)).mono ?_))))))))))))
    rintro _ y ⟨rfl,p⟩
    refine fq [2,3] O a p (zE [0,1,3,2] O V (fun d a c=>xM 9 O O (gT g10_2) (xL O O (zt qE)) c (xM 14 O O (gT g10_2) (zCX O O) c (zD 15 O (zCk (gT g10_2)) c (zY ((?_:C _ _ _ _ _ _ _ (Own w S [_,_,_,_,_])) _ a))))))
    refine zT O (fun c4=> ?_) (fun c4=> ?_)
    ·exact absurd c4 qE
    exact xy (fun d a=>⟨(),⟨O,O,trivial⟩,trivial,a.sel [0,1,3,4,2] O V⟩)
   refine yM 3 O O (gF g10_2) O c (yM 4 O O (gF g10_2) O c (yM 5 O O (gF g10_2) O c (yM 6 O O (gF g10_2) O c (yM 7 O O (gF g10_2) O c (yM 8 O O (gF g10_2) O c (yM 9 O O (gF g10_2) O c (yM 10 O O (gF g10_2) O c (yM 11 O O (gF g10_2) O c (yM 12 O O (gF g10_2) O c (yM 13 O O (gF g10_2) O c (yM 14 O O (gF g10_2) O c (zD 15 O (zAh (gF g10_2)) c (zY ((?_:C _ _ _ _ _ _ _ (Own w S [_,_,_,_,_])) _ a))))))))))))))
   refine yT O (xy (fun d a=>⟨(),⟨O,O,trivial⟩,trivial,a⟩))
  refine zK (zB (zC O (zH O O (fun d a=>(zHp db D kf d ‹_› (a.give [1,2,3,4] O V)).mono ?_))))
  rintro _ y ⟨rfl,p⟩
  refine fq [1,2,3,4] O a p (zA (yT O (zN (zB (zI (o:=3) O O (zJ 0 (v:=dv) O O O O (zH O O (fun d a=>(yu dv data d qG (a.rd0 a0)).mono ?_))))))))
  rintro m y ⟨_,rfl,p⟩
  refine(?_:CL _ _ _ _ _ _ (Own w S [_,_,_,_,_,_])) y (a.qb p)
  refine zI (o:=3) O O (zS (fun d a=>Own.qa (i:=5) O a) (fun x=>(zi (cs:=[Vi 1, .string nm,Vj off,dv]) 0 O O O x O (zA (zK (zc [0,1,4,5] O V qD (fun d a c=>zD 0 O za c (zD 1 O (zX O) c (zD 2 O (zL (o:=0) O) c (zD 3 O (zZ 1 (v:= .map (some D.fm)) O O O) c (zD 4 O (xB (cs:=[Vi 1, .string nm,Vj off,m]) 0 O O) c (zM 5 O a (zH O O (fun d a=>(zRh D.fm kf _ off m data d qF qF qF (a.give [2,3] O V) (a.rdVec 5 O [2,3] O O)).mono ?_))))))))))))))
  rintro _ y ⟨a1,rfl,n,p⟩
  refine fq [2,3] O a p (zE [0,1,2,3] O V (fun d a c=>zY ((?_:C _ _ _ _ _ _ _ (Own w S [_,_,_,_,_,_])) _ a)))
  refine zK (zc [0,3,4] O V qD (fun d a c=>zD 0 O za c (zD 1 O za c (zD 2 O (zX O) c (zD 3 O (zL (o:=2) O) c (zD 5 O (xB (cs:=[Vi 1, .string nm,Vj off,m]) 0 O O) c (z2 4 6 ?_ ?_)))))))
  ·refine zm 4 O a (zJ 1 (v:=D.uv) O O O O (zE [0,3,4] O V (fun d a c=>zM 6 O a (yC (e:=359) (sz:=4) (vs:=[.agg #[Vi 1, .string nm,Vj off,m]]) qD O O (by simp[Value.cells,WriD.cells]) V O (fun a7=>zE [0,3,4] O V (fun d a c=>zM 7 O a (yE (g:=WriD.cells) (sz:=4) (by':=56) (fun _=>O) (l:=D.us) (l':=[({kind:=1,name:=nm,off:=((off:Nat):Int),dv:=m}:WriD)]) (all_cons ((zF O (zF O (zF O (zF x zh))))) qH) 2 qD O O O (fun d h=>Vec.sl (Own.holds h 6 _ O)) qF V O (fun z=>zE [0,3,4] O V (fun d a c=>zD 8 O (zX O) c (zD 9 O (zL (o:=2) O) c (zM 10 O a (zS (fun d a=>Own.qa (i:=2) O a) (fun a2=>(zi (cs:=(DskD.cells D)) 1 O O O a2 O (zE [0,3,4] O V (fun d a c=>zY ((?_:C _ _ _ _ _ _ _ (Own w S [_,_,_,_,_,_,_])) _ a)))))))))))))))))
   refine zB (zG O (zA (zP (zn (v:=Vi 0) O O (fun d a=>⟨z,D.us++[⟨1,nm,((off:Nat):Int),m⟩],a1,O,qH,n,a.sel [1,4,5,2] O V⟩)))))
  refine zm 6 O a (yC (e:=359) (sz:=4) (vs:=[.agg #[Vi 1, .string nm,Vj off,m]]) qD O O (by simp[Value.cells,WriD.cells]) V O (fun a7=>zE [0,3,4] O V (fun d a c=>zM 4 O a (zJ 1 (v:=D.uv) O O O O (zE [0,3,4] O V (fun d a c=>zM 7 O a (yE (g:=WriD.cells) (sz:=4) (by':=56) (fun _=>O) (l:=D.us) (l':=[({kind:=1,name:=nm,off:=((off:Nat):Int),dv:=m}:WriD)]) (all_cons ((zF O (zF O (zF O (zF x zh))))) qH) 2 qD O O O (fun d h=>Vec.sl (Own.holds h 6 _ O)) qF V O (fun z=>zE [0,3,4] O V (fun d a c=>zD 8 O (zX O) c (zD 9 O (zL (o:=2) O) c (zM 10 O a (zS (fun d a=>Own.qa (i:=2) O a) (fun a3=>(zi (cs:=(DskD.cells D)) 1 O O O a3 O (zE [0,3,4] O V (fun d a c=>zY ((?_:C _ _ _ _ _ _ _ (Own w S [_,_,_,_,_,_,_])) _ a)))))))))))))))))
  refine zB (zG O (zA (zP (zn (v:=Vi 0) O O (fun d a=>⟨z,D.us++[⟨1,nm,((off:Nat):Int),m⟩],a1,O,qH,n,a.sel [1,4,5,2] O V⟩)))))
theorem zRH{S:List Nat}(db:Nat)(D:DskD)(kf:List (ByteArray×FilD))(nm:ByteArray)(off:Nat)(dv:Value)(data:List UInt8)(w:World)(o:DskOk D)(p:kR nm)(q:((tot kf+off+data.length:Nat):Int)≤D.room)(hl:kf.length<4096)(r:data.length≤1000000)(i:Own w S [zAq db D,Res.mp Value.string FilD.val D.fm kf,Res.star ((kf.map Prod.snd).map FilD.dres),vW D.uv D.us] w)(c:Rd w S (Res.sl dv data.length (data.map vb))):Rets Tryz.prog 395 #[pt db, .string nm,Vj off,dv] w fun m h=>∃ (l:Value) (j:List WriD) (f:FilD),m=Vi 0∧j.length=D.us.length+1∧f.bs.length=max ((zl nm kf).getD kJ).bs.length (off+data.length)∧Own w S [zAq db ({D with uv:=l,us:=j}:DskD),Res.mp Value.string FilD.val D.fm (yS nm f kf),Res.star (((yS nm f kf).map Prod.snd).map FilD.dres),vW l j] h:=by
  refine zO Tryz.func395 O Tryz.ntmps395 i (zB (zG O (zA (zB (zC O (zC O (zC O (zC O (xK (cs:=[Vi 1, .string nm,Vj off,dv]) (z:=[Vi 0,yh,Vi 0,zW]) (pl:=[(0,1),(1,1),(2,1),(3,1)]) qD ⟨O,O,O,(Sl.cell1 (Rd.φ c)),trivial⟩ qD O (zH O O (fun h d=>(zJH db D kf _ off dv data h ‹_› ‹_› qF qF qF (d.give [0,1,2,3] O V) (d.rdTo c [0,1,2,3] O)).mono ?_)))))))))))
  rintro _ s ⟨e,g,k,rfl,b,a,n⟩
  refine fq [0,1,2,3] O d n (zG O (zA (zP (zn (v:=Vi 0) O O (fun h d=>⟨e,g,k,O,b,a,d⟩)))))
theorem zMg{S:List Nat}(db:Nat)(D:DskD)(kf:List (ByteArray×FilD))(w:World)(j:DskOk D)(k:tot kf≤1000000000)(e:Own w S [zAq db D,Res.mp Value.string FilD.val D.fm kf,Res.star ((kf.map Prod.snd).map FilD.dres),vW D.uv D.us] w):Rets Tryz.prog 388 #[pt db] w fun i b=>∃ (xv:Value),i=Vi 0∧Own w S [zAq db ({D with sv:=xv,uv:=zW,us:=[]}:DskD),Res.mp Value.string FilD.val D.fm kf,Res.star ((kf.map Prod.snd).map FilD.dres),vW zW ([]:List WriD)] b:=by
  refine zO Tryz.func388 O Tryz.ntmps388 e (zB (zG O (zA (zK (zB (zC O (zH O O (fun b a=>(zDE db D kf b ‹_› (a.give [0,1,2,3] O V)).mono ?_))))))))
  rintro _ g ⟨rfl,d⟩
  refine fq [0,1,2,3] O a d (zG O (zA (zB (zC O (yd O O O (zA (zT O (fun h=> ?_) (fun h=> ?_))))))))
  ·exact absurd O h
  refine zN (zK (zB (zC O (zH O O (fun b a=>(zHp db D kf b ‹_› (a.give [0,1,2,3] O V)).mono ?_)))))
  rintro _ g ⟨rfl,d⟩
  refine fq [0,1,2,3] O a d (zA (yT O (zN (zB (zC O (zC O (zC O (zV O O (zI (o:=0) O O (zJ 0 (v:= .map (some D.fm)) O O O O (zH O O (fun b a=>(zMD D.fm kf b qF (a.give [1,2] O V)).mono ?_))))))))))))
  rintro _ g ⟨c,rfl,d⟩
  refine fq [1,2] O a d (zV O O (zI (o:=1) O O (zi (cs:=(DskD.cells D)) 0 O O O O O (zV O O (zI (o:=2) O O (zi (cs:=(DskD.cells ({D with sv:= .map (some c)}:DskD))) 0 O O O O O (zA (zB (zG O (zA (zP (zn (v:=Vi 0) O O (fun b a=>⟨.map (some c),O,(zq a 359 4).sel [0,2,3,4] O V⟩)))))))))))))
def Res.dk(db:Nat)(D:DskD)(kf:List (ByteArray×FilD)):Res:=Res.star [zAq db D,Res.mp Value.string FilD.val D.fm kf,Res.star ((kf.map Prod.snd).map FilD.dres),vW D.uv D.us]
theorem zEe(db:Nat)(D:DskD)(kf:List (ByteArray×FilD))(nm:ByteArray)(off:Nat)(dv:Value)(data:List UInt8)(w:World)(a:DskCl D)(e:kR nm)(g:((tot kf+off+data.length:Nat):Int)≤D.room)(hl:kf.length<4096)(h:data.length≤1000000)(b:Own w (xH [Res.dk db D kf]) [Res.dk db D kf] w)(c:Rd w (xH [Res.dk db D kf]) (Res.sl dv data.length (data.map vb))):Rets Tryz.prog 395 #[pt db, .string nm,Vj off,dv] w fun i j=>∃ (D':DskD) (f:FilD),i=Vi 0∧DskOk D'∧D'.room=D.room∧f.bs.length=max ((zl nm kf).getD kJ).bs.length (off+data.length)∧Own w (xH [Res.dk db D kf]) [Res.dk db D' (yS nm f kf)] j:=by
  refine(zRH db D kf nm off dv data w a.ok e g hl h (b.qg 0 O) c).mono ?_
  rintro _ m ⟨k,d,f,rfl,h1,h2,l⟩
  exact⟨{D with uv:=k,us:=d},f,O,⟨a.ok.fuse,a.ok.down,a.ok.room,by show d.length≤1000;rw[h1,a.us];decide⟩,O,h2,l.qf [0,1,2,3] O V⟩
theorem zEz(db:Nat)(D:DskD)(kf:List (ByteArray×FilD))(w:World)(a:DskOk D)(c:tot kf≤1000000000)(b:Own w (xH [Res.dk db D kf]) [Res.dk db D kf] w):Rets Tryz.prog 388 #[pt db] w fun d e=>∃ (D':DskD),d=Vi 0∧DskCl D'∧D'.room=D.room∧Own w (xH [Res.dk db D kf]) [Res.dk db D' kf] e:=by
  refine(zMg db D kf w a c (b.qg 0 O)).mono ?_
  rintro _ h ⟨xv,rfl,g⟩
  exact⟨{D with sv:=xv,uv:=zW,us:=[]},O,⟨⟨a.fuse,a.down,a.room,Nat.zero_le _⟩,O⟩,O,g.qf [0,1,2,3] O V⟩
theorem zIZ(db:Nat)(D:DskD)(kf:List (ByteArray×FilD))(w:World)(b:DskCl D)(a:Own w (xH [Res.dk db D kf]) [Res.dk db D kf] w):Rets Tryz.prog 242 #[pt db] w fun c d=>c=zu∧Own w (xH [Res.dk db D kf]) [Res.dk db D kf] d:=by
  refine(zNo db D kf w b.ok (a.qg 0 O)).mono ?_
  rintro _ g ⟨rfl,e⟩
  exact⟨O,e.qf [0,1,2,3] O V⟩
end Go.Proofs.YtmpaljnacfidaaaGreatDoor
