import Derived.Shelf.Strings.SlTrimAscii
import Derived.Test.YthpoddkmhfhboaaGreatDoorWlP
set_option linter.unusedVariables false
set_option linter.unusedSimpArgs false
namespace Go.Proofs
open Go.Shelf Sc
def Tryz.lays160_ren:Go.Shelf.Ren:=⟨fun |160=>206|232=>349|231=>348|227=>350|234=>352|233=>351|236=>354|235=>353|228=>462|271=>465|151=>464|197=>463|120=>515|152=>514|260=>513|137=>557|119=>558|224=>559|225=>560|217=>596|266=>608|n=>n,fun |9=>9|4=>4|3=>3|5=>5|117=>526|116=>525|0=>0|124=>529|21=>21|105=>616|46=>228|119=>685|139=>688|138=>687|n=>n,fun |3=>0|4=>1|n=>n⟩
theorem Tryz.lays160:Go.Proofs.Lays.n160 Tryz.prog Tryz.lays160_ren:={
 mixed:=by kernel_rfl
 f119:=Tryz.func558.trans (congrArg some qF)
 f120:=Tryz.func515.trans (congrArg some qF)
 f137:=Tryz.func557.trans (congrArg some qF)
 f151:=Tryz.func464.trans (congrArg some qF)
 f152:=Tryz.func514.trans (congrArg some qF)
 f160:=Tryz.func206.trans (congrArg some qF)
 f197:=Tryz.func463.trans (congrArg some qF)
 f217:=Tryz.func596.trans (congrArg some qF)
 f224:=Tryz.func559.trans (congrArg some qF)
 f225:=Tryz.func560.trans (congrArg some qF)
 f227:=Tryz.func350.trans (congrArg some qF)
 f228:=Tryz.func462.trans (congrArg some qF)
 f231:=Tryz.func348.trans (congrArg some qF)
 f232:=Tryz.func349.trans (congrArg some qF)
 f233:=Tryz.func351.trans (congrArg some qF)
 f234:=Tryz.func352.trans (congrArg some qF)
 f235:=Tryz.func353.trans (congrArg some qF)
 f236:=Tryz.func354.trans (congrArg some qF)
 f260:=Tryz.func513.trans (congrArg some qF)
 f266:=Tryz.func608.trans (congrArg some qF)
 f271:=Tryz.func465.trans (congrArg some qF)
 t0:=Tryz.underlying0
 a0:=Tryz.isAgg0
 z0:=Tryz.sizeOf0
 v0:=Tryz.zeroValue0
 t3:=Tryz.underlying3
 a3:=Tryz.isAgg3
 z3:=Tryz.sizeOf3
 v3:=Tryz.zeroValue3
 t4:=Tryz.underlying4
 a4:=Tryz.isAgg4
 z4:=Tryz.sizeOf4
 v4:=Tryz.zeroValue4
 t5:=Tryz.underlying5
 a5:=Tryz.isAgg5
 z5:=Tryz.sizeOf5
 v5:=Tryz.zeroValue5
 t9:=Tryz.underlying9
 a9:=Tryz.isAgg9
 z9:=Tryz.sizeOf9
 v9:=Tryz.zeroValue9
 t21:=Tryz.underlying21
 a21:=Tryz.isAgg21
 z21:=Tryz.sizeOf21
 v21:=Tryz.zeroValue21
 t46:=Tryz.underlying228
 a46:=Tryz.isAgg228
 z46:=Tryz.sizeOf228
 v46:=Tryz.zeroValue228
 t105:=Tryz.underlying616
 a105:=Tryz.isAgg616
 z105:=Tryz.sizeOf616
 v105:=Tryz.zeroValue616
 t116:=Tryz.underlying525
 a116:=Tryz.isAgg525
 z116:=Tryz.sizeOf525
 t117:=Tryz.underlying526
 a117:=Tryz.isAgg526
 z117:=Tryz.sizeOf526
 v117:=Tryz.zeroValue526
 t119:=Tryz.underlying685
 a119:=Tryz.isAgg685
 z119:=Tryz.sizeOf685
 t124:=Tryz.underlying529
 a124:=Tryz.isAgg529
 z124:=Tryz.sizeOf529
 v124:=Tryz.zeroValue529
 t138:=Tryz.underlying687
 a138:=Tryz.isAgg687
 z138:=Tryz.sizeOf687
 v138:=Tryz.zeroValue687
 t139:=Tryz.underlying688
 a139:=Tryz.isAgg688
 z139:=Tryz.sizeOf688
 v139:=Tryz.zeroValue688
 g3:=by kernel_rfl
 g4:=by kernel_rfl}
end Go.Proofs
set_option maxRecDepth 10000
namespace Go.Proofs.YthpoddkmhfhboaaGreatDoor
open Go.Sc
theorem zFs:kU Tryz.prog 171=some (9,73):=by kernel_rfl
theorem zPk:x2 Tryz.prog 73=some (FilD.val kT):=by kernel_rfl
structure WriD where
 kind:Int
 name:ByteArray
 off:Int
 dv:Value
 deriving Inhabited
def WriD.cells(x:WriD):List Value:=[Vi x.kind, .string x.name,Vi x.off,x.dv]
structure DskD where
 fm:Nat
 sv:Value
 uv:Value
 us:List WriD
 room:Int
 fuse:Int
 down:Bool
def DskD.cells(x:DskD):List Value:=[.map (some x.fm),x.sv,x.uv,Vi x.room,Vi x.fuse, .bool x.down]
def vW(v:Value)(l:List WriD):Res:=Res.vec 323 4 v l.length (l.flatMap WriD.cells)
def sF(kf:List (ByteArray×FilD)):Res:=Res.star ((kf.map Prod.snd).map FilD.dres)
def zA4(b:Nat)(D:DskD):Res:=Res.row b 174 (DskD.cells D)
def mF(b:Nat)(kf:List (ByteArray×FilD)):Res:=Res.mp Value.string FilD.val b kf
structure DskOk(D:DskD):Prop where
 fuse:D.fuse=0
 down:D.down=false
 room:D.room≤4194304
 us:D.us.length≤1000
structure DskCl(D:DskD):Prop where
 ok:DskOk D
 us:D.us=[]
def nameSet:List UInt8:=[97,98,99,100,101,102,103,104,105,106,107,108,109,110,111,112,113,114,115,116,117,118,119,120,121,122,48,49,50,51,52,53,54,55,56,57,46]
theorem zL6{α:Type}{p x:α}{q1 q2:List α}(h:p∈q1++q2):p∈q1++x::q2:=by
 rcases List.mem_append.1 h with h|h
 · exact List.mem_append_left _ h
 exact List.mem_append_right _ (.tail _ h)
theorem zIZ{f:FilD}:∀ {kf:List (ByteArray×FilD)},f∈kf.map Prod.snd→f.bs.length≤tot kf
 | [],h=>by cases h
 |(k,g)::r,h=>by
   have e:tot ((k,g)::r)=g.bs.length+tot r:=rfl
   rcases List.mem_cons.1 h with rfl|h
   · show _≤_;rw[e];exact Nat.le_add_right _ _
   have:=zIZ h;omega
def kg(s:ByteArray):Prop:=(1≤s.size∧s.size≤32)∧∀ c∈s.data.toList,c∈nameSet
theorem zMU{α:Type}{p:α→Bool}:∀ {l:List α},(∀ c∈l,p c=true)→l.dropWhile p=[]
 | [],_=>rfl
 |x::l,h=>by
   simp only[List.dropWhile,h x qJ]
   exact zMU fun c a=>h c (by simp[a])
theorem zGc{l cs:List UInt8}(h:∀ c∈l,c∈cs):Lib.trimS l cs=[]:=by
 have h1:Lib.trimRightS l cs=[]:=by
   unfold Lib.trimRightS
   rw[zMU (fun c a=>by simpa using h c (by simpa using a))];rfl
 unfold Lib.trimS
 rw[h1];rfl
theorem zL1(s c:ByteArray)(w:World)(l:s.size≤1000)(m:c.size≤1000)(g:c.data.toList.all (fun b=>decide (b.toNat<128))=true):Rets Tryz.prog 206 #[.string s, .string c] w fun i d=>i= .string (⟨(Lib.trimS s.data.toList c.data.toList).toArray⟩:ByteArray)∧Own w [] [] d:=by
 have h:=Any.strings_Trim_laid Tryz.lays160 qF s c w qG qG (ascii_of_all g)
 refine Calls.mono h fun e d a=>⟨_,a.1,O,(⟨⟨a.2.os,a.2.tape,a.2.output,a.2.size,fun k j _=>a.2.block k j⟩,by simp,by simp,by simp⟩)⟩
theorem zOk(s:ByteArray)(w:World)(h:kg s):Rets Tryz.prog 357 #[.string s] w fun j e=>j=xx∧Own w [] [] e:=by
 have d:=h.1
 refine zO Tryz.func357 O Tryz.ntmps357 (Own.start w)<|zB<|zF O<|zA<|zB<|zC O<|zK4 O O O<|zC O<|yA (q:=s≠yEb) 3 2 [8,7,6] (((s.size:Nat):Int)≤32) O O O O O O trivial O (fun a=> ?_)<|fun i=> ?_
 ·refine zQ O (gT a)<|zC O<|zQ O (gT a)<|zCa qF O O<|zQ O (gT a)<|yx O O O<|z8 O<|fun _ c=>c
 refine zC O<|yA (q:=(s≠yEb)∧(((s.size:Nat):Int)≤32)) 3 7 [13,12,11] ((⟨(Lib.trimS s.data.toList (⟨#[97,98,99,100,101,102,103,104,105,106,107,108,109,110,111,112,113,114,115,116,117,118,119,120,121,122,48,49,50,51,52,53,54,55,56,57,46]⟩:ByteArray).data.toList).toArray⟩:ByteArray)=yEb) O O O O O O trivial O (fun b=> ?_)<|fun g=> ?_
 ·refine zQ O (gT b)<|zC O<|zQ O (gT b)<|zG O O<|fun e c=>(zL1 s (⟨#[97,98,99,100,101,102,103,104,105,106,107,108,109,110,111,112,113,114,115,116,117,118,119,120,121,122,48,49,50,51,52,53,54,55,56,57,46]⟩:ByteArray) e qH V qK).mono ?_
  rintro _ k ⟨rfl,m⟩
  refine(?_:CL _ _ _ _ _ _ (Own w [] [])) k<|c.qb m
  refine zQ O (gT b)<|zEq O O O<|z8 O<|fun _ c=>c
 refine zF O<|zA<|zP<|zm (v:= .bool (decide (((s≠yEb)∧(((s.size:Nat):Int)≤32))∧((⟨(Lib.trimS s.data.toList (⟨#[97,98,99,100,101,102,103,104,105,106,107,108,109,110,111,112,113,114,115,116,117,118,119,120,121,122,48,49,50,51,52,53,54,55,56,57,46]⟩:ByteArray).data.toList).toArray⟩:ByteArray)=yEb)))) O O<|fun e c=>⟨(congrArg Value.bool<|decide_eq_true ⟨⟨fun q=>by rw[q]at d;exact absurd d.1 V,by omega⟩,congrArg (fun l:List UInt8=>(⟨l.toArray⟩:ByteArray))<|zGc h.2⟩),c.drop⟩
theorem zM3(v:Value)(l:List UInt8)(m:Nat)(w:World)(j:m≤10000000)(hl:l.length≤10000000)(hv:Rd w [] (Res.sl v l.length (l.map vb))):Rets Tryz.prog 309 #[v,Vj m] w fun h c=>∃ (r:Value) (bs:List UInt8),h=r∧bs.length=m∧Own w [] [vY r bs] c:=by
 refine zO Tryz.func309 O Tryz.ntmps309 (Own.start w)<|zB<|zF O<|zA<|zB<|zC O<|zQr (e:=5) (by':=1) (m:=m) qF qF O O qH V O<|fun g=>zF O<|zA<|zB<|zC O<|zC O<|zMY (e:=5) (l:=(List.replicate m (0:UInt8))) (bs:=l) 0 0 (.inl ⟨O,O⟩) O (fun c d=>Own.rd hv d) O qG qF qF O<|fun _ b a=>zA<|zB<|zC O<|zF O<|zA<|zP<|zm (v:=(.slice (some ⟨g,0,none⟩) m m)) O O<|fun c i=>⟨(.slice (some ⟨g,0,none⟩) m m),b,O,(by rw[a,List.length_replicate]),i⟩
theorem zSf(v:Value)(l:List UInt8)(off:Nat)(dv:Value)(data:List UInt8)(w:World)(ho:off≤4194304)(hl:l.length≤4194304)(q:data.length≤1000000)(hv:Rd w [] (Res.sl v l.length (l.map vb)))(h:Rd w [] (Res.sl dv data.length (data.map vb))):Rets Tryz.prog 308 #[v,Vj off,dv] w fun n i=>∃ (r:Value) (bs:List UInt8),n=r∧bs.length=max l.length (off+data.length)∧Own w [] [vY r bs] i:=by
 refine zO Tryz.func308 O Tryz.ntmps308 (Own.start w)<|zB<|zF O<|zA<|zB<|zC O<|zC O<|zn (pR hv) O O<|zC O<|zC O<|zn (pR h) O O<|zr O O (zt qG) O<|zCi (c:=((max l.length (off+data.length):Nat):Int)) O O (zMi _ _) O<|zG O O<|fun i k=>((zM3 v l (max l.length<|off+data.length) i qH qH<|k.rd0 hv).mono ?_)
 rintro j o ⟨_,b,rfl,d,p⟩
 refine(?_:CL _ _ _ _ _ _ (Own w [] [_])) o<|k.qb p
 refine zF O<|zA<|zB<|zC O<|zC O<|zBS (pV 0 O) 1 off b.length qF O ⟨_,O⟩ O qG qG O<|zC O<|zMY (e:=5) (l:=b) (bs:=data) 0 off (.inr O) O (fun i m=>Own.rd h m) O qG qF qF O<|fun _ g a=>zA<|zB<|zC O<|zF O<|zA<|zP<|zm (v:=j) O O<|fun i k=>⟨j,g,O,(a.trans d),k⟩
theorem zOH(m:Nat)(nm:ByteArray)(off:Nat)(dv:Value)(data:List UInt8)(w:World)(ho:off≤4194304)(h:m≤10000000)(i:data.length≤1000000)(a:Rd w [] (Res.sl dv data.length (data.map vb))):Rets Tryz.prog 376 #[Vj m, .agg #[Vi 1, .string nm,Vj off,dv]] w fun e b=>e=Vj (max m (off+data.length))∧Own w [] [] b:=by
 refine zO Tryz.func376 O Tryz.ntmps376 (Own.start w)<|zB<|zj O O<|fun j=>zF O<|zA<|zK<|zB<|zI (o:=0) O O<|zJ 0 (v:=Vi 1) O O O O<|zA<|zU<|zB<|yT O O O<|zF O<|zA<|zT O (fun d=> ?_)<|fun d=> ?_
 ·refine zB<|zC O<|zI (o:=2) O O<|zJ 0 (v:=Vj off) O O O O<|zI (o:=3) O O<|zJ 0 (v:=dv) O O O O<|zn (pR a) O O<|zr O O (zt qG) O<|zCi (c:=((max m (off+data.length):Nat):Int)) O O (zMi _ _) O<|zF O<|zA<|zP<|zm (v:=Vj (max m<|off+data.length)) O O<|fun b g=>⟨O,g.drop⟩
 exact absurd O d
theorem zO6{S:List Nat}(fm:Nat)(kf:List (ByteArray×FilD))(w:World)(s:tot kf≤1000000000)(e:Own w S [Res.mp Value.string FilD.val fm kf,Res.star ((kf.map Prod.snd).map FilD.dres)] w):Rets Tryz.prog 377 #[.map (some fm)] w fun q c=>q=Vj (tot kf)∧Own w S [Res.mp Value.string FilD.val fm kf,Res.star ((kf.map Prod.snd).map FilD.dres)] c:=by
 refine zO Tryz.func377 O Tryz.ntmps377 e<|zB<|zF O<|zA<|zB<|zF O<|zA<|zK<|zB<|zC O<|jU 0 zFs O O O<|fun m=>zA<|zU<|xD (fun(a:List (ByteArray×FilD)) (n:Nat)=>[(3,Vj n),(7,pt m)]) (fun(a:List (ByteArray×FilD)) (n:Nat)=>n+tot a=tot kf∧∀ p∈a,p∈kf) (fun(a:List (ByteArray×FilD)) (n:Nat)=>[Res.rg Value.string FilD.val fm m kf a,Res.star ((kf.map Prod.snd).map FilD.dres)]) (fun(a:List (ByteArray×FilD)) (n:Nat)=>a.length) (fun c d=>⟨kf,0,⟨O,O,trivial⟩,⟨Nat.zero_add _,fun _ h=>h⟩,d⟩)<|fun a n g i=> ?_
 have o:=i.1
 refine zB<|zAD 0 O O O (fun j=> ?_)<|fun q1 k v q2 b=> ?_
 ·refine zb (vs:=[yC]) O O O<|zA<|zK<|yW O<|zw O<|zB<|zC O<|zF O<|zA<|zP<|zm (v:=Vj n) O O<|fun c d=>⟨(by rw[show n=tot kf by rw[j]at o;exact o]),(Own.rgEnd 0 d O)⟩
 have r:tot a=tot (q1++q2)+v.bs.length:=by rw[b,zJI]
 refine zb (vs:=[xx, .string k,v.v]) O O O<|zA<|zK<|x0 O<|zN<|zU<|zB<|ja 0 O O O<|zb (vs:=[.string k,v.v]) O O O<|zF O<|zA<|ze<|zC O<|zC O<|zHR (len:=v.bs.length) (cs:=(v.bs.map vb)) qF O (fun c l=>zKT (Own.star0 1 O l)<|List.mem_map_of_mem (f:=Prod.snd)<|i.2 (k,v) (by rw[b];simp)) O<|zr O O (zt qG) O<|zF O<|zx<|fun c d=>⟨q1++q2,n+v.bs.length,⟨O,O,trivial⟩,⟨by omega,fun p hp=>i.2 p (by rw[b];exact zL6 hp)⟩,d,(by rw[b,List.length_append,List.length_append,List.length_cons];omega)⟩
theorem zLx{S:List Nat}(fm:Nat)(kf:List (ByteArray×FilD))(w:World)(o:tot kf≤1000000000)(l:Own w S [Res.mp Value.string FilD.val fm kf,Res.star ((kf.map Prod.snd).map FilD.dres)] w):Rets Tryz.prog 168 #[.map (some fm)] w fun q d=>∃ (r:Nat),q= .map (some r)∧Own w S [Res.mp Value.string FilD.val fm kf,Res.star ((kf.map Prod.snd).map FilD.dres)] d:=by
 refine zO Tryz.func168 O Tryz.ntmps168 l<|zB<|zF O<|zA<|zB<|xl (α:=FilD) Value.string FilD.val O O<|fun j=>zF O<|zA<|zK<|zB<|zC O<|jU 0 zFs O O O<|fun n=>zA<|zU<|xD (fun(a e:List (ByteArray×FilD))=>[(3, .map<|some j),(8,pt n)]) (fun(a e:List (ByteArray×FilD))=>∀ p∈a,p∈kf) (fun(a e:List (ByteArray×FilD))=>[Res.rg Value.string FilD.val fm n kf a,Res.star ((kf.map Prod.snd).map FilD.dres),Res.mp Value.string FilD.val j e]) (fun(a e:List (ByteArray×FilD))=>a.length) (fun d c=>⟨kf,[],⟨O,O,trivial⟩,fun _ h=>h,c⟩)<|fun a e g m=>(zB<|zAD 0 O O O (fun s=> ?_)<|fun q1 k v q2 b=> ?_)
 ·refine zb (vs:=[yC]) O O O<|zA<|zK<|yW O<|zw O<|zB<|zC O<|zF O<|zA<|zP<|zm (v:= .map (some j)) O O<|fun d c=>⟨j,O,(Own.rgEnd 0 c O).sel [0,1] O V⟩
 have t:v.bs.length≤1000000000:=Nat.le_trans (zIZ (List.mem_map_of_mem (f:=Prod.snd) (m (k,v) (by rw[b];simp)))) o
 refine zb (vs:=[xx, .string k,v.v]) O O O<|zA<|zK<|x0 O<|zN<|zU<|zB<|ja 0 O O O<|zb (vs:=[.string k,v.v]) O O O<|zb (vs:=[.string k,v.v]) O O O<|zF O<|zF O<|zA<|ze<|zC O<|zC O<|zC O<|zG O O<|fun d c=>(y3 v.v v.bs d qI<|Rd.of<|zKT (Own.star0 1 O c)<|List.mem_map_of_mem (f:=Prod.snd)<|m (k,v) (by rw[b];simp)).mono ?_
 rintro i u ⟨_,rfl,x⟩
 refine(?_:CL _ _ _ _ _ _ (Own w S [_,_,_,_])) u<|c.qb x
 refine jC 2 (k:=k) (v:=({v:=i,bs:=v.bs}:FilD)) zEG zFs O O O O<|zx<|fun d c=>⟨q1++q2,yZ k ⟨i,v.bs⟩ e,⟨O,O,trivial⟩,fun p hp=>m p (by rw[b];exact zL6 hp),c.sel [0,1,2] O V,(by rw[b,List.length_append,List.length_append,List.length_cons];omega)⟩
theorem zTy{S:List Nat}(fm:Nat)(kf:List (ByteArray×FilD))(nm:ByteArray)(off:Nat)(dv:Value)(data:List UInt8)(w:World)(ho:off≤4194304)(r:tot kf≤4194304)(s:data.length≤1000000)(h:Own w S [Res.mp Value.string FilD.val fm kf,Res.star ((kf.map Prod.snd).map FilD.dres)] w)(i:Rd w S (Res.sl dv data.length (data.map vb))):Rets Tryz.prog 169 #[.map (some fm), .agg #[Vi 1, .string nm,Vj off,dv]] w fun n d=>∃ (f:FilD),n= .tuple #[]∧f.bs.length=max ((zl nm kf).getD kT).bs.length (off+data.length)∧Own w S [Res.mp Value.string FilD.val fm (yZ nm f kf),Res.star (((yZ nm f kf).map Prod.snd).map FilD.dres)] d:=by
 have t:=zC1 (k:=nm) (l:=kf)
 refine zO Tryz.func169 O Tryz.ntmps169 h<|zB<|zj O O<|fun u=>zA<|zB<|zI (o:=0) O O<|zJ 2 (v:=Vi 1) O O O O<|zA<|zU<|zB<|yT O O O<|zF O<|zA<|zT O (fun m=> ?_)<|fun m=> ?_
 ·refine zd [2] O V qF<|fun d a b=>zD 0 O za b<|zD 1 O (zL (o:=1) O) b<|zD 2 O (zZ 0 (v:= .string nm) O O O) b<|zD 3 O za b<|zD 4 O (zL (o:=1) O) b<|zD 5 O (zZ 0 (v:= .string nm) O O O) b<|zD 7 O (zL (o:=2) O) b<|zD 8 O (zZ 0 (v:=Vj off) O O O) b<|zD 9 O (zL (o:=3) O) b<|zD 10 O (zZ 0 (v:=dv) O O O) b<|zM 6 O a<|zQE (k:=nm) (kv:=kf) (zv:=kT) zEG zFs zPk O O (fun d j=>Own.holds j 0 _ O) O<|zE [2] O V<|fun d a b=>zM 11 O a<|zG O O<|fun d a=>(zSf ((((zl nm kf).getD kT)).v) ((((zl nm kf).getD kT)).bs) off dv data d qH qH qH (Rd.of<|zFg<|Own.star0 1 O a)<|a.rd0 i).mono ?_
  rintro g p ⟨_,c,rfl,e,q⟩
  refine(?_:CL _ _ _ _ _ _ (Own w S [_,_,_,_])) p<|a.qb q
  refine zE [2] O V<|fun d a b=>zM 12 O a<|jC 0 (k:=nm) (v:=({v:=g,bs:=c}:FilD)) zEG zFs O O O O<|zE [2] O V<|fun d a b=>zX<|(yq O<|fun d a=>⟨⟨g,c⟩,O,e,(Own.filPut (k:=nm) (f:=({v:=g,bs:=c}:FilD)) 1 3 V O O a).sel [0,1] O V⟩) _ a
 exact absurd O m
theorem zDz{S:List Nat}(db:Nat)(D:DskD)(kf:List (ByteArray×FilD))(w:World)(d:DskOk D)(a:Own w S [zA4 db D,Res.mp Value.string FilD.val D.fm kf,Res.star ((kf.map Prod.snd).map FilD.dres),vW D.uv D.us] w):Rets Tryz.prog 220 #[pt db] w fun e b=>e=Vi 0∧Own w S [zA4 db D,Res.mp Value.string FilD.val D.fm kf,Res.star ((kf.map Prod.snd).map FilD.dres),vW D.uv D.us] b:=by
 refine zO Tryz.func220 O Tryz.ntmps220 a<|zB<|zF O<|zA<|zK<|zU<|zB<|zC O<|yE qF O O O<|zF O<|zA<|yW O<|zB<|zC O<|zV O O<|zI (o:=5) O O<|zJ 0 (v:= .bool D.down) O O O O<|zF O<|zA<|jJ O (fun c=> ?_)<|fun c=> ?_
 ·exact absurd c (by rw[d.down];decide)
 refine zN<|zB<|zF O<|zA<|zP<|zm (v:=Vi 0) O O<|fun b g=>⟨O,g⟩
theorem zI2{S:List Nat}(db:Nat)(D:DskD)(kf:List (ByteArray×FilD))(w:World)(b:DskOk D)(a:Own w S [zA4 db D,Res.mp Value.string FilD.val D.fm kf,Res.star ((kf.map Prod.snd).map FilD.dres),vW D.uv D.us] w):Rets Tryz.prog 378 #[pt db] w fun e c=>e=yC∧Own w S [zA4 db D,Res.mp Value.string FilD.val D.fm kf,Res.star ((kf.map Prod.snd).map FilD.dres),vW D.uv D.us] c:=by
 refine zO Tryz.func378 O Tryz.ntmps378 a<|zB<|zF O<|zA<|zK<|zB<|zC O<|zV O O<|zI (o:=4) O O<|zJ 0 (v:=Vi D.fuse) O O O O<|yY O O O<|zA<|zT O (fun d=> ?_)<|fun d=> ?_
 ·exact absurd d (by rw[b.fuse];decide)
 refine zN<|zB<|zC O<|zV O O<|zI (o:=5) O O<|zJ 0 (v:= .bool D.down) O O O O<|zF O<|zA<|zP<|zm (v:= .bool D.down) O O<|fun c g=>⟨(by rw[b.down]),g⟩
theorem zPi{S:List Nat}(db:Nat)(D:DskD)(kf:List (ByteArray×FilD))(w:World)(c:DskOk D)(a:Own w S [zA4 db D,Res.mp Value.string FilD.val D.fm kf,Res.star ((kf.map Prod.snd).map FilD.dres),vW D.uv D.us] w):Rets Tryz.prog 207 #[pt db] w fun d b=>d=yC∧Own w S [zA4 db D,Res.mp Value.string FilD.val D.fm kf,Res.star ((kf.map Prod.snd).map FilD.dres),vW D.uv D.us] b:=by
 refine zO Tryz.func207 O Tryz.ntmps207 a<|zB<|zF O<|zA<|zB<|zC O<|yE qF O O O<|zC O<|zQ O O<|zC O<|zQ O O<|zV O O<|zQ O O<|zI (o:=5) O O<|zQ O O<|zJ 0 (v:= .bool D.down) O O O O<|xA O O<|zF O<|zA<|zP<|zm (v:= .bool D.down) O O<|fun b e=>⟨(by rw[c.down]),e⟩
theorem zJP{S:List Nat}(db:Nat)(D:DskD)(kf:List (ByteArray×FilD))(nm:ByteArray)(off:Nat)(dv:Value)(data:List UInt8)(w:World)(hk:DskOk D)(hn:kg nm)(hr:((tot kf+off+data.length:Nat):Int)≤D.room)(hl:kf.length<4096)(hd:data.length≤1000000)(a4:Own w S [zA4 db D,Res.mp Value.string FilD.val D.fm kf,Res.star ((kf.map Prod.snd).map FilD.dres),vW D.uv D.us] w)(a0:Rd w S (Res.sl dv data.length (data.map vb))):Rets Tryz.prog 223 #[pt db, .agg #[Vi 1, .string nm,Vj off,dv]] w fun u_ d=>∃ (xu:Value) (xs:List WriD) (f:FilD),u_=Vi 0∧xs.length=D.us.length+1∧f.bs.length=max ((zl nm kf).getD kT).bs.length (off+data.length)∧Own w S [zA4 db ({D with uv:=xu,us:=xs}:DskD),Res.mp Value.string FilD.val D.fm (yZ nm f kf),Res.star (((yZ nm f kf).map Prod.snd).map FilD.dres),vW xu xs] d:=by
 have a9:=hk.room
 have aa:=hk.us
 have hg:=zC1 (k:=nm) (l:=kf)
 refine zO Tryz.func223 O Tryz.ntmps223 a4<|zB<|zj O O<|fun b3=>zF O<|zA<|zK<|zB<|zC O<|zG O O<|fun d a=>(zDz db D kf d ‹_› (a.give [0,1,2,3] O V)).mono ?_
 rintro _ y ⟨rfl,p⟩
 refine fq [0,1,2,3] O a p<|zF O<|zA<|zB<|zC O<|yf O O O<|zA<|zT O (fun c1=> ?_)<|fun c1=> ?_
 ·exact absurd O c1
 refine zN<|zK<|zB<|zI (o:=1) O O<|zJ 0 (v:= .string nm) O O O O<|zG O O<|fun d a=>(zOk nm d ‹_›).mono ?_
 rintro _ y ⟨rfl,p⟩
 refine(?_:CL _ _ _ _ _ _ (Own w S [_,_,_,_,_])) y<|a.qb p
 refine xo (b:=true) O O<|zC O<|zQ O O<|zI (o:=2) O O<|zQ O O<|zJ 0 (v:=Vj off) O O O O<|zQ O O<|zu O O O<|xA O O<|zC O<|yP (q:=((off:Nat):Int)<0) 3 9 [26,25,24] (4194304<((off:Nat):Int)) O O O O O O trivial O (fun r=> ?_)<|fun a5=> ?_
 ·refine zQ O (gF r)<|zI (o:=2) O O<|zQ O (gF r)<|zJ 0 (v:=Vj off) O O O O<|zQ O (gF r)<|yY O O O<|z8 O<|fun _ a=>a
 refine zA<|zT O (fun c2=> ?_)<|fun c2=> ?_
 ·exact absurd c2 qG
 refine zN<|yd qF qF<|zR O (za)<|zR O (zY O)<|zR O (zL (o:=0) O)<|zR O (zZ 1 (v:= .map (some D.fm)) O O O)<|zR O (zL (o:=1) O)<|zR O (zZ 0 (v:= .string nm) O O O)<|zR O (zG6 (k:=nm) (kv:=kf) (zv:=kT) zEG zFs zPk O O<|fun d h=>Own.holds h 2 _ O)<|zR O (za)<|zR O (yG (vs:=[(((zl nm kf).getD kT)).v, .bool ((zl nm kf).isSome)]) O O)<|zR O (yG (vs:=[(((zl nm kf).getD kT)).v, .bool ((zl nm kf).isSome)]) O O)<|zR O (yB)<|zR O (yB)<|xX<|zK<|zB<|zC O<|xo (b:=(zl nm kf).isSome) O O<|zC O<|yA (q:=(!((zl nm kf).isSome))=true) 3 2 [43,42,41] (1≠3) O O (y2 _) O O O trivial O (fun s=> ?_)<|fun a8=> ?_
 ·refine zQ O (bT s)<|zI (o:=0) O O<|zQ O (bT s)<|zJ 0 (v:=Vi 1) O O O O<|zQ O (bT s)<|yf O O O<|z8 O<|fun _ a=>a
 refine zC O<|yA (q:=((!((zl nm kf).isSome))=true)∧(1≠3)) 6 7 [51,50,49,48,47,46] (4096≤((kf.length:Nat):Int)) O O O O O O trivial O (fun j=> ?_)<|fun a6=> ?_
 ·refine zQ O (gT j)<|zC O<|zQ O (gT j)<|zV O O<|zQ O (gT j)<|zI (o:=0) O O<|zQ O (gT j)<|zJ 1 (v:= .map (some D.fm)) O O O O<|zQ O (gT j)<|zDC Value.string FilD.val (kv:=kf) zFs O (fun d h=>Own.holds h 2 _ O) O<|zQ O (gT j)<|xJ O O O<|z8 O<|fun _ a=>a
 refine zA<|zT O (fun c3=> ?_)<|fun c3=> ?_
 ·exact absurd c3.2 qG
 refine zN<|jf (fun(u:Unit)=>[(0,pt db),(3,pt b3)]) (fun(u:Unit)=>True) (fun(u:Unit)=>[Res.row b3 323 [Vi 1, .string nm,Vj off,dv],zA4 db D,Res.mp Value.string FilD.val D.fm kf,Res.star ((kf.map Prod.snd).map FilD.dres),vW D.uv D.us]) ?_<|fun u g hΦ=> ?_
 ·refine zB<|zC O<|zHR (len:=((((zl nm kf).getD kT)).bs).length) (cs:=(((((zl nm kf).getD kT)).bs).map vb)) qF O (fun d h=>zFg<|Own.star0 3 O h) O<|z6 (cs:=[Vi 1, .string nm,Vj off,dv]) 0 O O O<|zG O O<|fun d a=>(zOH (((((zl nm kf).getD kT)).bs).length) _ off dv data d qH qH qH<|a.rd0 a0).mono ?_
  rintro _ y ⟨rfl,p⟩
  refine(?_:CL _ _ _ _ _ _ (Own w S [_,_,_,_,_])) y<|a.qb p
  refine zC O<|zHR (len:=((((zl nm kf).getD kT)).bs).length) (cs:=(((((zl nm kf).getD kT)).bs).map vb)) qF O (fun d h=>zFg<|Own.star0 3 O h) O<|y9 O O (zt qG) O<|zF O<|zA<|zK<|zd [0,1,2,4] O V qF<|fun d a c=>zD 0 O za c<|zD 1 O (zBm O O) c<|zD 2 O za c ?_
  by_cases g10_2:0<(((max (((((zl nm kf).getD kT)).bs).length) (off+data.length):Nat):Int) - ((((((zl nm kf).getD kT)).bs).length:Nat):Int))
  ·refine xR 3 O O (gT g10_2) za c<|xR 4 O O (gT g10_2) (zY O) c<|xR 5 O O (gT g10_2) (zL (o:=0) O) c<|xR 6 O O (gT g10_2) (zZ 1 (v:= .map (some D.fm)) O O O) c<|xR 8 O O (gT g10_2) za c<|xR 10 O O (gT g10_2) za c<|xR 11 O O (gT g10_2) (zY O) c<|xR 12 O O (gT g10_2) (zL (o:=3) O) c<|xR 13 O O (gT g10_2) (zZ 1 (v:=Vi D.room) O O O) c<|zM 7 O a<|zQ O (gT g10_2)<|zG O O<|fun d a=>(zO6 D.fm kf d qH<|a.give [2,3] O V).mono ?_
   rintro _ y ⟨rfl,p⟩
   refine fq [2,3] O a p<|zE [0,1,3,2] O V<|fun d a c=>xR 9 O O (gT g10_2) (xN O O<|zt qG) c<|xR 14 O O (gT g10_2) (zBm O O) c<|zD 15 O (zC5<|gT g10_2) c<|zX<|(?_:C _ _ _ _ _ _ _ (Own w S [_,_,_,_,_])) _ a
   refine zT O (fun c4=> ?_)<|fun c4=> ?_
   ·exact absurd c4 qG
   exact x4<|fun d a=>⟨(),⟨O,O,trivial⟩,trivial,a.sel [0,1,3,4,2] O V⟩
  refine yD 3 O O (gF g10_2) O c<|yD 4 O O (gF g10_2) O c<|yD 5 O O (gF g10_2) O c<|yD 6 O O (gF g10_2) O c<|yD 7 O O (gF g10_2) O c<|yD 8 O O (gF g10_2) O c<|yD 9 O O (gF g10_2) O c<|yD 10 O O (gF g10_2) O c<|yD 11 O O (gF g10_2) O c<|yD 12 O O (gF g10_2) O c<|yD 13 O O (gF g10_2) O c<|yD 14 O O (gF g10_2) O c<|zD 15 O (jw<|gF g10_2) c<|zX<|(?_:C _ _ _ _ _ _ _ (Own w S [_,_,_,_,_])) _ a
  refine yW O<|x4<|fun d a=>⟨(),⟨O,O,trivial⟩,trivial,a⟩
 refine zK<|zB<|zC O<|zG O O<|fun d a=>(zI2 db D kf d ‹_› (a.give [1,2,3,4] O V)).mono ?_
 rintro _ y ⟨rfl,p⟩
 refine fq [1,2,3,4] O a p<|zA<|yW O<|zN<|zB<|zI (o:=3) O O<|zJ 0 (v:=dv) O O O O<|zG O O<|fun d a=>(y3 dv data d qI<|a.rd0 a0).mono ?_
 rintro m y ⟨_,rfl,p⟩
 refine(?_:CL _ _ _ _ _ _ (Own w S [_,_,_,_,_,_])) y<|a.qb p
 refine zI (o:=3) O O<|zS (fun d a=>Own.qa (i:=5) O a)<|fun x=>(zi (cs:=[Vi 1, .string nm,Vj off,dv]) 0 O O O x O<|zA<|zK<|zd [0,1,4,5] O V qF<|fun d a c=>zD 0 O za c<|zD 1 O (zY O) c<|zD 2 O (zL (o:=0) O) c<|zD 3 O (zZ 1 (v:= .map (some D.fm)) O O O) c<|zD 4 O (xG (cs:=[Vi 1, .string nm,Vj off,m]) 0 O O) c<|zM 5 O a<|zG O O<|fun d a=>(zTy D.fm kf _ off m data d qH qH qH (a.give [2,3] O V)<|a.rdVec 5 O [2,3] O O).mono ?_)
 rintro _ y ⟨a1,rfl,n,p⟩
 refine fq [2,3] O a p<|zE [0,1,2,3] O V<|fun d a c=>zX<|(?_:C _ _ _ _ _ _ _ (Own w S [_,_,_,_,_,_])) _ a
 refine zK<|zd [0,3,4] O V qF<|fun d a c=>zD 0 O za c<|zD 1 O za c<|zD 2 O (zY O) c<|zD 3 O (zL (o:=2) O) c<|zD 5 O (xG (cs:=[Vi 1, .string nm,Vj off,m]) 0 O O) c<|z7 4 6 ?_ ?_
 ·refine zo 4 O a<|zJ 1 (v:=D.uv) O O O O<|zE [0,3,4] O V<|fun d a c=>zM 6 O a<|yH (e:=323) (sz:=4) (vs:=[.agg #[Vi 1, .string nm,Vj off,m]]) qF O O (by simp[Value.cells,WriD.cells]) V O<|fun a7=>zE [0,3,4] O V<|fun d a c=>zM 7 O a<|yF (g:=WriD.cells) (sz:=4) (by':=56) (fun _=>O) (l:=D.us) (l':=[({kind:=1,name:=nm,off:=((off:Nat):Int),dv:=m}:WriD)]) (all_cons ((zH O<|zH O<|zH O<|zH x zh)) qJ) 2 qF O O O (fun d h=>Vec.sl<|Own.holds h 6 _ O) qH V O<|fun z=>zE [0,3,4] O V<|fun d a c=>zD 8 O (zY O) c<|zD 9 O (zL (o:=2) O) c<|zM 10 O a<|zS (fun d a=>Own.qa (i:=2) O a)<|fun a2=>(zi (cs:=(DskD.cells D)) 1 O O O a2 O<|zE [0,3,4] O V<|fun d a c=>zX<|(?_:C _ _ _ _ _ _ _ (Own w S [_,_,_,_,_,_,_])) _ a)
  refine zB<|zF O<|zA<|zP<|zm (v:=Vi 0) O O<|fun d a=>⟨z,D.us++[⟨1,nm,((off:Nat):Int),m⟩],a1,O,qJ,n,a.sel [1,4,5,2] O V⟩
 refine zo 6 O a<|yH (e:=323) (sz:=4) (vs:=[.agg #[Vi 1, .string nm,Vj off,m]]) qF O O (by simp[Value.cells,WriD.cells]) V O<|fun a7=>zE [0,3,4] O V<|fun d a c=>zM 4 O a<|zJ 1 (v:=D.uv) O O O O<|zE [0,3,4] O V<|fun d a c=>zM 7 O a<|yF (g:=WriD.cells) (sz:=4) (by':=56) (fun _=>O) (l:=D.us) (l':=[({kind:=1,name:=nm,off:=((off:Nat):Int),dv:=m}:WriD)]) (all_cons ((zH O<|zH O<|zH O<|zH x zh)) qJ) 2 qF O O O (fun d h=>Vec.sl<|Own.holds h 6 _ O) qH V O<|fun z=>zE [0,3,4] O V<|fun d a c=>zD 8 O (zY O) c<|zD 9 O (zL (o:=2) O) c<|zM 10 O a<|zS (fun d a=>Own.qa (i:=2) O a)<|fun a3=>(zi (cs:=(DskD.cells D)) 1 O O O a3 O<|zE [0,3,4] O V<|fun d a c=>zX<|(?_:C _ _ _ _ _ _ _ (Own w S [_,_,_,_,_,_,_])) _ a)
 refine zB<|zF O<|zA<|zP<|zm (v:=Vi 0) O O<|fun d a=>⟨z,D.us++[⟨1,nm,((off:Nat):Int),m⟩],a1,O,qJ,n,a.sel [1,4,5,2] O V⟩
theorem zRd{S:List Nat}(db:Nat)(D:DskD)(kf:List (ByteArray×FilD))(nm:ByteArray)(off:Nat)(dv:Value)(data:List UInt8)(w:World)(o:DskOk D)(p:kg nm)(q:((tot kf+off+data.length:Nat):Int)≤D.room)(hl:kf.length<4096)(r:data.length≤1000000)(i:Own w S [zA4 db D,Res.mp Value.string FilD.val D.fm kf,Res.star ((kf.map Prod.snd).map FilD.dres),vW D.uv D.us] w)(c:Rd w S (Res.sl dv data.length (data.map vb))):Rets Tryz.prog 371 #[pt db, .string nm,Vj off,dv] w fun m h=>∃ (l:Value) (j:List WriD) (f:FilD),m=Vi 0∧j.length=D.us.length+1∧f.bs.length=max ((zl nm kf).getD kT).bs.length (off+data.length)∧Own w S [zA4 db ({D with uv:=l,us:=j}:DskD),Res.mp Value.string FilD.val D.fm (yZ nm f kf),Res.star (((yZ nm f kf).map Prod.snd).map FilD.dres),vW l j] h:=by
 refine zO Tryz.func371 O Tryz.ntmps371 i<|zB<|zF O<|zA<|zB<|zC O<|zC O<|zC O<|zC O<|xP (cs:=[Vi 1, .string nm,Vj off,dv]) (z:=[Vi 0,ym,Vi 0,zW]) (pl:=[(0,1),(1,1),(2,1),(3,1)]) qF ⟨O,O,O,(Sl.cell1<|Rd.φ c),trivial⟩ qF O<|zG O O<|fun h d=>(zJP db D kf _ off dv data h ‹_› ‹_› qH qH qH (d.give [0,1,2,3] O V)<|d.rdTo c [0,1,2,3] O).mono ?_
 rintro _ s ⟨e,g,k,rfl,b,a,n⟩
 refine fq [0,1,2,3] O d n<|zF O<|zA<|zP<|zm (v:=Vi 0) O O<|fun h d=>⟨e,g,k,O,b,a,d⟩
theorem zO2{S:List Nat}(db:Nat)(D:DskD)(kf:List (ByteArray×FilD))(w:World)(j:DskOk D)(k:tot kf≤1000000000)(e:Own w S [zA4 db D,Res.mp Value.string FilD.val D.fm kf,Res.star ((kf.map Prod.snd).map FilD.dres),vW D.uv D.us] w):Rets Tryz.prog 364 #[pt db] w fun i b=>∃ (xv:Value),i=Vi 0∧Own w S [zA4 db ({D with sv:=xv,uv:=zW,us:=[]}:DskD),Res.mp Value.string FilD.val D.fm kf,Res.star ((kf.map Prod.snd).map FilD.dres),vW zW ([]:List WriD)] b:=by
 refine zO Tryz.func364 O Tryz.ntmps364 e<|zB<|zF O<|zA<|zK<|zB<|zC O<|zG O O<|fun b a=>(zDz db D kf b ‹_› (a.give [0,1,2,3] O V)).mono ?_
 rintro _ g ⟨rfl,d⟩
 refine fq [0,1,2,3] O a d<|zF O<|zA<|zB<|zC O<|yf O O O<|zA<|zT O (fun h=> ?_)<|fun h=> ?_
 ·exact absurd O h
 refine zN<|zK<|zB<|zC O<|zG O O<|fun b a=>(zI2 db D kf b ‹_› (a.give [0,1,2,3] O V)).mono ?_
 rintro _ g ⟨rfl,d⟩
 refine fq [0,1,2,3] O a d<|zA<|yW O<|zN<|zB<|zC O<|zC O<|zC O<|zV O O<|zI (o:=0) O O<|zJ 0 (v:= .map (some D.fm)) O O O O<|zG O O<|fun b a=>(zLx D.fm kf b qH<|a.give [1,2] O V).mono ?_
 rintro _ g ⟨c,rfl,d⟩
 refine fq [1,2] O a d<|zV O O<|zI (o:=1) O O<|zi (cs:=(DskD.cells D)) 0 O O O O O<|zV O O<|zI (o:=2) O O<|zi (cs:=(DskD.cells ({D with sv:= .map (some c)}:DskD))) 0 O O O O O<|zA<|zB<|zF O<|zA<|zP<|zm (v:=Vi 0) O O<|fun b a=>⟨.map<|some c,O,(zq a 323 4).sel [0,2,3,4] O V⟩
def Res.dk(db:Nat)(D:DskD)(kf:List (ByteArray×FilD)):Res:=Res.star [zA4 db D,Res.mp Value.string FilD.val D.fm kf,Res.star ((kf.map Prod.snd).map FilD.dres),vW D.uv D.us]
theorem zFU(db:Nat)(D:DskD)(kf:List (ByteArray×FilD))(nm:ByteArray)(off:Nat)(dv:Value)(data:List UInt8)(w:World)(a:DskCl D)(e:kg nm)(g:((tot kf+off+data.length:Nat):Int)≤D.room)(hl:kf.length<4096)(h:data.length≤1000000)(b:Own w (xL [Res.dk db D kf]) [Res.dk db D kf] w)(c:Rd w (xL [Res.dk db D kf]) (Res.sl dv data.length (data.map vb))):Rets Tryz.prog 371 #[pt db, .string nm,Vj off,dv] w fun i j=>∃ (D':DskD) (f:FilD),i=Vi 0∧DskOk D'∧D'.room=D.room∧f.bs.length=max ((zl nm kf).getD kT).bs.length (off+data.length)∧Own w (xL [Res.dk db D kf]) [Res.dk db D' (yZ nm f kf)] j:=by
 refine(zRd db D kf nm off dv data w a.ok e g hl h (b.qi 0 O) c).mono ?_
 rintro _ m ⟨k,d,f,rfl,h1,h2,l⟩
 exact⟨{D with uv:=k,us:=d},f,O,⟨a.ok.fuse,a.ok.down,a.ok.room,by show d.length≤1000;rw[h1,a.us];decide⟩,O,h2,l.qg [0,1,2,3] O V⟩
theorem zFT(db:Nat)(D:DskD)(kf:List (ByteArray×FilD))(w:World)(a:DskOk D)(c:tot kf≤1000000000)(b:Own w (xL [Res.dk db D kf]) [Res.dk db D kf] w):Rets Tryz.prog 364 #[pt db] w fun d e=>∃ (D':DskD),d=Vi 0∧DskCl D'∧D'.room=D.room∧Own w (xL [Res.dk db D kf]) [Res.dk db D' kf] e:=by
 refine(zO2 db D kf w a c<|b.qi 0 O).mono ?_
 rintro _ h ⟨xv,rfl,g⟩
 exact⟨{D with sv:=xv,uv:=zW,us:=[]},O,⟨⟨a.fuse,a.down,a.room,Nat.zero_le _⟩,O⟩,O,g.qg [0,1,2,3] O V⟩
theorem zJA(db:Nat)(D:DskD)(kf:List (ByteArray×FilD))(w:World)(b:DskCl D)(a:Own w (xL [Res.dk db D kf]) [Res.dk db D kf] w):Rets Tryz.prog 207 #[pt db] w fun c d=>c=yC∧Own w (xL [Res.dk db D kf]) [Res.dk db D kf] d:=by
 refine(zPi db D kf w b.ok<|a.qi 0 O).mono ?_
 rintro _ g ⟨rfl,e⟩
 exact⟨O,e.qg [0,1,2,3] O V⟩
end Go.Proofs.YthpoddkmhfhboaaGreatDoor
