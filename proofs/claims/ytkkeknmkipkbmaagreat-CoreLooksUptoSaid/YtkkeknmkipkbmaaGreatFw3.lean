import Derived.Test.YtkkeknmkipkbmaaGreatFw2
import Derived.Laws.Strings
set_option linter.unusedSectionVars false
set_option linter.unusedSimpArgs false
set_option linter.unusedVariables false
namespace Go.Sc
def one(P:Program)(t:TypeId):Bool:=
  match P.underlying t,P.info? t with
  |some (.struct _),_|some (.array ..),_=>false
  |some _,some i=>i.size==1
  |_,_=>false
def jm(P:Program)(t:TypeId):Option Nat:=
  match P.underlying t,P.info? t with
  |some (.struct _),some i|some (.array ..),some i=>some i.size
  |_,_=>none
def zA8(P:Program)(t:TypeId):Option Nat:=(P.info? t).map (·.size)
def zBj(P:Program)(t:TypeId):Option Value:=(P.info? t).bind (·.zero)
def elemT(P:Program)(t:TypeId):Option TypeId:=match P.underlying t with|some (.slice e)=>some e|_=>none
def zBh(P:Program)(t:TypeId):Option Nat:=match P.underlying t with|some (.slice e)=>(P.info? e).map (·.size)|_=>none
def kS (P : Program) (g : FuncId) : Bool := match P.funcs[g]? with | some fn => !(fn.name == "runtime.NumGoroutine") && fn.body.isSome | none => false
def zCC(P:Program)(s:TypeId)(k:Nat):Option Nat:=
  match P.underlying s with
  |some (.struct fs)=>(fs[k]?).bind fun f=>(P.info? f.type).bind fun i=>if i.size=0 then none else some f.offset
  |_=>none
def zFd(P:Program)(t:TypeId):Option IntKind:=match P.underlying t with|some (.int k)=>some k|_=>none
def zFQ(P:Program)(t:TypeId):Bool:=match P.underlying t with|some (.pointer _)=>true|_=>false
def kd(P:Program)(t:TypeId):Bool:=match P.underlying t with|some (.slice _)=>true|_=>false
def zFK(P:Program)(t:TypeId):Bool:=match P.underlying t with|some .bool=>true|_=>false
def zFY(P:Program)(t:TypeId):Bool:=match P.underlying t with|some .string=>true|_=>false
theorem yB{P:Program}{t:TypeId}{d:TypeDesc}(h:P.underlying t=some d)(w:World):(underlying t).run P w= .ok d w:=by simp[underlying,h]
theorem zFy{P:Program}{t:TypeId}(h:one P t=true):(∀ w,(isAgg t).run P w= .ok false w)∧∃ i,P.info? t=some i∧i.size=1:=by
  unfold one at h
  split at h
  · cases h
  · cases h
  · rename_i d i h1 h2 hd hi
    refine⟨fun w=> ?_,i,hi,by simpa using h⟩
    cases d<;>first|exact(h1 _ rfl).elim|exact(h2 _ _ rfl).elim|simp[isAgg,yB hd]
  cases h
theorem zKE{P:Program}{t:TypeId}{k:Nat}(h:jm P t=some k):(∀ w,(isAgg t).run P w= .ok true w)∧∃ i,P.info? t=some i∧i.size=k:=by
  unfold jm at h
  split at h
  · rename_i fs i hd hi
    refine⟨fun w=> ?_,i,hi,by simpa using h⟩
    simp[isAgg,yB hd]
  · rename_i n e i hd hi
    refine⟨fun w=> ?_,i,hi,by simpa using h⟩
    simp[isAgg,yB hd]
  cases h
theorem ka {P : Program} {g : FuncId} (h : kS P g = true) (w : World) (args : Array Value) : (callFunc g args).run P w = .ok (.enter g args) w := by
  unfold kS at h
  cases hf : P.funcs[g]? with
  | none => rw [hf] at h; cases h
  | some fn =>
    rw [hf] at h
    simp only [Bool.and_eq_true, Bool.not_eq_true', Option.isSome_iff_exists] at h
    obtain ⟨h1, c, hc⟩ := h
    have hn : fn.name ≠ "runtime.NumGoroutine" := by simpa using h1
    have hp : (Go.program).run P w = .ok P w := rfl
    simp [callFunc, hp, hf, hn, hc]
def CL(P:Program)(n:Nat)(ops:Array Oper)(l:List Oper)(N:K)(f:Nat→Value)(A:World→Prop):Prop:=∀ w,A w→WL P n ops l N f w
def C(P:Program)(n:Nat)(c:Code)(N R:K)(X:List (Nat×K))(f:Nat→Value)(A:World→Prop):Prop:=∀ w,A w→W P n c N R X f w
theorem Oc0{P:Program}{n:Nat}{c:Code}{N R:K}{X:List (Nat×K)}{f:Nat→Value}{w w1:World}{S:List Nat}(k:C P n c N R X f (Own w S []))(h:Own w S [] w1):W P n c N R X f w1:=k w1 h
theorem Oc1{P:Program}{n:Nat}{c:Code}{N R:K}{X:List (Nat×K)}{f:Nat→Value}{w w1:World}{S:List Nat}{a0:Res}(k:C P n c N R X f (Own w S [a0]))(h:Own w S [a0] w1):W P n c N R X f w1:=k w1 h
theorem Oc2{P:Program}{n:Nat}{c:Code}{N R:K}{X:List (Nat×K)}{f:Nat→Value}{w w1:World}{S:List Nat}{a0 a1:Res}(k:C P n c N R X f (Own w S [a0,a1]))(h:Own w S [a0,a1] w1):W P n c N R X f w1:=k w1 h
theorem Oc3{P:Program}{n:Nat}{c:Code}{N R:K}{X:List (Nat×K)}{f:Nat→Value}{w w1:World}{S:List Nat}{a0 a1 a2:Res}(k:C P n c N R X f (Own w S [a0,a1,a2]))(h:Own w S [a0,a1,a2] w1):W P n c N R X f w1:=k w1 h
theorem Oc4{P:Program}{n:Nat}{c:Code}{N R:K}{X:List (Nat×K)}{f:Nat→Value}{w w1:World}{S:List Nat}{a0 a1 a2 a3:Res}(k:C P n c N R X f (Own w S [a0,a1,a2,a3]))(h:Own w S [a0,a1,a2,a3] w1):W P n c N R X f w1:=k w1 h
theorem Oc5{P:Program}{n:Nat}{c:Code}{N R:K}{X:List (Nat×K)}{f:Nat→Value}{w w1:World}{S:List Nat}{a0 a1 a2 a3 a4:Res}(k:C P n c N R X f (Own w S [a0,a1,a2,a3,a4]))(h:Own w S [a0,a1,a2,a3,a4] w1):W P n c N R X f w1:=k w1 h
theorem Oc6{P:Program}{n:Nat}{c:Code}{N R:K}{X:List (Nat×K)}{f:Nat→Value}{w w1:World}{S:List Nat}{a0 a1 a2 a3 a4 a5:Res}(k:C P n c N R X f (Own w S [a0,a1,a2,a3,a4,a5]))(h:Own w S [a0,a1,a2,a3,a4,a5] w1):W P n c N R X f w1:=k w1 h
theorem Oc7{P:Program}{n:Nat}{c:Code}{N R:K}{X:List (Nat×K)}{f:Nat→Value}{w w1:World}{S:List Nat}{a0 a1 a2 a3 a4 a5 a6:Res}(k:C P n c N R X f (Own w S [a0,a1,a2,a3,a4,a5,a6]))(h:Own w S [a0,a1,a2,a3,a4,a5,a6] w1):W P n c N R X f w1:=k w1 h
theorem Oc8{P:Program}{n:Nat}{c:Code}{N R:K}{X:List (Nat×K)}{f:Nat→Value}{w w1:World}{S:List Nat}{a0 a1 a2 a3 a4 a5 a6 a7:Res}(k:C P n c N R X f (Own w S [a0,a1,a2,a3,a4,a5,a6,a7]))(h:Own w S [a0,a1,a2,a3,a4,a5,a6,a7] w1):W P n c N R X f w1:=k w1 h
theorem Oc9{P:Program}{n:Nat}{c:Code}{N R:K}{X:List (Nat×K)}{f:Nat→Value}{w w1:World}{S:List Nat}{a0 a1 a2 a3 a4 a5 a6 a7 a8:Res}(k:C P n c N R X f (Own w S [a0,a1,a2,a3,a4,a5,a6,a7,a8]))(h:Own w S [a0,a1,a2,a3,a4,a5,a6,a7,a8] w1):W P n c N R X f w1:=k w1 h
theorem Oc10{P:Program}{n:Nat}{c:Code}{N R:K}{X:List (Nat×K)}{f:Nat→Value}{w w1:World}{S:List Nat}{a0 a1 a2 a3 a4 a5 a6 a7 a8 a9:Res}(k:C P n c N R X f (Own w S [a0,a1,a2,a3,a4,a5,a6,a7,a8,a9]))(h:Own w S [a0,a1,a2,a3,a4,a5,a6,a7,a8,a9] w1):W P n c N R X f w1:=k w1 h
theorem Oc11{P:Program}{n:Nat}{c:Code}{N R:K}{X:List (Nat×K)}{f:Nat→Value}{w w1:World}{S:List Nat}{a0 a1 a2 a3 a4 a5 a6 a7 a8 a9 a10:Res}(k:C P n c N R X f (Own w S [a0,a1,a2,a3,a4,a5,a6,a7,a8,a9,a10]))(h:Own w S [a0,a1,a2,a3,a4,a5,a6,a7,a8,a9,a10] w1):W P n c N R X f w1:=k w1 h
theorem Oc12{P:Program}{n:Nat}{c:Code}{N R:K}{X:List (Nat×K)}{f:Nat→Value}{w w1:World}{S:List Nat}{a0 a1 a2 a3 a4 a5 a6 a7 a8 a9 a10 a11:Res}(k:C P n c N R X f (Own w S [a0,a1,a2,a3,a4,a5,a6,a7,a8,a9,a10,a11]))(h:Own w S [a0,a1,a2,a3,a4,a5,a6,a7,a8,a9,a10,a11] w1):W P n c N R X f w1:=k w1 h
theorem Oc13{P:Program}{n:Nat}{c:Code}{N R:K}{X:List (Nat×K)}{f:Nat→Value}{w w1:World}{S:List Nat}{a0 a1 a2 a3 a4 a5 a6 a7 a8 a9 a10 a11 a12:Res}(k:C P n c N R X f (Own w S [a0,a1,a2,a3,a4,a5,a6,a7,a8,a9,a10,a11,a12]))(h:Own w S [a0,a1,a2,a3,a4,a5,a6,a7,a8,a9,a10,a11,a12] w1):W P n c N R X f w1:=k w1 h
theorem Oc16{P:Program}{n:Nat}{c:Code}{N R:K}{X:List (Nat×K)}{f:Nat→Value}{w w1:World}{S:List Nat}{a0 a1 a2 a3 a4 a5 a6 a7 a8 a9 a10 a11 a12 a13 a14 a15:Res}(k:C P n c N R X f (Own w S [a0,a1,a2,a3,a4,a5,a6,a7,a8,a9,a10,a11,a12,a13,a14,a15]))(h:Own w S [a0,a1,a2,a3,a4,a5,a6,a7,a8,a9,a10,a11,a12,a13,a14,a15] w1):W P n c N R X f w1:=k w1 h
theorem Oc17{P:Program}{n:Nat}{c:Code}{N R:K}{X:List (Nat×K)}{f:Nat→Value}{w w1:World}{S:List Nat}{a0 a1 a2 a3 a4 a5 a6 a7 a8 a9 a10 a11 a12 a13 a14 a15 a16:Res}(k:C P n c N R X f (Own w S [a0,a1,a2,a3,a4,a5,a6,a7,a8,a9,a10,a11,a12,a13,a14,a15,a16]))(h:Own w S [a0,a1,a2,a3,a4,a5,a6,a7,a8,a9,a10,a11,a12,a13,a14,a15,a16] w1):W P n c N R X f w1:=k w1 h
theorem Oc19{P:Program}{n:Nat}{c:Code}{N R:K}{X:List (Nat×K)}{f:Nat→Value}{w w1:World}{S:List Nat}{a0 a1 a2 a3 a4 a5 a6 a7 a8 a9 a10 a11 a12 a13 a14 a15 a16 a17 a18:Res}(k:C P n c N R X f (Own w S [a0,a1,a2,a3,a4,a5,a6,a7,a8,a9,a10,a11,a12,a13,a14,a15,a16,a17,a18]))(h:Own w S [a0,a1,a2,a3,a4,a5,a6,a7,a8,a9,a10,a11,a12,a13,a14,a15,a16,a17,a18] w1):W P n c N R X f w1:=k w1 h
theorem Oc22{P:Program}{n:Nat}{c:Code}{N R:K}{X:List (Nat×K)}{f:Nat→Value}{w w1:World}{S:List Nat}{a0 a1 a2 a3 a4 a5 a6 a7 a8 a9 a10 a11 a12 a13 a14 a15 a16 a17 a18 a19 a20 a21:Res}(k:C P n c N R X f (Own w S [a0,a1,a2,a3,a4,a5,a6,a7,a8,a9,a10,a11,a12,a13,a14,a15,a16,a17,a18,a19,a20,a21]))(h:Own w S [a0,a1,a2,a3,a4,a5,a6,a7,a8,a9,a10,a11,a12,a13,a14,a15,a16,a17,a18,a19,a20,a21] w1):W P n c N R X f w1:=k w1 h
theorem O0{P:Program}{n:Nat}{ops:Array Oper}{l:List Oper}{N:K}{f:Nat→Value}{w w1:World}{S:List Nat}(k:CL P n ops l N f (Own w S []))(h:Own w S [] w1):WL P n ops l N f w1:=k w1 h
theorem O1{P:Program}{n:Nat}{ops:Array Oper}{l:List Oper}{N:K}{f:Nat→Value}{w w1:World}{S:List Nat}{a0:Res}(k:CL P n ops l N f (Own w S [a0]))(h:Own w S [a0] w1):WL P n ops l N f w1:=k w1 h
theorem O2{P:Program}{n:Nat}{ops:Array Oper}{l:List Oper}{N:K}{f:Nat→Value}{w w1:World}{S:List Nat}{a0 a1:Res}(k:CL P n ops l N f (Own w S [a0,a1]))(h:Own w S [a0,a1] w1):WL P n ops l N f w1:=k w1 h
theorem O3{P:Program}{n:Nat}{ops:Array Oper}{l:List Oper}{N:K}{f:Nat→Value}{w w1:World}{S:List Nat}{a0 a1 a2:Res}(k:CL P n ops l N f (Own w S [a0,a1,a2]))(h:Own w S [a0,a1,a2] w1):WL P n ops l N f w1:=k w1 h
theorem O4{P:Program}{n:Nat}{ops:Array Oper}{l:List Oper}{N:K}{f:Nat→Value}{w w1:World}{S:List Nat}{a0 a1 a2 a3:Res}(k:CL P n ops l N f (Own w S [a0,a1,a2,a3]))(h:Own w S [a0,a1,a2,a3] w1):WL P n ops l N f w1:=k w1 h
theorem O5{P:Program}{n:Nat}{ops:Array Oper}{l:List Oper}{N:K}{f:Nat→Value}{w w1:World}{S:List Nat}{a0 a1 a2 a3 a4:Res}(k:CL P n ops l N f (Own w S [a0,a1,a2,a3,a4]))(h:Own w S [a0,a1,a2,a3,a4] w1):WL P n ops l N f w1:=k w1 h
theorem O6{P:Program}{n:Nat}{ops:Array Oper}{l:List Oper}{N:K}{f:Nat→Value}{w w1:World}{S:List Nat}{a0 a1 a2 a3 a4 a5:Res}(k:CL P n ops l N f (Own w S [a0,a1,a2,a3,a4,a5]))(h:Own w S [a0,a1,a2,a3,a4,a5] w1):WL P n ops l N f w1:=k w1 h
theorem O7{P:Program}{n:Nat}{ops:Array Oper}{l:List Oper}{N:K}{f:Nat→Value}{w w1:World}{S:List Nat}{a0 a1 a2 a3 a4 a5 a6:Res}(k:CL P n ops l N f (Own w S [a0,a1,a2,a3,a4,a5,a6]))(h:Own w S [a0,a1,a2,a3,a4,a5,a6] w1):WL P n ops l N f w1:=k w1 h
theorem O8{P:Program}{n:Nat}{ops:Array Oper}{l:List Oper}{N:K}{f:Nat→Value}{w w1:World}{S:List Nat}{a0 a1 a2 a3 a4 a5 a6 a7:Res}(k:CL P n ops l N f (Own w S [a0,a1,a2,a3,a4,a5,a6,a7]))(h:Own w S [a0,a1,a2,a3,a4,a5,a6,a7] w1):WL P n ops l N f w1:=k w1 h
theorem O9{P:Program}{n:Nat}{ops:Array Oper}{l:List Oper}{N:K}{f:Nat→Value}{w w1:World}{S:List Nat}{a0 a1 a2 a3 a4 a5 a6 a7 a8:Res}(k:CL P n ops l N f (Own w S [a0,a1,a2,a3,a4,a5,a6,a7,a8]))(h:Own w S [a0,a1,a2,a3,a4,a5,a6,a7,a8] w1):WL P n ops l N f w1:=k w1 h
theorem O10{P:Program}{n:Nat}{ops:Array Oper}{l:List Oper}{N:K}{f:Nat→Value}{w w1:World}{S:List Nat}{a0 a1 a2 a3 a4 a5 a6 a7 a8 a9:Res}(k:CL P n ops l N f (Own w S [a0,a1,a2,a3,a4,a5,a6,a7,a8,a9]))(h:Own w S [a0,a1,a2,a3,a4,a5,a6,a7,a8,a9] w1):WL P n ops l N f w1:=k w1 h
theorem O11{P:Program}{n:Nat}{ops:Array Oper}{l:List Oper}{N:K}{f:Nat→Value}{w w1:World}{S:List Nat}{a0 a1 a2 a3 a4 a5 a6 a7 a8 a9 a10:Res}(k:CL P n ops l N f (Own w S [a0,a1,a2,a3,a4,a5,a6,a7,a8,a9,a10]))(h:Own w S [a0,a1,a2,a3,a4,a5,a6,a7,a8,a9,a10] w1):WL P n ops l N f w1:=k w1 h
theorem O12{P:Program}{n:Nat}{ops:Array Oper}{l:List Oper}{N:K}{f:Nat→Value}{w w1:World}{S:List Nat}{a0 a1 a2 a3 a4 a5 a6 a7 a8 a9 a10 a11:Res}(k:CL P n ops l N f (Own w S [a0,a1,a2,a3,a4,a5,a6,a7,a8,a9,a10,a11]))(h:Own w S [a0,a1,a2,a3,a4,a5,a6,a7,a8,a9,a10,a11] w1):WL P n ops l N f w1:=k w1 h
theorem O13{P:Program}{n:Nat}{ops:Array Oper}{l:List Oper}{N:K}{f:Nat→Value}{w w1:World}{S:List Nat}{a0 a1 a2 a3 a4 a5 a6 a7 a8 a9 a10 a11 a12:Res}(k:CL P n ops l N f (Own w S [a0,a1,a2,a3,a4,a5,a6,a7,a8,a9,a10,a11,a12]))(h:Own w S [a0,a1,a2,a3,a4,a5,a6,a7,a8,a9,a10,a11,a12] w1):WL P n ops l N f w1:=k w1 h
theorem O14{P:Program}{n:Nat}{ops:Array Oper}{l:List Oper}{N:K}{f:Nat→Value}{w w1:World}{S:List Nat}{a0 a1 a2 a3 a4 a5 a6 a7 a8 a9 a10 a11 a12 a13:Res}(k:CL P n ops l N f (Own w S [a0,a1,a2,a3,a4,a5,a6,a7,a8,a9,a10,a11,a12,a13]))(h:Own w S [a0,a1,a2,a3,a4,a5,a6,a7,a8,a9,a10,a11,a12,a13] w1):WL P n ops l N f w1:=k w1 h
theorem O15{P:Program}{n:Nat}{ops:Array Oper}{l:List Oper}{N:K}{f:Nat→Value}{w w1:World}{S:List Nat}{a0 a1 a2 a3 a4 a5 a6 a7 a8 a9 a10 a11 a12 a13 a14:Res}(k:CL P n ops l N f (Own w S [a0,a1,a2,a3,a4,a5,a6,a7,a8,a9,a10,a11,a12,a13,a14]))(h:Own w S [a0,a1,a2,a3,a4,a5,a6,a7,a8,a9,a10,a11,a12,a13,a14] w1):WL P n ops l N f w1:=k w1 h
theorem O16{P:Program}{n:Nat}{ops:Array Oper}{l:List Oper}{N:K}{f:Nat→Value}{w w1:World}{S:List Nat}{a0 a1 a2 a3 a4 a5 a6 a7 a8 a9 a10 a11 a12 a13 a14 a15:Res}(k:CL P n ops l N f (Own w S [a0,a1,a2,a3,a4,a5,a6,a7,a8,a9,a10,a11,a12,a13,a14,a15]))(h:Own w S [a0,a1,a2,a3,a4,a5,a6,a7,a8,a9,a10,a11,a12,a13,a14,a15] w1):WL P n ops l N f w1:=k w1 h
theorem O17{P:Program}{n:Nat}{ops:Array Oper}{l:List Oper}{N:K}{f:Nat→Value}{w w1:World}{S:List Nat}{a0 a1 a2 a3 a4 a5 a6 a7 a8 a9 a10 a11 a12 a13 a14 a15 a16:Res}(k:CL P n ops l N f (Own w S [a0,a1,a2,a3,a4,a5,a6,a7,a8,a9,a10,a11,a12,a13,a14,a15,a16]))(h:Own w S [a0,a1,a2,a3,a4,a5,a6,a7,a8,a9,a10,a11,a12,a13,a14,a15,a16] w1):WL P n ops l N f w1:=k w1 h
theorem O18{P:Program}{n:Nat}{ops:Array Oper}{l:List Oper}{N:K}{f:Nat→Value}{w w1:World}{S:List Nat}{a0 a1 a2 a3 a4 a5 a6 a7 a8 a9 a10 a11 a12 a13 a14 a15 a16 a17:Res}(k:CL P n ops l N f (Own w S [a0,a1,a2,a3,a4,a5,a6,a7,a8,a9,a10,a11,a12,a13,a14,a15,a16,a17]))(h:Own w S [a0,a1,a2,a3,a4,a5,a6,a7,a8,a9,a10,a11,a12,a13,a14,a15,a16,a17] w1):WL P n ops l N f w1:=k w1 h
theorem O21{P:Program}{n:Nat}{ops:Array Oper}{l:List Oper}{N:K}{f:Nat→Value}{w w1:World}{S:List Nat}{a0 a1 a2 a3 a4 a5 a6 a7 a8 a9 a10 a11 a12 a13 a14 a15 a16 a17 a18 a19 a20:Res}(k:CL P n ops l N f (Own w S [a0,a1,a2,a3,a4,a5,a6,a7,a8,a9,a10,a11,a12,a13,a14,a15,a16,a17,a18,a19,a20]))(h:Own w S [a0,a1,a2,a3,a4,a5,a6,a7,a8,a9,a10,a11,a12,a13,a14,a15,a16,a17,a18,a19,a20] w1):WL P n ops l N f w1:=k w1 h
theorem O22{P:Program}{n:Nat}{ops:Array Oper}{l:List Oper}{N:K}{f:Nat→Value}{w w1:World}{S:List Nat}{a0 a1 a2 a3 a4 a5 a6 a7 a8 a9 a10 a11 a12 a13 a14 a15 a16 a17 a18 a19 a20 a21:Res}(k:CL P n ops l N f (Own w S [a0,a1,a2,a3,a4,a5,a6,a7,a8,a9,a10,a11,a12,a13,a14,a15,a16,a17,a18,a19,a20,a21]))(h:Own w S [a0,a1,a2,a3,a4,a5,a6,a7,a8,a9,a10,a11,a12,a13,a14,a15,a16,a17,a18,a19,a20,a21] w1):WL P n ops l N f w1:=k w1 h
section
variable {P:Program} {n:Nat} {ops:Array Oper} {N R:K} {X:List (Nat×K)} {f:Nat→Value} {A:World→Prop} {rest:List Oper}
variable {d:Nat} {ty:TypeId} {p:String} {af:Array Edge}
theorem zP{x y:Code}(h:C P n x (fun f w=>W P n y N R X f w) R X f A):C P n (.seq x y) N R X f A:=fun w hw=>zMm (h w hw)
theorem zC{id:Nat}{l:List Oper}{y:Code}(h:CL P n l.toArray l (fun f w=>W P n y N R X f w) f A):C P n (.seq (.region id l.toArray false) y) N R X f A:=fun w hw=>zMm (zGZ (h w hw))
theorem zV{id:Nat}{l:List Oper}(h:CL P n l.toArray l N f A):C P n (.region id l.toArray false) N R X f A:=fun w hw=>zGZ (h w hw)
theorem yZ(h:∀ w,A w→N f w):C P n .skip N R X f A:=fun w hw=>zLC (h w hw)
theorem zU(h:∀ w,A w→R f w):C P n .ret N R X f A:=fun w hw=>zQF (h w hw)
theorem kw{id:Nat}{k:K}(hk:look id X=some k)(h:∀ w,A w→k f w):C P n (.exit id) N R X f A:=fun w hw=>zKx hk (h w hw)
theorem zZ{id:Nat}{c:Code}(h:C P n c N R ((id,N)::X) f A):C P n (.block id c) N R X f A:=fun w hw=>zNt (h w hw)
theorem zAu{c:Operand}{x y:Code}{b:Bool}(hc:ev f c= .bool b)(h1:b=true→C P n x N R X f A)(h2:b=false→C P n y N R X f A):C P n (.cond c x y) N R X f A:=
  fun w hw=>zPw hc (fun e=>h1 e w hw) (fun e=>h2 e w hw)
theorem zID{c:Operand}{x y:Code}(hc:ev f c= .bool true)(h1:C P n x N R X f A):C P n (.cond c x y) N R X f A:=fun w hw=>zQC hc (h1 w hw)
theorem xx{c:Operand}{x y:Code}(hc:ev f c= .bool false)(h1:C P n y N R X f A):C P n (.cond c x y) N R X f A:=fun w hw=>zRO hc (h1 w hw)
theorem za{c:Operand}{x y:Code}{q:Prop}[Decidable q](hc:ev f c= .bool (decide q))(h1:q→C P n x N R X f A)(h2:¬ q→C P n y N R X f A):C P n (.cond c x y) N R X f A:=
  zAu hc (fun e=>h1 (of_decide_eq_true e)) (fun e=>h2 (of_decide_eq_false e))
theorem jf{c:Operand}{x y:Code}{q:Prop}[Decidable q](hc:ev f c= .bool (decide q))(hq:q)(h1:C P n x N R X f A):C P n (.cond c x y) N R X f A:=
  zID (by rw[hc,decide_eq_true hq]) h1
theorem xK{c:Operand}{x y:Code}{q:Prop}[Decidable q](hc:ev f c= .bool (decide q))(hq:¬ q)(h1:C P n y N R X f A):C P n (.cond c x y) N R X f A:=
  xx (by rw[hc,decide_eq_false hq]) h1
theorem zQD{x y:Code}(I:K)(h:C P n x I R X f A)(hy:∀ f w,I f w→W P n y N R X f w):C P n (.seq x y) N R X f A:=fun w hw=>zQs I (h w hw) hy
theorem zg(h:∀ w,A w→N f w):CL P n ops [] N f A:=fun w hw=>zMd (h w hw)
theorem zA{c:Code}{M:K}{X:List (Nat×K)}(h:C P n c M R X f A):CL P n ops [] (fun f w=>W P n c M R X f w) f A:=fun w hw=>zMd (h w hw)
theorem zPt{A':World→Prop}(h:CL P n ops rest N f A')(ha:∀ w,A w→A' w):CL P n ops rest N f A:=fun w hw=>h w (ha w hw)
def RV(P:Program)(f:Nat→Value)(o:Oper)(A:World→Prop)(v:Value):Prop:=∀ w,A w→(execOp (ev f) o).run P w= .ok (.value v) w
theorem yX{op:Op}{v:Value}(hd:Nat.blt d n=true)(hr:∀ w,A w→(execOp (ev f) ⟨some d,op,ty,p,af,none⟩).run P w= .ok (.value v) w)
    (k:CL P n ops rest N (upd f d v) A):CL P n ops (⟨some d,op,ty,p,af,none⟩::rest) N f A:=fun w hw=>k7 (hr w hw) hd (k w hw)
theorem zR{j e:Nat}{b:Bool}{dst:Option Tmp}{op:Op}(hj:yn ops j=some e)(hb:f e= .bool b)
    (k:CL P n ops (⟨dst,op,ty,p,af,none⟩::rest) N f A):CL P n ops (⟨dst,op,ty,p,af,some (j,b)⟩::rest) N f A:=fun w hw=>zKV hj hb (k w hw)
theorem zAz{j e:Nat}{b b':Bool}{op:Op}(hj:yn ops j=some e)(hb:f e= .bool b')(hne:(b'==b)=false)(hd:Nat.blt d n=true)
    (k:CL P n ops rest N (upd f d undef) A):CL P n ops (⟨some d,op,ty,p,af,some (j,b)⟩::rest) N f A:=fun w hw=>zO0 hj hb hne hd (k w hw)
theorem zS{x:Operand}:RV P f ⟨some d, .move x,ty,p,af,none⟩ A ((ev f x)):=
  fun w _=>by simp[execOp]
theorem zD{x:Operand}(hd:Nat.blt d n=true)(k:CL P n ops rest N (upd f d (ev f x)) A):CL P n ops (⟨some d, .move x,ty,p,af,none⟩::rest) N f A:=
  yX hd (fun w _=>by simp[execOp]) k
theorem yO{x:Operand}:RV P f ⟨some d, .assign x,ty,p,af,none⟩ A ((ev f x)):=
  fun w _=>by simp[execOp]
theorem zI{x:Operand}(hd:Nat.blt d n=true)(k:CL P n ops rest N (upd f d (ev f x)) A):CL P n ops (⟨some d, .assign x,ty,p,af,none⟩::rest) N f A:=
  yX hd (fun w _=>by simp[execOp]) k
theorem zLt{c x y:Operand}{b:Bool}(hc:ev f c= .bool b):RV P f ⟨some d, .pick c x y,ty,p,af,none⟩ A ((bif b then ev f x else ev f y)):=
  fun w _=>by cases b<;>simp[execOp,hc,asBool]
theorem zMM{c x y:Operand}{b:Bool}(hc:ev f c= .bool b)(hd:Nat.blt d n=true)(k:CL P n ops rest N (upd f d (bif b then ev f x else ev f y)) A):CL P n ops (⟨some d, .pick c x y,ty,p,af,none⟩::rest) N f A:=
  yX hd (fun w _=>by cases b<;>simp[execOp,hc,asBool]) k
theorem zDx{x:Operand}{b:Bool}{t:TypeId}(hx:ev f x= .bool b):RV P f ⟨some d, .unOp .not t x,ty,p,af,none⟩ A ((.bool !b)):=
  fun w _=>by simp[execOp,hx,Op.unary]
theorem zBu{x:Operand}{b:Bool}{t:TypeId}(hx:ev f x= .bool b)(hd:Nat.blt d n=true)(k:CL P n ops rest N (upd f d (.bool !b)) A):CL P n ops (⟨some d, .unOp .not t x,ty,p,af,none⟩::rest) N f A:=
  yX hd (fun w _=>by simp[execOp,hx,Op.unary]) k
theorem xr{x:Operand}{q:Prop}[Decidable q]{t:TypeId}(hx:ev f x= .bool (decide q)):RV P f ⟨some d, .unOp .not t x,ty,p,af,none⟩ A ((.bool (decide ¬ q))):=
  fun w _=>by simp[execOp,hx,Op.unary]
theorem xB{x:Operand}{q:Prop}[Decidable q]{t:TypeId}(hx:ev f x= .bool (decide q))(hd:Nat.blt d n=true)(k:CL P n ops rest N (upd f d (.bool (decide ¬ q))) A):CL P n ops (⟨some d, .unOp .not t x,ty,p,af,none⟩::rest) N f A:=
  yX hd (fun w _=>by simp[execOp,hx,Op.unary]) k
theorem yT{x:Operand}{vs:List Value}{i:Nat}{v:Value}(hx:ev f x= .tuple vs.toArray)(hv:vs[i]?=some v):RV P f ⟨some d, .extract x i,ty,p,af,none⟩ A (v):=
  fun w _=>by simp[execOp,hx,Instr.extract,hv]
theorem yA{x:Operand}{vs:List Value}{i:Nat}{v:Value}(hx:ev f x= .tuple vs.toArray)(hv:vs[i]?=some v)(hd:Nat.blt d n=true)(k:CL P n ops rest N (upd f d v) A):CL P n ops (⟨some d, .extract x i,ty,p,af,none⟩::rest) N f A:=
  yX hd (fun w _=>by simp[execOp,hx,Instr.extract,hv]) k
section
variable {x y:Operand} {k:IntKind} {a b c:Int} {t t':TypeId}
theorem yr(hx:ev f x= .int k a)(hy:ev f y= .int k b)(hc:k.wrap (a+b)=c):RV P f ⟨some d, .binOp .add t x y t',ty,p,af,none⟩ A ((.int k c)):=
  fun w _=>by simp[execOp,hx,hy,eqGuard,binOp,Op.intArith,hc]
theorem zt(hx:ev f x= .int k a)(hy:ev f y= .int k b)(hc:k.wrap (a+b)=c)(hd:Nat.blt d n=true)(kk:CL P n ops rest N (upd f d (.int k c)) A):CL P n ops (⟨some d, .binOp .add t x y t',ty,p,af,none⟩::rest) N f A:=
  yX hd (fun w _=>by simp[execOp,hx,hy,eqGuard,binOp,Op.intArith,hc]) kk
theorem xl(hx:ev f x= .int k a)(hy:ev f y= .int k b)(hc:k.wrap (a - b)=c):RV P f ⟨some d, .binOp .sub t x y t',ty,p,af,none⟩ A ((.int k c)):=
  fun w _=>by simp[execOp,hx,hy,eqGuard,binOp,Op.intArith,hc]
theorem x8(hx:ev f x= .int k a)(hy:ev f y= .int k b)(hc:k.wrap (a - b)=c)(hd:Nat.blt d n=true)(kk:CL P n ops rest N (upd f d (.int k c)) A):CL P n ops (⟨some d, .binOp .sub t x y t',ty,p,af,none⟩::rest) N f A:=
  yX hd (fun w _=>by simp[execOp,hx,hy,eqGuard,binOp,Op.intArith,hc]) kk
theorem zRC(hx:ev f x= .int k a)(hy:ev f y= .int k b)(hc:k.wrap (a*b)=c):RV P f ⟨some d, .binOp .mul t x y t',ty,p,af,none⟩ A ((.int k c)):=
  fun w _=>by simp[execOp,hx,hy,eqGuard,binOp,Op.intArith,hc]
theorem zKf(hx:ev f x= .int k a)(hy:ev f y= .int k b)(hc:k.wrap (a*b)=c)(hd:Nat.blt d n=true)(kk:CL P n ops rest N (upd f d (.int k c)) A):CL P n ops (⟨some d, .binOp .mul t x y t',ty,p,af,none⟩::rest) N f A:=
  yX hd (fun w _=>by simp[execOp,hx,hy,eqGuard,binOp,Op.intArith,hc]) kk
theorem zQO(hx:ev f x= .int k a)(hy:ev f y= .int k b)(hb:b≠0)(hc:k.wrap (a.tdiv b)=c):RV P f ⟨some d, .binOp .quo t x y t',ty,p,af,none⟩ A ((.int k c)):=
  fun w _=>by simp[execOp,hx,hy,eqGuard,binOp,Op.intDiv,hb,hc]
theorem zL6(hx:ev f x= .int k a)(hy:ev f y= .int k b)(hb:b≠0)(hc:k.wrap (a.tdiv b)=c)(hd:Nat.blt d n=true)(kk:CL P n ops rest N (upd f d (.int k c)) A):CL P n ops (⟨some d, .binOp .quo t x y t',ty,p,af,none⟩::rest) N f A:=
  yX hd (fun w _=>by simp[execOp,hx,hy,eqGuard,binOp,Op.intDiv,hb,hc]) kk
theorem zD5(hx:ev f x= .int k a)(hy:ev f y= .int k b)(hb:b≠0)(hc:a.tmod b=c):RV P f ⟨some d, .binOp .rem t x y t',ty,p,af,none⟩ A ((.int k c)):=
  fun w _=>by simp[execOp,hx,hy,eqGuard,binOp,Op.intDiv,hb,hc]
theorem zMA(hx:ev f x= .int k a)(hy:ev f y= .int k b)(hb:b≠0)(hc:a.tmod b=c)(hd:Nat.blt d n=true)(kk:CL P n ops rest N (upd f d (.int k c)) A):CL P n ops (⟨some d, .binOp .rem t x y t',ty,p,af,none⟩::rest) N f A:=
  yX hd (fun w _=>by simp[execOp,hx,hy,eqGuard,binOp,Op.intDiv,hb,hc]) kk
theorem v_shl{k':IntKind}(hx:ev f x= .int k a)(hy:ev f y= .int k' b)(hb:0≤b)(hc:k.wrap (a*2 ^ (min b.toNat k.bits))=c):RV P f ⟨some d, .binOp .shl t x y t',ty,p,af,none⟩ A ((.int k c)):=
  fun w _=>by simp[execOp,hx,hy,eqGuard,binOp,Op.shift,show ¬ b<0 by omega,hc]
theorem zQp{k':IntKind}(hx:ev f x= .int k a)(hy:ev f y= .int k' b)(hb:0≤b)(hc:k.wrap (a*2 ^ (min b.toNat k.bits))=c)(hd:Nat.blt d n=true)(kk:CL P n ops rest N (upd f d (.int k c)) A):CL P n ops (⟨some d, .binOp .shl t x y t',ty,p,af,none⟩::rest) N f A:=
  yX hd (fun w _=>by simp[execOp,hx,hy,eqGuard,binOp,Op.shift,show ¬ b<0 by omega,hc]) kk
theorem zIu{k':IntKind}(hx:ev f x= .int k a)(hy:ev f y= .int k' b)(hb:0≤b)(hc:a.fdiv (2 ^ (min b.toNat k.bits))=c)(hd:Nat.blt d n=true)(kk:CL P n ops rest N (upd f d (.int k c)) A):CL P n ops (⟨some d, .binOp .shr t x y t',ty,p,af,none⟩::rest) N f A:=
  yX hd (fun w _=>by simp[execOp,hx,hy,eqGuard,binOp,Op.shift,show ¬ b<0 by omega,hc]) kk
theorem zRM(hx:ev f x= .int k a)(hy:ev f y= .int k b)(hc:k.wrap (((a%2 ^ k.bits).toNat|||(b%2 ^ k.bits).toNat:Nat):Int)=c)(hd:Nat.blt d n=true)(kk:CL P n ops rest N (upd f d (.int k c)) A):CL P n ops (⟨some d, .binOp .or t x y t',ty,p,af,none⟩::rest) N f A:=
  yX hd (fun w _=>by simp[execOp,hx,hy,eqGuard,binOp,Op.intBits,hc]) kk
theorem zBi(hx:ev f x= .int k a)(hy:ev f y= .int k b):RV P f ⟨some d, .binOp .lss t x y t',ty,p,af,none⟩ A ((.bool (decide (a<b)))):=
  fun w _=>by simp[execOp,hx,hy,eqGuard,binOp,Op.intCmp]
theorem yI(hx:ev f x= .int k a)(hy:ev f y= .int k b)(hd:Nat.blt d n=true)(kk:CL P n ops rest N (upd f d (.bool (decide (a<b)))) A):CL P n ops (⟨some d, .binOp .lss t x y t',ty,p,af,none⟩::rest) N f A:=
  yX hd (fun w _=>by simp[execOp,hx,hy,eqGuard,binOp,Op.intCmp]) kk
theorem zIi(hx:ev f x= .int k a)(hy:ev f y= .int k b):RV P f ⟨some d, .binOp .leq t x y t',ty,p,af,none⟩ A ((.bool (decide (a≤b)))):=
  fun w _=>by simp[execOp,hx,hy,eqGuard,binOp,Op.intCmp]
theorem x6(hx:ev f x= .int k a)(hy:ev f y= .int k b)(hd:Nat.blt d n=true)(kk:CL P n ops rest N (upd f d (.bool (decide (a≤b)))) A):CL P n ops (⟨some d, .binOp .leq t x y t',ty,p,af,none⟩::rest) N f A:=
  yX hd (fun w _=>by simp[execOp,hx,hy,eqGuard,binOp,Op.intCmp]) kk
theorem zCe(hx:ev f x= .int k a)(hy:ev f y= .int k b):RV P f ⟨some d, .binOp .gtr t x y t',ty,p,af,none⟩ A ((.bool (decide (b<a)))):=
  fun w _=>by simp[execOp,hx,hy,eqGuard,binOp,Op.intCmp]
theorem yx(hx:ev f x= .int k a)(hy:ev f y= .int k b)(hd:Nat.blt d n=true)(kk:CL P n ops rest N (upd f d (.bool (decide (b<a)))) A):CL P n ops (⟨some d, .binOp .gtr t x y t',ty,p,af,none⟩::rest) N f A:=
  yX hd (fun w _=>by simp[execOp,hx,hy,eqGuard,binOp,Op.intCmp]) kk
theorem zIo(hx:ev f x= .int k a)(hy:ev f y= .int k b):RV P f ⟨some d, .binOp .geq t x y t',ty,p,af,none⟩ A ((.bool (decide (b≤a)))):=
  fun w _=>by simp[execOp,hx,hy,eqGuard,binOp,Op.intCmp]
theorem kK(hx:ev f x= .int k a)(hy:ev f y= .int k b)(hd:Nat.blt d n=true)(kk:CL P n ops rest N (upd f d (.bool (decide (b≤a)))) A):CL P n ops (⟨some d, .binOp .geq t x y t',ty,p,af,none⟩::rest) N f A:=
  yX hd (fun w _=>by simp[execOp,hx,hy,eqGuard,binOp,Op.intCmp]) kk
theorem zCq(hx:ev f x= .int k a)(hy:ev f y= .int k b):RV P f ⟨some d, .binOp .eql t x y t',ty,p,af,none⟩ A ((.bool (decide (a=b)))):=
  fun w _=>by simp[execOp,hx,hy,eqGuard,binOp,Op.intCmp];rfl
theorem yR(hx:ev f x= .int k a)(hy:ev f y= .int k b)(hd:Nat.blt d n=true)(kk:CL P n ops rest N (upd f d (.bool (decide (a=b)))) A):CL P n ops (⟨some d, .binOp .eql t x y t',ty,p,af,none⟩::rest) N f A:=
  yX hd (fun w _=>by simp[execOp,hx,hy,eqGuard,binOp,Op.intCmp];rfl) kk
theorem zLi(hx:ev f x= .int k a)(hy:ev f y= .int k b):RV P f ⟨some d, .binOp .neq t x y t',ty,p,af,none⟩ A ((.bool (decide (a≠b)))):=
  fun w _=>by
    have:(a !=b)=decide (a≠b):=by simp[bne,decide_not];rfl
    simp[execOp,hx,hy,eqGuard,binOp,Op.intCmp,this]
theorem xn(hx:ev f x= .int k a)(hy:ev f y= .int k b)(hd:Nat.blt d n=true)(kk:CL P n ops rest N (upd f d (.bool (decide (a≠b)))) A):CL P n ops (⟨some d, .binOp .neq t x y t',ty,p,af,none⟩::rest) N f A:=
  yX hd (fun w _=>by
    have:(a !=b)=decide (a≠b):=by simp[bne,decide_not];rfl
    simp[execOp,hx,hy,eqGuard,binOp,Op.intCmp,this]) kk
theorem x7{k':IntKind}(ht:zFd P t'=some k')(hx:ev f x= .int k a)(hc:k'.wrap a=c)(ht0:(P.underlying t).isSome=true):RV P f ⟨some d, .convert t t' x,ty,p,af,none⟩ A ((.int k' c)):=
  fun w _=>by
    unfold zFd at ht
    split at ht
    · rename_i k1 h1
      simp at ht;subst ht
      obtain⟨d0,h0⟩:=Option.isSome_iff_exists.1 ht0
      simp[execOp,hx,convert,yB h0,yB h1,Conv.intToInt,hc]
    cases ht
theorem xt{k':IntKind}(ht:zFd P t'=some k')(hx:ev f x= .int k a)(hc:k'.wrap a=c)(hd:Nat.blt d n=true)(kk:CL P n ops rest N (upd f d (.int k' c)) A)(ht0:(P.underlying t).isSome=true):CL P n ops (⟨some d, .convert t t' x,ty,p,af,none⟩::rest) N f A:=
  yX hd (fun w _=>by
    unfold zFd at ht
    split at ht
    · rename_i k1 h1
      simp at ht;subst ht
      obtain⟨d0,h0⟩:=Option.isSome_iff_exists.1 ht0
      simp[execOp,hx,convert,yB h0,yB h1,Conv.intToInt,hc]
    cases ht) kk
end
end
end Go.Sc
