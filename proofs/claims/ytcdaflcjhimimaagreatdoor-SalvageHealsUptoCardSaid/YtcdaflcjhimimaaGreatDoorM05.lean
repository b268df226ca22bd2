/- Laws and walks on the road to SalvageNever and SalvageHeals (part M05). No conditions beyond each law's own. -/
import Derived.Test.YtcdaflcjhimimaaGreatDoorM01
import Derived.Test.YtcdaflcjhimimaaGreatDoorM04
import Derived.Test.YtcdaflcjhimimaaGreatDoorM03
import Derived.Test.YtcdaflcjhimimaaGreatDoorM02
set_option linter.unusedVariables false
namespace Go.Proofs.YtcdaflcjhimimaaGreatDoor
open Go.RowKit
variable {b n off p B size:Nat} {x y:Operand} {e Az AU:TypeId} {ss pre post res:List (List Value)} {v:Value} {c:World} {xs:List Value}
section
variable {P:Program} {w w':World} {ops:Array Oper} {rest:List Oper} {Ac:Exit→Act→World→Prop} {U:Nat} {f:Db} {d:Nat} {ty:TypeId} {pos:String} {AF:Array Edge} {g:Option (Nat×Bool)} {dst:Option Tmp} {R:Act→Prop} {Aa:Act→World→Prop} {a:Act}
theorem Bx{b:FuncId}{fn:Func}{c:Code}{args:Array Value}{R:Ending→World→Prop}(d:P.funcs[b]? =some fn)(e:fn.body=some c)(U:Nat)
 (h:∀a,Ao U a (NQ args.toList)→c.wp P (bodyPost P fn R) a w)(hn:args.size+(fn.ntmps - args.size)=U:=by kernel_rfl):Calls P b args w R:=Uc d e U hn h
theorem A8{A4:World→Prop}(i fuel:Nat){B3:Nat}{listed:Array Bool}{o:Oper}(b:ops[i]? =some o)(c:o.guard=none)
 (h:∀Aa:Act→World→Prop,(∀a w,A4 w→wpAnyH P .any ops Ac A4 fuel (listed.setIfInBounds i true) a w→Aa a w)→DP P o a w Aa Ac)(d:B3=fuel+1:=by kernel_rfl)(e:Region.ready .any ops listed=[i]:=by kernel_rfl):wpAnyH P .any ops Ac A4 B3 listed a w:=SB b c d e h
theorem EW{A4:World→Prop}(i j fuel:Nat){B3:Nat}{listed:Array Bool}{o b:Oper}(c:ops[i]? =some o)(d:o.guard=none)(e:ops[j]? =some b)(f:b.guard=none)
 (h:∀Aa:Act→World→Prop,(∀a w,A4 w→wpAnyH P .any ops Ac A4 fuel (listed.setIfInBounds i true) a w→Aa a w)→DP P o a w Aa Ac)
 (g:∀Aa:Act→World→Prop,(∀a w,A4 w→wpAnyH P .any ops Ac A4 fuel (listed.setIfInBounds j true) a w→Aa a w)→DP P b a w Aa Ac)(k:B3=fuel+1:=by kernel_rfl)(l:Region.ready .any ops listed=[i,j]:=by kernel_rfl):wpAnyH P .any ops Ac A4 B3 listed a w:=S_ c d e f k l h g
theorem EJ{id:Nat}{l:List Oper}(n:Nat)
 (h:∀W:World,W.heap.size=w.heap.size→Below w.heap.size w W→wpStill P l.toArray W (fun b=>wpList P l.toArray Ac (l.drop n) b W) (l.take n) a)(hm:P.follows .mixedOrders=true:=by kernel_rfl)(c:Region.lexTailB .any l.toArray n=true:=by kernel_rfl):(Code.region id l.toArray true).wp P Ac a w:=Uy n hm c h
theorem C7{id:Nat}{l:List Oper}(A4:World→Prop)(h:∀W:World,W.heap.size=w.heap.size→Below w.heap.size w W→wpAnyH P .any l.toArray Ac A4 l.toArray.size (Array.replicate l.toArray.size false) a W)(hm:P.follows .mixedOrders=true:=by kernel_rfl):(Code.region id l.toArray true).wp P Ac a w:=SR A4 hm h
theorem B0(i:Ao U a f){b:FuncId}{fn:Func}{xs:Array Operand}{j:Array TypeId}(args:Array Value)(k:P.funcs[b]? =some fn)
 {R:Ending→World→Prop}(l:Calls P b args w R)(h:∀e W,R e W→∃v,e=.returned v∧∀c,Ao U c (Ja f d v)→Aa c W)(m:xs.toList.map (Au f)=args.toList.map some:=by exact rfl)(hn:(fn.name== "runtime.NumGoroutine")=false:=by kernel_rfl)(n:fn.body.isNone=false:=by kernel_rfl)(Ab:Nat.blt d U=true:=by exact rfl):
 DP P ⟨some d,.call {callee:=.value (.func b),args:=xs,argTypes:=j},ty,pos,AF,g⟩ a w Aa Ac:=Q3 i Ab k hn n m l h
theorem Dg{t:TypeId}(c:P.underlying t=some (.array n e))(size j o:Nat){a:Operand}(g:Au f x=some (.pointer (some ⟨b,off,none⟩))){k:IntKind}{i:Int}(l:Au f a=some (.int k i))(h:BG P ops Ac U w (Ja f d (.pointer (some ⟨b,o,none⟩))) rest)
 (m:i=j:=by omega)(p:j<n:=by omega)(q:off+j*size=o:=by first|rfl|omega)(r:(P.info? e).map (·.size)=some size:=by kernel_rfl)(Ab:Nat.blt d U=true:=by exact rfl):BG P ops Ac U w f (⟨some d,.indexAddr t x a,ty,pos,AF,none⟩::rest):=AT (fun _ s=>G6 s c r g l j m p q) h Ab
theorem GJ{t:TypeId}(c:P.underlying t=some (.array n e))(size j o:Nat){a:Operand}(g:Au f x=some (.pointer (some ⟨b,off,none⟩))){k:IntKind}{i:Int}(l:Au f a=some (.int k i))(h:Cw P ops R U w (Ja f d (.pointer (some ⟨b,o,none⟩))) rest)
 (m:i=j:=by omega)(p:j<n:=by omega)(q:off+j*size=o:=by first|rfl|omega)(r:(P.info? e).map (·.size)=some size:=by kernel_rfl)(Ab:Nat.blt d U=true:=by exact rfl):Cw P ops R U w f (⟨some d,.indexAddr t x a,ty,pos,AF,none⟩::rest):=Cz (fun _ s=>G6 s c r g l j m p q) h Ab
theorem Ok{o:Option Nat}(n:Nat)(h:ss.flatten.length=n)(a:o=some n:=by kernel_rfl):o=some ss.flatten.length:=a.trans (congrArg some h.symm)
theorem Iu(l:Ao U a f)(i m:Nat){mid c:List (List Value)}(j:w.heap[b]? =some (.cells (flat ss) AU (0,0)))(n:Au f x=some (.pointer (some ⟨b,off,none⟩)))(o:Au f y=some (.agg (flat c)))
 (h:∀k W,Ao U k f→W.heap.size=w.heap.size→W.heap[b]? =some (.cells (flat res) AU (0,0))→w.grownBy W (some b)→Aa k W)
 (s:ss.take i=pre:=by first|(simp only[List.take_succ_cons,List.take_zero,List.take_nil,List.drop_succ_cons,List.drop_zero,List.drop_nil,List.cons_append,List.nil_append,List.append_nil]<;>rfl)|exact rfl)(t:(ss.drop i).take m=mid:=by first|(simp only[List.take_succ_cons,List.take_zero,List.take_nil,List.drop_succ_cons,List.drop_zero,List.drop_nil,List.cons_append,List.nil_append,List.append_nil]<;>rfl)|exact rfl)(u:ss.drop (i+m)=post:=by first|(simp only[List.take_succ_cons,List.take_zero,List.take_nil,List.drop_succ_cons,List.drop_zero,List.drop_nil,List.cons_append,List.nil_append,List.append_nil]<;>rfl)|exact rfl)(v:pre++c++post=res:=by first|(simp only[List.cons_append,List.nil_append,List.append_nil]<;>rfl)|exact rfl)
 {q r:Nat}(s1:Ji pre p:=by(repeat(first|exact Ji.nil|(apply Ji.val rfl)|(apply Ji.row;(first|assumption|exact Jd.row _|exact Jg _|exact Jk _|exact Jh (by first|assumption|exact List.length_replicate|exact Jd.h _)|exact Jf.row (by first|assumption|exact Jf.zero _|exact Jj))))))(s2:Ji mid q:=by(repeat(first|exact Ji.nil|(apply Ji.val rfl)|(apply Ji.row;(first|assumption|exact Jd.row _|exact Jg _|exact Jk _|exact Jh (by first|assumption|exact List.length_replicate|exact Jd.h _)|exact Jf.row (by first|assumption|exact Jf.zero _|exact Jj))))))(d:Ji c r:=by(repeat(first|exact Ji.nil|(apply Ji.val rfl)|(apply Ji.row;(first|assumption|exact Jd.row _|exact Jg _|exact Jk _|exact Jh (by first|assumption|exact List.length_replicate|exact Jd.h _)|exact Jf.row (by first|assumption|exact Jf.zero _|exact Jj))))))
 (z:p=off:=by first|rfl|omega)(hm:q=r:=by exact rfl)(A:(P.info? Az).map (·.size)=some r:=by kernel_rfl):DP P ⟨none,.store Az x y,ty,pos,AF,g⟩ a w Aa Ac:=by
 subst v
 have e:ss=pre++mid++post:=by rw[←s,←t,←u,←List.drop_drop,List.append_assoc,List.take_append_drop,List.take_append_drop]
 rw[e]at j
 exact Gs l n pre mid post c j o (s1.len.trans z) ((s2.len.trans hm).trans d.len.symm) (by rw[A,d.len]) d.one h
theorem Bi(i m:Nat){mid c:List (List Value)}(d:w.heap[b]? =some (.cells (flat ss) AU (0,0)))(e:Au f x=some (.pointer (some ⟨b,off,none⟩)))(g:Au f y=some (.agg (flat c)))
 (h:∀W,W.heap.size=w.heap.size→W.heap[b]? =some (.cells (flat res) AU (0,0))→w.grownBy W (some b)→BG P ops Ac U W f rest)
 (j:ss.take i=pre:=by first|(simp only[List.take_succ_cons,List.take_zero,List.take_nil,List.drop_succ_cons,List.drop_zero,List.drop_nil,List.cons_append,List.nil_append,List.append_nil]<;>rfl)|exact rfl)(k:(ss.drop i).take m=mid:=by first|(simp only[List.take_succ_cons,List.take_zero,List.take_nil,List.drop_succ_cons,List.drop_zero,List.drop_nil,List.cons_append,List.nil_append,List.append_nil]<;>rfl)|exact rfl)(l:ss.drop (i+m)=post:=by first|(simp only[List.take_succ_cons,List.take_zero,List.take_nil,List.drop_succ_cons,List.drop_zero,List.drop_nil,List.cons_append,List.nil_append,List.append_nil]<;>rfl)|exact rfl)(n:pre++c++post=res:=by first|(simp only[List.cons_append,List.nil_append,List.append_nil]<;>rfl)|exact rfl)
 {q r:Nat}(s1:Ji pre p:=by(repeat(first|exact Ji.nil|(apply Ji.val rfl)|(apply Ji.row;(first|assumption|exact Jd.row _|exact Jg _|exact Jk _|exact Jh (by first|assumption|exact List.length_replicate|exact Jd.h _)|exact Jf.row (by first|assumption|exact Jf.zero _|exact Jj))))))(s2:Ji mid q:=by(repeat(first|exact Ji.nil|(apply Ji.val rfl)|(apply Ji.row;(first|assumption|exact Jd.row _|exact Jg _|exact Jk _|exact Jh (by first|assumption|exact List.length_replicate|exact Jd.h _)|exact Jf.row (by first|assumption|exact Jf.zero _|exact Jj))))))(o:Ji c r:=by(repeat(first|exact Ji.nil|(apply Ji.val rfl)|(apply Ji.row;(first|assumption|exact Jd.row _|exact Jg _|exact Jk _|exact Jh (by first|assumption|exact List.length_replicate|exact Jd.h _)|exact Jf.row (by first|assumption|exact Jf.zero _|exact Jj))))))
 (s:p=off:=by first|rfl|omega)(hm:q=r:=by exact rfl)(t:(P.info? Az).map (·.size)=some r:=by kernel_rfl):BG P ops Ac U w f (⟨none,.store Az x y,ty,pos,AF,none⟩::rest):=
 fun a u=>Bj D (fun Aa v=>Iu u i m d e g (fun z W A B C E=>v _ _ (h W B C E z A)) j k l n s1 s2 o s hm t)
theorem DM(j:Ao U a f)(i:Nat){old:Value}(c:w.heap[b]? =some (.cells (flat ss) AU (0,0)))(k:Au f x=some (.pointer (some ⟨b,off,none⟩)))(l:Au f y=some v)
 (h:∀d W,Ao U d f→W.heap.size=w.heap.size→W.heap[b]? =some (.cells (flat res) AU (0,0))→w.grownBy W (some b)→Aa d W)
 (m:ss.take i=pre:=by first|(simp only[List.take_succ_cons,List.take_zero,List.take_nil,List.drop_succ_cons,List.drop_zero,List.drop_nil,List.cons_append,List.nil_append,List.append_nil]<;>rfl)|exact rfl)(n:(ss.drop i).take 1=[[old]]:=by first|(simp only[List.take_succ_cons,List.take_zero,List.take_nil,List.drop_succ_cons,List.drop_zero,List.drop_nil,List.cons_append,List.nil_append,List.append_nil]<;>rfl)|exact rfl)(o:ss.drop (i+1)=post:=by first|(simp only[List.take_succ_cons,List.take_zero,List.take_nil,List.drop_succ_cons,List.drop_zero,List.drop_nil,List.cons_append,List.nil_append,List.append_nil]<;>rfl)|exact rfl)(q:pre++[[v]]++post=res:=by first|(simp only[List.cons_append,List.nil_append,List.append_nil]<;>rfl)|exact rfl)
  (s1:pre.flatten.length=p:=by(repeat(first|exact Jb.nil|(apply Jb.one)|(apply Jb.row;(first|assumption|exact Jd.row _|exact Jg _|exact Jk _|exact Jh (by first|assumption|exact List.length_replicate|exact Jd.h _)|exact Jf.row (by first|assumption|exact Jf.zero _|exact Jj))))))(r:p=off:=by first|rfl|omega)(s:v.oneCell'=true:=by exact rfl)(t:(P.info? Az).map (·.size)=some 1:=by kernel_rfl):DP P ⟨none,.store Az x y,ty,pos,AF,g⟩ a w Aa Ac:=by
 subst q
 have e:ss=pre++[[old]]++post:=by rw[←m,←n,←o,←List.drop_drop,List.append_assoc,List.take_append_drop,List.take_append_drop]
 rw[e]at c
 exact V2 j k pre old post c l s (s1.trans r) t h
theorem C_(i:Nat){old:Value}(c:w.heap[b]? =some (.cells (flat ss) AU (0,0)))(d:Au f x=some (.pointer (some ⟨b,off,none⟩)))(e:Au f y=some v)
 (h:∀W,W.heap.size=w.heap.size→W.heap[b]? =some (.cells (flat res) AU (0,0))→w.grownBy W (some b)→BG P ops Ac U W f rest)
 (g:ss.take i=pre:=by first|(simp only[List.take_succ_cons,List.take_zero,List.take_nil,List.drop_succ_cons,List.drop_zero,List.drop_nil,List.cons_append,List.nil_append,List.append_nil]<;>rfl)|exact rfl)(j:(ss.drop i).take 1=[[old]]:=by first|(simp only[List.take_succ_cons,List.take_zero,List.take_nil,List.drop_succ_cons,List.drop_zero,List.drop_nil,List.cons_append,List.nil_append,List.append_nil]<;>rfl)|exact rfl)(k:ss.drop (i+1)=post:=by first|(simp only[List.take_succ_cons,List.take_zero,List.take_nil,List.drop_succ_cons,List.drop_zero,List.drop_nil,List.cons_append,List.nil_append,List.append_nil]<;>rfl)|exact rfl)(l:pre++[[v]]++post=res:=by first|(simp only[List.cons_append,List.nil_append,List.append_nil]<;>rfl)|exact rfl)
  (s1:pre.flatten.length=p:=by(repeat(first|exact Jb.nil|(apply Jb.one)|(apply Jb.row;(first|assumption|exact Jd.row _|exact Jg _|exact Jk _|exact Jh (by first|assumption|exact List.length_replicate|exact Jd.h _)|exact Jf.row (by first|assumption|exact Jf.zero _|exact Jj))))))(m:p=off:=by first|rfl|omega)(n:v.oneCell'=true:=by exact rfl)(o:(P.info? Az).map (·.size)=some 1:=by kernel_rfl):BG P ops Ac U w f (⟨none,.store Az x y,ty,pos,AF,none⟩::rest):=
 fun a q=>Bj D (fun Aa r=>DM q i c d e (fun s W t u z A=>r _ _ (h W u z A s t)) g j k l s1 m n o)
theorem Cf{o:Option Nat}(n:Nat)(s1:ss.flatten.length=p:=by(repeat(first|exact Jb.nil|(apply Jb.one)|(apply Jb.row;(first|assumption|exact Jd.row _|exact Jg _|exact Jk _|exact Jh (by first|assumption|exact List.length_replicate|exact Jd.h _)|exact Jf.row (by first|assumption|exact Jf.zero _|exact Jj))))))(a:p=n:=by exact rfl)(b:o=some n:=by kernel_rfl):o=some ss.flatten.length:=b.trans (congrArg some (s1.trans a).symm)
theorem BK(i:Ao U a f){t:TypeId}{bytes base m:Nat}{z y:Value}{ys zs:List Value}(j:CN P t e size bytes z){s:Operand}
 (l:w.ownsRow base e size v n xs)(o:View w y m size ys)(q:∀u∈ys,u.oneCell'=true)(r:base≤w.heap.size)(k:Nat)(A:xs++ys.take (m*size)=zs)
 (h:∀b p c W,Ao U b (Ja f d (.slice p k c))→W.ownsRow base e size (.slice p k c) k zs→C' w W v (.slice p k c)→Aa b W)
 (B:Au f s=some v:=by exact rfl)(C:Au f x=some y:=by exact rfl)(D:n+m≤maxLen:=by unfold maxLen;omega)(E:(n+m)*bytes≤140737488355328:=by omega)(F:n+m=k:=by first|exact rfl|omega)(Ab:Nat.blt d U=true:=by exact rfl):
 DP P ⟨some d,.call {callee:=.builtin .append,args:=#[s,x],argTypes:=#[t,t]},ty,pos,AF,g⟩ a w Aa Ac:=Wg i Ab j base B C l o q D E r F A h
end
theorem CG{k:Nat}{a b:World}(h:Below B a b)(g:b.grownBy c (some k))(d:B≤a.heap.size)(f:B≤k:=by omega):Below B a c:=h.grown g (Bs d h.size) (fun _ e=>by cases e;exact f)
theorem A1{k:Nat}{a b:World}(h:Below a.heap.size a b)(g:b.grownBy c (some k))(d:a.heap.size≤k:=by omega):Below a.heap.size a c:=h.grown g h.size (fun _ e=>by cases e;exact d)
theorem Cm{a b:World}{BL:Value}(h:Below a.heap.size a b)(d:C' b c v BL)(o:b.ownsRow a.heap.size e size v n xs):Below a.heap.size a c:=h.trans (d.below h.size (fun k f=>(o.lt k f).1))
theorem EI{a b:World}{BL:Value}(h:Below B a b)(d:C' b c v BL)(o:b.ownsRow B e size v n xs)(f:B≤a.heap.size):Below B a c:=h.trans (d.below (Bs f h.size) (fun k g=>(o.lt k g).1))
theorem BH{a b:World}(h:Below B a b)(k:Below b.heap.size b c)(d:B≤a.heap.size):Below B a c:=h.trans (k.mono (Bs d h.size))
theorem Ah{a b:World}(h:Below a.heap.size a b)(k:Below b.heap.size b c):Below a.heap.size a c:=h.trans (k.mono h.size)
theorem AP{w:World}{c:Nat}{o:Obj}(h:w.heap[b]? =some o)(e:w.heap.size=c):b<c:=e▸Ar h
theorem Bg{c:Nat}{a b:World}(h:Below B a b)(e:b.heap.size=c):a.heap.size≤c:=e▸h.size
theorem BM{w:World}(o:w.ownsRow B e size v n xs)(h:w.heap.size=b):Z v b:=fun k a=>by have:=(o.lt k a).2;omega
end Go.Proofs.YtcdaflcjhimimaaGreatDoor
namespace Go.Proofs.YtcdaflcjhimimaaGreatDoor.Fr
open Go.Proofs.YtcdaflcjhimimaaGreatDoor
set_option linter.unusedVariables false
def le:List UInt8→Nat
 |[]=>0
 |b::r=>b.toNat+256*le r
theorem Jv:∀l:List UInt8,le l<256^l.length
 |[]=>by simp[le]
 |b::r=>by
  have h:=Jv r
  have a:=b.toNat_lt
  simp only[le,List.length_cons,Nat.pow_succ]
  omega
theorem le_step(l:List UInt8)(n k:Nat)(hn:n≤l.length)(b:k<n):le ((l.take n).drop (n - (k+1)))=(l.getD (n - (k+1)) 0).toNat+256*le ((l.take n).drop (n - k)):=by
 have a:n - (k+1)<(l.take n).length:=by rw[List.length_take];omega
 rw[List.drop_eq_getElem_cons a,show n - (k+1)+1=n - k by omega]
 have:(l.take n)[n - (k+1)]=l.getD (n - (k+1)) 0:=by
  rw[List.getElem_take,List.getD_eq_getElem?_getD,List.getElem?_eq_getElem (by omega)]
  rfl
 rw[this]
 rfl
def Dq(l:List UInt8):Bool:=l.all (·==0)
structure Ch where
 w:Nat
 g:Nat
 m:Nat
 h:Nat
 p:Nat
deriving DecidableEq
def Ei(s:Ch):Bool:=decide (1≤s.w)&&decide (s.w≤32)&&decide (s.g≤1099511627776)&&decide (3≤s.p)&&decide (s.p≤4096)&&decide (2≤s.m)&&decide (s.m≤s.p)&&(decide (s.h=0)||(decide (2≤s.h)&&decide (s.h<s.m)))
def fields(l:List UInt8):Ch:=⟨(l.getD 4 0).toNat,le ((l.drop 8).take 7),le ((l.drop 16).take 4),le ((l.drop 20).take 4),le ((l.drop 24).take 4)⟩
def GV(l:List UInt8):Bool:=decide (l.take 4=[76,68,71,49])&&Dq ((l.drop 5).take 3)&&Dq ((l.drop 28).take 32)&&Dq ((l.drop 15).take 1)
def DX(l:List UInt8):Option Ch:=if Af.Cj (l.take 64) 60=0 then(if GV (l.take 64)=true then(if Ei (fields (l.take 64))=true then some (fields (l.take 64))else none)else none)else none
def E3(a b:Ch):Option Ch:=
 if a.g % 2≠0∨b.g % 2≠1 then none
 else if a.g<b.g then(if b={a with g:=a.g+1,m:=b.m,h:=b.h}∧a.m≤b.m then some b else none)
 else(if a={b with g:=b.g+1,m:=a.m,h:=a.h}∧b.m≤a.m then some a else none)
def J3(l:List UInt8):Bool:=decide (l.take 64=List.replicate 64 0)
def choose(l m:List UInt8):Except Nat Ch:=
 match DX l,DX m with
 |some a,some b=>(match E3 a b with|some s=>.ok s|none=>.error 4)
 |x,_=>if J3 m=false then .error 4 else if(match x with|some s=>decide (s.g=0)|none=>false)=true then .error 55 else if J3 l=true then .error 55 else .error 4
def Di(p:Nat)(l:List UInt8):Bool:=
 decide (2≤p)&&decide (p<4096)&&decide (Af.Cj l 252=0)&&(decide (1≤(l.getD 0 0).toNat)&&decide ((l.getD 0 0).toNat≤3))&&decide ((l.getD 1 0).toNat≤246)&&decide (le ((l.drop 2).take 4)=p)&&Dq ((l.drop (6+(l.getD 1 0).toNat)).take (252 - (6+(l.getD 1 0).toNat)))
end Go.Proofs.YtcdaflcjhimimaaGreatDoor.Fr
namespace Go.Proofs.YtcdaflcjhimimaaGreatDoor.Ref
open Go.Proofs.YtcdaflcjhimimaaGreatDoor
set_option linter.unusedVariables false
def bitsOf(b:UInt8)(j:Nat):List UInt8:=(List.range j).map fun j=>UInt8.ofNat (b.toNat/2^j&&&1)
def bits(l:List UInt8):List UInt8:=l.flatMap fun b=>bitsOf b 8
theorem Pp(b:UInt8)(j:Nat):(bitsOf b j).length=j:=by simp[bitsOf]
theorem SH(b:UInt8)(j:Nat):bitsOf b (j+1)=bitsOf b j++[UInt8.ofNat (b.toNat/2^j&&&1)]:=by
 simp[bitsOf,List.range_succ]
theorem Kk(l:List UInt8):(bits l).length=8*l.length:=by
 induction l with
 |nil=>rfl
 |cons b r a=>simp only[bits,List.flatMap_cons,List.length_append,Pp,List.length_cons]at*;omega
theorem Yo(l:List UInt8)(b:UInt8):bits (l++[b])=bits l++bitsOf b 8:=by simp[bits]
def Dc:Nat→Nat→List UInt8
 |_,0=>[]
 |v,n+1=>UInt8.ofNat (v % 256)::Dc (v/256) n
theorem Fc(n:Nat):∀v,(Dc v n).length=n:=by
 induction n with
 |zero=>intro v;rfl
 |succ n a=>intro v;simp[Dc,a]
theorem KG(n:Nat):∀v,Fr.le (Dc v n)=v % 256^n:=by
 induction n with
 |zero=>intro v;simp[Dc,Fr.le,Nat.mod_one]
 |succ n a=>
  intro v
  simp only[Dc,Fr.le,a]
  rw[Nat.pow_succ,Nat.mul_comm (256^n) 256,Nat.mod_mul]
  simp
def fill(l:List UInt8)(n:Nat):List UInt8:=l.take n++List.replicate (n - l.length) 0
theorem Kf(l:List UInt8)(n:Nat):(fill l n).length=n:=by simp[fill];omega
theorem Vk(l:List UInt8)(n k:Nat)(a:k<n):(fill l n).getD k 0=if k<l.length then l.getD k 0 else 0:=by
 unfold fill
 simp only[List.getD_eq_getElem?_getD]
 by_cases h:k<l.length
 ·rw[if_pos h,List.getElem?_append_left (by simp;omega),List.getElem?_take,if_pos a]
 ·rw[if_neg h,List.getElem?_append_right (by simp;omega),List.getElem?_replicate]
  split<;>rfl
theorem C2(l:List UInt8)(n k:Nat)(a:k<n):(fill l n).take (k+1)=(fill l n).take k++[if k<l.length then l.getD k 0 else 0]:=by
 rw[←Vk l n k a,List.take_succ_eq_append_getElem (by rw[Kf];exact a),List.getD_eq_getElem?_getD,List.getElem?_eq_getElem (by rw[Kf];exact a)]
 rfl
def HS(l:List UInt8):List UInt8:=l++Dc (Af.sum l) 4
theorem Ln(l:List UInt8):(HS l).length=l.length+4:=by simp[HS,Fc]
def Fe(kind FW:Nat)(a:List UInt8):List UInt8:=HS (fill ([UInt8.ofNat kind,UInt8.ofNat a.length]++Dc FW 4++a) 252)
theorem R7(kind FW:Nat)(a:List UInt8):(Fe kind FW a).length=256:=by simp[Fe,Ln,Kf]
def D0(s:Fr.Ch):List UInt8:=fill (HS (fill ([76,68,71,49,UInt8.ofNat s.w,0,0,0]++Dc s.g 8++Dc s.m 4++Dc s.h 4++Dc s.p 4) 60)) 256
theorem Yx(s:Fr.Ch):(D0 s).length=256:=by simp[D0,Kf]
end Go.Proofs.YtcdaflcjhimimaaGreatDoor.Ref
namespace Go.Proofs.YtcdaflcjhimimaaGreatDoor
open Go.RowKit
set_option maxHeartbeats 1000000
theorem K6(l:List UInt8)(k:Nat)(h:k<l.length:=by omega):l.take (k+1)=l.take k++[l.getD k 0]:=by
 rw[List.take_succ_eq_append_getElem h,List.getD_eq_getElem?_getD,List.getElem?_eq_getElem h]
 rfl
theorem J6(q s:Option Addr)(n f c c':Nat)(g h:List UInt8)(w:World)(Y:n+f≤1000000000)(x:View w (.slice q n c) n 1 (bv g))(Z:g.length=n)(y:View w (.slice s f c') f 1 (bv h))(aa:h.length=f):
 Calls Tryz.prog 49 #[F q n c,F s f c'] w fun e w'=>∃p k,e=.returned (.slice p (n+f) k)∧w'.ownsRow w.heap.size 5 1 (.slice p (n+f) k) (n+f) (bv (g++h))∧Below w.heap.size w w':=by
 refine Bx JI D 35 ?_
 refine K<|N<|O D<|M<|G<|K<|N<|O D<|M<|G<|K<|K<|N<|O (v:=(E 0)) D<|M<|G<|A2<|?_
 intro a d
 refine Cb (fun t a W=>∃k p j,t=n - k∧Ao 35 a (Ja (Ja (Ja (Ja Je 0 (F q n c)) 1 (F s f c')) 5 (F p k j)) 6 (E k))∧k≤n∧W.ownsRow w.heap.size 5 1 (.slice p k j) k (bv (g.take k))∧Below w.heap.size w W) _ ⟨0,none,0,D,At d,Nat.zero_le _,World.ownsRow_nil _ _ _ _,Bu _ _⟩ ?_
 rintro _ a ab ⟨k,p,j,rfl,d,B,own,b⟩
 revert a
 refine K<|K<|N<|I D<|I D<|BY Cr D<|B5 D D<|M<|G<|Bl D (fun C=>?_) fun C=>?_
 ·
  refine AE<|G<|K<|A2<|N<|I D<|I D<|I D<|?_
  obtain⟨ad,z,rfl⟩:=Ca (x.below b)
  have H:=De (x.below b) k (o:=z+k*1)
  refine AT (fun _ d=>Fz d A0 D (i:=((k:Nat):Int)) D k (o:=z+k*1))<|Cg BA H D<|?_
  intro u l
  refine Bj D (fun Aa m=>Gh l D A0 (v:=(Value.int .u8 ((((g.getD k 0).toNat:Nat):Int):Int))) D (cs:=#[Value.int .u8 ((((g.getD k 0).toNat:Nat):Int):Int)]) D D (Nat.le_of_ble_eq_true D) ?_)
  intro a ae d J L r
  have own:=V own r
  have b:=Ah b r
  refine m _ _ ?_;revert a
  intro u l
  refine Bj D (fun Aa m=>BK l A0 own L (by simp[Value.oneCell']) b.size (k+1) (zs:=bv (g.take k++[g.getD k 0])) (by simp[bv]) ?_)
  intro a af ag ah d P Q
  have b:=Cm b Q own
  refine m _ _ ?_;revert a
  refine O D<|M<|Bq<|G<|N<|I D<|A_ (q:=1) D D<|O D<|M<|G<|?_
  intro a d
  exact⟨_,by omega,k+1,_,_,D,At d,by omega,by rw[K6 g k];exact P,b⟩
 ·
  obtain rfl:n=k:=by omega
  refine BO<|AW<|AW<|BN<|G<|K<|K<|N<|O (v:=(E 0)) D<|M<|G<|A2<|?_
  intro a d
  refine Cb (fun t a W=>∃k p j,t=f - k∧Ao 35 a (Ja (Ja (Ja Je 1 (F s f c')) 5 (F p (n+k) j)) 7 (E k))∧k≤f∧W.ownsRow w.heap.size 5 1 (.slice p (n+k) j) (n+k) (bv (g++h.take k))∧Below w.heap.size w W) _ ⟨0,p,j,D,At d,Nat.zero_le _,by rw[List.take_of_length_le (by omega)]at own;simpa using own,b⟩ ?_
  rintro _ a ai ⟨k,p,j,rfl,d,B,own,b⟩
  revert a
  refine K<|K<|N<|I D<|I D<|BY Cr D<|B5 D D<|M<|G<|Bl D (fun R=>?_) fun R=>?_
  ·
   refine AE<|G<|K<|A2<|N<|I D<|I D<|I D<|?_
   obtain⟨aj,A,rfl⟩:=Ca (y.below b)
   have S:=De (y.below b) k (o:=A+k*1)
   refine AT (fun _ d=>Fz d A0 D (i:=((k:Nat):Int)) D k (o:=A+k*1))<|Cg BA S D<|?_
   intro u l
   refine Bj D (fun Aa m=>Gh l D A0 (v:=(Value.int .u8 ((((h.getD k 0).toNat:Nat):Int):Int))) D (cs:=#[Value.int .u8 ((((h.getD k 0).toNat:Nat):Int):Int)]) D D (Nat.le_of_ble_eq_true D) ?_)
   intro a ak d J T r
   have own:=V own r
   have b:=Ah b r
   refine m _ _ ?_;revert a
   intro u l
   refine Bj D (fun Aa m=>BK l A0 own T (by simp[Value.oneCell']) b.size ((n+k)+1) (zs:=bv (g++h.take k++[h.getD k 0])) (by simp[bv]) ?_)
   intro a al an ao d U X
   have b:=Cm b X own
   refine m _ _ ?_;revert a
   refine O D<|M<|Bq<|G<|N<|I D<|A_ (q:=1) D D<|O D<|M<|G<|?_
   intro a d
   exact⟨_,by omega,k+1,_,_,D,At d,by omega,by rw[K6 h k,←List.append_assoc];exact U,b⟩
  ·
   obtain rfl:f=k:=by omega
   refine BO<|AW<|AW<|BN<|G<|K<|N<|I D<|O D<|M<|G<|AA<|AZ D<|?_
   exact⟨_,_,D,by rw[List.take_of_length_le (by omega)]at own;exact own,b⟩
theorem KH(v n:Nat)(w:World)(y:v≤9223372036854775807:=by omega)(hn:n≤1000:=by omega):
 Calls Tryz.prog 50 #[E v,E n] w fun e w'=>∃p k,e=.returned (.slice p n k)∧w'.ownsRow w.heap.size 5 1 (.slice p n k) n (bv (Ref.Dc v n))∧Below w.heap.size w w':=by
 refine Bx KA D 21 ?_
 refine K<|N<|O D<|M<|G<|K<|N<|O D<|M<|G<|K<|K<|N<|O (v:=(E 0)) D<|M<|G<|A2<|?_
 intro a b
 refine Cb (fun j a W=>∃k x l p d,j=n - k∧Ao 21 a (Ja (Ja (Ja (Ja Je 0 (E x)) 1 (E n)) 5 (F p k d)) 6 (E k))∧k≤n∧x≤v∧Hid (Ref.Dc v n=l++Ref.Dc x (n - k))∧W.ownsRow w.heap.size 5 1 (.slice p k d) k (bv l)∧Below w.heap.size w W) _ ⟨0,v,[],none,0,D,At b,Nat.zero_le _,Be _,Aw (by simp),World.ownsRow_nil _ _ _ _,Bu _ _⟩ ?_
 rintro _ a z ⟨k,x,l,p,d,rfl,b,A,m,h,own,c⟩
 revert a
 refine K<|K<|N<|I D<|I D<|B5 D D<|M<|G<|Bl D (fun o=>?_) fun o=>?_
 ·
  refine AE<|G<|K<|A2<|K<|N<|I D<|I D<|EM (q:=256) D D<|AT (fun _ b=>C3 b (p:=((x % 256:Nat):Int)) (r:=(((UInt8.ofNat (x % 256)).toNat:Nat):Int)) D AH BA (Fw (x % 256)))<|?_
  intro s f
  refine Bj D (fun Aa g=>Gh f D A0 (v:=(Value.int .u8 ((((UInt8.ofNat (x % 256)).toNat:Nat):Int):Int))) D (cs:=#[Value.int .u8 ((((UInt8.ofNat (x % 256)).toNat:Nat):Int):Int)]) D D (Nat.le_of_ble_eq_true D) ?_)
  intro a B b C v4 i
  have own:=V own i
  have c:=Ah c i
  refine g _ _ ?_;revert a
  intro s f
  refine Bj D (fun Aa g=>BK f A0 own v4 (by simp[Value.oneCell']) c.size (k+1) (zs:=bv (l++[UInt8.ofNat (x % 256)])) (by simp[bv]) ?_)
  intro a H J L b t u
  have c:=Cm c u own
  refine g _ _ ?_;revert a
  refine O D<|M<|G<|N<|I D<|FK (q:=256) D D<|O D<|M<|Bq<|G<|N<|I D<|A_ (q:=1) D D<|O D<|M<|G<|?_
  intro a b
  exact⟨_,by omega,k+1,_,_,_,_,D,At b,by omega,Bs (Nat.div_le_self _ _) m,Aw (by rw[h.out,show n - k=(n - (k+1))+1 by omega];simp[Ref.Dc]),t,c⟩
 ·
  obtain rfl:n=k:=by omega
  refine BO<|AW<|AW<|BN<|G<|K<|N<|I D<|O D<|M<|G<|AA<|AZ D<|?_
  exact⟨_,_,D,by rw[h.out,Nat.sub_self];simpa[Ref.Dc]using own,c⟩
theorem LI(q:Option Addr)(m c n:Nat)(l:List UInt8)(w:World)(hn:n≤1000000000)(hm:m≤1000000000)(s:View w (.slice q m c) m 1 (bv l))(Q:l.length=m):
 Calls Tryz.prog 51 #[F q m c,E n] w fun e w'=>∃p k,e=.returned (.slice p n k)∧w'.ownsRow w.heap.size 5 1 (.slice p n k) n (bv (Ref.fill l n))∧Below w.heap.size w w':=by
 refine Bx Lm D 27 ?_
 refine K<|N<|O D<|M<|G<|K<|N<|O D<|M<|G<|K<|K<|N<|O (v:=(E 0)) D<|M<|G<|A2<|?_
 intro a d
 refine Cb (fun y a W=>∃k p j,y=n - k∧Ao 27 a (Ja (Ja (Ja (Ja Je 0 (F q m c)) 1 (E n)) 5 (F p k j)) 6 (E k))∧k≤n∧W.ownsRow w.heap.size 5 1 (.slice p k j) k (bv ((Ref.fill l n).take k))∧Below w.heap.size w W) _ ⟨0,none,0,D,At d,Nat.zero_le _,World.ownsRow_nil _ _ _ _,Bu _ _⟩ ?_
 rintro _ a R ⟨k,p,j,rfl,d,S,own,b⟩
 revert a
 refine K<|K<|N<|I D<|I D<|B5 D D<|M<|G<|Bl D (fun z=>?_) fun z=>?_
 ·
  refine AE<|G<|K<|A2<|K<|N<|I D<|I D<|BY Cr D<|B5 D D<|M<|G<|Bl D (fun A=>?_) fun A=>?_
  ·
   refine N<|I D<|I D<|I D<|?_
   obtain⟨T,t,rfl⟩:=Ca (s.below b)
   have B:=De (s.below b) k (o:=t+k*1)
   refine AT (fun _ d=>Fz d A0 D (i:=((k:Nat):Int)) D k (o:=t+k*1))<|Cg BA B D<|?_
   intro r f
   refine Bj D (fun Aa g=>Gh f D A0 (v:=(Value.int .u8 ((((l.getD k 0).toNat:Nat):Int):Int))) D (cs:=#[Value.int .u8 ((((l.getD k 0).toNat:Nat):Int):Int)]) D D (Nat.le_of_ble_eq_true D) ?_)
   intro a U d C H h
   have own:=V own h
   have b:=Ah b h
   refine g _ _ ?_;revert a
   intro r f
   refine Bj D (fun Aa g=>BK f A0 own H (by simp[Value.oneCell']) b.size (k+1) (zs:=bv ((Ref.fill l n).take k++[l.getD k 0])) (by simp[bv]) ?_)
   intro a X Y Z d u J
   have b:=Cm b J own
   refine g _ _ ?_;revert a
   refine O D<|M<|Bq<|G<|N<|I D<|A_ (q:=1) D D<|O D<|M<|G<|?_
   intro a d
   exact⟨_,by omega,k+1,_,_,D,At d,by omega,by rw[Ref.C2 l n k (by omega)];first|(rw[if_pos (by omega)];exact u)|(rw[if_neg (by omega)];exact u),b⟩
  ·
   refine N<|I D<|?_
   intro r f
   refine Bj D (fun Aa g=>Gh f D A0 (v:=(Value.int .u8 (((0:Nat):Int):Int))) D (cs:=#[Value.int .u8 (((0:Nat):Int):Int)]) D D (Nat.le_of_ble_eq_true D) ?_)
   intro a aa d C L h
   have own:=V own h
   have b:=Ah b h
   refine g _ _ ?_;revert a
   intro r f
   refine Bj D (fun Aa g=>BK f A0 own L (by simp[Value.oneCell']) b.size (k+1) (zs:=bv ((Ref.fill l n).take k++[0])) (by simp[bv]) ?_)
   intro a ab ad ae d x P
   have b:=Cm b P own
   refine g _ _ ?_;revert a
   refine O D<|M<|Bq<|G<|N<|I D<|A_ (q:=1) D D<|O D<|M<|G<|?_
   intro a d
   exact⟨_,by omega,k+1,_,_,D,At d,by omega,by rw[Ref.C2 l n k (by omega)];first|(rw[if_pos (by omega)];exact x)|(rw[if_neg (by omega)];exact x),b⟩
 ·
  obtain rfl:n=k:=by omega
  refine BO<|AW<|AW<|BN<|G<|K<|N<|I D<|O D<|M<|G<|AA<|AZ D<|?_
  exact⟨_,_,D,by rw[List.take_of_length_le (by rw[Ref.Kf];omega)]at own;exact own,b⟩
theorem Xl(q:Option Addr)(n c:Nat)(l:List UInt8)(w:World)(hn:n≤1000000000)(x:View w (.slice q n c) n 1 (bv l))(T:l.length=n):
 Calls Tryz.prog 133 #[F q n c] w fun e w'=>∃p k,e=.returned (.slice p (8*n) k)∧w'.ownsRow w.heap.size 5 1 (.slice p (8*n) k) (8*n) (bv (Ref.bits l))∧Below w.heap.size w w':=by
 refine Bx OU D 28 ?_
 refine K<|N<|O D<|M<|G<|K<|N<|O D<|M<|G<|K<|K<|N<|O (v:=(E 0)) D<|M<|G<|A2<|?_
 intro a b
 refine Cb (fun s a W=>∃k p f,s=n - k∧Ao 28 a (Ja (Ja (Ja Je 0 (F q n c)) 3 (F p (8*k) f)) 4 (E k))∧k≤n∧W.ownsRow w.heap.size 5 1 (.slice p (8*k) f) (8*k) (bv (Ref.bits (l.take k)))∧Below w.heap.size w W) _ ⟨0,none,0,D,At b,Nat.zero_le _,World.ownsRow_nil _ _ _ _,Bu _ _⟩ ?_
 rintro _ a U ⟨k,p,f,rfl,b,X,own,d⟩
 revert a
 refine K<|K<|N<|I D<|I D<|BY Cr D<|B5 D D<|M<|G<|Bl D (fun C=>?_) fun C=>?_
 ·
  refine AE<|G<|K<|A2<|K<|N<|O (v:=(E 0)) D<|M<|G<|A2<|?_
  intro a b
  refine Cb (fun s a W=>∃j p f,s=8 - j∧Ao 28 a (Ja (Ja (Ja (Ja Je 0 (F q n c)) 3 (F p (8*k+j) f)) 4 (E k)) 5 (E j))∧j≤8∧W.ownsRow w.heap.size 5 1 (.slice p (8*k+j) f) (8*k+j) (bv (Ref.bits (l.take k)++Ref.bitsOf (l.getD k 0) j))∧Below w.heap.size w W) _ ⟨0,_,_,D,At b,Nat.zero_le _,by simpa[Ref.bitsOf]using own,d⟩ ?_
  rintro _ a Y ⟨j,p,f,rfl,b,Z,own,d⟩
  revert a
  refine K<|K<|N<|I D<|B5 (q:=(8:Nat)) D D<|M<|G<|Bl D (fun H=>?_) fun H=>?_
  ·
   refine AE<|G<|K<|A2<|N<|I D<|I D<|I D<|?_
   obtain⟨aa,y,rfl⟩:=Ca (x.below d)
   have J:=De (x.below d) k (o:=y+k*1)
   refine AT (fun _ b=>Fz b A0 D (i:=((k:Nat):Int)) D k (o:=y+k*1))<|Cg BA J D<|I D<|AT (fun _ b=>C3 b (p:=((j:Nat):Int)) (r:=((j:Nat):Int)) D AH Iz (HY j))<|?_
   obtain⟨m,z⟩:∃g:Nat,g=((l.getD k 0).toNat)/2^j:=⟨_,D⟩
   have L:m<256:=by rw[z];exact Nat.lt_of_le_of_lt (Nat.div_le_self _ _) (UInt8.toNat_lt _)
   refine AT (fun _ b=>HQ b (k:=.u8) (p:=(l.getD k 0).toNat) (n:=j) (r:=m) D D (by simp only[IntKind.bits];omega) z.symm)<|?_
   obtain⟨h,A⟩:∃g:Nat,g=m&&&1:=⟨_,D⟩
   have P:h<256:=by rw[A];exact Nat.lt_of_le_of_lt Nat.and_le_right (by decide)
   refine AT (fun _ b=>Eh b (k:=.u8) (p:=((m:Nat):Int)) (q:=((1:Nat):Int)) (r:=((h:Nat):Int)) (.inl D) D D (by rw[A];exact u8_and_nat _ _ L (by decide)))<|?_
   intro Q t
   refine Bj D (fun Aa u=>Gh t D A0 (v:=(Value.int .u8 (((h:Nat):Int):Int))) D (cs:=#[Value.int .u8 (((h:Nat):Int):Int)]) D D (Nat.le_of_ble_eq_true D) ?_)
   intro a ab b ad v11 B
   have own:=V own B
   have d:=Ah d B
   refine u _ _ ?_;revert a
   intro Q t
   refine Bj D (fun Aa u=>BK t A0 own v11 (by simp[Value.oneCell']) d.size ((8*k+j)+1) (zs:=bv (Ref.bits (l.take k)++Ref.bitsOf (l.getD k 0) j++[UInt8.ofNat h])) (by rw[Le _ P];simp[bv]) ?_)
   intro a ae af ag b R S
   have d:=Cm d S own
   refine u _ _ ?_;revert a
   refine O D<|M<|Bq<|G<|N<|I D<|A_ (q:=1) D D<|O D<|M<|G<|?_
   intro a b
   exact⟨_,by omega,j+1,_,_,D,At b,by omega,by rw[Ref.SH,←List.append_assoc];show World.ownsRow _ _ _ _ (.slice _ (8*k+j+1) _) (8*k+j+1) _;simp only[Nat.and_one_is_mod]at*;simpa[*]using R,d⟩
  ·
   obtain rfl:j=8:=by omega
   refine BO<|AW<|AW<|BN<|Bq<|G<|N<|I D<|A_ (q:=1) D D<|O D<|M<|G<|?_
   intro a b
   exact⟨_,by omega,k+1,_,_,D,At b,by omega,by rw[K6 l k,Ref.Yo];exact own,d⟩
 ·
  obtain rfl:n=k:=by omega
  refine BO<|AW<|AW<|BN<|G<|K<|N<|I D<|O D<|M<|G<|AA<|AZ D<|?_
  exact⟨_,_,D,by rw[List.take_of_length_le (by omega)]at own;exact own,d⟩
end Go.Proofs.YtcdaflcjhimimaaGreatDoor
namespace Go.Proofs.YtcdaflcjhimimaaGreatDoor.Ref
open Go.Proofs.YtcdaflcjhimimaaGreatDoor
set_option linter.unusedVariables false
def Gu:List UInt8:=[1,0,0,0,0,0,1,0,0,1,1,0,0,0,0,0,1,0,0,0,1,1,1,0,1,1,0,1,1,0,1,1,1]
def E6(r:Nat)(l:List UInt8):Nat:=l.foldl (fun r b=>Af.step (r^^^b.toNat)) r
theorem Tt(r:Nat)(l:List UInt8)(b:UInt8):E6 r (l++[b])=Af.step (E6 r l^^^b.toNat):=by simp[E6]
theorem T3(r:Nat)(l m:List UInt8):E6 r (l++m)=E6 (E6 r l) m:=by simp[E6]
theorem Y6(m:List UInt8):∀r s,E6 (r^^^s) m=E6 r m^^^Af.steps m.length s:=by
 induction m with
 |nil=>intro r s;rfl
 |cons b m a=>
  intro r s
  show E6 (Af.step (r^^^s^^^b.toNat)) m=E6 (Af.step (r^^^b.toNat)) m^^^Af.steps m.length (Af.step s)
  rw[Af.HZ,Af.Pe,a]
theorem WD(b:UInt8):E6 0 (bitsOf b 8)=Af.steps 8 b.toNat:=by
 have:∀n:Nat,n<256→E6 0 (bitsOf (UInt8.ofNat n) 8)=Af.steps 8 n:=by decide+kernel
 have h:=this b.toNat b.toNat_lt
 rwa[show UInt8.ofNat b.toNat=b from UInt8.ofNat_toNat]at h
theorem Ua(l:List UInt8):∀r,E6 r (bits l)=Af.feed r l:=by
 induction l with
 |nil=>intro r;rfl
 |cons b l a=>
  intro r
  have:bits (b::l)=bitsOf b 8++bits l:=by simp[bits]
  rw[this,T3,a,Af.Hn]
  congr 1
  have h:=Y6 (bitsOf b 8) 0 r
  rw[Nat.zero_xor,WD,Pp]at h
  rw[h,Af.Jr,Nat.xor_comm]
theorem Pq(l:List UInt8):∀ {r:Nat},r<4294967296→E6 r l<4294967296:=by
 induction l with
 |nil=>intro r h;exact h
 |cons b l a=>intro r h;exact a (Af.OD (Nat.xor_lt_two_pow (n:=32) h (Af.Jm b)))
structure H8 (s:Nat) (d:List UInt8) (L:List UInt8) (i:Nat):Prop where
 len:L.length=d.length+32
 val:∀m,(L.getD (i+m) 0).toNat=(E6 s (d.take i)/2^m % 2)^^^(d.getD (i+m) 0).toNat
theorem YH(m:Nat)(h:m<32):(Gu.getD (m+1) 0).toNat=Af.I'/2^m % 2:=by
 have:∀m:Nat,m<32→(Gu.getD (m+1) 0).toNat=Af.I'/2^m % 2:=by decide+kernel
 exact this m h
theorem Q1(a m:Nat):(a/2)/2^m=a/2^(m+1):=by rw[Nat.div_div_eq_div_mul,Nat.pow_succ,Nat.mul_comm]
theorem SJ(a b m:Nat):(a^^^b)/2^m % 2=(a/2^m % 2)^^^(b/2^m % 2):=by
 rw[Nat.xor_div_two_pow]
 have h:=Nat.xor_mod_two_pow (a:=a/2^m) (b:=b/2^m) (n:=1)
 rwa[Nat.pow_one]at h
theorem L4{a m:Nat}(b:a<4294967296)(hm:32≤m):a/2^m % 2=0:=by
 have:2^32≤2^m:=Nat.pow_le_pow_right (by decide) hm
 rw[Nat.div_eq_of_lt (by omega)]
theorem H8.next{s:Nat}{d L e:List UInt8}{i:Nat}(h:H8 s d L i)(v:s<4294967296)(Ab:∀p,(d.getD p 0).toNat<2)(l:i<d.length)(hlen:e.length=L.length)
 (w:∀p,e.getD p 0=if(L.getD i 0).toNat=1∧i≤p∧p<i+33 then L.getD p 0^^^Gu.getD (p - i) 0 else L.getD p 0):H8 s d e (i+1):=by
 refine⟨by rw[hlen,h.len],fun m=>?_⟩
 have C:E6 s (d.take i)<4294967296:=Pq _ v
 have z:d.take (i+1)=d.take i++[d.getD i 0]:=by
  rw[List.take_succ_eq_append_getElem l,List.getD_eq_getElem?_getD,List.getElem?_eq_getElem l];rfl
 rw[z,Tt]
 have c:=h.val 0
 simp only[Nat.add_zero,Nat.pow_zero,Nat.div_one]at c
 have f:=h.val (m+1)
 have g:=Ab i
 generalize D:E6 s (d.take i)=r at*
 generalize E:(d.getD i 0).toNat=b at*
 have o:(r^^^b) % 2=r % 2^^^b:=by
  have t:=Nat.xor_mod_two_pow (a:=r) (b:=b) (n:=1)
  rw[Nat.pow_one]at t
  rw[t,Nat.mod_eq_of_lt g]
 have u:(r^^^b)/2=r/2:=by rw[Af.OY,Nat.div_eq_of_lt g,Nat.xor_zero]
 rw[w,show i+1+m=i+(m+1)by omega]
 by_cases j:(L.getD i 0).toNat=1
 ·have k:Af.step (r^^^b)=r/2^^^Af.I':=by
   unfold Af.step
   rw[if_pos (by rw[o,←c,j]),u]
  rw[k,SJ,Q1]
  by_cases hm:m<32
  ·rw[if_pos ⟨j,by omega,by omega⟩,UInt8.toNat_xor,f,show i+(m+1) - i=m+1 by omega,YH m hm]
   rw[Af.HZ]
  ·rw[if_neg (by omega),f,L4 (a:=Af.I') (by decide) (by omega),Nat.xor_zero]
 ·have A:(L.getD i 0).toNat=0:=by
   have B:r % 2<2:=Nat.mod_lt _ (by decide)
   have:=Nat.xor_lt_two_pow (n:=1) (x:=r % 2) (y:=b) (by simpa using B) (by simpa using g)
   rw[←c]at this
   simp only[Nat.pow_one]at this
   omega
  have k:Af.step (r^^^b)=r/2:=by
   unfold Af.step
   rw[if_neg (by rw[o,←c,A];decide),u]
  rw[k,Q1,if_neg (fun q=>j q.1),f]
theorem H8.end_{s:Nat}{d L:List UInt8}(h:H8 s d L d.length)(m:Nat):(L.getD (d.length+m) 0).toNat=E6 s d/2^m % 2:=by
 rw[h.val,List.take_length,List.getD_eq_getElem?_getD,List.getElem?_eq_none (by omega)]
 exact Nat.xor_zero _
theorem Rd(l:List UInt8)(p:Nat):((bits l).getD p 0).toNat<2:=by
 have:∀x∈bits l,x.toNat<2:=by
  intro x a
  simp only[bits,bitsOf,List.mem_flatMap,List.mem_map]at a
  obtain⟨b,_,j,_,rfl⟩:=a
  have c:b.toNat/2^j&&&1≤1:=Nat.and_le_right
  simp
  omega
 rw[List.getD_eq_getElem?_getD]
 rcases Nat.lt_or_ge p (bits l).length with h|h
 ·rw[List.getElem?_eq_getElem h]
  exact this _ (List.getElem_mem h)
 ·rw[List.getElem?_eq_none h];decide
end Go.Proofs.YtcdaflcjhimimaaGreatDoor.Ref
namespace Go.Proofs.YtcdaflcjhimimaaGreatDoor
open Go.RowKit
set_option maxHeartbeats 1000000
def K4:List Nat:=[1779033703,3144134277,1013904242,2773480762,1359893119,2600822924,528734635,1541459225]
def IB:List Nat:=[1116352408,1899447441,3049323471,3921009573,961987163,1508970993,2453635748,2870763221,3624381080,310598401,607225278,1426881987,1925078388,2162078206,2614888103,3248222580,3835390401,4022224774,264347078,604807628,770255983,1249150122,1555081692,1996064986,2554220882,2821834349,2952996808,3210313671,3336571891,3584528711,113926993,338241895,666307205,773529912,1294757372,1396182291,1695183700,1986661051,2177026350,2456956037,2730485921,2820302411,3259730800,3345764771,3516065817,3600352804,4094571909,275423344,430227734,506948616,659060556,883997877,958139571,1322822218,1537002063,1747873779,1955562222,2024104815,2227730452,2361852424,2428436474,2756734187,3204031479,3329325298]
structure CT (w:World):Prop where
 first:Cells w 0 0 (G5 K4).toList
 aQ:0<w.heap.size
 consts:Cells w 2 0 (G5 IB).toList
 aT:2<w.heap.size
 div:Cells w 1 0 (bv Ref.Gu)
 aR:1<w.heap.size
theorem CT.below{w w':World}{B:Nat}(h:CT w)(a:Below B w w')(b:w.heap.size≤B):CT w':=
 ⟨h.first.below (Nat.lt_of_lt_of_le h.aQ b) a,Nat.lt_of_lt_of_le h.aQ a.size,h.consts.below (Nat.lt_of_lt_of_le h.aT b) a,Nat.lt_of_lt_of_le h.aT a.size,h.div.below (Nat.lt_of_lt_of_le h.aR b) a,Nat.lt_of_lt_of_le h.aR a.size⟩
theorem CT.Xz{w:World}(h:CT w)(j:Nat)(a:j<33){o:Nat}(b:0+j*1=o):w.cell? ⟨1,o,none⟩=some (.int .u8 ((Ref.Gu.getD j 0).toNat:Nat)):=by
 subst b
 have:=h.div j (.int .u8 ((Ref.Gu.getD j 0).toNat:Nat)) (by
  have c:j<Ref.Gu.length:=a
  simp[bv,c,List.getD_eq_getElem?_getD])
 simpa using this
theorem Xg{Ck:Type}{c c':Prop}[Decidable c][Decidable c']{x y:Ck}(h:c↔c'):(if c then x else y)=if c' then x else y:=by
 by_cases q:c
 ·rw[if_pos q,if_pos (h.1 q)]
 ·rw[if_neg q,if_neg (fun r=>q (h.2 r))]
theorem u8_xor(a b:UInt8):UInt8.ofNat (a.toNat^^^b.toNat)=a^^^b:=by rw[←UInt8.toNat_xor,UInt8.ofNat_toNat]
theorem P7(l:List UInt8)(j p:Nat)(u:UInt8)(a:j<l.length):(l.set j u).getD p 0=if p=j then u else l.getD p 0:=by
 simp only[List.getD_eq_getElem?_getD,List.getElem?_set]
 by_cases h:j=p
 ·subst h;simp[a]
 ·rw[if_neg h,if_neg (fun q=>h q.symm)]
theorem V7(l:List UInt8)(s i:Nat)(L:List UInt8)(n:Nat)(hn:l.length=n)(b:i<32)(h:L.length=8*n+32∧∀p,L.getD p 0=if p<i then(Ref.bits l).getD p 0^^^UInt8.ofNat (s/2^p&&&1)else(Ref.bits l++List.replicate 32 0).getD p 0):
 (L.set i (UInt8.ofNat ((L.getD i 0).toNat^^^(UInt8.ofNat (s/2^i&&&1)).toNat))).length=8*n+32∧∀p,(L.set i (UInt8.ofNat ((L.getD i 0).toNat^^^(UInt8.ofNat (s/2^i&&&1)).toNat))).getD p 0=if p<i+1 then(Ref.bits l).getD p 0^^^UInt8.ofNat (s/2^p&&&1)else(Ref.bits l++List.replicate 32 0).getD p 0:=by
 have a:∀p,(Ref.bits l++List.replicate 32 0).getD p 0=(Ref.bits l).getD p 0:=by
  intro p
  simp only[List.getD_eq_getElem?_getD]
  rcases Nat.lt_or_ge p (Ref.bits l).length with q|q
  ·rw[List.getElem?_append_left q]
  ·rw[List.getElem?_append_right q,List.getElem?_eq_none q,List.getElem?_replicate]
   split<;>rfl
 refine⟨by rw[List.length_set];exact h.1,fun p=>?_⟩
 rw[P7 _ _ _ _ (by omega),u8_xor]
 by_cases e:p=i
 ·subst e
  rw[if_pos D,if_pos (by omega),h.2,if_neg (by omega),a]
 ·rw[if_neg e,h.2]
  by_cases q:p<i
  ·rw[if_pos q,if_pos (by omega)]
  ·rw[if_neg q,if_neg (by omega)]
theorem Wi(l:List UInt8)(s:Nat)(L:List UInt8)(n:Nat)(hn:l.length=n)(h:L.length=8*n+32∧∀p,L.getD p 0=if p<32 then(Ref.bits l).getD p 0^^^UInt8.ofNat (s/2^p&&&1)else(Ref.bits l++List.replicate 32 0).getD p 0)(a:s<4294967296):Ref.H8 s (Ref.bits l) L 0:=by
 refine⟨by rw[h.1,Ref.Kk,hn],fun m=>?_⟩
 have b:∀p,(Ref.bits l++List.replicate 32 0).getD p 0=(Ref.bits l).getD p 0:=by
  intro p
  simp only[List.getD_eq_getElem?_getD]
  rcases Nat.lt_or_ge p (Ref.bits l).length with q|q
  ·rw[List.getElem?_append_left q]
  ·rw[List.getElem?_append_right q,List.getElem?_eq_none q,List.getElem?_replicate]
   split<;>rfl
 rw[Nat.zero_add,h.2]
 show _=s/2^m % 2^^^_
 by_cases q:m<32
 ·rw[if_pos q,UInt8.toNat_xor,Nat.xor_comm,Nat.and_one_is_mod]
  congr 1
  simp
  omega
 ·rw[if_neg q,b,Ref.L4 a (by omega),Nat.zero_xor]
theorem TG(L a:List UInt8)(i j n:Nat)(b:L.length=8*n+32)(c:i<8*n)(d:j<33)(h:a.length=L.length∧∀p,a.getD p 0=if i≤p∧p<i+j then L.getD p 0^^^Ref.Gu.getD (p - i) 0 else L.getD p 0):
 (a.set (i+j) (UInt8.ofNat ((a.getD (i+j) 0).toNat^^^(Ref.Gu.getD j 0).toNat))).length=L.length∧∀p,(a.set (i+j) (UInt8.ofNat ((a.getD (i+j) 0).toNat^^^(Ref.Gu.getD j 0).toNat))).getD p 0=if i≤p∧p<i+(j+1)then L.getD p 0^^^Ref.Gu.getD (p - i) 0 else L.getD p 0:=by
 refine⟨by rw[List.length_set];exact h.1,fun p=>?_⟩
 rw[P7 _ _ _ _ (by omega),u8_xor]
 by_cases e:p=i+j
 ·subst e
  rw[if_pos D,if_pos (by omega),h.2,if_neg (by omega),show i+j - i=j by omega]
 ·rw[if_neg e,h.2]
  by_cases q:i≤p∧p<i+j
  ·rw[if_pos q,if_pos (by omega)]
  ·rw[if_neg q,if_neg (by omega)]
theorem Wz(a i:Nat):a % 2^i|||(a/2^i % 2)*2^i=a % 2^(i+1):=by
 rw[Af.IS _ _ i (Nat.mod_lt _ (Nat.two_pow_pos i)),Nat.pow_succ,Nat.mod_mul]
 rw[Nat.mul_comm]
theorem VU(l:List UInt8)(s:Nat)(L:List UInt8)(n i r:Nat)(hn:l.length=n)(d:i<32)(h:Ref.H8 s (Ref.bits l) L (8*n))(a:r=Ref.E6 s (Ref.bits l) % 2^i):
 r|||((L.getD (8*n+i) 0).toNat*2^i) % 4294967296=Ref.E6 s (Ref.bits l) % 2^(i+1):=by
 have b:8*n=(Ref.bits l).length:=by rw[Ref.Kk,hn]
 rw[b]at h⊢
 rw[h.end_,←Wz,←a]
 congr 1
 refine Nat.mod_eq_of_lt ?_
 have e:Ref.E6 s (Ref.bits l)/2^i % 2<2:=Nat.mod_lt _ (by decide)
 have c:2^i≤2^31:=Nat.pow_le_pow_right (by decide) (by omega)
 have f:Ref.E6 s (Ref.bits l)/2^i % 2*2^i≤1*2^31:=Nat.mul_le_mul (by omega) c
 omega
theorem W5(s:Nat)(q:Option Addr)(n c:Nat)(l:List UInt8)(w:World)(ai:CT w)(A:s<4294967296)(hn:n≤100000000)(aj:View w (.slice q n c) n 1 (bv l))(Y:l.length=n):
 Calls Tryz.prog 114 #[Value.int .u32 (((s:Nat):Int):Int),F q n c] w fun e w'=>e=.returned (.int .u32 ((Af.feed s l:Nat):Int))∧Below w.heap.size w w':=by
 have B:l.length=n:=Y
 have d:Below w.heap.size w w:=Bu _ _
 refine Bx Qc D 88 ?_
 refine K<|N<|O (v:=(Value.int .u32 (((0:Nat):Int):Int))) D<|M<|G<|K<|N<|I D<|?_
 intro C h
 refine Bj D (fun Aa m=>B0 h #[F q n c] OU (Xl _ _ _ _ _ (by omega) aj Y) ?_)
 rintro _ aR ⟨aS,aT,rfl,own,ak⟩
 refine⟨_,D,?_⟩
 intro a b
 have al:w.heap.size≤w.heap.size:=d.size
 have d:=Ah d ak
 have own:=CB own al
 refine m _ _ ?_;revert a
 refine O D<|M<|G<|K<|N<|I D<|BY Cr D<|O D<|M<|G<|K<|K<|N<|O (v:=(E 0)) D<|M<|G<|A2<|?_
 intro a b
 refine Cb (fun t a W=>∃i p f,t=32 - i∧Ao 88 a (Ja (Ja (Ja (Ja Je 0 (Value.int .u32 (((s:Nat):Int):Int))) 5 (F p (8*n+i) f)) 6 (E (8*n))) 7 (E i))∧i≤32∧W.ownsRow w.heap.size 5 1 (.slice p (8*n+i) f) (8*n+i) (bv (Ref.bits l++List.replicate i 0))∧Below w.heap.size w W) _ ⟨0,_,_,D,At b,Nat.zero_le _,by simpa using own,d⟩ ?_
 rintro _ a aU ⟨i,p,f,rfl,b,R,own,d⟩
 revert a
 refine K<|K<|N<|I D<|B5 (q:=(32:Nat)) D D<|M<|G<|Bl D (fun an=>?_) fun an=>?_
 ·
  refine AE<|G<|K<|A2<|N<|I D<|?_
  intro C h
  refine Bj D (fun Aa m=>Gh h D A0 (v:=(Value.int .u8 (((0:Nat):Int):Int))) D (cs:=#[Value.int .u8 (((0:Nat):Int):Int)]) D D (Nat.le_of_ble_eq_true D) ?_)
  intro a aV b ao aq z
  have own:=V own z
  have d:=Ah d z
  refine m _ _ ?_;revert a
  intro C h
  refine Bj D (fun Aa m=>BK h A0 own aq (by simp[Value.oneCell']) d.size ((8*n+i)+1) (zs:=bv (Ref.bits l++List.replicate i 0++[0])) (by simp[bv]) ?_)
  intro a aW aX aY b ar au
  have d:=Cm d au own
  refine m _ _ ?_;revert a
  refine O D<|M<|Bq<|G<|N<|I D<|A_ (q:=1) D D<|O D<|M<|G<|?_
  intro a b
  exact⟨_,by omega,i+1,_,_,D,At b,by omega,by rw[List.replicate_succ',←List.append_assoc];exact ar,d⟩
 ·
  obtain rfl:i=32:=by omega
  refine BO<|AW<|AW<|BN<|G<|K<|K<|N<|O (v:=(E 0)) D<|M<|G<|A2<|?_
  intro a b
  refine Cb (fun t a W=>∃i,∃L:List UInt8,∃p f,t=32 - i∧Ao 88 a (Ja (Ja (Ja (Ja Je 0 (Value.int .u32 (((s:Nat):Int):Int))) 5 (F p (8*n+32) f)) 6 (E (8*n))) 8 (E i))∧i≤32∧Hid (L.length=8*n+32∧∀p,L.getD p 0=if p<i then(Ref.bits l).getD p 0^^^UInt8.ofNat (s/2^p&&&1)else(Ref.bits l++List.replicate 32 0).getD p 0)∧W.ownsRow w.heap.size 5 1 (.slice p (8*n+32) f) (8*n+32) (bv L)∧Below w.heap.size w W) _ ⟨0,_,_,_,D,At b,Nat.zero_le _,Aw ⟨by simp[Ref.Kk];omega,fun p=>by simp⟩,own,d⟩ ?_
  rintro _ a aZ ⟨i,L,p,f,rfl,b,R,x,own,d⟩
  revert a
  refine K<|K<|N<|I D<|B5 (q:=(32:Nat)) D D<|M<|G<|Bl D (fun av=>?_) fun av=>?_
  ·
   have aw:i<32:=by omega
   refine AE<|G<|K<|A2<|N<|I D<|I D<|I D<|I D<|?_
   obtain⟨a0,rfl⟩:=Ia own
   have ax:=De (View.own own) i (o:=i)
   refine AT (fun _ b=>Fz b A0 D (i:=((i:Nat):Int)) D i (o:=i))<|Cg BA ax D<|I D<|I D<|AT (fun _ b=>C3 b (p:=((i:Nat):Int)) (r:=((i:Nat):Int)) D AH Iz (HY i))<|?_
   obtain⟨H,Z⟩:∃g:Nat,g=s/2^i:=⟨_,D⟩
   have ay:H<4294967296:=by rw[Z];exact Nat.lt_of_le_of_lt (Nat.div_le_self _ _) (by first|assumption|omega)
   refine AT (fun _ b=>HQ b (k:=.u32) (p:=s) (n:=i) (r:=H) D D (by simp only[IntKind.bits];omega) Z.symm)<|?_
   obtain⟨y,aa⟩:∃g:Nat,g=H&&&1:=⟨_,D⟩
   have a1:y<4294967296:=by rw[aa];exact Nat.lt_of_le_of_lt Nat.and_le_right (by decide)
   refine AT (fun _ b=>Eh b (k:=.u32) (p:=((H:Nat):Int)) (q:=((1:Nat):Int)) (r:=((y:Nat):Int)) (.inl D) D D (by rw[aa];exact u32_and_nat _ _ ay (by decide)))<|AT (fun _ b=>C3 b (p:=(((y:Nat):Int):Int)) (r:=(((UInt8.ofNat y).toNat:Nat):Int)) D Tryz.underlying75 Tryz.underlying5 (Fw y))<|?_
   obtain⟨J,ab⟩:∃g:Nat,g=((L.getD i 0).toNat)^^^((UInt8.ofNat y).toNat):=⟨_,D⟩
   have az:J<256:=by rw[ab];exact Nat.xor_lt_two_pow (n:=8) (UInt8.toNat_lt _) (UInt8.toNat_lt _)
   refine AT (fun _ b=>Eh b (k:=.u8) (p:=(((L.getD i 0).toNat:Nat):Int)) (q:=(((UInt8.ofNat y).toNat:Nat):Int)) (r:=((J:Nat):Int)) (.inr (.inr D)) D D (by rw[ab];exact u8_xor_nat _ _ (UInt8.toNat_lt _) (UInt8.toNat_lt _)))<|?_
   refine AT (fun _ b=>Fz b A0 D (i:=((i:Nat):Int)) D i (o:=i))<|?_
   intro C h
   refine Bj D (fun Aa m=>K7 h (j:=i) (v:=(Value.int .u8 (((J:Nat):Int):Int))) own D (by omega) D D (by kernel_rfl) (zs:=bv (L.set i (UInt8.ofNat J))) (by rw[Le _ az];simp[bv,List.map_set]) ?_)
   intro a a2 b aA aB
   have d:=Cm d aB own
   refine m _ _ ?_;revert a
   refine M<|Bq<|G<|N<|I D<|A_ (q:=1) D D<|O D<|M<|G<|?_
   intro a b
   exact⟨_,by omega,i+1,_,_,_,D,At b,by omega,Aw (by simp only[*];exact V7 l s i L n B aw x.out),aA,d⟩
  ·
   obtain rfl:i=32:=by omega
   refine BO<|AW<|AW<|BN<|G<|K<|K<|N<|O (v:=(E 0)) D<|M<|G<|A2<|?_
   intro a b
   refine Cb (fun t a W=>∃i,∃L:List UInt8,∃p f,t=8*n - i∧Ao 88 a (Ja (Ja (Ja (Ja Je 0 (Value.int .u32 (((s:Nat):Int):Int))) 5 (F p (8*n+32) f)) 6 (E (8*n))) 9 (E i))∧i≤8*n∧Hid (Ref.H8 s (Ref.bits l) L i)∧W.ownsRow w.heap.size 5 1 (.slice p (8*n+32) f) (8*n+32) (bv L)∧Below w.heap.size w W) _ ⟨0,L,_,_,D,At b,Nat.zero_le _,Aw (Wi l s L n B x.out A),own,d⟩ ?_
   rintro _ a aC ⟨i,L,p,f,rfl,b,R,x,own,d⟩
   revert a
   refine K<|K<|N<|I D<|I D<|B5 D D<|M<|G<|Bl D (fun aD=>?_) fun aD=>?_
   ·
    have aE:i<8*n:=by omega
    have Oy:L.length=8*n+32:=by rw[x.out.len,Ref.Kk,B]
    refine AE<|G<|K<|A2<|K<|N<|I D<|I D<|?_
    obtain⟨a3,rfl⟩:=Ia own
    have aF:=De (View.own own) i (o:=i)
    refine AT (fun _ b=>Fz b A0 D (i:=((i:Nat):Int)) D i (o:=i))<|Cg BA aF D<|Dk D D<|M<|G<|Bl D (fun aG=>?_) fun aG=>?_
    ·
     have S:(L.getD i 0).toNat=1:=by omega
     refine K<|N<|O (v:=(E 0)) D<|M<|G<|A2<|?_
     intro a b
     refine Cb (fun t a W=>∃j,∃u:List UInt8,∃p f,t=33 - j∧Ao 88 a (Ja (Ja (Ja (Ja (Ja Je 0 (Value.int .u32 (((s:Nat):Int):Int))) 5 (F p (8*n+32) f)) 6 (E (8*n))) 9 (E i)) 10 (E j))∧j≤33∧Hid (u.length=L.length∧∀p,u.getD p 0=if i≤p∧p<i+j then L.getD p 0^^^Ref.Gu.getD (p - i) 0 else L.getD p 0)∧W.ownsRow w.heap.size 5 1 (.slice p (8*n+32) f) (8*n+32) (bv u)∧Below w.heap.size w W) _ ⟨0,_,_,_,D,At b,Nat.zero_le _,Aw ⟨D,fun p=>by rw[if_neg (by omega)]⟩,own,d⟩ ?_
     rintro _ a a4 ⟨j,u,p,f,rfl,b,a5,T,own,d⟩
     revert a
     refine K<|K<|N<|I D<|B5 (q:=(33:Nat)) D D<|M<|G<|Bl D (fun aH=>?_) fun aH=>?_
     ·
      have aI:j<33:=by omega
      refine AE<|G<|K<|A2<|?_
      intro a b
      refine EJ 15 ?_
      intro a6 ao z
      have own:=V own z
      have d:=Ah d z
      revert a
      refine A3 D<|A3 D<|A3 D<|Fv D D<|A3 D<|A3 D<|A3 D<|Fv D D<|?_
      obtain⟨a7,rfl⟩:=Ia own
      have aJ:=De (View.own own) (i+j) (o:=i+j)
      refine Cz (fun _ b=>Fz b A0 D (i:=((i+j:Nat):Int)) D (i+j) (o:=i+j))<|Dw BA aJ D<|A3 D<|?_
      have aK:=(ai.below d (Be _)).Xz j (by omega) (o:=j*1) (by first|rfl|omega)
      refine GJ P5 1 j (j*1) D D<|Dw BA aK D<|?_
      obtain⟨P,U⟩:∃g:Nat,g=((u.getD (i+j) 0).toNat)^^^((Ref.Gu.getD j 0).toNat):=⟨_,D⟩
      have aL:P<256:=by rw[U];exact Nat.xor_lt_two_pow (n:=8) (UInt8.toNat_lt _) (UInt8.toNat_lt _)
      refine Cz (fun _ b=>Eh b (k:=.u8) (p:=(((u.getD (i+j) 0).toNat:Nat):Int)) (q:=(((Ref.Gu.getD j 0).toNat:Nat):Int)) (r:=((P:Nat):Int)) (.inr (.inr D)) D D (by rw[U];exact u8_xor_nat _ _ (UInt8.toNat_lt _) (UInt8.toNat_lt _)))<|?_
      refine Cz (fun _ b=>Fz b A0 D (i:=((i+j:Nat):Int)) D (i+j) (o:=i+j))<|?_
      intro a b;refine EG ?_;revert a
      intro C h
      refine Bj D (fun Aa m=>K7 h (j:=i+j) (v:=(Value.int .u8 (((P:Nat):Int):Int))) own D (by omega) D D (by kernel_rfl) (zs:=bv (u.set (i+j) (UInt8.ofNat P))) (by rw[Le _ aL];simp[bv,List.map_set]) ?_)
      intro a a8 b aM aN
      have d:=Cm d aN own
      refine m _ _ ?_;revert a
      refine M<|Bq<|G<|N<|I D<|A_ (q:=1) D D<|O D<|M<|G<|?_
      intro a b
      exact⟨_,by omega,j+1,_,_,_,D,At b,by omega,Aw (by rw[U];exact TG L u i j n Oy aE aI T.out),aM,d⟩
     ·
      obtain rfl:j=33:=by omega
      have X:Hid (Ref.H8 s (Ref.bits l) u (i+1)):=Aw (x.out.next A (Ref.Rd l) (by rw[Ref.Kk];omega) T.out.1 (fun p=>by rw[T.out.2];exact Xg ⟨fun q=>⟨S,q⟩,fun q=>q.2⟩))
      refine BO<|AW<|AW<|BN<|Bq<|G<|N<|I D<|A_ (q:=1) D D<|O D<|M<|G<|?_
      intro a b
      exact⟨_,by omega,i+1,_,_,_,D,At b,by omega,X,own,d⟩
    ·
     have S:¬(L.getD i 0).toNat=1:=by omega
     have X:Hid (Ref.H8 s (Ref.bits l) L (i+1)):=Aw (x.out.next A (Ref.Rd l) (by rw[Ref.Kk];omega) D (fun p=>by rw[if_neg (fun q=>S q.1)]))
     refine AE<|Bq<|G<|N<|I D<|A_ (q:=1) D D<|O D<|M<|G<|?_
     intro a b
     exact⟨_,by omega,i+1,_,_,_,D,At b,by omega,X,own,d⟩
   ·
    obtain rfl:i=8*n:=by omega
    refine BO<|AW<|AW<|BN<|G<|K<|N<|O (v:=(Value.int .u32 (((0:Nat):Int):Int))) D<|M<|G<|K<|K<|N<|O (v:=(E 0)) D<|M<|G<|A2<|?_
    intro a b
    refine Cb (fun t a W=>∃i r,t=32 - i∧W=aC∧Ao 88 a (Ja (Ja (Ja (Ja Je 6 (E (8*n))) 5 (F p (8*n+32) f)) 11 (Value.int .u32 (((r:Nat):Int):Int))) 12 (E i))∧i≤32∧Hid (r=Ref.E6 s (Ref.bits l) % 2^i)∧r<4294967296) _ ⟨0,0,D,D,At b,Nat.zero_le _,Aw (by simp[Nat.mod_one]),by decide⟩ ?_
    rintro _ a _ ⟨i,r,rfl,rfl,b,R,ad,a9⟩
    revert a
    refine K<|K<|N<|I D<|B5 (q:=(32:Nat)) D D<|M<|G<|Bl D (fun aO=>?_) fun aO=>?_
    ·
     have aP:i<32:=by omega
     refine AE<|G<|K<|A2<|N<|I D<|I D<|I D<|I D<|A_ D D<|?_
     obtain⟨a_,rfl⟩:=Ia own
     have aQ:=De (View.own own) ((8*n)+i) (o:=(8*n)+i)
     refine AT (fun _ b=>Fz b A0 D (i:=(((8*n)+i:Nat):Int)) D ((8*n)+i) (o:=(8*n)+i))<|Cg BA aQ D<|AT (fun _ b=>C3 b (p:=((((L.getD ((8*n)+i) 0).toNat:Nat):Int):Int)) (r:=(((L.getD ((8*n)+i) 0).toNat:Nat):Int)) D BA Ev (KE ((L.getD ((8*n)+i) 0).toNat) (Nat.lt_trans (UInt8.toNat_lt _) (by decide))))<|I D<|AT (fun _ b=>C3 b (p:=((i:Nat):Int)) (r:=((i:Nat):Int)) D AH Iz (HY i))<|?_
     obtain⟨Q,ae⟩:∃g:Nat,g=(((L.getD ((8*n)+i) 0).toNat)*2^i) % 4294967296:=⟨_,D⟩
     have af:Q<4294967296:=by rw[ae];exact Nat.mod_lt _ (by decide)
     refine AT (fun _ b=>JC b (k:=.u32) (p:=(L.getD ((8*n)+i) 0).toNat) (n:=i) (r:=((Q:Nat):Int)) D D (by simp only[IntKind.bits];omega) (by rw[ae];exact wrap_u32 _))<|?_
     obtain⟨ag,ah⟩:∃g:Nat,g=r|||Q:=⟨_,D⟩
     have a':ag<4294967296:=by rw[ah];exact Nat.or_lt_two_pow (n:=32) (by first|assumption|omega) af
     refine AT (fun _ b=>Eh b (k:=.u32) (p:=((r:Nat):Int)) (q:=((Q:Nat):Int)) (r:=((ag:Nat):Int)) (.inr (.inl D)) D D (by rw[ah];exact u32_or_nat _ _ (by first|assumption|omega) af))<|O D<|M<|Bq<|G<|N<|I D<|A_ (q:=1) D D<|O D<|M<|G<|?_
     intro a b
     exact⟨_,by omega,i+1,_,D,D,At b,by omega,Aw (by simp only[*];exact VU l s L n i r B aP x.out ad.out),by assumption⟩
    ·
     obtain rfl:i=32:=by omega
     refine BO<|AW<|AW<|BN<|G<|K<|N<|I D<|O D<|M<|G<|AA<|AZ D<|?_
     exact⟨by rw[ad.out,Nat.mod_eq_of_lt (Ref.Pq _ A),Ref.Ua],d⟩
theorem Sq(q:Option Addr)(n c:Nat)(l:List UInt8)(w:World)(f:CT w)(hn:n≤100000000)(g:View w (.slice q n c) n 1 (bv l))(h:l.length=n):
 Calls Tryz.prog 85 #[F q n c] w fun e w'=>e=.returned (.int .u32 ((Af.sum l:Nat):Int))∧Below w.heap.size w w':=by
 have b:Below w.heap.size w w:=Bu _ _
 refine Bx M5 D 6 ?_
 refine K<|N<|O (v:=(Value.int .u32 (((0:Nat):Int):Int))) D<|M<|G<|K<|N<|I D<|?_
 intro m i
 refine Bj D (fun Aa j=>B0 i #[Value.int .u32 (((4294967295:Nat):Int):Int),F q n c] Qc (W5 _ _ _ _ _ _ f (by decide) (by omega) g h) ?_)
 rintro _ o ⟨rfl,k⟩
 refine⟨_,D,?_⟩
 intro a d
 have b:=Ah b k
 refine j _ _ ?_;revert a
 refine AT (fun _ d=>OT d (p:=Af.feed 4294967295 l) D (Af.K0 l (by decide)))<|O D<|M<|G<|AA<|AZ D<|?_
 exact⟨D,b⟩
theorem UD(n:Nat):∀v k,k<n→(Ref.Dc v n).getD k 0=UInt8.ofNat (v/2^(8*k)):=by
 induction n with
 |zero=>intro v k h;omega
 |succ n a=>
  intro v k h
  cases k with
  |zero=>
   simp only[Ref.Dc,List.getD_cons_zero,Nat.mul_zero,Nat.pow_zero,Nat.div_one]
   apply UInt8.toNat_inj.1
   simp
  |succ k=>
   simp only[Ref.Dc,List.getD_cons_succ]
   rw[a _ _ (by omega),Nat.div_div_eq_div_mul,show 8*(k+1)=8+8*k by omega,Nat.pow_add]
theorem X6(v n k:Nat)(h:k<n):(Ref.Dc v n).take (k+1)=(Ref.Dc v n).take k++[UInt8.ofNat (v/2^(8*k))]:=by
 rw[K6 _ k (by rw[Ref.Fc];exact h),UD n v k h]
theorem ON(q:Option Addr)(n c:Nat)(l:List UInt8)(w:World)(A:CT w)(hn:n≤100000000)(u:View w (.slice q n c) n 1 (bv l))(B:l.length=n):
 Calls Tryz.prog 52 #[F q n c] w fun e w'=>∃p k,e=.returned (.slice p (n+4) k)∧w'.ownsRow w.heap.size 5 1 (.slice p (n+4) k) (n+4) (bv (Ref.HS l))∧Below w.heap.size w w':=by
 have d:Below w.heap.size w w:=Bu _ _
 refine Bx MD D 36 ?_
 refine K<|N<|O D<|M<|G<|K<|N<|I D<|?_
 intro t f
 refine Bj D (fun Aa h=>B0 f #[F q n c] M5 (Sq _ _ _ _ _ A (by omega) u B) ?_)
 rintro _ aa ⟨rfl,C⟩
 refine⟨_,D,?_⟩
 intro a b
 have d:=Ah d C
 refine h _ _ ?_;revert a
 refine O D<|M<|G<|K<|N<|O D<|M<|G<|K<|K<|N<|O (v:=(E 0)) D<|M<|G<|A2<|?_
 intro a b
 refine Cb (fun x a W=>∃k p j,x=n - k∧Ao 36 a (Ja (Ja (Ja (Ja Je 0 (F q n c)) 3 (Value.int .u32 ((((Af.sum l):Nat):Int):Int))) 4 (F p k j)) 5 (E k))∧k≤n∧W.ownsRow w.heap.size 5 1 (.slice p k j) k (bv (l.take k))∧Below w.heap.size w W) _ ⟨0,none,0,D,At b,Nat.zero_le _,World.ownsRow_nil _ _ _ _,d⟩ ?_
 rintro _ a ab ⟨k,p,j,rfl,b,H,own,d⟩
 revert a
 refine K<|K<|N<|I D<|I D<|BY Cr D<|B5 D D<|M<|G<|Bl D (fun J=>?_) fun J=>?_
 ·
  refine AE<|G<|K<|A2<|N<|I D<|I D<|I D<|?_
  obtain⟨ad,z,rfl⟩:=Ca (u.below d)
  have L:=De (u.below d) k (o:=z+k*1)
  refine AT (fun _ b=>Fz b A0 D (i:=((k:Nat):Int)) D k (o:=z+k*1))<|Cg BA L D<|?_
  intro t f
  refine Bj D (fun Aa h=>Gh f D A0 (v:=(Value.int .u8 ((((l.getD k 0).toNat:Nat):Int):Int))) D (cs:=#[Value.int .u8 ((((l.getD k 0).toNat:Nat):Int):Int)]) D D (Nat.le_of_ble_eq_true D) ?_)
  intro a ae b P Q s
  have own:=V own s
  have d:=Ah d s
  refine h _ _ ?_;revert a
  intro t f
  refine Bj D (fun Aa h=>BK f A0 own Q (by simp[Value.oneCell']) d.size (k+1) (zs:=bv (l.take k++[l.getD k 0])) (by simp[bv]) ?_)
  intro a af ag ah b R S
  have d:=Cm d S own
  refine h _ _ ?_;revert a
  refine O D<|M<|Bq<|G<|N<|I D<|A_ (q:=1) D D<|O D<|M<|G<|?_
  intro a b
  exact⟨_,by omega,k+1,_,_,D,At b,by omega,by rw[K6 l k];exact R,d⟩
 ·
  obtain rfl:n=k:=by omega
  refine BO<|AW<|AW<|BN<|G<|K<|K<|N<|O (v:=(E 0)) D<|M<|G<|A2<|?_
  intro a b
  refine Cb (fun x a W=>∃k p j,x=4 - k∧Ao 36 a (Ja (Ja (Ja Je 3 (Value.int .u32 ((((Af.sum l):Nat):Int):Int))) 4 (F p (n+k) j)) 6 (E k))∧k≤4∧W.ownsRow w.heap.size 5 1 (.slice p (n+k) j) (n+k) (bv (l++(Ref.Dc (Af.sum l) 4).take k))∧Below w.heap.size w W) _ ⟨0,p,j,D,At b,Nat.zero_le _,by rw[List.take_of_length_le (by omega)]at own;simpa using own,d⟩ ?_
  rintro _ a ai ⟨k,p,j,rfl,b,H,own,d⟩
  revert a
  refine K<|K<|N<|I D<|B5 (q:=(4:Nat)) D D<|M<|G<|Bl D (fun T=>?_) fun T=>?_
  ·
   have U:k<4:=by omega
   have aj:=Af.GP l
   refine AE<|G<|K<|A2<|N<|I D<|I D<|I D<|FT (p:=8) D D<|AT (fun _ b=>C3 b (p:=((8*k:Nat):Int)) (r:=((8*k:Nat):Int)) D AH Iz (HY (8*k)))<|?_
   obtain⟨m,y⟩:∃g:Nat,g=(Af.sum l)/2^(8*k):=⟨_,D⟩
   have ak:m<4294967296:=by rw[y];exact Nat.lt_of_le_of_lt (Nat.div_le_self _ _) (Af.GP _)
   refine AT (fun _ b=>HQ b (k:=.u32) (p:=(Af.sum l)) (n:=8*k) (r:=m) D D (by simp only[IntKind.bits];omega) y.symm)<|AT (fun _ b=>C3 b (p:=(((m:Nat):Int):Int)) (r:=(((UInt8.ofNat m).toNat:Nat):Int)) D Tryz.underlying75 Tryz.underlying5 (Fw m))<|?_
   intro t f
   refine Bj D (fun Aa h=>Gh f D A0 (v:=(Value.int .u8 ((((UInt8.ofNat m).toNat:Nat):Int):Int))) D (cs:=#[Value.int .u8 ((((UInt8.ofNat m).toNat:Nat):Int):Int)]) D D (Nat.le_of_ble_eq_true D) ?_)
   intro a al b P X s
   have own:=V own s
   have d:=Ah d s
   refine h _ _ ?_;revert a
   intro t f
   refine Bj D (fun Aa h=>BK f A0 own X (by simp[Value.oneCell']) d.size ((n+k)+1) (zs:=bv (l++(Ref.Dc (Af.sum l) 4).take k++[UInt8.ofNat m])) (by simp[bv]) ?_)
   intro a an ao aq b Y Z
   have d:=Cm d Z own
   refine h _ _ ?_;revert a
   refine O D<|M<|Bq<|G<|N<|I D<|A_ (q:=1) D D<|O D<|M<|G<|?_
   intro a b
   exact⟨_,by omega,k+1,_,_,D,At b,by omega,by rw[X6 (Af.sum l) 4 k U,←List.append_assoc,←y];exact Y,d⟩
  ·
   obtain rfl:k=4:=by omega
   refine BO<|AW<|AW<|BN<|G<|K<|N<|I D<|O D<|M<|G<|AA<|AZ D<|?_
   exact⟨_,_,D,by rw[List.take_of_length_le (by rw[Ref.Fc];decide)]at own;exact own,d⟩
end Go.Proofs.YtcdaflcjhimimaaGreatDoor
