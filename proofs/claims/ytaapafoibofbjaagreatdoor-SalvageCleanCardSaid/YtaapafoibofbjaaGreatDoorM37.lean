/- Laws and walks on the road to SalvageClean (part M37). No conditions beyond each law's own. -/
import Derived.Test.YtaapafoibofbjaaGreatDoorM01
import Derived.Test.YtaapafoibofbjaaGreatDoorM36
import Derived.Test.YtaapafoibofbjaaGreatDoorM06
set_option linter.unusedVariables false
namespace Go.Proofs.YtaapafoibofbjaaGreatDoor
open Go.RowKit Go.Maps
set_option maxRecDepth 100000
set_option maxHeartbeats 1000000
theorem Z2(b o n c l h o' EW:Nat)(a:l≤h)(d:h≤c)(m:l<c)(e:o+l=o')(f:h - l=EW)(W:World)(k k':IntKind):(Instr.sliceAt 22 (.slice (some ⟨b,o,none⟩) n c) (some (.int k ((l:Nat):Int))) (some (.int k' ((h:Nat):Int))) none).run Tryz.prog W=.ok (.slice (some ⟨b,o',none⟩) EW (c - l)) W:=by
 subst e
 subst f
 obtain⟨i,g,p,j,q⟩:=A3.ji
 have J:=XW (P:=Tryz.prog) (w:=W) k k' n c l h a d
 simp[Instr.sliceAt,Instr.slice,run_underlying A3.jq,J,sizeOf,typeInfo,g,j,F6,show¬c=l by omega]
theorem Xe(b o n c l o' EW:Nat)(a:l≤n)(h:n≤c)(j:l<c)(d:o+l=o')(e:n - l=EW)(W:World)(k:IntKind):(Instr.sliceAt 22 (.slice (some ⟨b,o,none⟩) n c) (some (.int k ((l:Nat):Int))) none none).run Tryz.prog W=.ok (.slice (some ⟨b,o',none⟩) EW (c - l)) W:=by
 subst d
 subst e
 obtain⟨i,f,m,g,p⟩:=A3.ji
 have J:=W' (P:=Tryz.prog) (w:=W) k n c l a
 simp[Instr.sliceAt,Instr.slice,run_underlying A3.jq,J,sizeOf,typeInfo,f,g,F6,show¬c=l by omega]
section
variable {Bj AK ib n c p k:Nat} {w W:World} {l:List UInt8} {u:Fr.Bu}
theorem BS.cap(h:BS Bj AK ib n c w l u):n≤c∧ib≠AK:=by
 obtain⟨_,_,_,_,_,_,_,_,h⟩:=h
 obtain⟨_,cur,b,d,a,e,f⟩:=HL h.o
 exact⟨a,h.ne⟩
theorem BS.own(h:BS Bj AK ib n c w l u):w.ownsRow Bj 5 1 (.slice (some ⟨ib,0,none⟩) n c) n (bv l):=by
 obtain⟨_,_,_,_,_,_,_,_,h⟩:=h
 exact h.o
theorem BS.QY(h:BS Bj AK ib n c w l u):w.cell? ⟨AK,0,none⟩=some (.slice (some ⟨ib,0,none⟩) n c):=by
 obtain⟨_,_,_,_,_,_,_,_,h⟩:=h
 rw[cell_of_row _ _ _ _ _ _ h.H];rfl
theorem BS.mark(h:BS Bj AK ib n c w l u):w.cell? ⟨AK,3,none⟩=some (.int .i64 ((u.m:Nat):Int)):=by
 obtain⟨_,_,_,_,_,_,_,_,h⟩:=h
 rw[cell_of_row _ _ _ _ _ _ h.H];rfl
theorem BS.h8(h:BS Bj AK ib n c w l u):w.cell? ⟨AK,5,none⟩=some (.int .i64 ((u.p:Nat):Int)):=by
 obtain⟨_,_,_,_,_,_,_,_,h⟩:=h
 rw[cell_of_row _ _ _ _ _ _ h.H];rfl
end
section
variable {P:Program} {w w':World} {a:Act} {N d:Nat} {f:BW} {K:Act→World→Prop} {Aa:Exit→Act→World→Prop} {ty:TypeId} {pos:String} {An:Array Edge} {g:Option (Nat×Bool)} {Bj AK ib n c:Nat} {l:List UInt8} {u:Fr.Bu}
theorem VT(i:AH N a f){T:TypeId}{x y:Operand}(J:BS Bj AK ib n c w l u){j:Nat}(k:Aj f x=some (.pointer (some ⟨ib,j,none⟩)))(hj:j<n){b:UInt8}(m:Aj f y=some (.int .u8 ((b.toNat:Nat):Int)))(o:(P.info? T).map (·.size)=some 1)
 (h:∀d W,AH N d f→BS Bj AK ib n c W (l.set j b) u→w.grownBy W (some ib)→K d W):Dw P ⟨none,.store T x y,ty,pos,An,g⟩ a w K Aa:=by
 obtain⟨_,cur,e,r,s,t,v⟩:=HL J.own
 exact Me i k e m D o (by omega) D (fun d W p _ q g=>h d W p (J.set hj e q g) g)
end
theorem WQ{P:Program}{w:World}{a:Act}{N d:Nat}{f:BW}{K:Act→World→Prop}{Aa:Exit→Act→World→Prop}{ty:TypeId}{pos:String}{An:Array Edge}{g:Option (Nat×Bool)}(c:AH N a f)(Ad:Nat.blt d N=true){t:Nat}{Cf:FuncId}{b:Array Value}(V:f t=some (.func (.func Cf) #[] b)){fn:Func}(j:P.funcs[Cf]? =some fn)(k:(fn.name== "runtime.NumGoroutine")=false)(J:fn.body.isNone=false){ts:Array TypeId}{R:Ending→World→Prop}(l:Calls P Cf b w R)(h:∀e W,R e W→∃v,e=.returned v∧∀i,AH N i (Jb f d v)→K i W):
 Dw P ⟨some d,.call {callee:=.value (.tmp t),args:=#[],argTypes:=ts},ty,pos,An,g⟩ a w K Aa:=by
 have m:¬fn.name= "runtime.NumGoroutine" :=by simpa using k
 have n:¬fn.body=none:=by intro q;rw[q]at J;cases J
 have he:a.eval (.tmp t)=.func (.func Cf) #[] b:=c.A_ (x:=.tmp t) V
 have o:(execOp a.eval ⟨some d,.call {callee:=.value (.tmp t),args:=#[],argTypes:=ts},ty,pos,An,g⟩).run P w=.ok (.enter Cf b) w:=by
  simp[execOp,resolve,Deferred.ofValue,invoke,he,callFunc,j,m,n]
 refine⟨?_⟩
 unfold Oper.wp
 rw[o]
 refine l.mono (fun e W Df=>?_)
 obtain⟨v,rfl,p⟩:=h e W Df
 exact p _ (c.put Ad v)
def GW(l:List UInt8)(p k:Nat):List UInt8:=l.take (256*p+64)++(List.replicate k 0++l.drop (256*p+64+k))
theorem MW{l:List UInt8}{p k:Nat}(h:256*p+64+k≤l.length)(i:Nat):(GW l p k)[i]? =if 256*p+64≤i∧i<256*p+64+k then some 0 else l[i]? :=by
 unfold GW
 have h1:(l.take (256*p+64)).length=256*p+64:=by rw[List.length_take];omega
 by_cases q:i<256*p+64
 ·rw[List.getElem?_append_left (by omega),List.getElem?_take,if_pos q,if_neg (by omega)]
 ·rw[List.getElem?_append_right (by omega),h1]
  by_cases r:i<256*p+64+k
  ·rw[List.getElem?_append_left (by rw[List.length_replicate];omega),List.getElem?_replicate,if_pos (by omega),if_pos (by omega)]
  ·rw[List.getElem?_append_right (by rw[List.length_replicate];omega),List.length_replicate,List.getElem?_drop,if_neg (by omega),show 256*p+64+k+(i - (256*p+64) - k)=i by omega]
theorem Wn(l:List UInt8)(p:Nat):GW l p 0=l:=by unfold GW;simp
theorem cn{l:List UInt8}{p k:Nat}(h:256*p+64+k≤l.length):(GW l p k).length=l.length:=by
 unfold GW
 rw[List.length_append,List.length_append,List.length_take,List.length_replicate,List.length_drop]
 omega
theorem QK{l:List UInt8}{p k:Nat}(h:256*p+64+k≤l.length:=by omega):(GW l p k).getD (256*p+64+k) 0=l.getD (256*p+64+k) 0:=by
 rw[List.getD_eq_getElem?_getD,List.getD_eq_getElem?_getD,MW h,if_neg (by omega)]
theorem Y5{l:List UInt8}{p k:Nat}(h:256*p+64+(k+1)≤l.length):(GW l p k).set (256*p+(64+k)) 0=GW l p (k+1):=by
 apply List.ext_getElem?
 intro i
 rw[List.getElem?_set,MW h,MW (by omega),cn (by omega)]
 by_cases q:256*p+(64+k)=i
 ·rw[if_pos q,if_pos (by omega),if_pos (by omega)]
 ·rw[if_neg q]
  by_cases r:256*p+64≤i∧i<256*p+64+k
  ·rw[if_pos r,if_pos (by omega)]
  ·rw[if_neg r,if_neg (by omega)]
theorem Y2{l:List UInt8}{p k:Nat}(h:256*p+64+(k+1)≤l.length)(a:l.getD (256*p+64+k) 0=0):GW l p k=GW l p (k+1):=by
 apply List.ext_getElem?
 intro i
 rw[MW h,MW (by omega)]
 by_cases q:i=256*p+64+k
 ·subst q
  rw[if_neg (by omega),if_pos (by omega),List.getElem?_eq_getElem (by omega)]
  rw[List.getD_eq_getElem?_getD,List.getElem?_eq_getElem (by omega)]at a
  congr 1
 ·by_cases r:256*p+64≤i∧i<256*p+64+k
  ·rw[if_pos r,if_pos (by omega)]
  ·rw[if_neg r,if_neg (by omega)]
theorem Zi(q:Option Addr)(c p:Nat)(l:List UInt8)(w:World)(a:Fr.CZ p l=true)(V:View w (.slice q 256 c) 256 1 (bv l))(hl:l.length=256):
 Calls Tryz.prog 40 #[.int .i64 ((p:Nat):Int),.slice q 256 c] w fun e w'=>∃k B1,e=.returned (.tuple #[k,B1,.int .i64 ((0:Nat):Int)])∧Below w.heap.size w w':=by
 refine(YV q c p l w V hl).mono ?_
 rintro e w' ⟨k,B1,x,rfl,h,J⟩
 rw[a]at h
 obtain rfl:x=0:=by simpa using h
 exact⟨k,B1,D,J⟩
theorem Q9(q:Option Addr)(c p:Nat)(l:List UInt8)(w:World)(a:Fr.CZ p l=false)(V:View w (.slice q 256 c) 256 1 (bv l))(hl:l.length=256):
 Calls Tryz.prog 40 #[.int .i64 ((p:Nat):Int),.slice q 256 c] w fun e w'=>∃k B1,∃x:Int,e=.returned (.tuple #[k,B1,.int .i64 x])∧x≠0∧Below w.heap.size w w':=by
 refine(YV q c p l w V hl).mono ?_
 rintro e w' ⟨k,B1,x,rfl,h,J⟩
 rw[a]at h
 exact⟨k,B1,x,D,by simpa using h,J⟩
theorem Qu(q:Option Addr)(n c P:Nat)(l:List UInt8)(w:World)(V:View w (.slice q n c) n 1 (bv l))(hl:l.length=n)(g:n=256*P:=by omega)(u:3≤P:=by omega)(x:P≤4096:=by omega):
 Calls Tryz.prog 16 #[.slice q n c] w fun e w'=>∃AK ib c',e=.returned (.tuple #[.pointer (some ⟨AK,0,none⟩),.int .i64 ((0:Nat):Int)])∧BS w.heap.size AK ib n c' w' l ⟨0,0,0,0,0⟩∧Below w.heap.size w w':=by
 have hm:((n:Int) % 256)=0:=by omega
 have Ad:((n:Int)/256)=(P:Int):=by omega
 have y:=AX g
 have o:=AX hl
 have z:n≤1048576:=by omega
 have p:0<n:=by omega
 clear g hl
 go_enter Mj,Tryz.ntmps16
 go_wp2_with (first|go_skip|(with_reducible refine Yv ?_))
 have lt:l.take n=l:=List.take_of_length_le (by rw[o.out];exact Br _)
 refine⟨VK A3 D (.const (.slice none 0 0)) (.tmp 18) D w.heap.size (v:=.slice none 0 0) (xs:=[]) D D (World.ownsRow_nil w _ _ _) V (Br _) n (by simp) (by omega) l (by simp[lt]) ?_⟩
 intro A d a b h
 obtain⟨ib,rfl⟩:=OA b p
 have r:=AX b
 have i:Below w.heap.size w a:=(Cn _ _).grown h.Bg (Br _) (fun k s=>by simp[Value.ownBlock]at s)
 have j:=i.size
 have li:ib<a.heap.size:=(b.lt ib D).2
 clear b h lt
 go_wp2_with (first|go_skip|(with_reducible refine OP 85 ?_))
 refine⟨Ob D 85 (.tmp 20) D (v:=.agg (f_ (some ⟨ib,0,none⟩) n d)) D ?_⟩
 intro t B f m
 simp only[Value.cells]at f
 have K9:BS w.heap.size a.heap.size ib n d t l ⟨0,0,0,0,0⟩:=
  ⟨.int .u32 0,.int .i32 0,.int .u32 0,.map none,.int .u32 0,.int .i32 0,.int .u32 0,.map none,f,YN r.out m,.inl ⟨D,D⟩,.inl ⟨D,D⟩,j,by omega⟩
 clear f
 go_wp2
 go_ret2
 exact⟨a.heap.size,ib,d,D,K9,i.trans (m.mono j)⟩
end Go.Proofs.YtaapafoibofbjaaGreatDoor
