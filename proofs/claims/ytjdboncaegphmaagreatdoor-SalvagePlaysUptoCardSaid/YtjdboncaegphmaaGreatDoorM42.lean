/- Laws and walks on the road to SalvagePlays (part M42). No conditions beyond each law's own. -/
import Derived.Test.YtjdboncaegphmaaGreatDoorM41
set_option linter.unusedVariables false
namespace Go.Proofs.YtjdboncaegphmaaGreatDoor
open Go.RowKit Go.Maps
set_option maxRecDepth 100000
set_option maxHeartbeats 2000000
theorem Z2(b o n c l h o' a:Nat)(d:l≤h)(e:h≤c)(p:l<c)(f:o+l=o')(g:h - l=a)(W:World)(k k':IntKind):(Instr.sliceAt 29 (.slice (some ⟨b,o,none⟩) n c) (some (.int k ((l:Nat):Int))) (some (.int k' ((h:Nat):Int))) none).run Tryz.prog W=.ok (.slice (some ⟨b,o',none⟩) a (c - l)) W:=by
 subst f;subst g;obtain⟨i,j,q,m,r⟩:=A3.V;have J:=XW (P:=Tryz.prog) (w:=W) k k' n c l h d e;simp[Instr.sliceAt,Instr.slice,run_underlying A3.uG,J,sizeOf,typeInfo,j,m,F6,show¬c=l by omega]
theorem Xe(b o n c l o' a:Nat)(d:l≤n)(j:n≤c)(m:l<c)(e:o+l=o')(f:n - l=a)(W:World)(k:IntKind):(Instr.sliceAt 29 (.slice (some ⟨b,o,none⟩) n c) (some (.int k ((l:Nat):Int))) none none).run Tryz.prog W=.ok (.slice (some ⟨b,o',none⟩) a (c - l)) W:=by
 subst e;subst f;obtain⟨i,g,p,h,q⟩:=A3.V;have J:=W' (P:=Tryz.prog) (w:=W) k n c l d;simp[Instr.sliceAt,Instr.slice,run_underlying A3.uG,J,sizeOf,typeInfo,g,h,F6,show¬c=l by omega]
section
variable {Bj AK ib n c p k:Nat} {w W:World} {l:rG} {u:Fr.Bu}
theorem BS.cap(h:BS Bj AK ib n c w l u):n≤c∧ib≠AK:=by
 obtain⟨_,_,_,_,_,_,_,_,h⟩:=h;obtain⟨_,cur,b,d,a,e,f⟩:=HL h.o;exact⟨a,h.ne⟩
theorem BS.own(h:BS Bj AK ib n c w l u):w.ownsRow Bj 5 1 (.slice (some ⟨ib,0,none⟩) n c) n (bv l):=by
 obtain⟨_,_,_,_,_,_,_,_,h⟩:=h;exact h.o
theorem BS.QY(h:BS Bj AK ib n c w l u):w.cell? ⟨AK,0,none⟩=some (.slice (some ⟨ib,0,none⟩) n c):=by
 obtain⟨_,_,_,_,_,_,_,_,h⟩:=h;rw[cell_of_row _ _ _ _ _ _ h.H];rfl
theorem BS.mark(h:BS Bj AK ib n c w l u):w.cell? ⟨AK,3,none⟩=some (.int .i64 ((u.m:Nat):Int)):=by
 obtain⟨_,_,_,_,_,_,_,_,h⟩:=h;rw[cell_of_row _ _ _ _ _ _ h.H];rfl
theorem BS.h8(h:BS Bj AK ib n c w l u):w.cell? ⟨AK,5,none⟩=some (.int .i64 ((u.p:Nat):Int)):=by
 obtain⟨_,_,_,_,_,_,_,_,h⟩:=h;rw[cell_of_row _ _ _ _ _ _ h.H];rfl
end
section
variable {P:Program} {w w':World} {a:Act} {N d:Nat} {f:BW} {A5:Act→World→Prop} {Aa:Exit→Act→World→Prop} {ty:TypeId} {pos:String} {An:Array Edge} {g:Option (Nat×Bool)} {Bj AK ib n c:Nat} {l:rG} {u:Fr.Bu}
theorem VT(i:AH N a f){T:TypeId}{x y:Operand}(J:BS Bj AK ib n c w l u){j:Nat}(k:Aj f x=some (.pointer (some ⟨ib,j,none⟩)))(hj:j<n){b:UInt8}(m:Aj f y=some (.int .u8 ((b.toNat:Nat):Int)))(V:(P.info? T).map (·.size)=some 1)
 (h:∀d W,AH N d f→BS Bj AK ib n c W (l.set j b) u→w.grownBy W (some ib)→A5 d W):Dw P ⟨none,.store T x y,ty,pos,An,g⟩ a w A5 Aa:=by
 obtain⟨_,cur,e,q,r,s,t⟩:=HL J.own;exact Me i k e m D V JY D (fun d W o _ p g=>h d W o (J.set hj e p g) g)
end
theorem WQ{P:Program}{w:World}{a:Act}{N d:Nat}{f:BW}{A5:Act→World→Prop}{Aa:Exit→Act→World→Prop}{ty:TypeId}{pos:String}{An:Array Edge}{g:Option (Nat×Bool)}(c:AH N a f)(Ad:Nat.blt d N=true){t:Nat}{Cf:FuncId}{b:Array Value}(j:f t=some (.func (.func Cf) #[] b)){fn:Func}(k:P.funcs[Cf]? =some fn)(l:(fn.name== "runtime.NumGoroutine")=false)(J:fn.body.isNone=false){sU:Array TypeId}{R:Ending→World→Prop}(m:Calls P Cf b w R)(h:∀e W,R e W→∃v,e=.returned v∧∀i,AH N i (Jb f d v)→A5 i W):
 Dw P ⟨some d,.call {callee:=.value (.tmp t),args:=#[],argTypes:=sU},ty,pos,An,g⟩ a w A5 Aa:=by
 have n:¬fn.name= "runtime.NumGoroutine" :=by simpa using l
 have o:¬fn.body=none:=by intro q;rw[q]at J;cases J
 have he:a.eval (.tmp t)=.func (.func Cf) #[] b:=c.A_ (x:=.tmp t) j;have p:(execOp a.eval ⟨some d,.call {callee:=.value (.tmp t),args:=#[],argTypes:=sU},ty,pos,An,g⟩).run P w=.ok (.enter Cf b) w:=by
  simp[execOp,resolve,Deferred.ofValue,invoke,he,callFunc,k,n,o]
 refine⟨?_⟩;unfold Oper.wp;rw[p];refine m.mono (fun e W Df=>?_);obtain⟨v,rfl,r⟩:=h e W Df;exact r _ (c.put Ad v)
def GW(l:rG)(p k:Nat):List UInt8:=l.take (256*p+64)++(List.replicate k 0++l.drop (256*p+64+k))
theorem MW{l:rG}{p k:Nat}(h:256*p+64+k≤l.length)(i:Nat):(GW l p k)[i]? =if 256*p+64≤i∧i<256*p+64+k then some 0 else l[i]? :=by
 unfold GW;have h1:(l.take (256*p+64)).length=256*p+64:=by rw[FX];omega
 by_cases q:i<256*p+64
 ·rw[V5 JY,LQ,if_pos q,if_neg JY]
 ·rw[UP JY,h1]
  by_cases r:i<256*p+64+k
  ·rw[V5 (by rw[He];omega),eg,if_pos JY,if_pos JY]
  ·rw[UP (by rw[He];omega),He,Q1,if_neg JY,show 256*p+64+k+(i - (256*p+64) - k)=i by omega]
theorem Wn(l:rG)(p:Nat):GW l p 0=l:=by unfold GW;simp
theorem cn{l:rG}{p k:Nat}(h:256*p+64+k≤l.length:=by omega):(GW l p k).length=l.length:=by
 unfold GW;rw[Gd,Gd,FX,He,J3];omega
theorem QK{l:rG}{p k:Nat}(h:256*p+64+k≤l.length:=by omega):(GW l p k).getD (256*p+64+k) 0=l.getD (256*p+64+k) 0:=by
 rw[Dm,Dm,MW h,if_neg JY]
theorem Y5{l:rG}{p k:Nat}(h:256*p+64+(k+1)≤l.length:=by omega):(GW l p k).set (256*p+(64+k)) 0=GW l p (k+1):=by
 apply Q2;intro i;rw[jz,MW h,MW JY,cn]
 by_cases q:256*p+(64+k)=i
 ·rw[if_pos q,if_pos JY,if_pos JY]
 ·rw[if_neg q]
  by_cases r:256*p+64≤i∧i<256*p+64+k
  ·rw[if_pos r,if_pos JY]
  ·rw[if_neg r,if_neg JY]
theorem Y2{l:rG}{p k:Nat}(h:256*p+64+(k+1)≤l.length)(a:l.getD (256*p+64+k) 0=0):GW l p k=GW l p (k+1):=by
 apply Q2;intro i;rw[MW h,MW JY]
 by_cases q:i=256*p+64+k
 ·subst q;rw[if_neg JY,if_pos JY,F3 JY];rw[Dm,F3 JY]at a
  congr 1
 ·by_cases r:256*p+64≤i∧i<256*p+64+k
  ·rw[if_pos r,if_pos JY]
  ·rw[if_neg r,if_neg JY]
theorem Zi(q:Option Addr)(c p:Nat)(l:rG)(w:World)(a:Fr.CZ p l=true)(b:View w (.slice q 256 c) 256 1 (bv l))(hl:l.length=256):
 Calls Tryz.prog 73 #[.int .i64 ((p:Nat):Int),.slice q 256 c] w fun e w'=>∃k B1,e=.returned (.tuple #[k,B1,.int .i64 ((0:Nat):Int)])∧Below w.heap.size w w':=by
 refine(YV q c p l w b hl).mono ?_;rintro e w' ⟨k,B1,x,rfl,h,J⟩;rw[a]at h;obtain rfl:x=0:=by simpa using h
 exact⟨k,B1,D,J⟩
theorem Q9(q:Option Addr)(c p:Nat)(l:rG)(w:World)(a:Fr.CZ p l=false)(b:View w (.slice q 256 c) 256 1 (bv l))(hl:l.length=256):
 Calls Tryz.prog 73 #[.int .i64 ((p:Nat):Int),.slice q 256 c] w fun e w'=>∃k B1,∃x:Int,e=.returned (.tuple #[k,B1,.int .i64 x])∧x≠0∧Below w.heap.size w w':=by
 refine(YV q c p l w b hl).mono ?_;rintro e w' ⟨k,B1,x,rfl,h,J⟩;rw[a]at h;exact⟨k,B1,x,D,by simpa using h,J⟩
theorem Qu(q:Option Addr)(n c P:Nat)(l:rG)(w:World)(o:View w (.slice q n c) n 1 (bv l))(hl:l.length=n)(g:n=256*P:=by omega)(x:3≤P:=by omega)(y:P≤4096:=by omega):
 Calls Tryz.prog 33 #[.slice q n c] w fun e w'=>∃AK ib c',e=.returned (.tuple #[.pointer (some ⟨AK,0,none⟩),.int .i64 ((0:Nat):Int)])∧BS w.heap.size AK ib n c' w' l ⟨0,0,0,0,0⟩∧Below w.heap.size w w':=by
 have hm:((n:Int) % 256)=0:=JY;have Ad:((n:Int)/256)=(P:Int):=JY;have z:=AX g;have p:=AX hl;have A:n≤1048576:=JY;have r:0<n:=JY;clear g hl
 go_enter P6,Tryz.ntmps33
 go_wp2_with (first|go_skip|(with_reducible refine Yv ?_))
 have lt:l.take n=l:=DV (by rw[p.out];exact Br _);refine⟨VK A3 D (.const (.slice none 0 0)) (.tmp 18) D w.heap.size (v:=.slice none 0 0) (xs:=[]) D D (World.ownsRow_nil w _ _ _) o (Br _) n (by simp) JY l (by simp[lt]) ?_⟩;intro B d a b h;obtain⟨ib,rfl⟩:=OA b r;have s:=AX b;have i:Below w.heap.size w a:=(Cn _ _).grown h.Bg (Br _) (fun k t=>by simp[Value.ownBlock]at t);have j:=i.size;have li:ib<a.heap.size:=(b.lt ib D).2;clear b h lt
 go_wp2_with (first|go_skip|(with_reducible refine OP 118 ?_))
 refine⟨Ob D 118 (.tmp 20) D (v:=.agg (f_ (some ⟨ib,0,none⟩) n d)) D ?_⟩;intro u C f m;simp only[Value.cells]at f;have K9:BS w.heap.size a.heap.size ib n d u l ⟨0,0,0,0,0⟩:=
  ⟨.int .u32 0,.int .i32 0,.int .u32 0,.map none,.int .u32 0,.int .i32 0,.int .u32 0,.map none,f,YN s.out m,.inl ⟨D,D⟩,.inl ⟨D,D⟩,j,JY⟩
 clear f
 go_wp2
 go_ret2
 exact⟨a.heap.size,ib,d,D,K9,i.trans (m.mono j)⟩
