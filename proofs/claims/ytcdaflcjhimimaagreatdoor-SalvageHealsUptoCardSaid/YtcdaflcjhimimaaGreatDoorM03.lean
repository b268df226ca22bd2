/- Laws and walks on the road to SalvageNever and SalvageHeals (part M03). No conditions beyond each law's own. -/
import Derived.Deep.RegionHeld
import Derived.StillTail
import Derived.Deep.Quiet
import Derived.Test.YtcdaflcjhimimaaGreatDoorM01
import Derived.Test.YtcdaflcjhimimaaGreatDoorM02
set_option linter.unusedVariables false
namespace Go.Proofs.YtcdaflcjhimimaaGreatDoor
open Go.RowKit Go.Maps
set_option maxRecDepth 100000
set_option maxHeartbeats 1600000
def HH(l:List UInt8)(n:Nat):Nat→Nat
 |0=>0
 |k+1=>HH l n k|||(l.getD (n+k) 0).toNat*2^(8*k)
theorem OJ(l:List UInt8)(n k:Nat)(h:k≤4):HH l n k<2^(8*k):=by
 induction k with
 |zero=>simp[HH]
 |succ k a=>
  have b:=a (by omega)
  have c:=(l.getD (n+k) 0).toNat_lt
  have:HH l n (k+1)=HH l n k+(l.getD (n+k) 0).toNat*2^(8*k):=Af.IS _ _ _ b
  rw[this,show 8*(k+1)=8*k+8 by omega,Nat.pow_add]
  have d:(l.getD (n+k) 0).toNat*2^(8*k)≤255*2^(8*k):=Nat.mul_le_mul_right _ (by omega)
  have e:2^(8*k)*2^8=255*2^(8*k)+2^(8*k):=by rw[Nat.mul_comm];omega
  omega
theorem RD(l:List UInt8)(n:Nat):HH l n 4=Af.stored l n:=by
 simp[HH,Af.stored]
theorem Ta(AU Bc n m c:Nat)(q:Option Addr)(l:List UInt8)(cs:Array Value)(Az:TypeId)(w:World)(t:w.heap[AU]? =some (.cells cs Az (0,0)))(S:TabIs w AU Bc n cs)(T:1≤n)(U:n≤4096)
 (F:View w (.slice q m c) m 1 (bv l))(G:l.length=m)(hm:n+4≤m)(V:Af.last (Af.Eb n) (Af.Cj l n)=none):
 Calls Tryz.prog 35 #[.pointer (some ⟨AU,Bc,none⟩),.slice q m c,.int .i64 n] w fun e w'=>e=.returned (.tuple #[.nilFunc,.bool false])∧GN w w' AU Bc n cs Az:=by
 have W:AU<w.heap.size:=(Array.getElem?_eq_some_iff.1 t).1
 have aw:=F.cap
 have X:=Aw t
 have ax:=Aw G
 have Y:m≤l.length:=by omega
 clear t G
 have ay:∀(x:Bool) (w:World),(Op.unary .not (.bool x)).run Tryz.prog w=.ok (.bool (!x)) w:=fun _ _=>rfl
 go_enter Kt,Tryz.ntmps35
 go_wp2_with (with_reducible refine KF 28 ?_)
 refine⟨KM D 28 (.tmp 1) D (v:=.slice q m c) D ?_⟩
 intro a Z f b1
 simp only[Value.cells]at f
 have az:=Aw f
 have aA:w.heap.size+1≤a.heap.size:=by omega
 have aa:Hid (a.heap[AU]? =some (.cells cs Az (0,0))):=Aw ((b1.block _ (by omega)).trans X.out)
 have aB:=HU (j:=0) f D
 have H:=F.below b1
 clear f Z
 go_wp2
 go_loop [8,13] (fun s i=>∃(k x:Nat),k≤4∧i=.int .i64 k∧s=.int .u32 x∧Hid (x=HH l n k)) (fun _ i=>4 - (intOf i).toNat)
 case atStart=>exact⟨0,0,by omega,D,D,Aw D⟩
 case round=>
  obtain⟨k,x,aC,rfl,rfl,h⟩:=hrel
  by_cases aD:k<4
  ·have u:x<4294967296:=by
    have:=OJ l n k (by omega)
    have I:2^(8*k)≤2^32:=Nat.pow_le_pow_right (by decide) (by omega)
    rw[←h.out]at this
    omega
   go_wp2_with (first|go_skip|(with_reducible refine GX 28 ?_))
   refine⟨idx A0 D (.tmp 17) (.tmp 20) D (y:=q) (n:=m) (c:=c) D H D (n+k) (by simp) (by omega) ?_⟩
   intro ab ad J _
   obtain⟨g,A⟩:∃g,g=(l.getD (n+k) 0).toNat:=⟨_,D⟩
   have aE:g<256:=by rw[A];exact(l.getD (n+k) 0).toNat_lt
   have K:=Aw A
   clear A
   have aF:a.cell? ⟨ab,ad,none⟩=some (.int .u8 g):=by rw[K.out];exact Ga J
   clear J
   go_wp2_with (first|go_skip|(with_reducible refine Fx 75 ?_))
   have ae:g*2^(8*k)<4294967296:=by
    have I:2^(8*k)≤2^24:=Nat.pow_le_pow_right (by decide) (by omega)
    have o:g*2^(8*k)≤255*2^24:=Nat.mul_le_mul (by omega) I
    omega
   obtain⟨y,L⟩:∃y,y=g*2^(8*k):=⟨_,D⟩
   have M:=Aw L
   have af:y<4294967296:=by omega
   clear L
   refine⟨P1 D D (p:=g) (n:=8*k) (i:=8*(k:Int)) D D (by simp) (by omega) ae y M.out.symm ?_⟩
   go_wp2_with (first|go_skip|(with_reducible refine Fx 75 ?_))
   obtain⟨z,B⟩:∃z,z=x|||y:=⟨_,D⟩
   have ag:Hid (z=HH l n (k+1)):=Aw (by rw[B,h.out,M.out,K.out];rfl)
   have ah:=Aw B
   clear B
   refine⟨P8 D D (p:=x) (q:=y) D D u af z ah.out.symm ?_⟩
   go_wp2
   go_round
   case rel=>exact⟨k+1,z,by omega,by go_num,D,ag⟩
   case measure=>simp[intOf];omega
  ·have ai:k=4:=by omega
   subst ai
   have C:x=Af.stored l n:=by rw[h.out,RD]
   have u:x<4294967296:=by rw[C];exact Af.NC _ _
   have aj:=Aw C
   clear C h
   go_wp2_with (first|go_skip|(with_reducible refine Gr ?_))
   refine⟨HK A0 D (.tmp 32) (.tmp 33) D (y:=q) (n:=m) (c:=c) D n D (by omega) ?_⟩
   go_wp2_with (first|go_skip|(go_at_call 68;with_reducible refine C5 ?_))
   refine⟨(IN q n c (l.take n) a (H.pre n (by omega) Y) (by rw[List.length_take];omega)).mono ?_⟩
   rintro e N ⟨rfl,b2⟩
   obtain⟨s,r⟩:∃s,s=Af.sum (l.take n):=⟨_,D⟩
   have s1:s<4294967296:=by rw[r];exact Af.GP _
   rw[←r]
   obtain⟨d,Ab⟩:∃d,d=s^^^x:=⟨_,D⟩
   have O:Hid (d=Af.Cj l n):=Aw (by rw[Ab,r,aj.out];rfl)
   have d1:d<4294967296:=by rw[O.out];exact Af.P6 _ _
   have ak:=Aw Ab
   clear r Ab
   have al:Hid (N.heap[AU]? =some (.cells cs Az (0,0))):=Aw ((b2.block _ (by omega)).trans aa.out)
   go_wp2_with (first|go_skip|(with_reducible refine Fx 75 ?_))
   refine⟨JH D D (p:=s) (q:=x) D D s1 u d ak.out.symm ?_⟩
   go_wp2_with (first|go_skip|(go_at_call 67;with_reducible refine C5 ?_))
   refine⟨(find_spec AU Bc n d cs Az N al.out (S.below (b1.trans (b2.mono (by omega)))) T U d1).mono ?_⟩
   rintro e P ⟨rfl,t3⟩
   have Q:Ju n d=.tuple #[.int .i64 0,.bool false]:=by unfold Ju;rw[O.out,V]
   rw[Q]
   have E:GN w P AU Bc n cs Az:=by
    obtain⟨an,r1,r2⟩:=t3
    exact⟨an,Ij (Hy (Hy (Ki w (some AU)) b1) b2) r1,r2⟩
   clear t3 Q
   go_wp2_with (first|go_skip|(with_reducible refine JK 3 ?_))
   refine⟨E9 D 3 D (z:=.int .i64 0) (by kernel_rfl) ?_⟩
   intro aG ao o aq
   simp only[Value.cells]at o
   have R:=Aw o
   have t4:=E.below W aq
   clear o
   go_wp2_with (first|go_skip|(with_reducible refine Hj 3 ?_))
   refine⟨L' D 3 (.tmp 10) (.tmp 39) D (b:=P.heap.size) (off:=0) (v:=.int .i64 0) D R.out D D (by kernel_rfl) (by decide) ?_⟩
   intro aH ar au av
   have t5:=t4.other av (by have:=E.size;omega) (by have:=E.size;omega) ⟨_,_,R.out⟩
   clear au ao ar
   go_wp2
   go_ret2
   exact⟨D,t5⟩
end Go.Proofs.YtcdaflcjhimimaaGreatDoor
namespace Go.Proofs.YtcdaflcjhimimaaGreatDoor
open Go.RowKit
variable {x y:Operand} {t u e Az:TypeId} {v z:Value} {k:IntKind} {b n off i j c size bytes fuel:Nat} {p q r:Int} {fn:Func} {R:Ending→World→Prop} {op:Op} {o CX:Oper} {BU:TypeDesc} {xs:List Value} {cs:Array Value} {A4:World→Prop} {listed:Array Bool}
def Db:=Nat→Option Value
def Je:Db:=fun _=>none
def Ja(f:Db)(d:Nat)(v:Value):Db:=fun k=>cond (Nat.beq d k) (some v) (f k)
def NQ(l:List Value):Db:=fun k=>l[k]?
structure Ao (U:Nat) (a:Act) (f:Db):Prop where
 d:a.defers=[]
 n:a.tmps.size=U
 h:∀k v,f k=some v→a.tmps.getD k undef=v
def Sub(f g:Db):Prop:=∀k v,g k=some v→f k=some v
theorem Sub.Je(f:Db):Sub f Je:=fun _ _ h=>by cases h
theorem Nc(f:Db)(d:Nat)(v:Value):Ja f d v d=some v:=by simp[Ja]
theorem NB(f:Db){d k:Nat}(v:Value)(h:d≠k):Ja f d v k=f k:=by
 unfold Ja
 cases a:Nat.beq d k with
 |false=>rfl
 |true=>exact absurd (Nat.eq_of_beq_eq_true a) h
theorem Sub.Ja{f g:Db}(b:Sub f g){d:Nat}(h:f d=some v):Sub f (Ja g d v):=by
 intro k u a
 by_cases e:d=k
 ·subst e;rw[Nc]at a;rw[←a];exact h
 ·rw[NB _ _ e]at a;exact b k u a
theorem Ao.sub{U:Nat}{a:Act}{f g:Db}(b:Ao U a f)(h:Sub f g):Ao U a g:=⟨b.d,b.n,fun k v c=>b.h k v (h k v c)⟩
theorem Uz(t:Array Value)(d k:Nat)(v:Value)(Ab:d<t.size):(t.setIfInBounds d v).getD k undef=if k=d then v else t.getD k undef:=by
 simp only[Array.getD_eq_getD_getElem?,Array.getElem?_setIfInBounds]
 by_cases h:k=d
 ·subst h;simp[Ab]
 ·rw[if_neg (Ne.symm h),if_neg h]
theorem Ao.put{U:Nat}{a:Act}{f:Db}(b:Ao U a f){d:Nat}(Ab:Nat.blt d U=true)(v:Value):Ao U (a.put (some d) v) (Ja f d v):=by
 have g:d<a.tmps.size:=by
  rw[b.n]
  have:=Nat.le_of_ble_eq_true Ab
  omega
 refine⟨b.d,by simp[Act.put,b.n],fun k u c=>?_⟩
 show(a.tmps.setIfInBounds d v).getD k undef=u
 rw[Uz _ _ _ _ g]
 by_cases e:d=k
 ·subst e;rw[Nc]at c;simpa using c
 ·rw[NB _ _ e]at c;rw[if_neg (Ne.symm e)];exact b.h k u c
theorem Ao.Qt{U:Nat}{a:Act}{f:Db}(b:Ao U a f)(v:Value):Ao U (a.put none v) f:=b
theorem Ao.HN{U:Nat}{a:Act}{f:Db}(b:Ao U a f)(d:Nat){u:Value}(h:f d=some v)(e:v=u):Ao U a (Ja f d u):=by
 refine⟨b.d,b.n,fun k x c=>?_⟩
 by_cases q:d=k
 ·subst q;rw[Nc]at c;subst e;cases c;exact b.h _ _ h
 ·rw[NB _ _ q]at c;exact b.h k x c
def Au(f:Db):Operand→Option Value
 |.tmp t=>f t
 |.const v=>some v
 |.global g=>some (.pointer (some ⟨g,0,none⟩))
 |.func g=>some (.func (.func g) #[] #[])
theorem Ao.CL{U:Nat}{a:Act}{f:Db}(b:Ao U a f)(h:Au f x=some v):a.eval x=v:=by
 cases x with
 |tmp t=>exact b.h t v h
 |const u=>cases h;rfl
 |global g=>cases h;rfl
 |func g=>cases h;rfl
section
variable {P:Program} {w w':World} {ops:Array Oper} {rest:List Oper} {a:Act} {Ac:Exit→Act→World→Prop} {U:Nat} {f:Db} {d:Nat} {ty:TypeId} {pos:String} {AF:Array Edge} {dst:Option Tmp} {g:Option (Nat×Bool)}
theorem Uc{d:FuncId}{c:Code}{args:Array Value}(e:P.funcs[d]? =some fn)(f:fn.body=some c)(U:Nat)(hn:args.size+(fn.ntmps - args.size)=U)
 (h:∀a,Ao U a (NQ args.toList)→c.wp P (bodyPost P fn R) a w):Calls P d args w R:=by
 refine calls_of_wp e f (h _ ⟨D,by simpa using hn,fun k v b=>?_⟩)
 unfold NQ at b
 simp only[Array.getD_eq_getD_getElem?]
 rw[Array.getElem?_append]
 have g:k<args.size:=by
  rcases Nat.lt_or_ge k args.size with q|q
  ·exact q
  ·rw[List.getElem?_eq_none (by simpa using q)]at b;cases b
 rw[if_pos g]
 rw[Array.getElem?_toList]at b
 rw[b]
 rfl
theorem XF(h:Ac .normal a w):Exit.inBlock i Ac (.exit i) a w:=by show(if i=i then _ else _);rw[if_pos D];exact h
theorem Y9(b:Nat.beq j i=false)(h:Ac (.exit j) a w):Exit.inBlock i Ac (.exit j) a w:=by
 show(if j=i then _ else _)
 rw[if_neg (fun e=>by rw[e,Nat.beq_refl]at b;cases b)]
 exact h
theorem X3(b:Ao U a f){t:Nat}(c:fn.results=#[.tmp t])(e:f t=some v)(h:R (.returned v) w):bodyPost P fn R .ret a w:=
 ⟨b.d,v,by rw[results_tmp c,b.h t v e],h⟩
theorem VJ(b:Ao U a f){t u:Nat}(c:fn.results=#[.tmp t,.tmp u]){BL:Value}(e:f t=some v)(hu:f u=some BL)(h:R (.returned (.tuple #[v,BL])) w):bodyPost P fn R .ret a w:=
 ⟨b.d,.tuple #[v,BL],by rw[results_tmp2 c,b.h t v e,b.h u BL hu],h⟩
theorem Ec(b:Ao U a f)(c:fn.results=#[])(h:R (.returned (.tuple #[])) w):bodyPost P fn R .ret a w:=
 ⟨b.d,.tuple #[],by rw[results_none c],h⟩
theorem FD(h:bodyPost P fn R .ret a w):bodyPost P fn R .normal a w:=h
theorem Zb(c:Ao U a f){t:Nat}(e:fn.results=#[.cell t Az])(g:f t=some (.pointer (some ⟨b,off,none⟩)))(xs:List Value)(i:Cells w b off xs)
 (hu:P.underlying Az=some BU)(Ab:BU.isRow=true)(j:(P.info? Az).map (·.size)=some xs.length)(h:R (.returned (.agg xs.toArray)) w):bodyPost P fn R .ret a w:=by
 refine⟨c.d,.agg xs.toArray,?_,h⟩
 have k:=run_loadAt_mid (P:=P) w b off Az xs BU i hu Ab j
 have he:=c.h t _ g
 have l:(loadVar Az ⟨b,off,none⟩).run P w=.ok (.agg xs.toArray) w:=by simpa[Instr.loadAt,Instr.sureAddr]using k
 rw[Array.getD_eq_getD_getElem?]at he
 simp[results,e,he,asAddr,l]
theorem Yz(c:Ao U a f){t u:Nat}(g:fn.results=#[.cell t Az,.tmp u]){BL:Value}(i:f t=some (.pointer (some ⟨b,off,none⟩)))(j:f u=some BL)(xs:List Value)(k:Cells w b off xs)
 (hu:P.underlying Az=some BU)(Ab:BU.isRow=true)(l:(P.info? Az).map (·.size)=some xs.length)(h:R (.returned (.tuple #[.agg xs.toArray,BL])) w):bodyPost P fn R .ret a w:=by
 refine⟨c.d,.tuple #[.agg xs.toArray,BL],?_,h⟩
 have m:=run_loadAt_mid (P:=P) w b off Az xs BU k hu Ab l
 have he:=c.h t _ i
 have e:=c.h u _ j
 have n:(loadVar Az ⟨b,off,none⟩).run P w=.ok (.agg xs.toArray) w:=by simpa[Instr.loadAt,Instr.sureAddr]using m
 rw[Array.getD_eq_getD_getElem?]at he e
 simp[results,g,he,e,asAddr,n]
theorem S5(c:Ao U a f){t u:Nat}(g:fn.results=#[.tmp u,.cell t Az]){BL:Value}(i:f t=some (.pointer (some ⟨b,off,none⟩)))(j:f u=some BL)(xs:List Value)(k:Cells w b off xs)
 (hu:P.underlying Az=some BU)(Ab:BU.isRow=true)(l:(P.info? Az).map (·.size)=some xs.length)(h:R (.returned (.tuple #[BL,.agg xs.toArray])) w):bodyPost P fn R .ret a w:=by
 refine⟨c.d,.tuple #[BL,.agg xs.toArray],?_,h⟩
 have m:=run_loadAt_mid (P:=P) w b off Az xs BU k hu Ab l
 have he:=c.h t _ i
 have e:=c.h u _ j
 have n:(loadVar Az ⟨b,off,none⟩).run P w=.ok (.agg xs.toArray) w:=by simpa[Instr.loadAt,Instr.sureAddr]using m
 rw[Array.getD_eq_getD_getElem?]at he e
 simp[results,g,he,e,asAddr,n]
theorem Cb{c:Code}(j:Nat→Act→World→Prop)(p:Nat)(s:j p a w)
 (round:∀n a w,j n a w→c.wp P (Exit.then (fun d w'=>∃m,m<n∧j m d w') Ac) a w):(Code.loop c).wp P Ac a w:=by
 intro b k cs
 have key:∀n a w,j n a w→∃e d w',Ac e d w'∧Arrives P (lone (b.at a (.code c:: .inLoop c::k)) cs w) b k cs e d w':=by
  intro n
  induction n using Nat.strongRecOn with
  |_ n t=>
   intro a w u
   obtain⟨e,f,g,h,i⟩:=round n a w u b (.inLoop c::k) cs
   cases e with
   |normal=>
    obtain⟨m,v,x⟩:=h
    obtain⟨y,z,A,B,C⟩:=t m v f g x
    exact⟨y,z,A,B,.of_steps (Steps.trans i (.one step_inLoop)) C⟩
   |exit id=>exact⟨.exit id,f,g,h,fun k' o=>i k' (by simp[exitTo,o])⟩
   |goto l=>exact⟨.goto l,f,g,h,fun k' o=>i k' (by simp[gotoIn,o])⟩
   |ret=>exact⟨.ret,f,g,h,i⟩
   |panic B4=>exact⟨.panic B4,f,g,h,i⟩
   |outgrown=>exact⟨.outgrown,f,g,h,i⟩
 obtain⟨e,d,w',q,r⟩:=key p a w s
 exact⟨e,d,w',q,.of_steps (.one step_loop) r⟩
end
section
variable {P:Program} {w w':World} {ops:Array Oper} {rest:List Oper} {a:Act} {Ac:Exit→Act→World→Prop} {U:Nat} {f:Db} {d:Nat} {ty:TypeId} {pos:String} {AF:Array Edge} {dst:Option Tmp} {g:Option (Nat×Bool)}
structure DP (P:Program) (o:Oper) (a:Act) (w:World) (Aa:Act→World→Prop) (Ac:Exit→Act→World→Prop):Prop where
 out:o.wp P a w Aa Ac
theorem T9(c:Ao U a f)(Ab:Nat.blt d U=true)(e:(execOp a.eval ⟨some d,op,ty,pos,AF,none⟩).run P w=.ok (.value v) w')
 (h:∀b,Ao U b (Ja f d v)→wpList P ops Ac rest b w'):wpList P ops Ac (⟨some d,op,ty,pos,AF,none⟩::rest) a w:=
 val D e (h _ (c.put Ab v))
theorem Dy(Ab:Nat.blt d U=true)(e:∀a,Ao U a f→(execOp a.eval ⟨some d,op,ty,pos,AF,none⟩).run P w=.ok (.value v) w')
 (h:∀b,Ao U b (Ja f d v)→wpList P ops Ac rest b w'):∀a,Ao U a f→wpList P ops Ac (⟨some d,op,ty,pos,AF,none⟩::rest) a w:=
 fun a c=>T9 c Ab (e a c) h
theorem Bj(b:o.guard=none)(h:∀Aa:Act→World→Prop,(∀a w,wpList P ops Ac rest a w→Aa a w)→DP P o a w Aa Ac):wpList P ops Ac (o::rest) a w:=wpList_plain b (fun Aa c=>(h Aa c).out)
theorem DI{Aa:Act→World→Prop}(c:Ao U a f)(Ab:Nat.blt d U=true)(e:(execOp a.eval ⟨some d,op,ty,pos,AF,g⟩).run P w=.ok (.value v) w')
 (h:∀b,Ao U b (Ja f d v)→Aa b w'):DP P ⟨some d,op,ty,pos,AF,g⟩ a w Aa Ac:=by
 refine⟨?_⟩
 unfold Oper.wp
 rw[e]
 exact h _ (c.put Ab v)
theorem O6{Aa:Act→World→Prop}(c:Ao U a f)(d:(execOp a.eval ⟨none,op,ty,pos,AF,g⟩).run P w=.ok .skip w')
 (h:∀b,Ao U b f→Aa b w'):DP P ⟨none,op,ty,pos,AF,g⟩ a w Aa Ac:=by
 refine⟨?_⟩
 unfold Oper.wp
 rw[d]
 exact h _ (c.Qt undef)
theorem JV{t:Array Value}{k:Nat}{b:Bool}(h:t.getD k undef=.bool b):t[k]? =some (.bool b):=by
 rw[Array.getD_eq_getD_getElem?]at h
 cases a:t[k]? with
 |none=>rw[a]at h;simp[undef]at h
 |some u=>rw[a]at h;simp at h;rw[h]
theorem Re{t:Bool}(b:o.guard=some (j,t))(c:ops[j]? =some CX){k:Nat}(d:CX.dst=some k)(e:Ao U a f)(g:f k=some (.bool t))
 (h:∀Aa:Act→World→Prop,(∀a w,wpList P ops Ac rest a w→Aa a w)→DP P o a w Aa Ac):wpList P ops Ac (o::rest) a w:=by
 have hw:Region.wanted o (yielded ops a.tmps)=true:=by
  have:=JV (e.h k _ g)
  simp[Region.wanted,b,yielded,c,d,this]
 unfold wpList
 rw[if_pos hw]
 exact .inl (h _ (fun _ _ q=>q)).out
theorem Vs{t:Bool}(e:o.guard=some (j,!t))(g:ops[j]? =some CX){k:Nat}(i:CX.dst=some k)(b:Ao U a f)(l:f k=some (.bool t))(Ab:o.dst=some d)(m:Nat.blt d U=true)
 (h:∀c,Ao U c (Ja f d undef)→wpList P ops Ac rest c w):wpList P ops Ac (o::rest) a w:=by
 have hw:Region.wanted o (yielded ops a.tmps)=false:=by
  have:=JV (b.h k _ l)
  cases t<;>simp[Region.wanted,e,yielded,g,i,this]
 unfold wpList
 rw[if_neg (by rw[hw];decide),Ab]
 exact h _ (b.put m undef)
theorem Vz{t:Array Value}{k:Nat}(h:t.getD k undef=undef):∀b,t[k]? ≠some (.bool b):=by
 intro b a
 rw[Array.getD_eq_getD_getElem?,a]at h
 simp[undef]at h
theorem Y8{t:Bool}(g:o.guard=some (j,t))(i:ops[j]? =some CX){k:Nat}(l:CX.dst=some k)(c:Ao U a f)(m:f k=some undef)(Ab:o.dst=some d)(n:Nat.blt d U=true)
 (h:∀e,Ao U e (Ja f d undef)→wpList P ops Ac rest e w):wpList P ops Ac (o::rest) a w:=by
 have hw:Region.wanted o (yielded ops a.tmps)=false:=by
  have:=Vz (c.h k _ m)
  simp only[Region.wanted,g,yielded,i,l,Option.bind_some]
  cases p:a.tmps[k]? with
  |none=>rfl
  |some u=>cases u<;>first|rfl|(rename_i b;exact absurd p (this b))
 unfold wpList
 rw[if_neg (by rw[hw];decide),Ab]
 exact h _ (c.put n undef)
abbrev Cy(P:Program)(a:Act)(w:World)(o:Oper)(v:Value)(w':World):Prop:=(execOp a.eval o).run P w=.ok (.value v) w'
theorem Ew(b:Ao U a f)(c:Au f x=some v):Cy P a w ⟨dst,.move x,ty,pos,AF,g⟩ v w:=by
 show(execOp a.eval _).run P w=_
 simp[execOp,b.CL c]
theorem Kb(b:Ao U a f)(c:Au f x=some v):Cy P a w ⟨dst,.assign x,ty,pos,AF,g⟩ v w:=by
 show(execOp a.eval _).run P w=_
 simp[execOp,b.CL c]
theorem Lz(b:Ao U a f){p:Addr}(c:Au f x=some (.pointer (some p))):Cy P a w ⟨dst,.nilCheck x,ty,pos,AF,g⟩ (.pointer (some p)) w:=by
 show(execOp a.eval _).run P w=_
 simp[execOp,b.CL c]
theorem Nt(b:Ao U a f)(d:P.underlying t=some (.slice e)){p:Option Addr}(h:Au f x=some (.slice p n c)):Cy P a w ⟨dst,.call {callee:=.builtin .len,args:=#[x],argTypes:=#[t]},ty,pos,AF,g⟩ (.int .i64 n) w:=by
 show(execOp a.eval _).run P w=_
 simp[execOp,resolve,invoke,builtin,Builtin.len_,run_underlying d,b.CL h,goInt]
theorem RA(b:Ao U a f){CQ:Array Value}(c:Au f x=some (.tuple CQ))(d:CQ[i]? =some v):Cy P a w ⟨dst,.extract x i,ty,pos,AF,g⟩ v w:=by
 show(execOp a.eval _).run P w=_
 simp[execOp,b.CL c,Instr.extract,d]
theorem M1(b:Ao U a f){c:Operand}(d:Au f c=some (.bool true))(e:Au f x=some v):Cy P a w ⟨dst,.pick c x y,ty,pos,AF,g⟩ v w:=by
 show(execOp a.eval _).run P w=_
 simp[execOp,b.CL d,b.CL e,asBool]
theorem Oe(b:Ao U a f){c:Operand}(d:Au f c=some (.bool false))(e:Au f y=some v):Cy P a w ⟨dst,.pick c x y,ty,pos,AF,g⟩ v w:=by
 show(execOp a.eval _).run P w=_
 simp[execOp,b.CL d,b.CL e,asBool]
theorem LN(c:Ao U a f){b:Bool}(d:Au f x=some (.bool b)):Cy P a w ⟨dst,.unOp .not t x,ty,pos,AF,g⟩ (.bool (!b)) w:=by
 show(execOp a.eval _).run P w=_
 simp[execOp,c.CL d,Op.unary]
theorem JA(h:Ao U a f){s:TypeId}(j:Au f x=some (.pointer (some ⟨b,off,none⟩))){e:Array Field}(hu:P.underlying s=some (.struct e)){Cs:Field}(k:e[i]? =some Cs)
 {sz:Nat}(c:(P.info? Cs.type).map (·.size)=some (sz+1):=by kernel_rfl){o:Nat}(l:off+Cs.offset=o:=by first|rfl|omega):Cy P a w ⟨dst,.fieldAddr s x i,ty,pos,AF,g⟩ (.pointer (some ⟨b,o,none⟩)) w:=by
 show(execOp a.eval _).run P w=_
 subst l
 cases d:P.info? Cs.type with
 |none=>simp[d]at c
 |some m=>
  simp[d]at c
  simp[execOp,h.CL j,Instr.fieldAt,run_underlying hu,k,Instr.sureAddr,fieldPlace,sizeOf,typeInfo,d,c,GO]
theorem EH(b:Ao U a f){op:BinOp}{p q:Value}(c:Au f x=some p)(d:Au f y=some q)(e:(eqGuard op t x y p q).run P w=.ok () w)(h:(binOp op t p q).run P w=.ok v w):Cy P a w ⟨dst,.binOp op t x y u,ty,pos,AF,g⟩ v w:=by
 show(execOp a.eval _).run P w=_
 simp[execOp,b.CL c,b.CL d,e,h]
theorem Lq(b:Ao U a f){p q r:Nat}(c:Au f x=some (.int .i64 p))(d:Au f y=some (.int .i64 q))(e:p+q=r)(h:r≤9223372036854775807):Cy P a w ⟨dst,.binOp .add t x y u,ty,pos,AF,g⟩ (.int .i64 r) w:=by
 refine EH b c d (by simp[eqGuard]) ?_
 have:IntKind.i64.wrap ((p:Int)+q)=(r:Int):=by rw[←e];exact IntWalk.i64_in _ (by omega)
 simp[binOp,Op.intArith,this]
theorem Lg(b:Ao U a f){p q r:Nat}(c:Au f x=some (.int .i64 p))(d:Au f y=some (.int .i64 q))(e:p=q+r)(h:p≤9223372036854775807):Cy P a w ⟨dst,.binOp .sub t x y u,ty,pos,AF,g⟩ (.int .i64 r) w:=by
 refine EH b c d (by simp[eqGuard]) ?_
 have:IntKind.i64.wrap ((p:Int) - q)=(r:Int):=by rw[e,show((q+r:Nat):Int) - q=r by omega];exact IntWalk.i64_in _ (by omega)
 simp[binOp,Op.intArith,this]
theorem Sd(b:Ao U a f){p q r:Nat}(c:Au f x=some (.int .i64 p))(d:Au f y=some (.int .i64 q))(e:p*q=r)(h:r≤9223372036854775807):Cy P a w ⟨dst,.binOp .mul t x y u,ty,pos,AF,g⟩ (.int .i64 r) w:=by
 refine EH b c d (by simp[eqGuard]) ?_
 have:IntKind.i64.wrap ((p:Int)*q)=(r:Int):=by rw[←e,show((p:Int)*q)=((p*q:Nat):Int)by simp];exact IntWalk.i64_in _ (by omega)
 simp[binOp,Op.intArith,this]
theorem Pt(c:Ao U a f){p q r:Nat}(d:Au f x=some (.int .i64 p))(e:Au f y=some (.int .i64 q))(h:p/q=r)(k:0<q)(l:p≤9223372036854775807):Cy P a w ⟨dst,.binOp .quo t x y u,ty,pos,AF,g⟩ (.int .i64 r) w:=by
 refine EH c d e (by simp[eqGuard]) ?_
 have b:Int.tdiv (p:Int) q=((p/q:Nat):Int):=by rw[Int.tdiv_eq_ediv_of_nonneg (by omega)];rfl
 have m:p/q≤p:=Nat.div_le_self _ _
 have:IntKind.i64.wrap (Int.tdiv (p:Int) q)=(r:Int):=by rw[b,h];exact IntWalk.i64_in _ (by omega)
 have i:¬q=0:=by omega
 have j:(p:Int)/q=((p/q:Nat):Int):=D
 rw[b,←j]at this
 simp[binOp,Op.intDiv,this,i]
theorem PK(b:Ao U a f){p q r:Nat}(c:Au f x=some (.int .i64 p))(d:Au f y=some (.int .i64 q))(e:p % q=r)(j:0<q):Cy P a w ⟨dst,.binOp .rem t x y u,ty,pos,AF,g⟩ (.int .i64 r) w:=by
 refine EH b c d (by simp[eqGuard]) ?_
 have h:Int.tmod (p:Int) q=((p % q:Nat):Int):=by rw[Int.tmod_eq_emod_of_nonneg (by omega)];rfl
 have i:¬q=0:=by omega
 simp[binOp,Op.intDiv,h,i,e]
theorem Gz(b:Ao U a f)(c:Au f x=some (.int k p))(d:Au f y=some (.int k q))(e:k.wrap (p+q)=r):Cy P a w ⟨dst,.binOp .add t x y u,ty,pos,AF,g⟩ (.int k r) w:=by
 refine EH b c d (by simp[eqGuard]) ?_
 simp[binOp,Op.intArith,e]
theorem LY(b:Ao U a f)(c:Au f x=some (.int k p))(d:Au f y=some (.int k q))(e:k.wrap (p - q)=r):Cy P a w ⟨dst,.binOp .sub t x y u,ty,pos,AF,g⟩ (.int k r) w:=by
 refine EH b c d (by simp[eqGuard]) ?_
 simp[binOp,Op.intArith,e]
theorem OM(b:Ao U a f)(c:Au f x=some (.int k p))(d:Au f y=some (.int k q))(e:k.wrap (p*q)=r):Cy P a w ⟨dst,.binOp .mul t x y u,ty,pos,AF,g⟩ (.int k r) w:=by
 refine EH b c d (by simp[eqGuard]) ?_
 simp[binOp,Op.intArith,e]
theorem Wd(b:Ao U a f)(c:Au f x=some (.int k p))(d:Au f y=some (.int k q))(e:q≠0)(h:p.tmod q=r):Cy P a w ⟨dst,.binOp .rem t x y u,ty,pos,AF,g⟩ (.int k r) w:=by
 refine EH b c d (by simp[eqGuard]) ?_
 simp[binOp,Op.intDiv,h,e]
theorem Kd(b:Ao U a f)(c:Au f x=some (.int k p))(d:Au f y=some (.int k q))(r:Bool)(e:decide (p<q)=r):Cy P a w ⟨dst,.binOp .lss t x y u,ty,pos,AF,g⟩ (.bool r) w:=by
 subst e
 refine EH b c d (by simp[eqGuard]) ?_
 simp[binOp,Op.intCmp]
theorem Ng(b:Ao U a f)(c:Au f x=some (.int k p))(d:Au f y=some (.int k q))(r:Bool)(e:decide (p≤q)=r):Cy P a w ⟨dst,.binOp .leq t x y u,ty,pos,AF,g⟩ (.bool r) w:=by
 subst e
 refine EH b c d (by simp[eqGuard]) ?_
 simp[binOp,Op.intCmp]
theorem JP(b:Ao U a f)(c:Au f x=some (.int k p))(d:Au f y=some (.int k q))(r:Bool)(e:decide (q<p)=r):Cy P a w ⟨dst,.binOp .gtr t x y u,ty,pos,AF,g⟩ (.bool r) w:=by
 subst e
 refine EH b c d (by simp[eqGuard]) ?_
 simp[binOp,Op.intCmp]
theorem Lb(b:Ao U a f)(c:Au f x=some (.int k p))(d:Au f y=some (.int k q))(r:Bool)(e:decide (q≤p)=r):Cy P a w ⟨dst,.binOp .geq t x y u,ty,pos,AF,g⟩ (.bool r) w:=by
 subst e
 refine EH b c d (by simp[eqGuard]) ?_
 simp[binOp,Op.intCmp]
theorem IT(b:Ao U a f)(c:Au f x=some (.int k p))(d:Au f y=some (.int k q))(r:Bool)(e:decide (p=q)=r):Cy P a w ⟨dst,.binOp .eql t x y u,ty,pos,AF,g⟩ (.bool r) w:=by
 subst e
 refine EH b c d (by simp[eqGuard]) ?_
 simp[binOp,Op.intCmp]
 try rfl
theorem JX(b:Ao U a f)(c:Au f x=some (.int k p))(d:Au f y=some (.int k q))(r:Bool)(e:(!decide (p=q))=r):Cy P a w ⟨dst,.binOp .neq t x y u,ty,pos,AF,g⟩ (.bool r) w:=by
 subst e
 refine EH b c d (by simp[eqGuard]) ?_
 simp[binOp,Op.intCmp,bne]
 try rfl
theorem Eh(c:Ao U a f){op:BinOp}(b:op=.and∨op=.or∨op=.xor)(d:Au f x=some (.int k p))(e:Au f y=some (.int k q))(h:bits op k p q=r):Cy P a w ⟨dst,.binOp op t x y u,ty,pos,AF,g⟩ (.int k r) w:=by
 subst h
 refine EH c d e (by rcases b with rfl|rfl|rfl<;>simp[eqGuard]) ?_
 rcases b with rfl|rfl|rfl<;>(unfold binOp;simp only[ne_eq,not_true_eq_false,if_false];rfl)
theorem HQ(b:Ao U a f){k':IntKind}{p r:Nat}(c:Au f x=some (.int k p))(d:Au f y=some (.int k' n))(hn:n≤k.bits)(e:p/2^n=r):Cy P a w ⟨dst,.binOp .shr t x y u,ty,pos,AF,g⟩ (.int k r) w:=by
 subst e
 refine EH b c d (by simp[eqGuard]) ?_
 unfold binOp
 simp only
 rw[shift_shr_any _ _ _ _ (by omega),Sem.run_pure]
 have:min (n:Int).toNat k.bits=n:=by simp;omega
 rw[this]
 congr 2
theorem JC(b:Ao U a f){k':IntKind}{p:Nat}(c:Au f x=some (.int k p))(d:Au f y=some (.int k' n))(hn:n≤k.bits)(e:k.wrap ((p*2^n:Nat):Int)=r):Cy P a w ⟨dst,.binOp .shl t x y u,ty,pos,AF,g⟩ (.int k r) w:=by
 subst e
 refine EH b c d (by simp[eqGuard]) ?_
 unfold binOp
 simp only
 rw[shift_shl_any _ _ _ _ (by omega),Sem.run_pure]
 have:min (n:Int).toNat k.bits=n:=by simp;omega
 rw[this,show((p:Int)*2^n)=((p*2^n:Nat):Int)by simp]
theorem OT(c:Ao U a f){p:Nat}(d:Au f x=some (.int .u32 p))(b:p<4294967296):Cy P a w ⟨dst,.unOp .xor t x,ty,pos,AF,g⟩ (.int .u32 ((Af.inv p:Nat):Int)) w:=by
 show(execOp a.eval _).run P w=_
 simp only[execOp,c.CL d]
 have e:bits .xor .u32 ((4294967295:Nat):Int) (p:Int)=_:=u32_xor_nat 4294967295 p (by decide) b
 rw[Nat.xor_comm,←Af.KS b]at e
 have h:(Op.unary .xor (.int .u32 p)).run P w=.ok (.int .u32 ((Af.inv p:Nat):Int)) w:=by
  show(Op.intBits .xor .u32 ((4294967295:Nat):Int) p).run P w=_
  simp only[Op.intBits]
  unfold bits at e
  simp only at e
  rw[Sem.run_pure,e]
 simp only[Sem.run_bind,h,Result.andThen_ok,Sem.run_pure]
theorem C3(b:Ao U a f){s:TypeId}{k':IntKind}(c:Au f x=some (.int k p))(d:P.underlying s=some (.int k))(e:P.underlying t=some (.int k'))(h:k'.wrap p=r):Cy P a w ⟨dst,.convert s t x,ty,pos,AF,g⟩ (.int k' r) w:=by
 show(execOp a.eval _).run P w=_
 simp only[execOp,b.CL c]
 simp[convert,run_underlying d,run_underlying e,Conv.intToInt,h]
end
def flat(ss:List (List Value)):Array Value:=ss.flatten.toArray
theorem N1(ss:List (List Value)):(flat ss).size=ss.flatten.length:=by simp[flat]
theorem Cells.one{w:World}{o:Nat}(h:Cells w b o [v]):w.cell? ⟨b,o,none⟩=some v:=by simpa using h 0 v D
theorem Fw(n:Nat):IntKind.u8.wrap (n:Int)=(((UInt8.ofNat n).toNat:Nat):Int):=by
 rw[IntKind.wrap_u8']
 simp
theorem wrap_u32(n:Nat):IntKind.u32.wrap (n:Int)=((n % 4294967296:Nat):Int):=by rw[IntKind.wrap_u32'];omega
theorem KE(n:Nat)(h:n<4294967296):IntKind.u32.wrap (n:Int)=(n:Int):=by rw[wrap_u32,Nat.mod_eq_of_lt h]
theorem HY(n:Nat)(h:n<18446744073709551616:=by omega):IntKind.u64.wrap (n:Int)=(n:Int):=by
 rw[IntKind.wrap_u64]
 omega
theorem GR(n:Nat)(h:n<9223372036854775808):IntKind.i64.wrap (n:Int)=(n:Int):=IntWalk.i64_in _ (by omega)
theorem Le(x:Nat)(h:x<256):Value.int .u8 ((x:Nat):Int)=.int .u8 (((UInt8.ofNat x).toNat:Nat):Int):=by
 simp
 omega
theorem YG{p:Prop}[Decidable p](h:(!decide p)=true):¬p:=by simpa using h
theorem Zf{p:Prop}[Decidable p](h:(!decide p)=false):p:=by simpa using h
theorem De{w:World}{l:List UInt8}(h:View w (.slice (some ⟨b,off,none⟩) n c) n 1 (bv l))(j:Nat)(g:j<n:=by omega){o:Nat}(d:off+j*1=o:=by first|rfl|omega):w.cell? ⟨b,o,none⟩=some (.int .u8 ((l.getD j 0).toNat:Nat)):=by
 subst d
 rcases h.2 with⟨a,_⟩|⟨i,k,cap,a,_,_,_,_,e⟩
 ·cases a
 ·simp only[Value.slice.injEq,Option.some.injEq,Addr.mk.injEq]at a
  obtain⟨⟨rfl,rfl,_⟩,_,_⟩:=a
  have f:=h.1
  simp only[D_,Nat.mul_one]at f⊢
  have:=e j (.int .u8 ((l.getD j 0).toNat:Nat)) (by
   simp[bv,show j<l.length by omega,List.getD_eq_getElem?_getD])
  exact this
theorem Ca{w:World}{q:Option Addr}(h:View w (.slice q n c) n size xs)(hn:0<n:=by omega):∃b off,q=some ⟨b,off,none⟩:=by
 obtain⟨b,off,a,_⟩:=h.some hn
 exact⟨b,off,a⟩
theorem XH{w w':World}{o:Obj}(h:w.heap[b]? =some o)(a:Below w.heap.size w w'):w'.heap[b]? =some o:=(a.block b (Array.getElem?_eq_some_iff.1 h).1).trans h
theorem Ar{w:World}{o:Obj}(h:w.heap[b]? =some o):b<w.heap.size:=(Array.getElem?_eq_some_iff.1 h).1
theorem Ia{w:World}{base:Nat}{k:Nat}{p:Option Addr}(h:w.ownsRow base e size (.slice p k c) n xs)(hn:0<n:=by omega):∃g,p=some ⟨g,0,none⟩:=by
 rcases h.2 with⟨a,b⟩|⟨g,cap,cur,a,_⟩
 ·exact absurd b (by omega)
 ·simp only[Value.slice.injEq]at a
  exact⟨g,a.1⟩
theorem Tg{w:World}{base:Nat}{g k:Nat}(h:w.ownsRow base e 1 (.slice (some ⟨g,0,none⟩) k c) n xs)(r:j<n)(u:Value):
 (w.setCell ⟨g,j,none⟩ u).ownsRow base e 1 (.slice (some ⟨g,0,none⟩) k c) n (xs.set j u)∧C' w (w.setCell ⟨g,j,none⟩ u) (.slice (some ⟨g,0,none⟩) k c) (.slice (some ⟨g,0,none⟩) k c)∧
 ∃cur,w.heap[g]? =some (.cells cur e (0,0))∧j<cur.size:=by
 rcases h.2 with⟨a,_⟩|⟨s,cap,cur,a,i,b,l,m,d,o⟩
 ·cases a
 ·have f:=a
  simp only[Value.slice.injEq,Option.some.injEq,Addr.mk.injEq]at f
  obtain⟨⟨rfl,_⟩,rfl,rfl⟩:=f
  have p:j<cur.size:=by rw[d];omega
  refine⟨⟨by rw[List.length_set];exact h.1,.inr ⟨g,c,cur.setIfInBounds j u,D,i,IX b u,l,m,by simpa using d,?_⟩⟩,⟨IF w g j u,fun k q=>.inl q⟩,cur,b,p⟩
  rw[Array.toList_setIfInBounds,List.take_set,o]
theorem ES{P:Program}{x y:Code}{Ac:Exit→Act→World→Prop}{a:Act}{w:World}(b:Act→World→Prop)(h:x.wp P (Exit.then b Ac) a w)(c:∀a w,b a w→y.wp P Ac a w):(Code.seq x y).wp P Ac a w:=
 wp_seq (wp_mono h (fun e a w q=>by
  cases e with
  |normal=>exact c a w q
  |_=>exact q))
section
variable {P:Program} {w w':World} {ops:Array Oper} {rest:List Oper} {a:Act} {Ac:Exit→Act→World→Prop} {U:Nat} {f:Db} {d:Nat} {ty:TypeId} {pos:String} {AF:Array Edge} {dst:Option Tmp} {g:Option (Nat×Bool)} {Aa:Act→World→Prop}
theorem D1(c:Ao U a f)(d:Au f x=some (.pointer (some ⟨b,off,none⟩)))(hu:P.underlying Az=some BU)(Ab:BU.isRow=false)(e:w.cell? ⟨b,off,none⟩=some v):Cy P a w ⟨dst,.load Az x,ty,pos,AF,g⟩ v w:=by
 show(execOp a.eval _).run P w=_
 have h:(isAgg Az).run P w=.ok false w:=by
  simp only[isAgg,Sem.run_bind,run_underlying hu,Result.andThen_ok]
  cases BU<;>first|rfl|simp[TypeDesc.isRow]at Ab
 simp[execOp,c.CL d,Instr.loadAt,Instr.sureAddr,loadVar,h,e]
theorem On(c:Ao U a f)(d:Au f x=some (.pointer (some ⟨b,off,none⟩)))(hu:P.underlying Az=some BU)(Ab:BU.isRow=true)(e:Cells w b off xs)(h:(P.info? Az).map (·.size)=some xs.length):Cy P a w ⟨dst,.load Az x,ty,pos,AF,g⟩ (.agg xs.toArray) w:=by
 show(execOp a.eval _).run P w=_
 have:=run_loadAt_mid (P:=P) w b off Az xs BU e hu Ab h
 simp[execOp,c.CL d,this]
theorem Fz(d:Ao U a f)(h:CN P t e size bytes z){l:Operand}(p:Au f x=some (.slice (some ⟨b,off,none⟩) n c)){i:Int}(m:Au f l=some (.int k i))(j:Nat)(r:i=j:=by omega)(s:j<n:=by omega){o:Nat}(u:off+j*size=o:=by first|rfl|omega):
 Cy P a w ⟨dst,.indexAddr t x l,ty,pos,AF,g⟩ (.pointer (some ⟨b,o,none⟩)) w:=by
 show(execOp a.eval _).run P w=_
 obtain⟨q,v,A,y,B⟩:=h.bl
 subst r
 subst u
 simp[execOp,d.CL p,d.CL m,Instr.indexAt,run_underlying h.ZJ,asIntOf,sizeOf,typeInfo,v,y,s,GO]
theorem G6(h:Ao U a f)(m:P.underlying t=some (.array n e))(c:(P.info? e).map (·.size)=some size){l:Operand}(p:Au f x=some (.pointer (some ⟨b,off,none⟩))){i:Int}(r:Au f l=some (.int k i))(j:Nat)(s:i=j:=by omega)(u:j<n:=by omega){o:Nat}(v:off+j*size=o:=by first|rfl|omega):
 Cy P a w ⟨dst,.indexAddr t x l,ty,pos,AF,g⟩ (.pointer (some ⟨b,o,none⟩)) w:=by
 show(execOp a.eval _).run P w=_
 subst s
 subst v
 cases d:P.info? e with
 |none=>simp[d]at c
 |some q=>
  simp[d]at c
  simp[execOp,h.CL p,h.CL r,Instr.indexAt,Instr.sureAddr,run_underlying m,asIntOf,sizeOf,typeInfo,d,c,u,GO]
theorem Sf(c:Ao U a f){s:TypeId}{xs:Array Value}(d:Au f x=some (.agg xs)){b:Array Field}(hu:P.underlying s=some (.struct b)){Cs:Field}(e:b[i]? =some Cs)(h:P.underlying Cs.type=some BU)(Ab:BU.isRow=false)(j:xs[Cs.offset]? =some v):
 Cy P a w ⟨dst,.field s x i,ty,pos,AF,g⟩ v w:=by
 show(execOp a.eval _).run P w=_
 have k:(isAgg Cs.type).run P w=.ok false w:=by
  simp only[isAgg,Sem.run_bind,run_underlying h,Result.andThen_ok]
  cases BU<;>first|rfl|simp[TypeDesc.isRow]at Ab
 simp[execOp,c.CL d,Instr.field,run_underlying hu,e,asAgg,part,k,j]
theorem UK(j:Ao U a f)(Ab:Nat.blt d U=true)(c:(P.info? Az).map (·.zero)=some (some z))(k:z.cells=cs)
 (h:∀b W,Ao U b (Ja f d (.pointer (some ⟨w.heap.size,0,none⟩)))→W.heap.size=w.heap.size+1→W.heap[w.heap.size]? =some (.cells cs Az (0,0))→Below w.heap.size w W→Aa b W):DP P ⟨some d,.alloc Az,ty,pos,AF,g⟩ a w Aa Ac:=by
 subst k
 refine DI (v:=.pointer (some ⟨w.heap.size,0,none⟩)) (w':=w.alloc (.cells z.cells Az)) j Ab ?_ (fun b l=>h b _ l (by simp) (heap_alloc_new w _) ((Bu _ _).alloc (Be _) _))
 cases e:P.info? Az with
 |none=>simp[e]at c
 |some i=>
  simp[e]at c
  simp[execOp,Instr.alloc,zeroValue,typeInfo,e,c,newVar,newRow,newObj]
  rfl
theorem SO(c:Ao U a f)(Ab:Nat.blt d U=true)(e:Au f x=some v)(i:v.cells=cs)
 (h:∀b W,Ao U b (Ja f d (.pointer (some ⟨w.heap.size,0,none⟩)))→W.heap.size=w.heap.size+1→W.heap[w.heap.size]? =some (.cells cs Az (0,0))→Below w.heap.size w W→Aa b W):DP P ⟨some d,.box Az x,ty,pos,AF,g⟩ a w Aa Ac:=by
 subst i
 refine DI (v:=.pointer (some ⟨w.heap.size,0,none⟩)) (w':=w.alloc (.cells v.cells Az)) c Ab ?_ (fun b j=>h b _ j (by simp) (heap_alloc_new w _) ((Bu _ _).alloc (Be _) _))
 simp[execOp,c.CL e,Instr.box,newVar,newRow,newObj]
 rfl
theorem Kx(e:Ao U a f)(n:Au f x=some (.pointer (some ⟨b,off,none⟩))){c:Array Value}{AU:TypeId}(j:w.heap[b]? =some (.cells c AU (0,0)))(o:Au f y=some v)(p:v.oneCell'=true)(k:(P.info? Az).map (·.size)=some 1)(q:off<c.size)
 {m:Array Value}(r:c.setIfInBounds off v=m)
 (h:∀d W,Ao U d f→W.heap.size=w.heap.size→W.heap[b]? =some (.cells m AU (0,0))→w.grownBy W (some b)→Aa d W):DP P ⟨none,.store Az x y,ty,pos,AF,g⟩ a w Aa Ac:=by
 subst r
 refine O6 (w':=w.setCell ⟨b,off,none⟩ v) e ?_ (fun d s=>h d _ s (by simp) (IX j v) (IF w b off v))
 have t:v.cells=#[v]:=by cases v<;>simp_all [Value.oneCell',Value.cells]
 have u:w.cell? ⟨b,off,none⟩=some c[off]:=by rw[cell_of_row w b off c AU _ j];simp[q]
 have z:w.frozen? ⟨b,off,none⟩=false:=frozen_of_row w b off c AU j
 cases l:P.info? Az with
 |none=>simp[l]at k
 |some i=>
  simp[l]at k
  simp[execOp,e.CL n,e.CL o,Instr.storeAt,Instr.sureAddr,storeVar,t,sizeOf,typeInfo,l,k,storeCells,run_store _ _ _ _ _ p,u,z,GO]
theorem K7(d:Ao U a f){base:Nat}{F8 k:Nat}(p:w.ownsRow base e 1 (.slice (some ⟨F8,0,none⟩) k c) n xs)(q:Au f x=some (.pointer (some ⟨F8,j,none⟩)))(r:j<n)(s:Au f y=some v)(t:v.oneCell'=true)(l:(P.info? Az).map (·.size)=some 1)
 {zs:List Value}(u:xs.set j v=zs)
 (h:∀b W,Ao U b f→W.ownsRow base e 1 (.slice (some ⟨F8,0,none⟩) k c) n zs→C' w W (.slice (some ⟨F8,0,none⟩) k c) (.slice (some ⟨F8,0,none⟩) k c)→Aa b W):DP P ⟨none,.store Az x y,ty,pos,AF,g⟩ a w Aa Ac:=by
 subst u
 obtain⟨z,A,cur,o,B⟩:=Tg p r v
 refine O6 (w':=w.setCell ⟨F8,j,none⟩ v) d ?_ (fun b C=>h b _ C z A)
 have D:v.cells=#[v]:=by cases v<;>simp_all [Value.oneCell',Value.cells]
 have E:w.cell? ⟨F8,j,none⟩=some cur[j]:=by rw[cell_of_row w F8 j cur e _ o];simp[B]
 have F:w.frozen? ⟨F8,j,none⟩=false:=frozen_of_row w F8 j cur e o
 cases m:P.info? Az with
 |none=>simp[m]at l
 |some i=>
  simp[m]at l
  simp[execOp,d.CL q,d.CL s,Instr.storeAt,Instr.sureAddr,storeVar,D,sizeOf,typeInfo,m,l,storeCells,run_store _ _ _ _ _ t,E,F,GO]
theorem Wg(l:Ao U a f)(Ab:Nat.blt d U=true)(B:CN P t e size bytes z){s:Operand}
 (base:Nat){y:Value}{m:Nat}{ys:List Value}(F:Au f s=some v)(G:Au f x=some y)
 (r:w.ownsRow base e size v n xs)(H:View w y m size ys)(M:∀u∈ys,u.oneCell'=true)
 (N:n+m≤maxLen)(O:(n+m)*bytes≤140737488355328)(Q:base≤w.heap.size){k:Nat}(R:n+m=k){zs:List Value}(I:xs++ys.take (m*size)=zs)
 (h:∀o p c W,Ao U o (Ja f d (.slice p k c))→W.ownsRow base e size (.slice p k c) k zs→C' w W v (.slice p k c)→Aa o W):
 DP P ⟨some d,.call {callee:=.builtin .append,args:=#[s,x],argTypes:=#[t,t]},ty,pos,AF,g⟩ a w Aa Ac:=by
 subst R
 subst I
 obtain⟨i,J,I,V,X⟩:=B.bl
 have form:∀w' BL k K,World.ownsRow w' base e size BL k K→∃p c,BL=.slice p k c:=by
  intro w' BL k K q
  rcases q.2 with⟨rfl,rfl⟩|⟨g,cap,cur,rfl,_⟩<;>exact⟨_,_,D⟩
 rcases H.2 with⟨rfl,rfl,rfl⟩|⟨b,off,cap,rfl,Y,Z,aa,ab,S⟩
 ·obtain⟨p,c,rfl⟩:=form w v n xs r
  refine DI (v:=.slice p n c) (w':=w) l Ab ?_ (fun o C=>h o p c w C (by simpa using r) (C'.refl _ _))
  have E:=run_append_owned_none (P:=P) (w:=w) base t ty e i size B.ZJ J (.slice p n c) n xs r
  simp only[execOp,resolve,invoke,builtin,Sem.run_bind,Sem.run_pure,Result.andThen_ok,List.map_toArray,List.map_cons,List.map_nil,l.CL F,l.CL G,E]
 ·obtain⟨BL,W,E,L,T⟩:=PB (P:=P) (ty:=ty) w B base v n xs r ⟨b,off,none⟩ m cap (ys.take (m*size)) H.take (fun j u A=>by
   rw[List.getElem?_take]at A
   split at A
   ·rw[GO];exact S j u A
   ·cases A) (fun u hu=>M u (List.mem_of_mem_take hu)) N O Q
  obtain⟨p,c,rfl⟩:=form W BL _ _ L
  refine DI (v:=.slice p (n+m) c) (w':=W) l Ab ?_ (fun o C=>h o p c W C L T)
  simp only[execOp,resolve,invoke,builtin,Sem.run_bind,Sem.run_pure,Result.andThen_ok,List.map_toArray,List.map_cons,List.map_nil,l.CL F,l.CL G,E]
theorem Un(ys:List Value):∀(k:Nat) (cs:Array Value),cs.size=k+ys.length→((ys.zipIdx k).foldl (fun cs (c,j)=>cs.setIfInBounds (0+j) c) cs).toList=cs.toList.take k++ys:=by
 induction ys with
 |nil=>intro k cs h;simp at h;simp[List.take_of_length_le (show cs.toList.length≤k by simp[h])]
 |cons y ys a=>
  intro k cs h
  simp only[List.length_cons]at h
  simp only[List.zipIdx_cons,List.foldl_cons]
  rw[a (k+1) _ (by simp;omega)]
  have:(cs.setIfInBounds (0+k) y).toList.take (k+1)=cs.toList.take k++[y]:=by
   rw[Array.toList_setIfInBounds,Nat.zero_add,List.take_succ_eq_append_getElem (by simp;omega),List.take_set_of_le (Be _)]
   simp
  rw[this]
  simp
theorem Sz(a:CN P t e size bytes z)(v:Value)(b:v.cells.size=size)(o:size≤16777216)(w:World):
 (Instr.buildSlice t 1 #[(0,v)]).run P w=.ok (.slice (some ⟨w.heap.size,0,none⟩) 1 1) (w.alloc (.cells v.cells e)):=by
 obtain⟨i,d,g,h,p⟩:=a.bl
 have q:=a.aF
 have k:¬size=0:=by omega
 have l:¬size>2^24:=by simp;omega
 have m:∀cs:Array Value,cs.size=size→v.cells.zipIdx.foldl (fun cs (c,j)=>cs.setIfInBounds (0+j) c) cs=v.cells:=by
  intro cs n
  apply Array.toList_inj.1
  have:=Un v.cells.toList 0 cs (by simp[n,b])
  rw[←Array.foldl_toList,Array.toList_zipIdx]
  simpa using this
 have f:=m ((Array.range size).map (z.cells[·% z.cells.size]!)) (by simp)
 simp[Instr.buildSlice,run_underlying a.ZJ,sizeOf,zeroValue,typeInfo,d,h,g,l,k,Instr.fill,b,newRow,newObj]
 simp only[Nat.zero_add,Array.size_zipIdx,b]at f
 rw[f]
 rfl
theorem Gh(c:Ao U a f)(Ab:Nat.blt d U=true)(j:CN P t e size bytes z)(k:Au f x=some v)(l:v.cells=cs)(i:cs.size=size)(m:size≤16777216)
 (h:∀b W,Ao U b (Ja f d (.slice (some ⟨w.heap.size,0,none⟩) 1 1))→W.heap.size=w.heap.size+1→View W (.slice (some ⟨w.heap.size,0,none⟩) 1 1) 1 size cs.toList→Below w.heap.size w W→Aa b W):DP P ⟨some d,.buildSlice t 1 #[(0,x)],ty,pos,AF,g⟩ a w Aa Ac:=by
 subst l
 refine DI (v:=.slice (some ⟨w.heap.size,0,none⟩) 1 1) (w':=w.alloc (.cells v.cells e)) c Ab ?_ (fun b n=>h b _ n (by simp) (View.lit (by simpa using i) (by decide)) ((Bu _ _).alloc (Be _) _))
 have:(#[(0,x)]:Array (Nat×Operand)).map (fun p=>(p.1,a.eval p.2))=#[(0,v)]:=by simp[c.CL k]
 simp only[execOp,Sem.run_bind,Sem.run_pure,this,Sz j v i m w,Result.andThen_ok]
theorem Mb(k:Ao U a f)(Ab:Nat.blt d U=true){b:Array (Nat×Operand)}{Bf:List (Nat×Value)}(m:b.toList.map (fun p=>(p.1,Au f p.2))=Bf.map (fun p=>(p.1,some p.2)))(hn:cs.size=n)(hm:n≤maxLen)
 (o:(Instr.buildSlice t n Bf.toArray).run P w=.ok (.slice (some ⟨w.heap.size,0,none⟩) n n) (w.alloc (.cells cs e)))
 (h:∀c W,Ao U c (Ja f d (.slice (some ⟨w.heap.size,0,none⟩) n n))→W.heap.size=w.heap.size+1→View W (.slice (some ⟨w.heap.size,0,none⟩) n n) n 1 cs.toList→Below w.heap.size w W→Aa c W):DP P ⟨some d,.buildSlice t n b,ty,pos,AF,g⟩ a w Aa Ac:=by
 refine DI (v:=.slice (some ⟨w.heap.size,0,none⟩) n n) (w':=w.alloc (.cells cs e)) k Ab ?_ (fun c r=>h c _ r (by simp) (View.lit (by simpa using hn) hm) ((Bu _ _).alloc (Be _) _))
 have:b.map (fun p=>(p.1,a.eval p.2))=Bf.toArray:=by
  apply Array.toList_inj.1
  rw[Array.toList_map]
  apply List.ext_getElem?
  intro i
  have:=congrArg (fun q=>q[i]?) m
  simp only[List.getElem?_map]at this⊢
  cases l:b.toList[i]? with
  |none=>rw[l]at this;cases j:Bf[i]? with
   |none=>simp
   |some v=>rw[j]at this;cases this
  |some x=>rw[l]at this;cases j:Bf[i]? with
   |none=>rw[j]at this;cases this
   |some v=>
    rw[j]at this
    simp only[Option.map_some,Option.some.injEq,Prod.mk.injEq]at this
    simp[this.1,k.CL this.2]
 simp only[execOp,this,Sem.run_bind,o,Result.andThen_ok,Sem.run_pure]
theorem Q3(j:Ao U a f)(Ab:Nat.blt d U=true){b:FuncId}(n:P.funcs[b]? =some fn)(hn:(fn.name== "runtime.NumGoroutine")=false)(k:fn.body.isNone=false){xs:Array Operand}{o:Array TypeId}{args:Array Value}(p:xs.toList.map (Au f)=args.toList.map some)
 (r:Calls P b args w R)(h:∀e W,R e W→∃v,e=.returned v∧∀l,Ao U l (Ja f d v)→Aa l W):
 DP P ⟨some d,.call {callee:=.value (.func b),args:=xs,argTypes:=o},ty,pos,AF,g⟩ a w Aa Ac:=by
 have s:xs.map a.eval=args:=by
  apply Array.toList_inj.1
  rw[Array.toList_map]
  apply List.ext_getElem?
  intro i
  have:=congrArg (fun q=>q[i]?) p
  simp only[List.getElem?_map]at this⊢
  cases m:xs.toList[i]? with
  |none=>rw[m]at this;cases c:args.toList[i]? with
   |none=>rfl
   |some v=>rw[c]at this;cases this
  |some x=>rw[m]at this;cases c:args.toList[i]? with
   |none=>rw[c]at this;cases this
   |some v=>
    rw[c]at this
    simp only[Option.map_some,Option.some.injEq]at this⊢
    exact j.CL this
 refine⟨?_⟩
 unfold Oper.wp
 rw[execOp_call_go]
 have t:(callFunc b (#[]++xs.map a.eval++#[])).run P w=.ok (.enter b args) w:=by
  have u:¬fn.name= "runtime.NumGoroutine" :=by simpa using hn
  have y:¬fn.body=none:=by intro q;rw[q]at k;cases k
  simp[callFunc,n,u,y,s]
 rw[t]
 refine r.mono (fun e W z=>?_)
 obtain⟨v,rfl,A⟩:=h e W z
 exact A _ (j.put Ab v)
end
section
variable {P:Program} {w w':World} {ops:Array Oper} {rest:List Oper} {a:Act} {Ac:Exit→Act→World→Prop} {U:Nat} {f:Db} {d:Nat} {ty:TypeId} {pos:String} {AF:Array Edge} {dst:Option Tmp} {g:Option (Nat×Bool)}
theorem Gm{id:Nat}{l:List Oper}(hm:P.follows .mixedOrders=true)(b:Region.lexB .any l.toArray=true)
 (h:∀W:World,W.heap.size=w.heap.size→Below w.heap.size w W→wpStill P l.toArray W (fun c=>Ac .normal c W) l a):(Code.region id l.toArray true).wp P Ac a w:=by
 refine wp_region_still hm b ?_
 have:=h w.drew D (Bu _ _).drew
 exact this
theorem Uy{id:Nat}{l:List Oper}(n:Nat)(hm:P.follows .mixedOrders=true)(b:Region.lexTailB .any l.toArray n=true)
 (h:∀W:World,W.heap.size=w.heap.size→Below w.heap.size w W→wpStill P l.toArray W (fun c=>wpList P l.toArray Ac (l.drop n) c W) (l.take n) a):(Code.region id l.toArray true).wp P Ac a w:=
 wp_region_still_tail n hm b (h w.drew D (Bu _ _).drew)
theorem Ze{R:Act→Prop}(c:Ao U a f)(Ab:Nat.blt d U=true)(e:Cy P a w ⟨some d,op,ty,pos,AF,none⟩ v w)(h:∀b,Ao U b (Ja f d v)→wpStill P ops w R rest b):
 wpStill P ops w R (⟨some d,op,ty,pos,AF,none⟩::rest) a:=by
 unfold wpStill
 rw[if_pos (show Region.wanted _ _=true from D)]
 unfold Oper.still
 rw[e,Oper.stillUpon_value]
 exact h _ (c.put Ab v)
theorem EB{R:Act→Prop}(Ab:Nat.blt d U=true)(e:∀a,Ao U a f→Cy P a w ⟨some d,op,ty,pos,AF,none⟩ v w)(h:∀b,Ao U b (Ja f d v)→wpStill P ops w R rest b):
 ∀a,Ao U a f→wpStill P ops w R (⟨some d,op,ty,pos,AF,none⟩::rest) a:=fun a c=>Ze c Ab (e a c) h
theorem EG{R:Act→Prop}(h:R a):wpStill P ops w R [] a:=h
theorem SY{R:Act→Prop}{t:Bool}(e:o.guard=some (j,!t))(g:ops[j]? =some CX){k:Nat}(i:CX.dst=some k)(b:Ao U a f)(l:f k=some (.bool t))(Ab:o.dst=some d)(m:Nat.blt d U=true)
 (h:∀c,Ao U c (Ja f d undef)→wpStill P ops w R rest c):wpStill P ops w R (o::rest) a:=by
 have hw:Region.wanted o (yielded ops a.tmps)=false:=by
  have:=JV (b.h k _ l)
  cases t<;>simp[Region.wanted,e,yielded,g,i,this]
 unfold wpStill
 rw[if_neg (by rw[hw];decide),Ab]
 exact h _ (b.put m undef)
theorem SR{id:Nat}{l:List Oper}(A4:World→Prop)(hm:P.follows .mixedOrders=true)(h:∀W:World,W.heap.size=w.heap.size→Below w.heap.size w W→wpAnyH P .any l.toArray Ac A4 l.toArray.size (Array.replicate l.toArray.size false) a W):(Code.region id l.toArray true).wp P Ac a w:=
 wp_region_held hm (h w.drew D (Bu _ _).drew)
theorem TY{B3:Nat}(e:Ao U a f)(Ab:Nat.blt d U=true)(g:ops[i]? =some ⟨some d,op,ty,pos,AF,none⟩)(j:B3=fuel+1)(k:Region.noSelect ops=true)(l:Region.free .any ops listed i=true)(m:(Region.ready .any ops listed).contains i=true)
 (n:∀c (a:Act) w,Ac (.panic c) (a.put (some d) v) w→Ac (.panic c) a w)(o:∀W,A4 W→Cy P a W ⟨some d,op,ty,pos,AF,none⟩ v W)(p:A4 w)
 (h:∀b,Ao U b (Ja f d v)→wpAnyH P .any ops Ac A4 fuel (listed.setIfInBounds i true) b w):wpAnyH P .any ops Ac A4 B3 listed a w:=by
 subst j
 exact wpAnyH_take g k l m n (.inl ⟨D,o⟩) p (h _ (e.put Ab v))
theorem SB{B3:Nat}(b:ops[i]? =some o)(c:o.guard=none)(d:B3=fuel+1)(e:Region.ready .any ops listed=[i])
 (h:∀Aa:Act→World→Prop,(∀a w,A4 w→wpAnyH P .any ops Ac A4 fuel (listed.setIfInBounds i true) a w→Aa a w)→DP P o a w Aa Ac):wpAnyH P .any ops Ac A4 B3 listed a w:=by
 subst d
 refine wpAnyH_ready e (by simp) (AllReadyH.cons b (fun Aa f=>?_) AllReadyH.nil)
 rw[if_pos (by simp[Region.wanted,c])]
 exact(h Aa (fun a w g hw=>f.out a w g (fun _=>hw))).out
theorem S_{B3:Nat}{b:Oper}(e:ops[i]? =some o)(f:o.guard=none)(g:ops[j]? =some b)(k:b.guard=none)(l:B3=fuel+1)(m:Region.ready .any ops listed=[i,j])
 (h:∀Aa:Act→World→Prop,(∀a w,A4 w→wpAnyH P .any ops Ac A4 fuel (listed.setIfInBounds i true) a w→Aa a w)→DP P o a w Aa Ac)
 (n:∀Aa:Act→World→Prop,(∀a w,A4 w→wpAnyH P .any ops Ac A4 fuel (listed.setIfInBounds j true) a w→Aa a w)→DP P b a w Aa Ac):wpAnyH P .any ops Ac A4 B3 listed a w:=by
 subst l
 refine wpAnyH_ready m (by simp) (AllReadyH.cons e (fun Aa c=>?_) (AllReadyH.cons g (fun Aa c=>?_) AllReadyH.nil))
 ·rw[if_pos (by simp[Region.wanted,f])]
  exact(h Aa (fun a w d hw=>c.out a w d (fun _=>hw))).out
 ·rw[if_pos (by simp[Region.wanted,k])]
  exact(n Aa (fun a w d hw=>c.out a w d (fun _=>hw))).out
theorem Tm(b:Region.ready .any ops listed=[])(h:Ac .normal a w):wpAnyH P .any ops Ac A4 fuel listed a w:=wpAnyH_done b h fuel
end
end Go.Proofs.YtcdaflcjhimimaaGreatDoor
