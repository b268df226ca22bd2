/- Laws and walks on the road to SalvageClean (part M34). No conditions beyond each law's own. -/
import Derived.Laws.OwnMore
import Derived.StillTailTactics
import Derived.Test.YtaapafoibofbjaaGreatDoorM01
import Derived.Test.YtaapafoibofbjaaGreatDoorM33
import Derived.Test.YtaapafoibofbjaaGreatDoorM06
import Derived.Test.YtaapafoibofbjaaGreatDoorM07
import Derived.Test.YtaapafoibofbjaaGreatDoorM12
import Derived.Test.YtaapafoibofbjaaGreatDoorM32
import Derived.Test.YtaapafoibofbjaaGreatDoorM11
set_option linter.unusedVariables false
namespace Go.Proofs.YtaapafoibofbjaaGreatDoor
open Go.RowKit
open F9 (Ce)
variable {g:List UInt8}
def Dc(l:List UInt8)(p:Nat):List UInt8:=(l.drop (256*p)).take 256
theorem fU(l:List UInt8)(p m:Nat):(Dc l p)[m]? =if m<256 then l[256*p+m]? else none:=by
 unfold Dc
 rw[List.getElem?_take]
 split
 ·rw[List.getElem?_drop]
 ·rfl
def N6(a:List Nat)(p:Nat):Nat:=(a.filter (fun t=>decide (t/2048=p))).length
def N7(a:List Nat)(p:Nat):Nat:=(a.filter (fun t=>decide (t/2048=p∧t % 2048<512))).length
def Ag(l g:List UInt8)(t:Nat):Bool:=((l.getD (t/8) 0).toNat^^^(g.getD (t/8) 0).toNat).testBit (t % 8)
theorem dh{l:List UInt8}{s t:Nat}(a:s/8<l.length):Ag (At.bit l s) g t=(Ag l g t^^decide (s=t)):=by
 unfold Ag At.bit
 rw[At.c8 _ _ _ _ a]
 by_cases h:t/8=s/8
 ·rw[if_pos h,UInt8.toNat_xor,At.b8,Nat.testBit_xor,Nat.testBit_xor,Nat.testBit_xor,Nat.testBit_two_pow,h]
  have:(s % 8=t % 8)=(s=t):=propext ⟨fun e=>by omega,fun e=>by rw[e]⟩
  simp only[this]
  cases(l.getD (s/8) 0).toNat.testBit (t % 8)<;>cases(g.getD (s/8) 0).toNat.testBit (t % 8)<;>cases decide (s=t)<;>rfl
 ·rw[if_neg h,decide_eq_false (fun e=>h (by rw[e])),Bool.xor_false]
theorem gX{t:Nat}:∀(a:List Nat) (l:List UInt8),a.Nodup→(∀j∈a,j/8<l.length)→Ag (Ce l a) g t=(Ag l g t^^decide (t∈a)):=by
 intro a
 induction a with
 |nil=>intro l _ _;simp[F9.hh]
 |cons j a b=>
  intro l nd h
  rw[List.nodup_cons]at nd
  rw[F9.hp,b _ nd.2 (fun x c=>by rw[At.Tz];exact h x (by simp[c])),dh (h j (by simp))]
  by_cases e:j=t
  ·subst e
   rw[decide_eq_false nd.1,decide_eq_true D,decide_eq_true (by simp)]
   simp
  ·have:(t∈j::a)=(t∈a):=propext ⟨fun q=>(List.mem_cons.1 q).resolve_left (fun q=>e q.symm),fun q=>by simp[q]⟩
   rw[decide_eq_false e,Bool.xor_false]
   simp only[this]
theorem h5(g:List UInt8)(t:Nat):Ag g g t=false:=by
 unfold Ag
 rw[Nat.xor_self,Nat.zero_testBit]
theorem a4{a:List Nat}{t:Nat}(nd:a.Nodup)(h:∀j∈a,j/8<g.length):((((Ce g a).getD (t/8) 0).toNat^^^(g.getD (t/8) 0).toNat)/2^(t % 8))&&&1=1↔t∈a:=by
 have h1:=gX (g:=g) (t:=t) a g nd h
 rw[h5,Bool.false_xor]at h1
 unfold Ag at h1
 rw[Nat.and_one_is_mod]
 rw[Nat.testBit_eq_decide_div_mod_eq]at h1
 constructor
 ·intro q
  have:decide (t∈a)=true:=by rw[←h1];exact decide_eq_true q
  simpa using this
 ·intro q
  have:decide (((((Ce g a).getD (t/8) 0).toNat^^^(g.getD (t/8) 0).toNat)/2^(t % 8)) % 2=1)=true:=by rw[h1];exact decide_eq_true q
  simpa using this
structure O9 (g:List UInt8) (mk:Nat) (jE:List Nat) (l:List UInt8) (j9:List Nat) (f0 f1:Nat):Prop where
 e:l=Ce g jE
 nd:jE.Nodup
 lt:∀t∈jE,t<2048*mk
 c:∀p,N6 jE p≤3
 nl:j9.length=mk
 n:∀p,p<mk→j9.getD p 0=N6 jE p
 jD:f0=N7 jE 0
 s1:f1=N7 jE 1
theorem O9.zero(g:List UInt8)(mk:Nat):O9 g mk [] g (List.replicate mk 0) 0 0:=
 ⟨D,List.nodup_nil,(fun t a=>by cases a),fun p=>Nat.zero_le _,List.length_replicate,(fun p b=>by
   rw[List.getD_eq_getElem?_getD,List.getElem?_replicate,if_pos b];rfl),D,D⟩
theorem T9(a:List Nat)(t p:Nat):N6 (a++[t]) p=N6 a p+if t/2048=p then 1 else 0:=by
 unfold N6
 rw[List.filter_append,List.length_append,List.filter_cons]
 split<;>simp_all
theorem Wm(a:List Nat)(t p:Nat):N7 (a++[t]) p=N7 a p+if t/2048=p∧t % 2048<512 then 1 else 0:=by
 unfold N7
 rw[List.filter_append,List.length_append,List.filter_cons]
 split<;>simp_all
theorem O9.step{l:List UInt8}{mk f0 f1 a b p j x y:Nat}{d f:List Nat}(h:O9 g mk d l f f0 f1)(s:f[p]? =some y)(hl:256*mk≤g.length)(u:p<mk)(hj:j<2048)
 (v:¬(((l.getD (256*p+j/8) 0).toNat^^^(g.getD (256*p+j/8) 0).toNat)/2^(j % 8))&&&1=1)(I:y<3)(w:x=(l.getD (256*p+j/8) 0).toNat^^^(1*2^(j % 8)) % 256)
 (m:a=f0+if p=0∧j<512 then 1 else 0)(J:b=f1+if p=1∧j<512 then 1 else 0):O9 g mk (d++[2048*p+j]) (l.set (256*p+j/8) (UInt8.ofNat x)) (f.set p (y+1)) a b:=by
 have z:f.getD p 0=y:=by rw[List.getD_eq_getElem?_getD,s];rfl
 have o:(2048*p+j)/8=256*p+j/8:=by omega
 have r:(2048*p+j) % 8=j % 8:=by omega
 have k:(2048*p+j)/2048=p:=by omega
 have mp:(2048*p+j) % 2048=j:=by omega
 have A:∀i∈d,i/8<g.length:=fun i B=>by have:=h.lt i B;omega
 have C:2048*p+j∉d:=by
  intro q
  have:=(a4 h.nd A).2 q
  rw[←h.e,o,r]at this
  exact v this
 refine⟨?_,?_,?_,?_,?_,?_,?_,?_⟩
 ·rw[F9.hZ,←h.e]
  unfold At.bit At.Im
  rw[o,r,w]
  congr 1
  apply UInt8.toNat_inj.1
  have K:2^(j % 8)≤2^7:=Nat.pow_le_pow_right (by decide) (by omega)
  rw[UInt8.toNat_xor,Nat.one_mul,Nat.mod_eq_of_lt (by omega)]
  have E:(l.getD (256*p+j/8) 0).toNat^^^2^(j % 8)<2^8:=Nat.xor_lt_two_pow (UInt8.toNat_lt _) (by omega)
  have F:(UInt8.ofNat (2^(j % 8))).toNat=2^(j % 8):=by
   show 2^(j % 8) % 256=_
   exact Nat.mod_eq_of_lt (by omega)
  rw[F]
  show((l.getD (256*p+j/8) 0).toNat^^^2^(j % 8)) % 256=_
  exact Nat.mod_eq_of_lt E
 ·rw[List.nodup_append]
  refine⟨h.nd,by simp,?_⟩
  intro a m b J e
  simp at J
  subst J
  subst e
  exact C m
 ·intro t G
  rcases List.mem_append.1 G with q|q
  ·exact h.lt t q
  ·simp at q;subst q;omega
 ·intro q
  rw[T9,k]
  have:=h.c q
  split
  ·rename_i e
   subst e
   have:=h.n p u
   omega
  ·omega
 ·rw[List.length_set];exact h.nl
 ·intro q H
  rw[T9,k,←h.n q H,List.getD_eq_getElem?_getD,List.getElem?_set]
  have L:=h.nl
  by_cases e:p=q
  ·subst e
   rw[if_pos D,if_pos (by omega),if_pos D,z]
   rfl
  ·rw[if_neg e,if_neg e,List.getD_eq_getElem?_getD]
   rfl
 ·rw[Wm,k,mp,←h.jD];exact m
 ·rw[Wm,k,mp,←h.s1];exact J
end Go.Proofs.YtaapafoibofbjaaGreatDoor
namespace Go.Proofs.YtaapafoibofbjaaGreatDoor
open Go.RowKit
section
variable {P:Program} {w w':World} {a:Act} {N d:Nat} {f:BW} {K:Act→World→Prop} {Aa:Exit→Act→World→Prop} {ty:TypeId} {pos:String} {An:Array Edge} {g:Option (Nat×Bool)}
theorem ek{fn:Func}{R:Ending→World→Prop}(c:AH N a f){t u v:Nat}{T:TypeId}(hr:fn.results=#[.tmp u,.tmp v,.cell t T]){b:Nat}{BA e:Value}(V:f t=some (.pointer (some ⟨b,0,none⟩)))(j:f u=some BA)(k:f v=some e){ss:List (List Value)}{tb:TypeId}{fr:Nat×Nat}(J:w.heap[b]? =some (.cells (flat ss) tb fr))
 {BB:TypeDesc}(hu:P.underlying T=some BB)(Ad:BB.isRow=true)(l:(P.info? T).map (·.size)=some ss.flatten.length)(h:R (.returned (.tuple #[BA,e,.agg (flat ss)])) w):bodyPost P fn R .ret a w:=by
 refine⟨c.d,.tuple #[BA,e,.agg (flat ss)],?_,h⟩
 have hl:=run_loadAt_mid (P:=P) w b 0 T ss.flatten BB (H4 J) hu Ad l
 have he:=c.h t _ V
 have g:=c.h u _ j
 have i:=c.h v _ k
 have m:(loadVar T ⟨b,0,none⟩).run P w=.ok (.agg (flat ss)) w:=by simpa[Instr.loadAt,Instr.sureAddr,flat]using hl
 simp only[Array.getD_eq_getD_getElem?]at he g i
 simp[results,hr,he,g,i,asAddr,m]
end
theorem wrap_u8(n:Nat):IntKind.u8.wrap (n:Int)=((n % 256:Nat):Int):=by rw[H5];simp
end Go.Proofs.YtaapafoibofbjaaGreatDoor
namespace Go.Proofs.YtaapafoibofbjaaGreatDoor
open Go.RowKit Go.Maps
set_option maxRecDepth 100000
set_option maxHeartbeats 1600000
theorem eL{w:World}{b o:Nat}{c:Array Value}{t:TypeId}{fr:Nat×Nat}{v:Value}(J:w.heap[b]? =some (.cells c t fr))(a:w.cell? ⟨b,o,none⟩=some v):o<c.size:=by
 rw[cell_of_row _ _ _ _ _ _ J]at a
 exact(Array.getElem?_eq_some_iff.1 a).1
theorem iX(x:UInt8)(k:Nat):(x^^^UInt8.ofNat (2^(k % 8))).toNat=x.toNat^^^(1*2^(k % 8)) % 256:=by
 rw[UInt8.toNat_xor,Nat.one_mul]
 rfl
theorem Yn(Ac u ib off m c j:Nat)(l:List UInt8)(cur:Array Value)(w:World)(f:w.heap[Ac]? =some (.cells #[.slice (some ⟨ib,off,none⟩) m c] 22 (0,0)))(d:w.heap[u]? =some (.cells #[.int .i64 j] 3 (0,0)))
 (s:w.heap[ib]? =some (.cells cur 5 (0,0)))(V:View w (.slice (some ⟨ib,off,none⟩) m c) m 1 (bv l))(hl:l.length=m)(hj:j<8*m)(L:m≤1048576):
 Calls Tryz.prog 77 #[.pointer (some ⟨Ac,0,none⟩),.pointer (some ⟨u,0,none⟩)] w fun e w'=>e=.returned (.tuple #[])∧w.grownBy w' (some ib)∧
  w'.heap[ib]? =some (.cells (cur.setIfInBounds (off+j/8) (.int .u8 (l.getD (j/8) 0^^^UInt8.ofNat (2^(j % 8))).toNat)) 5 (0,0)):=by
 have f:w.heap[Ac]? =some (.cells (flat [[Value.slice (some ⟨ib,off,none⟩) m c]]) 22 (0,0)):=f
 have d:w.heap[u]? =some (.cells (flat [[Value.int .i64 ((j:Nat):Int)]]) 3 (0,0)):=d
 have h:Below w.heap.size w w:=Cn _ _
 refine DZ TM D 12 ?_
 intro a b
 refine Mf 10 ?_
 intro M C J
 have f:=PU f J
 have d:=PU d J
 have s:=PU s J
 have h:=BG h J
 revert a
 refine Gs D (fun _ b=>(IV b D Co D [] (Value.slice (some ⟨ib,off,none⟩) m c) [] f D)) ?_
 refine Gs D (fun _ b=>(IV b D AF D [] (Value.int .i64 ((j:Nat):Int)) [] d D)) ?_
 refine Gs D (fun _ b=>(Sv b (p:=j) (q:=8) (r:=j/8) D D D (by omega) (by omega))) ?_
 have c2:=GH (V.below h) (j/8) (o:=off+(j/8)*1)
 refine Gs D (fun _ b=>(Gu b A3 D (i:=((j/8:Nat):Int)) D (j/8) (o:=off+(j/8)*1))) ?_
 refine Gs D (fun _ b=>(Ei b D BV D c2)) ?_
 refine Gs D (fun _ b=>(IV b D AF D [] (Value.int .i64 ((j:Nat):Int)) [] d D)) ?_
 refine Gs D (fun _ b=>(PA b (p:=j) (q:=8) (r:=j % 8) D D D (by omega))) ?_
 obtain⟨t,x⟩:∃g:Nat,g=(1*2^(j % 8)) % 256:=⟨_,D⟩
 have A:t<256:=by rw[x];exact Nat.mod_lt _ (by decide)
 refine Gs D (fun _ b=>(Kc b (k:=.u8) (p:=1) (n:=j % 8) (r:=((t:Nat):Int)) D D (by simp only[IntKind.bits];omega) (by rw[x];exact wrap_u8 _))) ?_
 obtain⟨y,z⟩:∃g:Nat,g=((l.getD (j/8) 0).toNat)^^^t:=⟨_,D⟩
 have N:y<256:=by rw[z];exact Nat.xor_lt_two_pow (n:=8) (UInt8.toNat_lt _) A
 refine Gs D (fun _ b=>(D6 b (k:=.u8) (p:=(((l.getD (j/8) 0).toNat:Nat):Int)) (q:=((t:Nat):Int)) (r:=((y:Nat):Int)) (.inr (.inr D)) D D (by rw[z];exact u8_xor_nat _ _ (UInt8.toNat_lt _) A))) ?_
 have E:=GH (V.below h) (j/8) (o:=off+(j/8)*1)
 refine Gs D (fun _ b=>(Gu b A3 D (i:=((j/8:Nat):Int)) D (j/8) (o:=off+(j/8)*1))) ?_
 intro a b;refine LP ?_;revert a
 intro O F
 have G:=eL s E
 refine Cp D (fun K H=>Me F D s (v:=(Value.int .u8 (((y:Nat):Int):Int))) D D (by kernel_rfl) G D ?_)
 intro a P b C B I
 refine H _ _ ?_;revert a
 intro a b;refine b' ?_
 refine bf ?_
 refine Yt b D ?_
 rw[Nat.mul_one]at B
 exact⟨D,I2 (H_ (NG w _) h) I,by rw[iX,←x,←z];exact B⟩
def Vb(w0 w:World)(v:Value)(ib off m c j:Nat):Prop:=∃Ac a,v=.func (.func 77) #[] #[.pointer (some ⟨Ac,0,none⟩),.pointer (some ⟨a,0,none⟩)]∧w0.heap.size≤Ac∧w0.heap.size≤a∧w.heap[Ac]? =some (.cells (flat [[.slice (some ⟨ib,off,none⟩) m c]]) 22 (0,0))∧w.heap[a]? =some (.cells (flat [[.int .i64 ((j:Nat):Int)]]) 3 (0,0))
theorem bR(tb Bi n m c off ib j:Nat)(l:List UInt8)(cur cs:Array Value)(T:TypeId)(w:World)(J:w.heap[tb]? =some (.cells cs T (0,0)))(ai:TabIs w tb Bi n cs)(h1:1≤n)(aj:n≤4096)
 (K:w.heap[ib]? =some (.cells cur 5 (0,0)))(ak:ib≠tb)
 (V:View w (.slice (some ⟨ib,off,none⟩) m c) m 1 (bv l))(hl:l.length=m)(hm:n+4≤m)(al:At.last (At.EG n) (At.C5 l n)=some j)(hj:j<8*m)(an:m≤1048576):
 Calls Tryz.prog 37 #[.pointer (some ⟨tb,Bi,none⟩),.slice (some ⟨ib,off,none⟩) m c,.int .i64 n] w fun e w'=>∃v U,e=.returned (.tuple #[v,.bool true])∧Hm w U tb Bi n cs T∧U.grownBy w' (some ib)∧
  w'.heap[ib]? =some (.cells (cur.setIfInBounds (off+j/8) (.int .u8 (l.getD (j/8) 0^^^UInt8.ofNat (2^(j % 8))).toNat)) 5 (0,0))∧Vb w w' v ib off m c j:=by
 obtain⟨q,L⟩:∃q:Option Addr,q=some ⟨ib,off,none⟩:=⟨_,D⟩
 rw[←L]at V⊢
 have r:=AX L
 have ao:=AX K
 have li:ib<w.heap.size:=(Array.getElem?_eq_some_iff.1 K).1
 clear L K
 have aq:tb<w.heap.size:=(Array.getElem?_eq_some_iff.1 J).1
 have aR:=V.cap
 have ar:=AX J
 have au:=AX hl
 have av:m≤l.length:=by omega
 clear J hl
 have aS:∀(fn:Fn) (first cap:Array Value) (w:World),(Instr.makeFunc fn first cap).run Tryz.prog w=.ok (.func fn first cap) w:=fun _ _ _ _=>rfl
 have aT:∀(x:Bool) (w:World),(Op.unary .not (.bool x)).run Tryz.prog w=.ok (.bool (!x)) w:=fun _ _=>rfl
 go_enter Lm,Tryz.ntmps37
 go_wp2_with (with_reducible refine OP 22 ?_)
 refine⟨Ob D 22 (.tmp 1) D (v:=.slice q m c) D ?_⟩
 intro t aw A u
 simp only[Value.cells]at A
 have ax:=AX A
 have aU:w.heap.size+1≤t.heap.size:=by omega
 have ay:Hid (t.heap[tb]? =some (.cells cs T (0,0))):=AX ((u.block _ (by omega)).trans ar.out)
 have az:=IM (j:=0) A D
 have M:=V.below u
 clear A aw
 go_wp2
 go_loop [8,13] (fun s i=>∃(k x:Nat),k≤4∧i=.int .i64 k∧s=.int .u32 x∧Hid (x=IL l n k)) (fun _ i=>4 - (intOf i).toNat)
 case atStart=>exact⟨0,0,by omega,D,D,AX D⟩
 case round=>
  obtain⟨k,x,h,rfl,rfl,B⟩:=hrel
  by_cases aV:k<4
  ·have N:x<4294967296:=by
    have:=WD l n k (by omega)
    have W:2^(8*k)≤2^32:=Nat.pow_le_pow_right (by decide) (by omega)
    rw[←B.out]at this
    omega
   go_wp2_with (first|go_skip|(with_reducible refine HD 22 ?_))
   refine⟨idx A3 D (.tmp 17) (.tmp 20) D (y:=q) (n:=m) (c:=c) D M D (n+k) (by simp) (by omega) ?_⟩
   intro aA aB X _
   obtain⟨g,O⟩:∃g,g=(l.getD (n+k) 0).toNat:=⟨_,D⟩
   have aW:g<256:=by rw[O];exact(l.getD (n+k) 0).toNat_lt
   have BO:=AX O
   clear O
   have aX:t.cell? ⟨aA,aB,none⟩=some (.int .u8 g):=by rw[BO.out];exact Gw X
   clear X
   go_wp2_with (first|go_skip|(with_reducible refine FM 72 ?_))
   have aC:g*2^(8*k)<4294967296:=by
    have W:2^(8*k)≤2^24:=Nat.pow_le_pow_right (by decide) (by omega)
    have E:g*2^(8*k)≤255*2^24:=Nat.mul_le_mul (by omega) W
    omega
   obtain⟨y,Y⟩:∃y,y=g*2^(8*k):=⟨_,D⟩
   have Z:=AX Y
   have aD:y<4294967296:=by omega
   clear Y
   refine⟨WI D D (p:=g) (n:=8*k) (i:=8*(k:Int)) D D (by simp) (by omega) aC y Z.out.symm ?_⟩
   go_wp2_with (first|go_skip|(with_reducible refine FM 72 ?_))
   obtain⟨z,P⟩:∃z,z=x|||y:=⟨_,D⟩
   have aE:Hid (z=IL l n (k+1)):=AX (by rw[P,B.out,Z.out,BO.out];rfl)
   have aF:=AX P
   clear P
   refine⟨W7 D D (p:=x) (q:=y) D D N aD z aF.out.symm ?_⟩
   go_wp2
   go_round
   case rel=>exact⟨k+1,z,by omega,by go_num,D,aE⟩
   case measure=>simp[intOf];omega
  ·have aG:k=4:=by omega
   subst aG
   have Q:x=At.stored l n:=by rw[B.out,UC]
   have N:x<4294967296:=by rw[Q];exact At.Ts _ _
   have aH:=AX Q
   clear Q B
   go_wp2_with (first|go_skip|(with_reducible refine GQ ?_))
   refine⟨IB A3 D (.tmp 32) (.tmp 33) D (y:=q) (n:=m) (c:=c) D n D (by omega) ?_⟩
   go_wp2_with (first|go_skip|(go_at_call 76;with_reducible refine C_ ?_))
   refine⟨(I4 q n c (l.take n) t (M.pre n (by omega) av) (by rw[List.length_take];omega)).mono ?_⟩
   rintro e aa ⟨rfl,f⟩
   obtain⟨s,F⟩:∃s,s=At.sum (l.take n):=⟨_,D⟩
   have s1:s<4294967296:=by rw[F];exact At.G7 _
   rw[←F]
   obtain⟨d,Ad⟩:∃d,d=s^^^x:=⟨_,D⟩
   have ab:Hid (d=At.C5 l n):=AX (by rw[Ad,F,aH.out];rfl)
   have d1:d<4294967296:=by rw[ab.out];exact At.Uo _ _
   have aI:=AX Ad
   clear F Ad
   have aJ:Hid (aa.heap[tb]? =some (.cells cs T (0,0))):=AX ((f.block _ (by omega)).trans ay.out)
   go_wp2_with (first|go_skip|(with_reducible refine FM 72 ?_))
   refine⟨LW D D (p:=s) (q:=x) D D s1 N d aI.out.symm ?_⟩
   go_wp2_with (first|go_skip|(go_at_call 75;with_reducible refine C_ ?_))
   refine⟨(find_spec tb Bi n d cs T aa aJ.out (ai.below (u.trans (f.mono (by omega)))) h1 aj d1).mono ?_⟩
   rintro e a ⟨rfl,t3⟩
   have ad:Mc n d=.tuple #[.int .i64 j,.bool true]:=by unfold Mc;rw[ab.out,al]
   rw[ad]
   have R:Hm w a tb Bi n cs T:=by
    obtain⟨G,EF,Ev⟩:=t3
    exact⟨G,I2 (H_ (H_ (NG w (some tb)) u) f) EF,Ev⟩
   have aK:Hid (a.heap[w.heap.size]? =some (.cells #[.slice q m c] 22 (0,0))):=by
    obtain⟨G,EF,Ev⟩:=t3
    exact AX (Bn EF ((f.block _ (by omega)).trans ax.out) (by omega))
   have aL:Hid (a.heap[ib]? =some (.cells cur 5 (0,0))):=by
    obtain⟨G,EF,Ev⟩:=t3
    exact AX (Bn EF ((f.block _ (by omega)).trans ((u.block _ (by omega)).trans ao.out)) ak)
   have aY:t.heap.size≤a.heap.size:=by have:=f.size;have:=t3.size;omega
   have aM:View a (.slice q m c) m 1 (bv l):=by
    obtain⟨G,EF,Ev⟩:=t3
    exact(M.below f).grown EF (fun k h e=>by rw[r.out]at h;simp[Value.ownBlock]at h;simp at e;omega)
   clear t3 ad az
   go_wp2_with (first|go_skip|(with_reducible refine LX 3 ?_))
   refine⟨KE D 3 D (z:=.int .i64 0) (by kernel_rfl) ?_⟩
   intro aZ aN E H
   simp only[Value.cells]at E
   have ae:=AX E
   have t4:=R.below aq H
   clear E
   go_wp2_with (first|go_skip|(with_reducible refine HV 3 ?_))
   refine⟨PS D 3 (.tmp 10) (.tmp 39) D (b:=a.heap.size) (off:=0) (v:=.int .i64 j) D ae.out D D (by kernel_rfl) (by decide) ?_⟩
   intro o aO af I
   have t5:=t4.other I (by have:=R.size;omega) (by have:=R.size;omega) ⟨_,_,ae.out⟩
   have ag:Hid (o.heap[w.heap.size]? =some (.cells #[.slice q m c] 22 (0,0))):=AX (Bn I ((H.block _ (by omega)).trans aK.out) (by omega))
   have aP:Hid (o.heap[ib]? =some (.cells cur 5 (0,0))):=AX (Bn I ((H.block _ (by omega)).trans aL.out) (by omega))
   have aQ:View o (.slice q m c) m 1 (bv l):=(aM.below H).grown I (fun k h e=>by rw[r.out]at h;simp[Value.ownBlock]at h;simp at e;omega)
   have ah:Hid (o.heap[a.heap.size]? =some (.cells #[.int .i64 j] 3 (0,0))):=AX (by simpa using af)
   clear af aN aO
   have C:=Yn w.heap.size a.heap.size ib off m c j l cur o (by rw[←r.out];exact ag.out) ah.out aP.out (by rw[←r.out];exact aQ) au.out hj an
   go_wp2_with (first|go_skip|(go_at_call 77;with_reducible refine C_ ?_))
   refine⟨C.mono ?_⟩
   rintro e a0 ⟨rfl,S,i6⟩
   go_wp2
   go_ret2
   exact⟨_,o,D,t5,S,i6,w.heap.size,a.heap.size,D,Br _,by omega,by rw[←r.out];exact Bn S ag.out (by omega),Bn S ah.out (by omega)⟩
end Go.Proofs.YtaapafoibofbjaaGreatDoor
namespace Go.Proofs.YtaapafoibofbjaaGreatDoor
open Go.RowKit
open F9 (Ce)
theorem Vu{l:List UInt8}:Fr.CN l=true↔∀x∈l,x=0:=by
 unfold Fr.CN
 rw[List.all_eq_true]
 simp
theorem I7.DP{l:List UInt8}{s:Fr.Bu}(h:I7 l s):Fr.DP l=some s:=by
 have L:=h.HZ
 have e:∀i,i<64→(l.take 64).getD i 0=l.getD i 0:=by
  intro i u
  rw[List.getD_eq_getElem?_getD,List.getD_eq_getElem?_getD,List.getElem?_take,if_pos u]
 have f:∀i k,i+k≤64→((l.take 64).drop i).take k=(l.drop i).take k:=by
  intro i k M
  rw[List.drop_take,List.take_take,Nat.min_eq_left (by omega)]
 have hlen:=h.len
 have v:(l.drop 8).take 8=(l.drop 8).take 7++[l.getD 15 0]:=by
  rw[List.take_succ_eq_append_getElem (by simp;omega)]
  congr 1
  simp[List.getD_eq_getElem?_getD,List.getElem?_eq_getElem (show 15<l.length by omega)]
 have y:∀(a:List UInt8) (b:UInt8),Fr.le (a++[b])=Fr.le a+b.toNat*256^a.length:=by
  intro a b
  induction a with
  |nil=>simp[Fr.le]
  |cons x a z=>simp only[List.cons_append,Fr.le,z,List.length_cons,Nat.pow_succ,Nat.mul_add];rw[Nat.mul_left_comm 256,Nat.mul_comm 256,Nat.add_assoc,Nat.mul_comm 256 (256^a.length)]
 have A:((l.drop 8).take 7).length=7:=by simp;omega
 have j:=h.g
 rw[v,y,A]at j
 have n:l.getD 15 0=0:=by
  apply UInt8.toNat_inj.1
  show(l.getD 15 0).toNat=0
  have:(256:Nat)^7=72057594037927936:=by decide
  rw[this]at j
  omega
 have B:Fr.le ((l.drop 8).take 7)=s.g:=by
  rw[n]at j
  simpa using j
 have C:Fr.fields (l.take 64)=s:=by
  unfold Fr.fields
  rw[e 4 (by omega),f 8 7 (by omega),f 16 4 (by omega),f 20 4 (by omega),f 24 4 (by omega),h.w,B,h.m,h.h,h.p]
 have D:(l.take 64).take 4=[76,68,71,49]:=by
  rw[List.take_take,Nat.min_eq_left (by omega)]
  match l,hlen,h.Bz,h.Dt,h.jW,h.kf with
  |a::b::c::d::t,_,E,F,G,H=>
   have I:a=76:=UInt8.toNat_inj.1 E
   have EF:b=68:=UInt8.toNat_inj.1 F
   have Ev:c=71:=UInt8.toNat_inj.1 G
   have Kw:d=49:=UInt8.toNat_inj.1 H
   rw[I,EF,Ev,Kw]
   rfl
 have J:Fr.Hz (l.take 64)=true:=by
  unfold Fr.Hz
  rw[D,f 5 3 (by omega),f 28 32 (by omega),f 15 1 (by omega)]
  have K:Fr.CN ((l.drop 15).take 1)=true:=by
   rw[Vu]
   intro x o
   have:(l.drop 15).take 1=[l.getD 15 0]:=by
    rw[List.take_one]
    simp[List.getD_eq_getElem?_getD,List.getElem?_eq_getElem (show 15<l.length by omega)]
   rw[this,n]at o
   simpa using o
  have q:Fr.CN ((l.drop 5).take 3)=true:=h.jV
  have r:Fr.CN ((l.drop 28).take 32)=true:=h.kg
  rw[q,r,K]
  simp
 unfold Fr.DP
 rw[if_pos h.C5,if_pos J,C,if_pos h.valid]
end Go.Proofs.YtaapafoibofbjaaGreatDoor
namespace Go.Proofs.YtaapafoibofbjaaGreatDoor
open Go.RowKit
set_option maxHeartbeats 1000000
theorem Z3(x y:Operand)(p q:Array Value)(w:World):(eqGuard .eql 180 x y (.agg p) (.agg q)).run Tryz.prog w=.ok () w:=by kernel_rfl
theorem hz(x y:Operand)(p q:Array Value)(w:World):(eqGuard .neq 68 x y (.agg p) (.agg q)).run Tryz.prog w=.ok () w:=by kernel_rfl
theorem M8(q:Option Addr)(c:Nat)(l:List UInt8)(w:World)(V:View w (.slice q 256 c) 256 1 (bv l))(hl:l.length=256):
 Calls Tryz.prog 79 #[.slice q 256 c] w fun e w'=>e=.returned (.bool (Fr.Sa l))∧w=w':=by
 have m:=V.cap
 obtain⟨Ar,a⟩:∃Ar,Ar=l.take 64:=⟨_,D⟩
 have b:Ar.length=64:=by rw[a];simp;omega
 have g:View w (.slice q 64 c) 64 1 (bv Ar):=by rw[a];exact V.pre 64 (by omega) (by omega)
 obtain⟨ib,d,rfl,o,h⟩:=g.some (by decide)
 have r:=fun w=>T8 (P:=Tryz.prog) Ig (some ⟨ib,d,none⟩) 64 c (Br _) w
 have i:=AX a
 have j:=AX b
 have f:(bv Ar).length=64:=by rw[DG];exact b
 have k:=AX f
 have s:∀w,(Instr.build 180 #[]).run Tryz.prog w=.ok (.agg (bv (List.replicate 64 0)).toArray) w:=fun w=>run_build w 180 _ _ (by kernel_rfl)
 clear a f b
 go_enter Lu,Tryz.ntmps79
 go_wp2_with (first|go_skip|(with_reducible refine df ?_))
 refine⟨IB A3 D (.tmp 7) (.const (.int .i64 64)) D (y:=some ⟨ib,d,none⟩) (n:=256) (c:=c) D 64 D (by omega) ?_⟩
 go_wp2_with (first|go_skip|(with_reducible refine cr 180 ?_))
 refine⟨TC D 180 (.tmp 9) D D (bv Ar) h Ig D (by rw[k.out];kernel_rfl) ?_⟩
 go_wp2_with (first|go_skip|(with_reducible refine Mt .eql ?_))
 refine⟨bin rfl .eql _ _ _ _ D (p:=.agg (bv Ar).toArray) (q:=.agg (bv (List.replicate 64 0)).toArray) D D (Z3 _ _ _ _ _) (dM j.out (by simp) _) ?_⟩
 rw[i.out]
 go_wp2
 go_ret
 exact⟨D,D⟩
end Go.Proofs.YtaapafoibofbjaaGreatDoor
