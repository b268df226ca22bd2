/- Laws and walks on the road to SalvageNever and SalvageHeals (part M14). No conditions beyond each law's own. -/
import Derived.Test.YtcdaflcjhimimaaGreatDoorM01
import Derived.Test.YtcdaflcjhimimaaGreatDoorM13
import Derived.Test.YtcdaflcjhimimaaGreatDoorM05
import Derived.Test.YtcdaflcjhimimaaGreatDoorM04
import Derived.Test.YtcdaflcjhimimaaGreatDoorM07
import Derived.Test.YtcdaflcjhimimaaGreatDoorM10
set_option linter.unusedVariables false
namespace Go.Proofs.YtcdaflcjhimimaaGreatDoor
open Go.RowKit
variable {j k P:Nat} {t:Bool} {CX:Oper} {x y:Operand} {IE JJ:TypeId} {H4:IntKind} {p q:Int}
structure Bd (X:Nat→Prop) (w w':World):Prop where
 os:w'.os=w.os
 tape:w'.tape=w.tape
 output:w'.output=w.output
 size:w.heap.size≤w'.heap.size
 block:∀k,k<w.heap.size→¬X k→w'.heap[k]? =w.heap[k]?
theorem Bd.refl(X:Nat→Prop)(w:World):Bd X w w:=⟨D,D,D,Be _,fun _ _ _=>rfl⟩
variable {X Y:Nat→Prop} {w W BT:World} {v BL u G2 v0 IU:Value} {b k n m:Nat}
theorem Bd.trans(h:Bd X w W)(a:Bd Y W BT)(c:∀k,Y k→k<w.heap.size→X k):Bd X w BT:=
 ⟨a.os.trans h.os,a.tape.trans h.tape,a.output.trans h.output,Bs h.size a.size,fun k b hn=>(a.block k (Nat.lt_of_lt_of_le b h.size) (fun y=>hn (c k y b))).trans (h.block k b hn)⟩
theorem Bd.Wj(a:Below w.heap.size w W):Bd X w W:=⟨a.os,a.tape,a.output,a.size,fun k b _=>a.block k b⟩
theorem Bd.below(h:Bd X w W)(a:Below W.heap.size W BT):Bd X w BT:=h.trans (Bd.Wj (X:=fun _=>False) a) (fun _ y=>y.elim)
theorem Bd.grown(h:Bd X w W)(g:W.grownBy BT (some b))(c:b<w.heap.size→X b):Bd X w BT:=
 h.trans (Y:=fun k=>k=b) ⟨g.os,g.tape,g.output,g.size,fun k a hn=>g.block k a (fun e=>hn (by cases e;rfl))⟩ (fun k e a=>by subst e;exact c a)
theorem Bd.C9(h:Bd X w W)(a:C' W BT v BL)(c:∀k,v.ownBlock=some k→k<w.heap.size→X k):Bd X w BT:=
 h.trans (Y:=fun k=>v.ownBlock=some k) ⟨a.ai.os,a.ai.tape,a.ai.output,a.ai.size,fun k d hn=>a.ai.block k d (fun e=>hn e.symm)⟩ c
theorem Bd.Ag{o:Obj}(h:Bd X w W)(a:w.heap[k]? =some o)(hn:¬X k):W.heap[k]? =some o:=(h.block k (Ar a) hn).trans a
theorem Bd.toBelow{B:Nat}(h:Bd X w W)(b:B≤w.heap.size)(a:∀k,X k→B≤k):Below B w W:=
 ⟨h.os,h.tape,h.output,h.size,fun k c=>h.block k (by omega) (fun x=>by have:=a k x;omega)⟩
def EZ(b:Nat)(v u:Value)(k:Nat):Prop:=k=b∨v.ownBlock=some k∨u.ownBlock=some k
theorem EX(a:k≠b)(c:∀j,v.ownBlock=some j→j≠k)(d:∀j,u.ownBlock=some j→j≠k):¬EZ b v u k:=by
 rintro(h|h|h)
 ·exact a h
 ·exact c _ h D
 ·exact d _ h D
def AtR(n:Nat)(BL v:Value):Prop:=∀k,BL.ownBlock=some k→v.ownBlock=some k∨n≤k
theorem AtR.refl(n:Nat)(v:Value):AtR n v v:=fun _ h=>.inl h
theorem AtR.trans(h:AtR n v v0)(a:AtR m BL v)(hn:n≤m):AtR n BL v0:=fun k b=>(a k b).elim (h k) (fun q=>.inr (Bs hn q))
theorem AtR.C9(h:AtR n v v0)(a:C' W BT v BL)(hn:n≤W.heap.size):AtR n BL v0:=h.trans (m:=W.heap.size) a.at_ hn
theorem Jp(a:AtR n v v0)(c:AtR n u IU):∀k,EZ b v u k→k<n→EZ b v0 IU k:=by
 rintro k (h|h|h) d
 ·exact .inl h
 ·exact(a k h).elim (fun q=>.inr (.inl q)) (fun q=>by omega)
 ·exact(c k h).elim (fun q=>.inr (.inr q)) (fun q=>by omega)
theorem Cq(h:∀j,v.ownBlock=some j→j≠k)(a:AtR n BL v)(c:k<n):∀j,BL.ownBlock=some j→j≠k:=by
 intro j b e
 subst e
 exact(a j b).elim (fun q=>h j q D) (fun q=>by omega)
def Ap(v u:Value):Prop:=∀k,v.ownBlock=some k→u.ownBlock≠some k
theorem Ap.symm(h:Ap v u):Ap u v:=fun k a e=>h k e a
theorem Ap.BR(h:Ap v u)(a:C' W BT v BL)(hu:∀k,u.ownBlock=some k→k<W.heap.size):Ap BL u:=
 fun k b e=>(a.at_ k b).elim (fun q=>h k q e) (fun q=>by have:=hu k e;omega)
theorem Ap.Df(h:Ap v u)(a:C' W BT u G2)(hu:∀k,v.ownBlock=some k→k<W.heap.size):Ap v G2:=(h.symm.BR a hu).symm
theorem AI{p q:Option Addr}{a f c c' m Dp d g:Nat}(h:Ap (.slice p a c) (.slice q m d)):Ap (.slice p f c') (.slice q Dp g):=by
 intro k b e
 cases p with
 |none=>cases b
 |some x=>cases q with
  |none=>cases e
  |some y=>exact h k b e
theorem Bm{B size:Nat}{e:TypeId}{xs:List Value}(h:W.ownsRow B e size v n xs)(c:C' W BT u G2)(ne:Ap v u):BT.ownsRow B e size v n xs:=by
 refine⟨h.1,?_⟩
 rcases h.2 with q|⟨g,cap,cur,a,d,b,f⟩
 ·exact .inl q
 ·refine .inr ⟨g,cap,cur,a,d,?_,f⟩
  rw[←b]
  exact c.ai.block g (Ar b) (fun e=>ne g (by rw[a];rfl) e.symm)
theorem FA{B size:Nat}{e:TypeId}{xs:List Value}(h:W.ownsRow B e size v n xs)(f:Bd X W BT)(ne:∀k,v.ownBlock=some k→¬X k):BT.ownsRow B e size v n xs:=by
 refine⟨h.1,?_⟩
 rcases h.2 with q|⟨g,cap,cur,a,b,c,d⟩
 ·exact .inl q
 ·exact .inr ⟨g,cap,cur,a,b,f.Ag c (ne g (by rw[a];rfl)),d⟩
structure Dv (B:Nat) (w:World) (q:Option Addr) (n c size:Nat) (xs:List Value):Prop where
 v:View w (.slice q n c) n size xs
 lt:∀a,q=some a→a.block<B
section
variable {B c size:Nat} {q:Option Addr} {xs:List Value} {s:B8}
theorem Dv.below(h:Dv B w q n c size xs)(d:Below B w W):View W (.slice q n c) n size xs:=by
 refine⟨h.v.1,?_⟩
 rcases h.v.2 with z|⟨b,off,cap,a,e,f,g,i,j⟩
 ·exact .inl z
 ·simp only[Value.slice.injEq]at a
  exact .inr ⟨b,off,cap,by simp[a],e,f,g,Nat.lt_of_lt_of_le i d.size,j.FR (d.block b (h.lt _ a.1))⟩
theorem Dv.move(h:Dv B w q n c size xs)(a:Below B w W):Dv B W q n c size xs:=⟨h.below a,h.lt⟩
theorem Dv.of(h:View w (.slice q n c) n size xs):Dv w.heap.size w q n c size xs:=by
 refine⟨h,fun a e=>?_⟩
 rcases h.2 with⟨z,_⟩|⟨b,off,cap,d,_,_,_,f,_⟩
 ·simp only[Value.slice.injEq]at z;rw[e]at z;cases z.1
 ·simp only[Value.slice.injEq]at d;rw[e]at d;have:=d.1;simp only[Option.some.injEq]at this;subst this;exact f
theorem Dv.mono{b:Nat}(h:Dv B w q n c size xs)(d:B≤b):Dv b w q n c size xs:=⟨h.v,fun a e=>Nat.lt_of_lt_of_le (h.lt a e) d⟩
theorem Dv.front(h:Dv B w q n c size xs)(l:Nat)(a:l≤n):Dv B w q l c size (xs.take (l*size)):=⟨Kl h.v l a,h.lt⟩
theorem Dv.sub{p:Option Addr}{m Hu:Nat}{ys:List Value}(h:Dv B w q n c size xs)(d:View w (.slice p m Hu) m size ys)(e:∀k,(Value.slice p m Hu).ownBlock=some k→(Value.slice q n c).ownBlock=some k):Dv B w p m Hu size ys:=by
 refine⟨d,fun a f=>?_⟩
 subst f
 have:=e a.block D
 cases b:q with
 |none=>rw[b]at this;cases this
 |some g=>
  rw[b]at this
  simp only[Value.ownBlock,Option.some.injEq]at this
  rw[←this]
  exact h.lt g b
structure GD (B:Nat) (w:World) (s:B8):Prop where
 ok:s.ok w
 lt:∀a,s.p=some a→a.block<B
theorem GD.Lk(h:GD B w s):Dv B w s.p s.v.length s.c 1 (bv s.v):=⟨h.ok,h.lt⟩
theorem GD.below(h:GD B w s)(a:Below B w W):s.ok W:=h.Lk.below a
theorem GD.move(h:GD B w s)(a:Below B w W):GD B W s:=⟨h.below a,h.lt⟩
theorem GD.of(h:s.ok w):GD w.heap.size w s:=⟨h,h.lt⟩
end
structure HV (B:Nat) (w:World):Prop where
 g:CT w
 aA:0<B
 aB:2<B
 aK:1<B
theorem HV.of(h:CT w):HV w.heap.size w:=⟨h,h.aQ,h.aT,h.aR⟩
theorem HV.below{B:Nat}(h:HV B w)(a:Below B w W):CT W:=
 ⟨h.g.first.FR (a.block _ h.aA),Nat.lt_of_lt_of_le h.g.aQ a.size,h.g.consts.FR (a.block _ h.aB),Nat.lt_of_lt_of_le h.g.aT a.size,h.g.div.FR (a.block _ h.aK),Nat.lt_of_lt_of_le h.g.aR a.size⟩
theorem HV.move{B:Nat}(h:HV B w)(a:Below B w W):HV B W:=⟨h.below a,h.aA,h.aB,h.aK⟩
abbrev CY:=List (List UInt8×List UInt8)
abbrev Dz:=List (Nat×Nat×List UInt8)
def CK(x:Co):Nat×Nat×List UInt8:=(x.b,x.p,x.k.l)
def D4(m:CY)(n:Nat):Nat:=(m.takeWhile (fun x=>Cu x.1 n==0)).length
theorem I9(L:List B7)(n:Nat):D4 (A7 L) n=BF L n:=by
 unfold D4 A7 BF
 rw[List.takeWhile_map,List.length_map]
 rfl
def FH(old:Dz)(k:List UInt8)(n:Nat):Nat:=((old.find? (fun x=>decide (x.1=n)&&decide (n≤Da x.2.2 k))).map (fun x=>x.2.1)).getD 0
def HB(k:List UInt8)(a:Int×Nat)(x:Nat×Nat×List UInt8):Int×Nat:=if a.1<(x.1:Int)∧x.1≤Da x.2.2 k then((x.1:Int),x.2.1)else a
def Gj(old:Dz)(k:List UInt8):Int×Nat:=old.foldl (HB k) (-1,0)
def F3(old:Dz)(k:List UInt8)(n:Nat):Dz:=old.filter (fun x=>decide (n≤x.1)&&decide (n≤Da x.2.2 k))
def Fb(Cv:CY)(k v:List UInt8):Bool:=Cv.any (fun e=>decide (e.1=k)&&decide (e.2=v))
def DT:Nat→Dz→CY→CY→CY→Nat→Nat→Dz→Nat×Nat×Dz
 |0,_,_,_,_,_,next,CO=>(0,next,CO)
 |f+1,old,Cv,m,a,n,next,CO=>
  match a with
  |[]=>(0,next,CO)
  |(k,v)::_=>
   let s1:=if m=a then CO++F3 old k n else CO
   if m=a∧FH old k n≠0 then(FH old k n,next,s1)
   else if a.length=1 then
    (if Fb Cv k v then(Gj old k).2 else next,if Fb Cv k v then next else next+1,s1++[(n,(if Fb Cv k v then(Gj old k).2 else next),k)])
   else
    let r1:=DT f old Cv (m.take (D4 m n)) (a.take (D4 a n)) (n+1) next s1
    let r2:=DT f old Cv (m.drop (D4 m n)) (a.drop (D4 a n)) (n+1) r1.2.1 r1.2.2
    (r2.2.1,r2.2.1+1,r2.2.2++[(n,r2.2.1,k)])
theorem JO:∀(f:Nat) (old:Dz) (Cv m b:CY) (n next:Nat) (CO:Dz),next≤(DT f old Cv m b n next CO).2.1∧CO.length≤(DT f old Cv m b n next CO).2.2.length:=by
 intro f
 induction f with
 |zero=>intro old Cv m b n next CO;exact⟨Be _,Be _⟩
 |succ f d=>
  intro old Cv m b n next CO
  unfold DT
  match b with
  |[]=>exact⟨Be _,Be _⟩
  |(k,v)::t=>
   have e:CO.length≤(if m=(k,v)::t then CO++F3 old k n else CO).length:=by split<;>simp
   simp only
   generalize (if m=(k,v)::t then CO++F3 old k n else CO)=s1 at*
   split
   ·exact⟨Be _,e⟩
   ·split
    ·refine⟨?_,by simp;omega⟩
     show next≤(if Fb Cv k v=true then next else next+1)
     split<;>omega
    ·have a:=d old Cv (m.take (D4 m n)) (((k,v)::t).take (D4 ((k,v)::t) n)) (n+1) next s1
     have c:=d old Cv (m.drop (D4 m n)) (((k,v)::t).drop (D4 ((k,v)::t) n)) (n+1) (DT f old Cv (m.take (D4 m n)) (((k,v)::t).take (D4 ((k,v)::t) n)) (n+1) next s1).2.1 (DT f old Cv (m.take (D4 m n)) (((k,v)::t).take (D4 ((k,v)::t) n)) (n+1) next s1).2.2
     simp only[List.length_append,List.length_singleton]
     exact⟨by omega,by omega⟩
theorem Wn{old:Dz}(h:∀x∈old,x.2.1≤P)(k:List UInt8)(n:Nat):FH old k n≤P:=by
 unfold FH
 cases a:old.find? (fun x=>decide (x.1=n)&&decide (n≤Da x.2.2 k))with
 |none=>exact Nat.zero_le _
 |some x=>exact h x (List.mem_of_find?_eq_some a)
theorem Tf{old:Dz}(h:∀x∈old,x.2.1≤P)(k:List UInt8):(Gj old k).2≤P:=by
 unfold Gj
 have:∀(a:Int×Nat),a.2≤P→(old.foldl (HB k) a).2≤P:=by
  induction old with
  |nil=>intro a b;exact b
  |cons x old c=>
   intro a b
   rw[List.foldl_cons]
   refine c (fun y d=>h y (by simp[d])) _ ?_
   unfold HB
   split
   ·exact h x (by simp)
   ·exact b
 exact this _ (Nat.zero_le _)
theorem OF:∀(f:Nat) (old:Dz) (Cv m b:CY) (n next:Nat) (CO:Dz),(∀x∈old,x.2.1≤next)→(∀x∈CO,x.2.1≤next)→(DT f old Cv m b n next CO).1≤(DT f old Cv m b n next CO).2.1∧∀x∈(DT f old Cv m b n next CO).2.2,x.2.1≤(DT f old Cv m b n next CO).2.1:=by
 intro f
 induction f with
 |zero=>intro old Cv m b n next CO e g;exact⟨Nat.zero_le _,g⟩
 |succ f i=>
  intro old Cv m b n next CO e g
  unfold DT
  match b with
  |[]=>exact⟨Nat.zero_le _,g⟩
  |(k,v)::t=>
   have h:∀x∈(if m=(k,v)::t then CO++F3 old k n else CO),x.2.1≤next:=by
    split
    ·intro x d
     rcases List.mem_append.1 d with q|q
     ·exact g x q
     ·exact e x (List.mem_filter.1 q).1
    ·exact g
   simp only
   generalize (if m=(k,v)::t then CO++F3 old k n else CO)=s1 at*
   split
   ·exact⟨Wn e k n,h⟩
   ·split
    ·have r:=Tf e k
     have j:(if Fb Cv k v then(Gj old k).2 else next)≤if Fb Cv k v then next else next+1:=by split<;>omega
     refine⟨j,fun x d=>?_⟩
     rcases List.mem_append.1 d with q|q
     ·have l:=h x q
      have o:next≤if Fb Cv k v then next else next+1:=by split<;>omega
      exact Bs l o
     ·simp at q;subst q;exact j
    ·have p:=JO f old Cv (m.take (D4 m n)) (((k,v)::t).take (D4 ((k,v)::t) n)) (n+1) next s1
     have a:=i old Cv (m.take (D4 m n)) (((k,v)::t).take (D4 ((k,v)::t) n)) (n+1) next s1 e h
     generalize DT f old Cv (m.take (D4 m n)) (((k,v)::t).take (D4 ((k,v)::t) n)) (n+1) next s1=r1 at*
     have c:=i old Cv (m.drop (D4 m n)) (((k,v)::t).drop (D4 ((k,v)::t) n)) (n+1) r1.2.1 r1.2.2 (fun x d=>Bs (e x d) p.1) a.2
     generalize DT f old Cv (m.drop (D4 m n)) (((k,v)::t).drop (D4 ((k,v)::t) n)) (n+1) r1.2.1 r1.2.2=r2 at*
     refine⟨by simp,fun x d=>?_⟩
     rcases List.mem_append.1 d with q|q
     ·have:=c.2 x q;simp only;omega
     ·simp at q;subst q;simp
theorem Qm(f:Nat)(old:Dz)(Cv m:CY){a:CY}(b:a.length=0)(n next:Nat)(CO:Dz):DT (f+1) old Cv m a n next CO=(0,next,CO):=by
 obtain rfl:=List.length_eq_zero_iff.1 b
 rfl
section
variable {f:Nat} {old:Dz} {Cv m:CY} {BX:List B7} {x:B7} {n next:Nat} {CO s1:Dz}
theorem Oc(a:BX[0]? =some x):∃t,A7 BX=(x.k.l,x.s.v)::t:=by
 match BX,a with
 |y::Az,a=>simp at a;subst a;exact⟨A7 Az,D⟩
theorem RO(a:BX[0]? =some x)(hm:m=A7 BX)(b:FH old x.k.l n≠0):DT (f+1) old Cv m (A7 BX) n next CO=(FH old x.k.l n,next,CO++F3 old x.k.l n):=by
 obtain⟨t,c⟩:=Oc a
 rw[c]at hm⊢
 unfold DT
 simp only
 rw[if_pos hm,if_pos ⟨hm,b⟩]
theorem PN(b:BX[0]? =some x)(c:s1=if m=A7 BX then CO++F3 old x.k.l n else CO)(hn:¬(m=A7 BX∧FH old x.k.l n≠0))(d:BX.length=1):DT (f+1) old Cv m (A7 BX) n next CO=
 (if Fb Cv x.k.l x.s.v then(Gj old x.k.l).2 else next,if Fb Cv x.k.l x.s.v then next else next+1,s1++[(n,(if Fb Cv x.k.l x.s.v then(Gj old x.k.l).2 else next),x.k.l)]):=by
 obtain⟨t,e⟩:=Oc b
 have a:(A7 BX).length=1:=by rw[It,d]
 subst c
 rw[e]at hn a⊢
 unfold DT
 simp only
 rw[if_neg hn,if_pos a]
theorem Su(b:BX[0]? =some x)(c:s1=if m=A7 BX then CO++F3 old x.k.l n else CO)(hn:¬(m=A7 BX∧FH old x.k.l n≠0))(d:¬BX.length=1){r1 r2:Nat×Nat×Dz}
 (e:r1=DT f old Cv (m.take (D4 m n)) ((A7 BX).take (D4 (A7 BX) n)) (n+1) next s1)(g:r2=DT f old Cv (m.drop (D4 m n)) ((A7 BX).drop (D4 (A7 BX) n)) (n+1) r1.2.1 r1.2.2):
 DT (f+1) old Cv m (A7 BX) n next CO=(r2.2.1,r2.2.1+1,r2.2.2++[(n,r2.2.1,x.k.l)]):=by
 obtain⟨t,h⟩:=Oc b
 have a:¬(A7 BX).length=1:=by rw[It];exact d
 subst c
 subst e
 subst g
 rw[h]at hn a⊢
 conv=>lhs;unfold DT
 simp only
 rw[if_neg hn,if_neg a]
end
structure IZ (B b:Nat) (W:World) (wd next:Nat) (es:Value) (root:Nat) (Cv os:Value) (ZE:Option Addr) (Zz As:Nat) (Ay:List DD) (ZU:Option Addr) (ZM cs:Nat) (DV:List Co):Prop where
 Z7:B≤b
 H:W.heap[b]? =some (.cells (flat [[.int .i64 ((wd:Nat):Int)],[.int .i64 ((next:Nat):Int)],[es],[.int .i64 ((root:Nat):Int)],[Cv],[os],[.slice ZE Zz As],[.slice ZU ZM cs]]) 164 (0,0))
 bn:W.ownsRow B 127 102 (.slice ZE Zz As) Zz (Al Dd Ay)
 Zt:W.ownsRow B 190 66 (.slice ZU ZM cs) ZM (Al CA DV)
 ZW:∀k,(Value.slice ZE Zz As).ownBlock=some k→k≠b
 ZX:∀k,(Value.slice ZU ZM cs).ownBlock=some k→k≠b
 ZV:Ap (.slice ZE Zz As) (.slice ZU ZM cs)
theorem IZ.low{B b:Nat}{W:World}{wd next:Nat}{es:Value}{root:Nat}{Cv os:Value}{a:Option Addr}{c As:Nat}{Ay:List DD}{d:Option Addr}{e cs:Nat}{DV:List Co}(h:IZ B b W wd next es root Cv os a c As Ay d e cs DV):∀k,EZ b (.slice a c As) (.slice d e cs) k→B≤k:=by
 rintro k (q|q|q)
 ·rw[q];exact h.Z7
 ·exact(h.bn.lt k q).1
 ·exact(h.Zt.lt k q).1
structure IM (Az:List B7) (x:DD):Prop where
 ZI:x.ZI=1∨x.ZI=2
 s:x.s=DZ∨∃e∈Az,x.s=e.s
 n:x.s.v.length≤128
 b:x.l≤1152921504606846976∧x.r≤1152921504606846976∧x.lc≤1152921504606846976∧x.rc≤1152921504606846976
theorem J4(L:List B7)(k:Nat):A7 (L.take k)=(A7 L).take k:=by unfold A7;rw[List.map_take]
theorem Ku(L:List B7)(k:Nat):A7 (L.drop k)=(A7 L).drop k:=by unfold A7;rw[List.map_drop]
theorem Yj{L:List B7}{k v:List UInt8}{y:B7}(a:y∈L)(b:y.k.l=k)(c:y.s.v=v):Fb (A7 L) k v=true:=by
 unfold Fb A7
 rw[List.any_map,List.any_eq_true]
 exact⟨y,a,by simp[b,c]⟩
theorem Yf{L:List B7}{k v:List UInt8}{y:B7}(a:L.Pairwise Ez)(f:y∈L)(b:y.k.l=k)(g:¬y.s.v=v):Fb (A7 L) k v=false:=by
 unfold Fb A7
 rw[List.any_map,List.any_eq_false]
 intro z h
 simp only[Function.comp,Bool.and_eq_true,decide_eq_true_eq,not_and]
 intro c m
 obtain⟨i,d,rfl⟩:=List.getElem_of_mem f
 obtain⟨j,e,rfl⟩:=List.getElem_of_mem h
 have n:=I7 k
 rcases Nat.lt_trichotomy i j with q|q|q
 ·have:=List.pairwise_iff_getElem.1 a i j d e q
  unfold Ez at this
  rw[b,c]at this
  omega
 ·subst q;exact g m
 ·have:=List.pairwise_iff_getElem.1 a j i e d q
  unfold Ez at this
  rw[b,c]at this
  omega
theorem Ty{L:List B7}{k v:List UInt8}(h:∀x∈L,¬x.k.l=k):Fb (A7 L) k v=false:=by
 unfold Fb A7
 rw[List.any_map,List.any_eq_false]
 intro z a
 simp only[Function.comp,Bool.and_eq_true,decide_eq_true_eq,not_and]
 intro b
 exact absurd b (h z a)
theorem YF{L DV b:List Co}{c:Prop}[Decidable c]{k:List UInt8}{n next:Nat}(h:L.map CK=if c then DV.map CK++F3 (b.map CK) k n else DV.map CK)(f:∀x∈DV,x.p≤next)(g:∀x∈b,x.p≤next):∀x∈L,x.p≤next:=by
 intro x i
 have a:CK x∈L.map CK:=List.mem_map_of_mem i
 rw[h]at a
 have key:∀d:List Co,(∀x∈d,x.p≤next)→CK x∈d.map CK→x.p≤next:=by
  intro d j hm
  obtain⟨y,l,e⟩:=List.mem_map.1 hm
  have:=j y l
  simp only[CK,Prod.mk.injEq]at e
  omega
 split at a
 ·rcases List.mem_append.1 a with q|q
  ·exact key DV f q
  ·exact key b g (List.mem_filter.1 q).1
 ·exact key DV f a
theorem LX{L:List Co}(h:∀x∈L,x.p≤P):∀x∈L.map CK,x.2.1≤P:=by
 intro g a
 obtain⟨y,b,rfl⟩:=List.mem_map.1 a
 exact h y b
theorem MJ{L:List Co}{a:Dz}(e:L.map CK=a)(h:∀x∈a,x.2.1≤P):∀x∈L,x.p≤P:=by
 intro x b
 exact h (CK x) (by rw[←e];exact List.mem_map_of_mem b)
theorem WE{L:List Co}{a:Dz}(e:L.map CK=a):L.length=a.length:=by rw[←e,List.length_map]
theorem Gn{Ck:Type}{P:Ck→Prop}{L:List Ck}{x:Ck}(h:∀y∈L,P y)(a:P x:=by dsimp only;omega):∀y∈L++[x],P y:=by
 intro y b
 rcases List.mem_append.1 b with q|q
 ·exact h y q
 ·simp at q;subst q;exact a
theorem Bd.B1{X:Nat→Prop}{w W BT:World}{b:Nat}(h:Bd X w W)(g:W.grownBy BT (some b))(a:b<w.heap.size→X b:=by first|exact fun _=>Or.inl rfl|exact fun _=>Or.inr rfl|exact fun _=>Or.inr (Or.inl rfl)|exact fun h=>absurd h (by omega)):Bd X w BT:=h.grown g a
theorem Bd.DB{X:Nat→Prop}{w W BT:World}{v BL v0:Value}{n:Nat}(h:Bd X w W)(a:C' W BT v BL)(at_:AtR n v v0)(b:∀k,v0.ownBlock=some k→X k)(hn:w.heap.size≤n:=by omega):Bd X w BT:=h.C9 a (fun k c d=>(at_ k c).elim (b k) (fun q=>absurd d (by omega)))
section
variable {P:Program} {w w':World} {ops:Array Oper} {rest:List Oper} {Ac:Exit→Act→World→Prop} {U:Nat} {f:Db} {d:Nat} {ty:TypeId} {pos:String} {AF:Array Edge} {dst:Option Tmp} {A4:World→Prop} {fuel B3:Nat} {listed:Array Bool}
theorem EV(i:Nat){op:Op}{v:Value}(e:ops[i]? =some ⟨some d,op,ty,pos,AF,some (j,t)⟩)(g:ops[j]? =some CX)(l:CX.dst=some k)(m:f k=some (.bool t))(n:∀W,A4 W→∀a,Ao U a f→Cy P a W ⟨some d,op,ty,pos,AF,some (j,t)⟩ v W)(o:A4 w)(h:CD P ops Ac A4 U w (Ja f d v) fuel (listed.setIfInBounds i true))(p:B3=fuel+1:=by exact rfl)(zs:Region.noSelect ops=true:=by kernel_rfl)(r:Region.free .any ops listed i=true:=by kernel_rfl)(s:(Region.ready .any ops listed).contains i=true:=by kernel_rfl)(u:∀c (a:Act) w,Ac (.panic c) (a.put (some d) v) w→Ac (.panic c) a w:=by exact fun _ _ _ h=>h)(x:Nat.blt d U=true:=by exact rfl):CD P ops Ac A4 U w f B3 listed:=
 fun a b=>TT b x e (I0 D g l b m) p zs r s u (fun W q=>n W q a b) o h
theorem Ci(i:Nat){o:Oper}{u:Bool}(e:ops[i]? =some o)(g:o.guard=some (j,t))(l:ops[j]? =some CX)(m:CX.dst=some k)(n:f k=some (.bool u))(p:t=!u)(q:o.dst=some d)(r:A4 w)(h:CD P ops Ac A4 U w (Ja f d undef) fuel (listed.setIfInBounds i true))(s:B3=fuel+1:=by exact rfl)(zs:Region.noSelect ops=true:=by kernel_rfl)(v:Region.free .any ops listed i=true:=by kernel_rfl)(x:(Region.ready .any ops listed).contains i=true:=by kernel_rfl)(y:∀c (a:Act) w,Ac (.panic c) (a.put (some d) undef) w→Ac (.panic c) a w:=by exact fun _ _ _ h=>h)(z:Nat.blt d U=true:=by exact rfl):CD P ops Ac A4 U w f B3 listed:=by
 subst p
 exact fun a b=>Y_ b q z e (Xt g l m b n) s zs v x y r h
theorem He(i:Nat){v:Value}(b:ops[i]? =some ⟨some d,.move x,ty,pos,AF,some (j,t)⟩)(e:ops[j]? =some CX)(g:CX.dst=some k)(l:f k=some (.bool t))(m:Au f x=some v)(n:A4 w)(h:CD P ops Ac A4 U w (Ja f d v) fuel (listed.setIfInBounds i true))(o:B3=fuel+1:=by exact rfl)(zs:Region.noSelect ops=true:=by kernel_rfl)(p:Region.free .any ops listed i=true:=by kernel_rfl)(q:(Region.ready .any ops listed).contains i=true:=by kernel_rfl)(r:∀c (a:Act) w,Ac (.panic c) (a.put (some d) v) w→Ac (.panic c) a w:=by exact fun _ _ _ h=>h)(s:Nat.blt d U=true:=by exact rfl):CD P ops Ac A4 U w f B3 listed:=EV i b e g l (fun W _ a u=>Ew u m) n h o zs p q r s
theorem MF(i:Nat){p:Addr}(b:ops[i]? =some ⟨some d,.nilCheck x,ty,pos,AF,some (j,t)⟩)(e:ops[j]? =some CX)(g:CX.dst=some k)(l:f k=some (.bool t))(m:Au f x=some (.pointer (some p)))(n:A4 w)(h:CD P ops Ac A4 U w (Ja f d (.pointer (some p))) fuel (listed.setIfInBounds i true))(o:B3=fuel+1:=by exact rfl)(zs:Region.noSelect ops=true:=by kernel_rfl)(q:Region.free .any ops listed i=true:=by kernel_rfl)(r:(Region.ready .any ops listed).contains i=true:=by kernel_rfl)(s:∀c (a:Act) w,Ac (.panic c) (a.put (some d) (.pointer (some p))) w→Ac (.panic c) a w:=by exact fun _ _ _ h=>h)(u:Nat.blt d U=true:=by exact rfl):CD P ops Ac A4 U w f B3 listed:=EV i b e g l (fun W _ a v=>Lz v m) n h o zs q r s u
theorem H5(i:Nat){s:TypeId}{i1:Nat}{b off:Nat}{e:Array Field}(g:ops[i]? =some ⟨some d,.fieldAddr s x i1,ty,pos,AF,some (j,t)⟩)(l:ops[j]? =some CX)(m:CX.dst=some k)(n:f k=some (.bool t))(hu:P.underlying s=some (.struct e))(o:Nat)(p:Au f x=some (.pointer (some ⟨b,off,none⟩)))(q:A4 w)(h:CD P ops Ac A4 U w (Ja f d (.pointer (some ⟨b,o,none⟩))) fuel (listed.setIfInBounds i true)){Cs:Field}(r:e[i1]? =some Cs:=by exact rfl)(u:(P.info? Cs.type).any (fun i=>Nat.blt 0 i.size)=true:=by kernel_rfl)(v:off+Cs.offset=o:=by first|rfl|omega)(y:B3=fuel+1:=by exact rfl)(zs:Region.noSelect ops=true:=by kernel_rfl)(z:Region.free .any ops listed i=true:=by kernel_rfl)(A:(Region.ready .any ops listed).contains i=true:=by kernel_rfl)(B:∀c (a:Act) w,Ac (.panic c) (a.put (some d) (.pointer (some ⟨b,o,none⟩))) w→Ac (.panic c) a w:=by exact fun _ _ _ h=>h)(C:Nat.blt d U=true:=by exact rfl):CD P ops Ac A4 U w f B3 listed:=EV i g l m n (fun W _ a D=>Mh D p hu r u v) q h y zs z A B C
theorem X4(i:Nat){p q:Nat}(b:ops[i]? =some ⟨some d,.binOp .add IE x y JJ,ty,pos,AF,some (j,t)⟩)(e:ops[j]? =some CX)(g:CX.dst=some k)(l:f k=some (.bool t))(m:Au f x=some (.int .i64 p))(n:Au f y=some (.int .i64 q))(o:A4 w)(h:CD P ops Ac A4 U w (Ja f d (.int .i64 ((p+q:Nat):Int))) fuel (listed.setIfInBounds i true))(r:p+q≤9223372036854775807:=by omega)(s:B3=fuel+1:=by exact rfl)(zs:Region.noSelect ops=true:=by kernel_rfl)(u:Region.free .any ops listed i=true:=by kernel_rfl)(v:(Region.ready .any ops listed).contains i=true:=by kernel_rfl)(z:∀c (a:Act) w,Ac (.panic c) (a.put (some d) (.int .i64 ((p+q:Nat):Int))) w→Ac (.panic c) a w:=by exact fun _ _ _ h=>h)(A:Nat.blt d U=true:=by exact rfl):CD P ops Ac A4 U w f B3 listed:=EV i b e g l (fun W _ a B=>Lq B m n D r) o h s zs u v z A
theorem Xh(i:Nat){p q:Nat}(b:ops[i]? =some ⟨some d,.binOp .sub IE x y JJ,ty,pos,AF,some (j,t)⟩)(e:ops[j]? =some CX)(g:CX.dst=some k)(l:f k=some (.bool t))(m:Au f x=some (.int .i64 p))(n:Au f y=some (.int .i64 q))(o:A4 w)(h:CD P ops Ac A4 U w (Ja f d (.int .i64 ((p - q:Nat):Int))) fuel (listed.setIfInBounds i true))(r:p=q+(p - q):=by omega)(s:p≤9223372036854775807:=by omega)(u:B3=fuel+1:=by exact rfl)(zs:Region.noSelect ops=true:=by kernel_rfl)(v:Region.free .any ops listed i=true:=by kernel_rfl)(z:(Region.ready .any ops listed).contains i=true:=by kernel_rfl)(A:∀c (a:Act) w,Ac (.panic c) (a.put (some d) (.int .i64 ((p - q:Nat):Int))) w→Ac (.panic c) a w:=by exact fun _ _ _ h=>h)(B:Nat.blt d U=true:=by exact rfl):CD P ops Ac A4 U w f B3 listed:=EV i b e g l (fun W _ a C=>Lg C m n r s) o h u zs v z A B
theorem RK(i:Nat)(b:ops[i]? =some ⟨some d,.binOp .geq IE x y JJ,ty,pos,AF,some (j,t)⟩)(e:ops[j]? =some CX)(g:CX.dst=some k)(l:f k=some (.bool t))(m:q≤p)(n:Au f x=some (.int H4 p))(o:Au f y=some (.int H4 q))(r:A4 w)(h:CD P ops Ac A4 U w (Ja f d (.bool true)) fuel (listed.setIfInBounds i true))(s:B3=fuel+1:=by exact rfl)(zs:Region.noSelect ops=true:=by kernel_rfl)(u:Region.free .any ops listed i=true:=by kernel_rfl)(v:(Region.ready .any ops listed).contains i=true:=by kernel_rfl)(z:∀c (a:Act) w,Ac (.panic c) (a.put (some d) (.bool true)) w→Ac (.panic c) a w:=by exact fun _ _ _ h=>h)(A:Nat.blt d U=true:=by exact rfl):CD P ops Ac A4 U w f B3 listed:=EV i b e g l (fun W _ a B=>Lb B n o true (decide_eq_true m)) r h s zs u v z A
theorem Rx(i:Nat)(b:ops[i]? =some ⟨some d,.binOp .geq IE x y JJ,ty,pos,AF,some (j,t)⟩)(e:ops[j]? =some CX)(g:CX.dst=some k)(l:f k=some (.bool t))(m:¬(q≤p))(n:Au f x=some (.int H4 p))(o:Au f y=some (.int H4 q))(r:A4 w)(h:CD P ops Ac A4 U w (Ja f d (.bool false)) fuel (listed.setIfInBounds i true))(s:B3=fuel+1:=by exact rfl)(zs:Region.noSelect ops=true:=by kernel_rfl)(u:Region.free .any ops listed i=true:=by kernel_rfl)(v:(Region.ready .any ops listed).contains i=true:=by kernel_rfl)(z:∀c (a:Act) w,Ac (.panic c) (a.put (some d) (.bool false)) w→Ac (.panic c) a w:=by exact fun _ _ _ h=>h)(A:Nat.blt d U=true:=by exact rfl):CD P ops Ac A4 U w f B3 listed:=EV i b e g l (fun W _ a B=>Lb B n o false (decide_eq_false m)) r h s zs u v z A
theorem NU(i:Nat)(b:ops[i]? =some ⟨some d,.binOp .eql IE x y JJ,ty,pos,AF,some (j,t)⟩)(e:ops[j]? =some CX)(g:CX.dst=some k)(l:f k=some (.bool t))(m:p=q)(n:Au f x=some (.int H4 p))(o:Au f y=some (.int H4 q))(r:A4 w)(h:CD P ops Ac A4 U w (Ja f d (.bool true)) fuel (listed.setIfInBounds i true))(s:B3=fuel+1:=by exact rfl)(zs:Region.noSelect ops=true:=by kernel_rfl)(u:Region.free .any ops listed i=true:=by kernel_rfl)(v:(Region.ready .any ops listed).contains i=true:=by kernel_rfl)(z:∀c (a:Act) w,Ac (.panic c) (a.put (some d) (.bool true)) w→Ac (.panic c) a w:=by exact fun _ _ _ h=>h)(A:Nat.blt d U=true:=by exact rfl):CD P ops Ac A4 U w f B3 listed:=EV i b e g l (fun W _ a B=>IT B n o true (decide_eq_true m)) r h s zs u v z A
theorem MG(i:Nat)(b:ops[i]? =some ⟨some d,.binOp .eql IE x y JJ,ty,pos,AF,some (j,t)⟩)(e:ops[j]? =some CX)(g:CX.dst=some k)(l:f k=some (.bool t))(m:¬(p=q))(n:Au f x=some (.int H4 p))(o:Au f y=some (.int H4 q))(r:A4 w)(h:CD P ops Ac A4 U w (Ja f d (.bool false)) fuel (listed.setIfInBounds i true))(s:B3=fuel+1:=by exact rfl)(zs:Region.noSelect ops=true:=by kernel_rfl)(u:Region.free .any ops listed i=true:=by kernel_rfl)(v:(Region.ready .any ops listed).contains i=true:=by kernel_rfl)(z:∀c (a:Act) w,Ac (.panic c) (a.put (some d) (.bool false)) w→Ac (.panic c) a w:=by exact fun _ _ _ h=>h)(A:Nat.blt d U=true:=by exact rfl):CD P ops Ac A4 U w f B3 listed:=EV i b e g l (fun W _ a B=>IT B n o false (decide_eq_false m)) r h s zs u v z A
theorem Ye(i:Nat)(b:ops[i]? =some ⟨some d,.binOp .neq IE x y JJ,ty,pos,AF,some (j,t)⟩)(e:ops[j]? =some CX)(g:CX.dst=some k)(l:f k=some (.bool t))(m:p=q)(n:Au f x=some (.int H4 p))(o:Au f y=some (.int H4 q))(r:A4 w)(h:CD P ops Ac A4 U w (Ja f d (.bool false)) fuel (listed.setIfInBounds i true))(s:B3=fuel+1:=by exact rfl)(zs:Region.noSelect ops=true:=by kernel_rfl)(u:Region.free .any ops listed i=true:=by kernel_rfl)(v:(Region.ready .any ops listed).contains i=true:=by kernel_rfl)(z:∀c (a:Act) w,Ac (.panic c) (a.put (some d) (.bool false)) w→Ac (.panic c) a w:=by exact fun _ _ _ h=>h)(A:Nat.blt d U=true:=by exact rfl):CD P ops Ac A4 U w f B3 listed:=EV i b e g l (fun W _ a B=>JX B n o false (by rw[decide_eq_true m];rfl)) r h s zs u v z A
theorem YO(i:Nat){e:TypeId}{size bytes:Nat}{z:Value}{l:Operand}{b off n c:Nat}{i0:Int}(m:ops[i]? =some ⟨some d,.indexAddr IE x l,ty,pos,AF,some (j,t)⟩)(p:ops[j]? =some CX)(q:CX.dst=some k)(r:f k=some (.bool t))(s:CN P IE e size bytes z)(g:Nat)(o:Nat)(u:Au f x=some (.slice (some ⟨b,off,none⟩) n c))(v:Au f l=some (.int H4 i0))(y:A4 w)(h:CD P ops Ac A4 U w (Ja f d (.pointer (some ⟨b,o,none⟩))) fuel (listed.setIfInBounds i true))(A:i0=g:=by omega)(B:g<n:=by omega)(C:off+g*size=o:=by first|rfl|omega)(D:B3=fuel+1:=by exact rfl)(zs:Region.noSelect ops=true:=by kernel_rfl)(E:Region.free .any ops listed i=true:=by kernel_rfl)(F:(Region.ready .any ops listed).contains i=true:=by kernel_rfl)(G:∀c (a:Act) w,Ac (.panic c) (a.put (some d) (.pointer (some ⟨b,o,none⟩))) w→Ac (.panic c) a w:=by exact fun _ _ _ h=>h)(H:Nat.blt d U=true:=by exact rfl):CD P ops Ac A4 U w f B3 listed:=EV i m p q r (fun W _ a I=>Fz I s u v g A B C) y h D zs E F G H
end
end Go.Proofs.YtcdaflcjhimimaaGreatDoor
namespace Go.Proofs.YtcdaflcjhimimaaGreatDoor
open Go.RowKit
set_option maxRecDepth 100000
set_option maxHeartbeats 1000000
variable {i n b wd next root ce no co B6 cos:Nat} {AQ CJ Bf:Option Addr}
def JS(k:Jd)(n:Nat)(x:Nat×Nat×List UInt8):Bool:=decide (x.1=n)&&decide (n≤Da x.2.2 k.l)
theorem Yt{L:List Co}{x:Co}{k:Jd}(h:∀j,j<i→∀y,L[j]? =some y→JS k n (CK y)=false)(c:L[i]? =some x)(e:x.b=n)(f:n≤Da x.k.l k.l):FH (L.map CK) k.l n=x.p:=by
 induction L generalizing i with
 |nil=>simp at c
 |cons a L g=>
  unfold FH
  rw[List.map_cons,List.find?_cons]
  cases i with
  |zero=>
   simp at c
   subst c
   have:(decide ((CK a).1=n)&&decide (n≤Da (CK a).2.2 k.l))=true:=by simp[CK,e,f]
   rw[this]
   rfl
  |succ i=>
   have d:=h 0 (by omega) a D
   unfold JS at d
   rw[d]
   exact g (i:=i) (fun j o y m=>h (j+1) (by omega) y (by simpa using m)) (by simpa using c)
theorem U'{L:List Co}{m:Nat}{k:Jd}(d:L.length=m)(h:∀j,j<m→∀y,L[j]? =some y→JS k n (CK y)=false):FH (L.map CK) k.l n=0:=by
 unfold FH
 have:(L.map CK).find? (fun x=>decide (x.1=n)&&decide (n≤Da x.2.2 k.l))=none:=by
  rw[List.find?_eq_none]
  intro g a
  obtain⟨y,b,rfl⟩:=List.mem_map.1 a
  obtain⟨j,c,rfl⟩:=List.getElem_of_mem b
  have:=h j (by omega) _ (List.getElem?_eq_getElem c)
  unfold JS at this
  rw[this];decide
 rw[this];rfl
theorem N3{L:List Co}{x:Co}{k:List UInt8}{a:Int×Nat}(b:L[i]? =some x)(h:((L.take i).map CK).foldl (HB k) (-1,0)=a):((L.take (i+1)).map CK).foldl (HB k) (-1,0)=HB k a (CK x):=by
 rw[List.take_add_one,b,List.map_append,List.foldl_append,h]
 rfl
theorem UE{k:List UInt8}{z:Int}{p:Nat}{x:Co}(a:z<(x.b:Int))(c:x.b≤Da x.k.l k):HB k (z,p) (CK x)=((x.b:Int),x.p):=if_pos ⟨a,c⟩
theorem Rm{k:List UInt8}{z:Int}{p:Nat}{x:Co}(h:¬(z<(x.b:Int)∧x.b≤Da x.k.l k)):HB k (z,p) (CK x)=(z,p):=if_neg h
def FM(k:Jd)(n:Nat)(x:Co):Bool:=decide (n≤x.b)&&decide (n≤Da x.k.l k.l)
def ET(L:List Co)(k:Jd)(n:Nat):List Co:=L.filter (FM k n)
theorem Pl(L:List Co)(k:Jd)(n:Nat):(ET L k n).map CK=F3 (L.map CK) k.l n:=by
 unfold ET F3
 rw[List.filter_map]
 rfl
theorem Q6{L:List Co}{x:Co}{k:Jd}(a:L[i]? =some x)(c:n≤x.b)(d:n≤Da x.k.l k.l):ET (L.take (i+1)) k n=ET (L.take i) k n++[x]:=by
 unfold ET
 rw[List.take_add_one,a,List.filter_append]
 simp[FM,c,d]
theorem LG{L:List Co}{x:Co}{k:Jd}(a:L[i]? =some x)(h:¬(n≤x.b∧n≤Da x.k.l k.l)):ET (L.take (i+1)) k n=ET (L.take i) k n:=by
 unfold ET
 rw[List.take_add_one,a,List.filter_append]
 have:FM k n x=false:=by
  unfold FM
  rw[Bool.and_eq_false_iff,decide_eq_false_iff_not,decide_eq_false_iff_not]
  omega
 simp[this]
theorem W_{J CQ:Value}(D':List Jd)(C4:List Co)(k:Jd)(n:Nat)(w:World)(NV:B6≤1000000000000)(hn:n≤256)(H:Ai w b [[E wd],[E next],[F AQ 257 ce],[E root],[F CJ no co],[F Bf B6 cos],[J],[CQ]] 164)(he:View w (F AQ 257 ce) 257 32 (Al Ex D'))(ad:D'.length=257)(P:View w (F Bf B6 cos) B6 66 (Al CA C4))(X:C4.length=B6):
 Calls Tryz.prog 106 #[AB b,Value.agg (flat [bv k.l]),E n] w fun e w'=>∃d:Jd,e=.returned (.tuple #[.int .i64 ((FH (C4.map CK) k.l n:Nat):Int),.agg (flat [bv d.l])])∧Below w.heap.size w w':=by
 have c:Below w.heap.size w w:=Bu _ _
 refine Bx Sk D 71 ?_
 refine K<|N<|CW D ?_
 intro T aw C x g r
 have ax:=Bg c C
 have ay:=AP H C
 have H:=Q H r
 have c:=Ah c r
 clear x
 refine O (v:=(E 0)) D<|BQ [Av 32] ?_
 intro U az C x f r
 have aA:=Bg c C
 have aB:=AP H C
 have aC:=AP g C
 have H:=Q H r
 have g:=Q g r
 have c:=Ah c r
 clear x
 rw[Du]at f
 refine M<|G<|K<|K<|N<|O (v:=(E 0)) D<|M<|G<|A2<|?_
 intro a m
 refine Cb (fun ae a W=>∃i,ae=B6 - i∧Ao 71 a (Ja (Ja (Ja (Ja (Ja Je 0 (AB b)) 2 (E n)) 4 (AB T)) 7 (AB U)) 8 (E i))∧i≤B6∧Hid (∀j,j<i→∀y,C4[j]? =some y→JS k n (CK y)=false)∧Below w.heap.size w W∧Ai W b [[E wd],[E next],[F AQ 257 ce],[E root],[F CJ no co],[F Bf B6 cos],[J],[CQ]] 164∧Ai W T [bv k.l] 51∧Ai W U [bv (List.replicate 32 0)] 125) _ ⟨0,D,At m,by omega,Aw (fun j aD=>by omega),c,H,g,f⟩ ?_
 rintro _ a aE ⟨i,rfl,m,aF,x,c,H,g,f⟩
 revert a
 refine K<|K<|N<|I D<|I D<|Bt D<|Am DR 3 D<|Am Gx 5 D<|AK Ds 5 H D D<|BY Ds D<|B5 D D<|M<|G<|Bl D (fun af=>?_) fun af=>?_
 ·
  refine AE<|G<|K<|A2<|K<|?_
  intro a m
  refine C7 (fun W=>Below w.heap.size w W∧Ai W b [[E wd],[E next],[F AQ 257 ce],[E root],[F CJ no co],[F Bf B6 cos],[J],[CQ]] 164∧Ai W T [bv k.l] 51∧Ai W U [bv (List.replicate 32 0)] 125) ?_
  intro aG x r
  have H:=Q H r
  have g:=Q g r
  have f:=Q f r
  have c:=Ah c r
  clear x
  revert a
  refine Bk 0 D D ⟨c,H,g,f⟩<|CF 1 D D ⟨c,H,g,f⟩<|BW 2 D DR 3 D ⟨c,H,g,f⟩<|BW 3 D Gx 5 D ⟨c,H,g,f⟩<|A5 4 D (fun W A a m=>by obtain⟨c,H,g,f⟩:=A;exact Cl m D Ds D [[E wd],[E next],[F AQ 257 ce],[E root],[F CJ no co]] (F Bf B6 cos) [[J],[CQ]] H D) ⟨c,H,g,f⟩<|Bk 5 D D ⟨c,H,g,f⟩<|?_
  obtain⟨ag,z,rfl⟩:=Ca (P.below c)
  obtain⟨u,B⟩:=getD_some (L:=C4) (j:=i) X (by omega)
  refine GY 6 D DW i (z+i*66) D D ⟨c,H,g,f⟩<|BW 7 D DE (z+i*66) D ⟨c,H,g,f⟩<|A5 8 D (fun W A a m=>by obtain⟨c,H,g,f⟩:=A;have ah:=BJ D3 (P.below c) B (o:=z+i*66);exact D1 m D AH D (Dh [] (E u.b) [[E u.p],bv u.k.l,bv u.s.l] ah D)) ⟨c,H,g,f⟩<|Bk 9 D D ⟨c,H,g,f⟩<|?_
  by_cases Y:((u.b:Nat):Int)=((n:Nat):Int)
  ·
   refine Ou 10 D Y D D ⟨c,H,g,f⟩<|Bk 11 D D ⟨c,H,g,f⟩<|He 12 D D D D D ⟨c,H,g,f⟩<|MF 13 D D D D D ⟨c,H,g,f⟩<|H5 14 D D D D DR 3 D ⟨c,H,g,f⟩<|H5 15 D D D D Gx 5 D ⟨c,H,g,f⟩<|EV 16 D D D D (fun W A a m=>by obtain⟨c,H,g,f⟩:=A;exact Cl m D Ds D [[E wd],[E next],[F AQ 257 ce],[E root],[F CJ no co]] (F (some ⟨ag,z,none⟩) B6 cos) [[J],[CQ]] H D) ⟨c,H,g,f⟩<|He 17 D D D D D ⟨c,H,g,f⟩<|YO 18 D D D D DW i (z+i*66) D D ⟨c,H,g,f⟩<|H5 19 D D D D DE (z+i*66+2) D ⟨c,H,g,f⟩<|EV 20 D D D D (fun W A a m=>by obtain⟨c,H,g,f⟩:=A;have ai:=BJ D3 (P.below c) B (o:=z+i*66);exact H9 m D Ce D (mid:=[bv u.k.l]) (HM [[E u.b],[E u.p]] [bv u.k.l] [bv u.s.l] ai D (by first|rfl|omega)) (Cf 32)) ⟨c,H,g,f⟩<|EV 21 D D D D (fun W A a m=>by obtain⟨c,H,g,f⟩:=A;exact EO m D Ce D [] [bv k.l] [] g D (Cf 32)) ⟨c,H,g,f⟩<|He 23 D D D D D ⟨c,H,g,f⟩<|?_
   intro aH Z
   refine JU (i:=22) (fuel:=2) D (I0 (j:=11) (t:=true) D D D Z D) (by kernel_rfl) (by kernel_rfl) ?_
   intro Aa aj
   refine B0 Z #[Value.agg (flat [bv u.k.l]),Value.agg (flat [bv k.l])] Jl (JW u.k k _) ?_
   rintro _ aI ⟨rfl,S⟩
   refine⟨_,D,?_⟩
   intro a m
   have H:=Q H S
   have g:=Q g S
   have f:=Q f S
   have c:=Ah c S
   refine aj _ _ ⟨c,H,g,f⟩ ?_;revert a
   by_cases aa:((n:Nat):Int)≤((Da u.k.l k.l:Nat):Int)
   ·
    refine RK 24 D D D D aa D D ⟨c,H,g,f⟩<|Hh 25 D D D ⟨c,H,g,f⟩<|B_<|G<|BS D<|K<|?_
    intro a m
    refine EJ 19 ?_
    intro aJ x r
    have H:=Q H r
    have f:=Q f r
    have c:=Ah c r
    clear x
    revert a
    refine A3 D<|Ee D<|Cx DR 3 D<|Cx Gx 5 D<|Dx Ds 5 H D D<|A3 D<|?_
    have ak:=BJ D3 (P.below c) B (o:=z+i*66)
    refine C0 DW i (z+i*66) D D<|Cx DE (z+i*66+1) D<|Dw AH (Dh [[E u.b]] (E u.p) [bv u.k.l,bv u.s.l] ak D) D<|A3 D<|Ee D<|Cx DR 3 D<|Cx Gx 5 D<|Dx Ds 5 H D D<|A3 D<|?_
    have al:=BJ D3 (P.below c) B (o:=z+i*66)
    refine C0 DW i (z+i*66) D D<|Cx DE (z+i*66+34) D<|FG BZ 3 1 [bv u.s.l] al D<|Ff D<|?_
    intro a m;refine EG ?_;revert a
    refine Bi 0 1 f D D ?_
    intro aK x an ao
    have c:=A1 c ao
    clear x
    refine M<|G<|AA<|C1<|AX<|AX<|C1<|AX<|?_
    intro a m
    refine Ky m D D D an BZ D (Cf 32) ?_
    exact⟨u.s,by rw[Yt x.out B (by omega) (by omega)],c⟩
   ·
    refine Rx 24 D D D D aa D D ⟨c,H,g,f⟩<|Hh 25 D D D ⟨c,H,g,f⟩<|B_<|G<|BE D<|AE<|Bq<|G<|N<|I D<|A_ (q:=1) D D<|O D<|M<|G<|?_
    intro a m
    exact⟨_,by omega,i+1,D,At m,by omega,(Aw (Jn x.out (fun y R=>by rw[B]at R;cases R;unfold JS CK;simp only[Bool.and_eq_false_iff,decide_eq_false_iff_not];omega))),c,H,g,f⟩
  ·
   refine Oo 10 D Y D D ⟨c,H,g,f⟩<|Bk 11 D D ⟨c,H,g,f⟩<|Ci 12 D D D D D D D ⟨c,H,g,f⟩<|Ci 13 D D D D D D D ⟨c,H,g,f⟩<|Ci 14 D D D D D D D ⟨c,H,g,f⟩<|Ci 15 D D D D D D D ⟨c,H,g,f⟩<|Ci 16 D D D D D D D ⟨c,H,g,f⟩<|Ci 17 D D D D D D D ⟨c,H,g,f⟩<|Ci 18 D D D D D D D ⟨c,H,g,f⟩<|Ci 19 D D D D D D D ⟨c,H,g,f⟩<|Ci 20 D D D D D D D ⟨c,H,g,f⟩<|Ci 21 D D D D D D D ⟨c,H,g,f⟩<|Ci 22 D D D D D D D ⟨c,H,g,f⟩<|Ci 23 D D D D D D D ⟨c,H,g,f⟩<|Ci 24 D D D D D D D ⟨c,H,g,f⟩<|Ik 25 D D D ⟨c,H,g,f⟩<|B_<|G<|BE D<|AE<|Bq<|G<|N<|I D<|A_ (q:=1) D D<|O D<|M<|G<|?_
   intro a m
   exact⟨_,by omega,i+1,D,At m,by omega,(Aw (Jn x.out (fun y R=>by rw[B]at R;cases R;unfold JS CK;simp only[Bool.and_eq_false_iff,decide_eq_false_iff_not];omega))),c,H,g,f⟩
 ·
  refine BO<|AW<|AW<|BN<|G<|K<|?_
  intro a m
  refine EJ 9 ?_
  intro aL x r
  have H:=Q H r
  have f:=Q f r
  have c:=Ah c r
  clear x
  revert a
  refine A3 D<|Ee D<|Cx DR 2 D<|Dx ID 2 H D D<|A3 D<|HI (p:=256) D D<|?_
  obtain⟨aM,ab,rfl⟩:=Ca (he.below c)
  obtain⟨V,aq⟩:=getD_some (L:=D') (j:=256 - n) ad (by omega)
  have ar:=BJ G8 (he.below c) aq (o:=ab+(256 - n)*32)
  refine C0 HF (256 - n) (ab+(256 - n)*32) D D<|FG BZ 0 1 [bv V.l] ar D<|Ff (v:=(E 0)) D<|?_
  intro a m;refine EG ?_;revert a
  refine Bi 0 1 f D D ?_
  intro aN x au av
  have c:=A1 c av
  clear x
  refine M<|G<|AA<|?_
  intro a m
  refine Ky m D D D au BZ D (Cf 32) ?_
  obtain rfl:B6=i:=by omega
  exact⟨⟨V.l,V.h⟩,by rw[U' X x.out],c⟩
theorem T7{V CQ:Value}(C4:List Co)(k:Jd)(w:World)(NV:B6≤1000000000000)(H:Ai w b [[E wd],[E next],[F AQ 257 ce],[E root],[F CJ no co],[F Bf B6 cos],[V],[CQ]] 164)(ad:View w (F Bf B6 cos) B6 66 (Al CA C4))(ae:C4.length=B6):
 Calls Tryz.prog 109 #[AB b,Value.agg (flat [bv k.l])] w fun e w'=>∃aj ss:Jd,e=.returned (.agg (flat [[.int .i64 (Gj (C4.map CK) k.l).1],[.int .i64 (((Gj (C4.map CK) k.l).2:Nat):Int)],bv aj.l,bv ss.l]))∧Below w.heap.size w w':=by
 have c:Below w.heap.size w w:=Bu _ _
 refine Bx P4 D 43 ?_
 refine K<|N<|CW D ?_
 intro X aA x z d r
 have aB:=Bg c x
 have aC:=AP H x
 have H:=Q H r
 have c:=Ah c r
 refine BQ [[E 0],[E 0],Av 32,Av 32] ?_
 intro Y aD x z f r
 have aE:=Bg c x
 have aF:=AP H x
 have aG:=AP d x
 have H:=Q H r
 have d:=Q d r
 have c:=Ah c r
 refine M<|G<|K<|N<|AT (fun _ u=>CE u (Bf:=[(0,(Value.int .i64 (-1:Int)))]) D (v:=Value.agg (flat [[Value.int .i64 (-1:Int)],[E 0],Av 32,Av 32])) (run_build _ _ _ _ (by kernel_rfl)))<|BQ [[E 0],[E 0],Av 32,Av 32] ?_
 intro Z aH x z g r
 have aI:=Bg c x
 have aJ:=AP H x
 have aK:=AP d x
 have aL:=AP f x
 have H:=Q H r
 have d:=Q d r
 have f:=Q f r
 have c:=Ah c r
 refine Bi 0 4 g D D ?_
 intro aM z aa R
 have H:=Ag R H (by omega)
 have d:=Ag R d (by omega)
 have f:=Ag R f (by omega)
 have c:=A1 c R
 have g:=aa
 refine M<|G<|K<|K<|N<|O (v:=(E 0)) D<|M<|G<|A2<|?_
 simp only[show Av 32=bv Bh.l from Du _]at g
 intro a u
 refine Cb (fun ak a W=>∃i A B,∃J sz:Jd,ak=B6 - i∧Ao 43 a (Ja (Ja (Ja (Ja (Ja Je 0 (AB b)) 3 (AB X)) 4 (AB Y)) 5 (AB Z)) 6 (E i))∧i≤B6∧Hid (((C4.take i).map CK).foldl (HB k.l) (-1,0)=(A,B))∧Below w.heap.size w W∧Ai W b [[E wd],[E next],[F AQ 257 ce],[E root],[F CJ no co],[F Bf B6 cos],[V],[CQ]] 164∧Ai W X [bv k.l] 51∧Ai W Y [[E 0],[E 0],Av 32,Av 32] 190∧Ai W Z [[Value.int .i64 (A:Int)],[E B],bv J.l,bv sz.l] 190) _ ⟨0,_,_,_,_,D,At u,by omega,Aw D,c,H,d,f,g⟩ ?_
 rintro _ a aN ⟨i,A,B,J,sz,rfl,u,aO,S,c,H,d,f,g⟩
 revert a
 refine K<|K<|N<|I D<|I D<|Bt D<|Am DR 3 D<|Am Gx 5 D<|AK Ds 5 H D D<|BY Ds D<|B5 D D<|M<|G<|Bl D (fun al=>?_) fun al=>?_
 ·
  refine AE<|G<|K<|A2<|K<|N<|I D<|Bt D<|Am DR 3 D<|Am Gx 5 D<|AK Ds 5 H D D<|I D<|?_
  obtain⟨an,ab,rfl⟩:=Ca (ad.below c)
  obtain⟨n,T⟩:=getD_some (L:=C4) (j:=i) ae (by omega)
  have ao:=BJ D3 (ad.below c) T (o:=ab+i*66)
  refine Cn DW i (ab+i*66) D D<|D9 DE 0 4 [[E n.b],[E n.p],bv n.k.l,bv n.s.l] ao D<|BQ [[E 0],[E 0],Av 32,Av 32] ?_
  intro aq aP x z m r
  have aQ:=Bg c x
  have aR:=AP H x
  have aS:=AP d x
  have aT:=AP f x
  have aU:=AP g x
  have H:=Q H r
  have d:=Q d r
  have f:=Q f r
  have g:=Q g r
  have c:=Ah c r
  refine Bi 0 4 m D D ?_
  intro aV z aa P
  have H:=Ag P H (by omega)
  have d:=Ag P d (by omega)
  have f:=Ag P f (by omega)
  have g:=Ag P g (by omega)
  have c:=A1 c P
  have m:=aa
  refine M<|G<|K<|?_
  intro a u
  refine C7 (fun W=>Below w.heap.size w W∧Ai W b [[E wd],[E next],[F AQ 257 ce],[E root],[F CJ no co],[F (some ⟨an,ab,none⟩) B6 cos],[V],[CQ]] 164∧Ai W X [bv k.l] 51∧Ai W Y [[E 0],[E 0],Av 32,Av 32] 190∧Ai W Z [[Value.int .i64 (A:Int)],[E B],bv J.l,bv sz.l] 190∧Ai W aq [[E n.b],[E n.p],bv n.k.l,bv n.s.l] 190) ?_
  intro aW z r
  have H:=Q H r
  have d:=Q d r
  have f:=Q f r
  have g:=Q g r
  have m:=Q m r
  have c:=Ah c r
  revert a
  refine BW 0 D DE 0 D ⟨c,H,d,f,g,m⟩<|A5 1 D (fun W y a u=>by obtain⟨c,H,d,f,g,m⟩:=y;exact Cl u D AH D [] (E n.b) [[E n.p],bv n.k.l,bv n.s.l] m D) ⟨c,H,d,f,g,m⟩<|BW 2 D DE 0 D ⟨c,H,d,f,g,m⟩<|A5 3 D (fun W y a u=>by obtain⟨c,H,d,f,g,m⟩:=y;exact Cl u D AH D [] (Value.int .i64 (A:Int)) [[E B],bv J.l,bv sz.l] g D) ⟨c,H,d,f,g,m⟩<|?_
  by_cases af:(A:Int)<((n.b:Nat):Int)
  ·
   refine WX 4 D af D D ⟨c,H,d,f,g,m⟩<|Bk 5 D D ⟨c,H,d,f,g,m⟩<|H5 6 D D D D DE 2 D ⟨c,H,d,f,g,m⟩<|EV 7 D D D D (fun W y a u=>by obtain⟨c,H,d,f,g,m⟩:=y;exact EO u D Ce D [[E n.b],[E n.p]] [bv n.k.l] [bv n.s.l] m D (Cf 32)) ⟨c,H,d,f,g,m⟩<|EV 8 D D D D (fun W y a u=>by obtain⟨c,H,d,f,g,m⟩:=y;exact EO u D Ce D [] [bv k.l] [] d D (Cf 32)) ⟨c,H,d,f,g,m⟩<|H5 10 D D D D DE 0 D ⟨c,H,d,f,g,m⟩<|EV 11 D D D D (fun W y a u=>by obtain⟨c,H,d,f,g,m⟩:=y;exact Cl u D AH D [] (E n.b) [[E n.p],bv n.k.l,bv n.s.l] m D) ⟨c,H,d,f,g,m⟩<|?_
   intro aX ag
   refine JU (i:=9) (fuel:=2) D (I0 (j:=5) (t:=true) D D D ag D) (by kernel_rfl) (by kernel_rfl) ?_
   intro Aa ar
   refine B0 ag #[Value.agg (flat [bv n.k.l]),Value.agg (flat [bv k.l])] Jl (JW n.k k _) ?_
   rintro _ aY ⟨rfl,C⟩
   refine⟨_,D,?_⟩
   intro a u
   have H:=Q H C
   have d:=Q d C
   have f:=Q f C
   have g:=Q g C
   have m:=Q m C
   have c:=Ah c C
   refine ar _ _ ⟨c,H,d,f,g,m⟩ ?_;revert a
   by_cases ah:((n.b:Nat):Int)≤((Da n.k.l k.l:Nat):Int)
   ·
    refine RK 12 D D D D ah D D ⟨c,H,d,f,g,m⟩<|Hh 13 D D D ⟨c,H,d,f,g,m⟩<|B_<|G<|BS D<|N<|BP DE m D<|Bi 0 4 g D D ?_
    intro aZ z au U
    have H:=Ag U H (by omega)
    have d:=Ag U d (by omega)
    have f:=Ag U f (by omega)
    have c:=A1 c U
    refine M<|Bq<|G<|N<|I D<|A_ (q:=1) D D<|O D<|M<|G<|?_
    intro a u
    exact⟨_,by omega,i+1,_,_,_,_,D,At u,by omega,Aw (by rw[N3 T S.out];exact UE (by omega) (by omega)),c,H,d,f,au⟩
   ·
    refine Rx 12 D D D D ah D D ⟨c,H,d,f,g,m⟩<|Hh 13 D D D ⟨c,H,d,f,g,m⟩<|B_<|G<|BE D<|AE<|Bq<|G<|N<|I D<|A_ (q:=1) D D<|O D<|M<|G<|?_
    intro a u
    exact⟨_,by omega,i+1,_,_,_,_,D,At u,by omega,Aw (by rw[N3 T S.out];exact Rm (fun h=>by have av:=h.1;have aw:=h.2;omega)),c,H,d,f,g⟩
  ·
   refine Xb 4 D af D D ⟨c,H,d,f,g,m⟩<|Bk 5 D D ⟨c,H,d,f,g,m⟩<|Ci 6 D D D D D D D ⟨c,H,d,f,g,m⟩<|Ci 7 D D D D D D D ⟨c,H,d,f,g,m⟩<|Ci 8 D D D D D D D ⟨c,H,d,f,g,m⟩<|Ci 9 D D D D D D D ⟨c,H,d,f,g,m⟩<|Ci 10 D D D D D D D ⟨c,H,d,f,g,m⟩<|Ci 11 D D D D D D D ⟨c,H,d,f,g,m⟩<|Ci 12 D D D D D D D ⟨c,H,d,f,g,m⟩<|Ik 13 D D D ⟨c,H,d,f,g,m⟩<|B_<|G<|BE D<|AE<|Bq<|G<|N<|I D<|A_ (q:=1) D D<|O D<|M<|G<|?_
   intro a u
   exact⟨_,by omega,i+1,_,_,_,_,D,At u,by omega,Aw (by rw[N3 T S.out];exact Rm (fun h=>by have av:=h.1;have aw:=h.2;omega)),c,H,d,f,g⟩
 ·
  refine BO<|AW<|AW<|BN<|G<|K<|N<|BP DE g D<|Bi 0 4 f D D ?_
  intro a0 z ax ay
  have c:=A1 c ay
  refine M<|G<|AA<|?_
  intro a u
  refine E4 u D D ax DE D (Cf 66) ?_
  obtain rfl:B6=i:=by omega
  have ai:=S.out
  rw[List.take_of_length_le (Nat.le_of_eq ae)]at ai
  have az:Gj (C4.map CK) k.l=(A,B):=ai
  exact⟨J,sz,by rw[az],c⟩
theorem Yq{Aj:Nat}{x:Option Addr}{t As:Nat}{Ay:List DD}{aa:Option Addr}{J cs:Nat}{DV:List Co}(C4:List Co)(k:Jd)(n:Nat)(w:World)(An:Aj≤w.heap.size)(hcap:J+B6≤1000000000000)(aF:Dv Aj w Bf B6 cos 66 (Al CA C4))(aG:C4.length=B6)(aN:IZ Aj b w wd next (F AQ 257 ce) root (F CJ no co) (F Bf B6 cos) x t As Ay aa J cs DV):
 Calls Tryz.prog 105 #[AB b,Value.agg (flat [bv k.l]),E n] w fun e w'=>∃aH aA aI,e=.returned (.tuple #[])∧aA≤J+B6∧IZ Aj b w' wd next (F AQ 257 ce) root (F CJ no co) (F Bf B6 cos) x t As Ay aH aA aI (DV++ET C4 k n)∧AtR w.heap.size (.slice x t As) (F x t As)∧AtR w.heap.size (.slice aH aA aI) (F aa J cs)∧Bd (EZ b (F x t As) (F aa J cs)) w w'∧Below Aj w w':=by
 obtain⟨aO,H,m,u,P,R,U⟩:=aN
 have ag:AtR w.heap.size (F x t As) (F x t As):=AtR.refl _ _
 have B:AtR w.heap.size (F aa J cs) (F aa J cs):=AtR.refl _ _
 have S:Bd (EZ b (F x t As) (F aa J cs)) w w:=Bd.refl _ _
 have c:Below Aj w w:=Bu _ _
 refine Bx OH D 48 ?_
 refine K<|N<|CW D ?_
 intro ah a8 ab al d g
 have a9:=Bg c ab
 have a_:=AP H ab
 have ak:=BM m ab
 have ad:=BM u ab
 have S:=S.below g
 have H:=Q H g
 have m:=V m g
 have u:=V u g
 have c:=BH c g An
 refine M<|G<|K<|N<|O (v:=(E 0)) D<|M<|G<|A2<|?_
 intro a y
 refine Cb (fun aP a W=>∃i ai aj z,aP=B6 - i∧Ao 48 a (Ja (Ja (Ja (Ja Je 0 (AB b)) 2 (E n)) 4 (AB ah)) 6 (E i))∧i≤B6∧z≤J+i∧W.ownsRow Aj 190 66 (.slice ai z aj) z (Al CA (DV++ET (C4.take i) k n))∧Below Aj w W∧Ai W b [[E wd],[E next],[F AQ 257 ce],[E root],[F CJ no co],[F Bf B6 cos],[F x t As],[F ai z aj]] 164∧W.ownsRow Aj 127 102 (.slice x t As) t (Al Dd Ay)∧Z (F x t As) b∧Z (F ai z aj) b∧Ap (F x t As) (F ai z aj)∧AtR w.heap.size (F x t As) (F x t As)∧AtR w.heap.size (F ai z aj) (F aa J cs)∧Bd (EZ b (F x t As) (F aa J cs)) w W∧Ai W ah [bv k.l] 51∧Z (F x t As) ah∧Z (F ai z aj) ah) _ ⟨0,_,_,_,D,At y,by omega,by omega,by simpa[ET]using u,c,H,m,T P,T R,U,ag,B,S,d,T ak,T ad⟩ ?_
 rintro _ a a' ⟨i,ai,aj,z,rfl,y,ba,aQ,u,c,H,m,P,R,U,ag,B,S,d,ak,ad⟩
 revert a
 refine K<|K<|N<|I D<|I D<|Bt D<|Am DR 3 D<|Am Gx 5 D<|AK Ds 5 H D D<|BY Ds D<|B5 D D<|M<|G<|Bl D (fun aR=>?_) fun aR=>?_
 ·
  refine AE<|G<|K<|A2<|K<|N<|I D<|Bt D<|Am DR 3 D<|Am Gx 5 D<|AK Ds 5 H D D<|I D<|?_
  obtain⟨aB,aw,rfl⟩:=Ca (aF.below c)
  obtain⟨r,ax⟩:=getD_some (L:=C4) (j:=i) aG (by omega)
  have aS:=BJ D3 (aF.below c) ax (o:=aw+i*66)
  refine Cn DW i (aw+i*66) D D<|D9 DE 0 4 [[E r.b],[E r.p],bv r.k.l,bv r.s.l] aS D<|BQ [[E 0],[E 0],Av 32,Av 32] ?_
  intro ay bb ab al f g
  have bc:=Bg c ab
  have ao:=BM u ab
  have bd:=AP H ab
  have az:=BM m ab
  have bf:=AP d ab
  have S:=S.below g
  have u:=V u g
  have H:=Q H g
  have m:=V m g
  have d:=Q d g
  have c:=BH c g An
  refine Bi 0 4 f D D ?_
  intro bg al aT aq
  have S:=S.B1 aq
  have u:=Ax u aq ao
  have H:=Ag aq H (by omega)
  have m:=Ax m aq az
  have d:=Ag aq d (by omega)
  have c:=CG c aq An
  have f:=aT
  refine M<|G<|K<|N<|Am DE 0 D<|AK AH 0 f D D<|I D<|?_
  by_cases aJ:((n:Nat):Int)≤((r.b:Nat):Int)
  ·
   refine Gy aJ D D<|I D<|Ad D D D<|Am DE 2 D<|Ad D D D<|Eu Ce 2 1 [bv r.k.l] f D<|Ad D D D<|BP Ce d D<|Ad D D D<|AS Jl D (JW r.k k _) ?_
   rintro _ bh ⟨rfl,an⟩
   refine⟨_,D,?_⟩
   have S:=S.below an
   have u:=V u an
   have H:=Q H an
   have m:=V m an
   have d:=Q d an
   have f:=Q f an
   have c:=BH c an An
   refine Ad D D D<|I D<|?_
   by_cases aK:((n:Nat):Int)≤((Da r.k.l k.l:Nat):Int)
   ·
    refine Ad D D D<|Gy aK D D<|Bn D D<|M<|G<|BS D<|?_
    intro a y
    refine FX (fun a W=>∃ae af,Ao 48 a (Ja (Ja (Ja (Ja Je 0 (AB b)) 2 (E n)) 4 (AB ah)) 6 (E i))∧Below Aj w W∧W.ownsRow Aj 127 102 (.slice x t As) t (Al Dd Ay)∧Z (F x t As) b∧Z (F ae (z+1) af) b∧Ap (F x t As) (F ae (z+1) af)∧AtR w.heap.size (F x t As) (F x t As)∧AtR w.heap.size (F ae (z+1) af) (F aa J cs)∧Bd (EZ b (F x t As) (F aa J cs)) w W∧Ai W ah [bv k.l] 51∧Z (F x t As) ah∧Z (F ae (z+1) af) ah∧Z (F ae (z+1) af) ay∧Z (F x t As) ay∧Ai W ay [[E r.b],[E r.p],bv r.k.l,bv r.s.l] 190∧W.ownsRow Aj 190 66 (.slice ae (z+1) af) (z+1) (Al CA (DV++ET (C4.take i) k n++[r]))∧Ai W b [[E wd],[E next],[F AQ 257 ce],[E root],[F CJ no co],[F (some ⟨aB,aw,none⟩) B6 cos],[F x t As],[F ae (z+1) af]] 164) ?_ ?_
    ·
     refine C7 (fun W=>Below Aj w W∧Ai W ah [bv k.l] 51∧Ai W ay [[E r.b],[E r.p],bv r.k.l,bv r.s.l] 190) ?_
     intro bj al g
     have S:=S.below g
     have u:=V u g
     have H:=Q H g
     have m:=V m g
     have d:=Q d g
     have f:=Q f g
     have c:=BH c g An
     revert a
     refine Bk 0 D D ⟨c,d,f⟩<|Bk 1 D D ⟨c,d,f⟩<|CF 2 D D ⟨c,d,f⟩<|BW 3 D DR 7 D ⟨c,d,f⟩<|A5 5 D (fun W aU a y=>by obtain⟨c,d,f⟩:=aU;exact EO y D DE D [] [[E r.b],[E r.p],bv r.k.l,bv r.s.l] [] f D (Cf 66)) ⟨c,d,f⟩<|?_
     intro ar A
     refine EW 4 6 5 D D D D ?_ ?_
     ·
      intro Aa C
      refine DI A D (Cl A D Ds D [[E wd],[E next],[F AQ 257 ce],[E root],[F CJ no co],[F (some ⟨aB,aw,none⟩) B6 cos],[F x t As]] (F ai z aj) [] H D) ?_
      intro a y
      refine C _ _ ⟨c,d,f⟩ ?_;revert a
      intro ar A
      refine A8 6 4 D D ?_
      intro Aa C
      refine EK A DW [[E r.b],[E r.p],bv r.k.l,bv r.s.l] ?_
      intro a bk y al aV g
      have S:=S.below g
      have u:=V u g
      have H:=Q H g
      have m:=V m g
      have d:=Q d g
      have f:=Q f g
      have c:=BH c g An
      refine C _ _ ⟨c,d,f⟩ ?_;revert a
      intro ar A
      refine A8 7 3 D D ?_
      intro Aa C
      refine BK A DW u aV C8 (Bs An c.size) (z+1) (CC (DV++ET (C4.take i) k n) r D (D3 _)) ?_
      intro a ae af bl y aC X
      have aW:=U.Df X (fun k aD=>(m.lt k aD).2)
      have aL:=A9 X R (Ar H)
      have aX:=A9 X ad (Ar d)
      have aY:=A9 X ao (Ar f)
      have S:=S.DB X B (fun _ q=>Or.inr (Or.inr q))
      have H:=A' H X R
      have m:=Bm m X U
      have d:=A' d X ad
      have f:=A' f X ao
      have B:=B.C9 X c.size
      have c:=EI c X u An
      refine C _ _ ⟨c,d,f⟩ ?_;revert a
      refine CF 8 D D ⟨c,d,f⟩<|BW 9 D DR 7 D ⟨c,d,f⟩<|?_
      intro ar A
      refine A8 10 0 D D ?_
      intro Aa C
      refine DM A 7 H D D ?_
      intro a bm y al aZ au
      have S:=S.B1 au
      have m:=Ax m au P
      have d:=Ag au d (by omega)
      have f:=Ag au f (by omega)
      have aC:=Ax aC au aL
      have c:=CG c au An
      refine C _ _ ⟨c,d,f⟩ ?_;revert a
      refine B_<|G<|?_
      intro a y
      exact⟨ae,af,At y,c,m,P,aL,aW,ag,B,S,d,ak,aX,aY,az,f,aC,aZ⟩
     ·
      intro Aa C
      refine EK A DW [[E r.b],[E r.p],bv r.k.l,bv r.s.l] ?_
      intro a bn y al v30 g
      have S:=S.below g
      have u:=V u g
      have H:=Q H g
      have m:=V m g
      have d:=Q d g
      have f:=Q f g
      have c:=BH c g An
      refine C _ _ ⟨c,d,f⟩ ?_;revert a
      intro ar A
      refine A8 4 4 D D ?_
      intro Aa C
      refine DI A D (Cl A D Ds D [[E wd],[E next],[F AQ 257 ce],[E root],[F CJ no co],[F (some ⟨aB,aw,none⟩) B6 cos],[F x t As]] (F ai z aj) [] H D) ?_
      intro a y
      refine C _ _ ⟨c,d,f⟩ ?_;revert a
      intro ar A
      refine A8 7 3 D D ?_
      intro Aa C
      refine BK A DW u v30 C8 (Bs An c.size) (z+1) (CC (DV++ET (C4.take i) k n) r D (D3 _)) ?_
      intro a a0 a1 bo y aE Y
      have a2:=U.Df Y (fun k aD=>(m.lt k aD).2)
      have aM:=A9 Y R (Ar H)
      have a3:=A9 Y ad (Ar d)
      have a4:=A9 Y ao (Ar f)
      have S:=S.DB Y B (fun _ q=>Or.inr (Or.inr q))
      have H:=A' H Y R
      have m:=Bm m Y U
      have d:=A' d Y ad
      have f:=A' f Y ao
      have B:=B.C9 Y c.size
      have c:=EI c Y u An
      refine C _ _ ⟨c,d,f⟩ ?_;revert a
      refine CF 8 D D ⟨c,d,f⟩<|BW 9 D DR 7 D ⟨c,d,f⟩<|?_
      intro ar A
      refine A8 10 0 D D ?_
      intro Aa C
      refine DM A 7 H D D ?_
      intro a bp y al a5 av
      have S:=S.B1 av
      have m:=Ax m av P
      have d:=Ag av d (by omega)
      have f:=Ag av f (by omega)
      have aE:=Ax aE av aM
      have c:=CG c av An
      refine C _ _ ⟨c,d,f⟩ ?_;revert a
      refine B_<|G<|?_
      intro a y
      exact⟨a0,a1,At y,c,m,P,aM,a2,ag,B,S,d,ak,a3,a4,az,f,aE,a5⟩
    ·
     rintro a bq ⟨ae,af,y,c,m,P,R,U,ag,B,S,d,ak,ad,ao,az,f,u,H⟩
     revert a
     refine Bq<|G<|N<|I D<|A_ (q:=1) D D<|O D<|M<|G<|?_
     intro a y
     exact⟨_,by omega,i+1,_,_,_,D,At y,by omega,by omega,by rw[Q6 ax (by omega) (by omega),←List.append_assoc];exact u,c,H,m,T P,T R,U,ag,B,S,d,T ak,T ad⟩
   ·
    refine Ad D D D<|GL aK D D<|Bn D D<|M<|G<|BE D<|AE<|Bq<|G<|N<|I D<|A_ (q:=1) D D<|O D<|M<|G<|?_
    intro a y
    exact⟨_,by omega,i+1,_,_,_,D,At y,by omega,by omega,by rw[LG ax (fun h=>by have a6:=h.1;have a7:=h.2;omega)];exact u,c,H,m,T P,T R,U,ag,B,S,d,T ak,T ad⟩
  ·
   refine GL aJ D D<|I D<|Ae D D D D<|Ae D D D D<|Ae D D D D<|Ae D D D D<|Ae D D D D<|Ae D D D D<|Ba D D<|M<|G<|BE D<|AE<|Bq<|G<|N<|I D<|A_ (q:=1) D D<|O D<|M<|G<|?_
   intro a y
   exact⟨_,by omega,i+1,_,_,_,D,At y,by omega,by omega,by rw[LG ax (fun h=>by have a6:=h.1;have a7:=h.2;omega)];exact u,c,H,m,T P,T R,U,ag,B,S,d,T ak,T ad⟩
 ·
  refine BO<|AW<|AW<|BN<|?_
  intro a y
  refine FD ?_
  refine Ec y D ?_
  obtain rfl:B6=i:=by omega
  rw[List.take_of_length_le (Nat.le_of_eq aG)]at u
  exact⟨_,_,_,D,aQ,⟨aO,H,m,u,P,R,U⟩,ag,B,S,c⟩
theorem RR{Aj:Nat}{y:Option Addr}{i As:Nat}{Ay:List DD}{m:Option Addr}{j cs:Nat}{DV:List Co}(x:DD)(w:World)(An:Aj≤w.heap.size)(hcap:i≤800000000000)(Gb:next≤1152921504606846976)(au:IZ Aj b w wd next (F AQ 257 ce) root (F CJ no co) (F Bf B6 cos) y i As Ay m j cs DV):
 Calls Tryz.prog 111 #[AB b,Value.agg (flat [[E x.ZI],[E x.l],[E x.r],[E x.lc],[E x.rc],bv x.ls.l,bv x.rs.l,bv x.k.l,[F x.s.p x.s.v.length x.s.c]])] w fun e w'=>∃al an,e=.returned (.int .i64 ((next:Nat):Int))∧IZ Aj b w' wd (next+1) (F AQ 257 ce) root (F CJ no co) (F Bf B6 cos) al (i+1) an (Ay++[x]) m j cs DV∧AtR w.heap.size (.slice al (i+1) an) (F y i As)∧AtR w.heap.size (.slice m j cs) (F m j cs)∧Bd (EZ b (F y i As) (F m j cs)) w w'∧Below Aj w w':=by
 obtain⟨av,H,n,h,L,P,R⟩:=au
 have z:AtR w.heap.size (F y i As) (F y i As):=AtR.refl _ _
 have ad:AtR w.heap.size (F m j cs) (F m j cs):=AtR.refl _ _
 have S:Bd (EZ b (F y i As) (F m j cs)) w w:=Bd.refl _ _
 have d:Below Aj w w:=Bu _ _
 refine Bx M0 D 27 ?_
 refine K<|N<|CW D ?_
 intro ae aH af T f g
 have aI:=Bg d af
 have aJ:=AP H af
 have Y:=BM n af
 have ah:=BM h af
 have S:=S.below g
 have H:=Q H g
 have n:=V n g
 have h:=V h g
 have d:=BH d g An
 refine O (v:=(E 0)) D<|M<|G<|K<|?_
 intro a t
 refine FX (fun a W=>∃A B,Ao 27 a (Ja (Ja Je 0 (AB b)) 4 (E 0))∧Below Aj w W∧W.ownsRow Aj 190 66 (.slice m j cs) j (Al CA DV)∧Z (F A (i+1) B) b∧Z (F m j cs) b∧Ap (F A (i+1) B) (F m j cs)∧AtR w.heap.size (F A (i+1) B) (F y i As)∧AtR w.heap.size (F m j cs) (F m j cs)∧Bd (EZ b (F y i As) (F m j cs)) w W∧Ai W ae [[E x.ZI],[E x.l],[E x.r],[E x.lc],[E x.rc],bv x.ls.l,bv x.rs.l,bv x.k.l,[F x.s.p x.s.v.length x.s.c]] 127∧Z (F A (i+1) B) ae∧Z (F m j cs) ae∧W.ownsRow Aj 127 102 (.slice A (i+1) B) (i+1) (Al Dd (Ay++[x]))∧Ai W b [[E wd],[E next],[F AQ 257 ce],[E root],[F CJ no co],[F Bf B6 cos],[F A (i+1) B],[F m j cs]] 164) ?_ ?_
 ·
  refine C7 (fun W=>Below Aj w W∧Ai W ae [[E x.ZI],[E x.l],[E x.r],[E x.lc],[E x.rc],bv x.ls.l,bv x.rs.l,bv x.k.l,[F x.s.p x.s.v.length x.s.c]] 127) ?_
  intro aK T g
  have S:=S.below g
  have H:=Q H g
  have n:=V n g
  have h:=V h g
  have f:=Q f g
  have d:=BH d g An
  revert a
  refine Bk 0 D D ⟨d,f⟩<|Bk 1 D D ⟨d,f⟩<|CF 2 D D ⟨d,f⟩<|BW 3 D DR 6 D ⟨d,f⟩<|A5 5 D (fun W aw a t=>by obtain⟨d,f⟩:=aw;exact EO t D BD D [] [[E x.ZI],[E x.l],[E x.r],[E x.lc],[E x.rc],bv x.ls.l,bv x.rs.l,bv x.k.l,[F x.s.p x.s.v.length x.s.c]] [] f D (Cf 102)) ⟨d,f⟩<|?_
  intro U o
  refine EW 4 6 5 D D D D ?_ ?_
  ·
   intro Aa u
   refine DI o D (Cl o D FN D [[E wd],[E next],[F AQ 257 ce],[E root],[F CJ no co],[F Bf B6 cos]] (F y i As) [[F m j cs]] H D) ?_
   intro a t
   refine u _ _ ⟨d,f⟩ ?_;revert a
   intro U o
   refine A8 6 4 D D ?_
   intro Aa u
   refine EK o EL [[E x.ZI],[E x.l],[E x.r],[E x.lc],[E x.rc],bv x.ls.l,bv x.rs.l,bv x.k.l,[F x.s.p x.s.v.length x.s.c]] ?_
   intro a aL t T ax g
   have S:=S.below g
   have H:=Q H g
   have n:=V n g
   have h:=V h g
   have f:=Q f g
   have d:=BH d g An
   refine u _ _ ⟨d,f⟩ ?_;revert a
   intro U o
   refine A8 7 3 D D ?_
   intro Aa u
   refine BK o EL n ax C8 (Bs An d.size) (i+1) (CC Ay x D (FO _)) ?_
   intro a A B aM t ai C
   have ay:=R.BR C (fun k aj=>(h.lt k aj).2)
   have ao:=A9 C L (Ar H)
   have az:=A9 C Y (Ar f)
   have S:=S.DB C z (fun _ q=>Or.inr (Or.inl q))
   have H:=A' H C L
   have h:=Bm h C R.symm
   have f:=A' f C Y
   have z:=z.C9 C d.size
   have d:=EI d C n An
   refine u _ _ ⟨d,f⟩ ?_;revert a
   refine CF 8 D D ⟨d,f⟩<|BW 9 D DR 6 D ⟨d,f⟩<|?_
   intro U o
   refine A8 10 0 D D ?_
   intro Aa u
   refine DM o 6 H D D ?_
   intro a aN t T aA aa
   have S:=S.B1 aa
   have h:=Ax h aa P
   have f:=Ag aa f (by omega)
   have ai:=Ax ai aa ao
   have d:=CG d aa An
   refine u _ _ ⟨d,f⟩ ?_;revert a
   refine B_<|G<|?_
   intro a t
   exact⟨A,B,At t,d,h,ao,P,ay,z,ad,S,f,az,ah,ai,aA⟩
  ·
   intro Aa u
   refine EK o EL [[E x.ZI],[E x.l],[E x.r],[E x.lc],[E x.rc],bv x.ls.l,bv x.rs.l,bv x.k.l,[F x.s.p x.s.v.length x.s.c]] ?_
   intro a aO t T aB g
   have S:=S.below g
   have H:=Q H g
   have n:=V n g
   have h:=V h g
   have f:=Q f g
   have d:=BH d g An
   refine u _ _ ⟨d,f⟩ ?_;revert a
   intro U o
   refine A8 4 4 D D ?_
   intro Aa u
   refine DI o D (Cl o D FN D [[E wd],[E next],[F AQ 257 ce],[E root],[F CJ no co],[F Bf B6 cos]] (F y i As) [[F m j cs]] H D) ?_
   intro a t
   refine u _ _ ⟨d,f⟩ ?_;revert a
   intro U o
   refine A8 7 3 D D ?_
   intro Aa u
   refine BK o EL n aB C8 (Bs An d.size) (i+1) (CC Ay x D (FO _)) ?_
   intro a aC aD aP t ak J
   have aE:=R.BR J (fun k aj=>(h.lt k aj).2)
   have aq:=A9 J L (Ar H)
   have aF:=A9 J Y (Ar f)
   have S:=S.DB J z (fun _ q=>Or.inr (Or.inl q))
   have H:=A' H J L
   have h:=Bm h J R.symm
   have f:=A' f J Y
   have z:=z.C9 J d.size
   have d:=EI d J n An
   refine u _ _ ⟨d,f⟩ ?_;revert a
   refine CF 8 D D ⟨d,f⟩<|BW 9 D DR 6 D ⟨d,f⟩<|?_
   intro U o
   refine A8 10 0 D D ?_
   intro Aa u
   refine DM o 6 H D D ?_
   intro a aQ t T aG ab
   have S:=S.B1 ab
   have h:=Ax h ab P
   have f:=Ag ab f (by omega)
   have ak:=Ax ak ab aq
   have d:=CG d ab An
   refine u _ _ ⟨d,f⟩ ?_;revert a
   refine B_<|G<|?_
   intro a t
   exact⟨aC,aD,At t,d,h,aq,P,aE,z,ad,S,f,aF,ah,ak,aG⟩
 ·
  rintro a aR ⟨A,B,t,d,h,L,P,R,z,ad,S,f,Y,ah,n,H⟩
  revert a
  refine G<|K<|N<|I D<|Bt D<|Am DR 1 D<|AK AH 1 H D D<|A_ (q:=1) D D<|Bt D<|Am DR 1 D<|C_ 1 H D D ?_
  intro aS T ar ag
  have S:=S.B1 ag
  have h:=Ax h ag P
  have n:=Ax n ag L
  have d:=CG d ag An
  refine M<|G<|K<|N<|I D<|Bt D<|Am DR 1 D<|AK AH 1 ar D D<|E' (q:=1) D D<|O D<|M<|G<|AA<|AZ D<|?_
  exact⟨_,_,D,⟨av,ar,n,h,L,P,R⟩,z,ad,S,d⟩
end Go.Proofs.YtcdaflcjhimimaaGreatDoor
