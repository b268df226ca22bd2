/- Laws and walks on the road to SalvageClean (part M41). No conditions beyond each law's own. -/
import Derived.Maps.RangeRun
import Derived.Test.YtaapafoibofbjaaGreatDoorM01
import Derived.Test.YtaapafoibofbjaaGreatDoorM21
import Derived.Test.YtaapafoibofbjaaGreatDoorM40
import Derived.Test.YtaapafoibofbjaaGreatDoorM20
import Derived.Test.YtaapafoibofbjaaGreatDoorM07
import Derived.Test.YtaapafoibofbjaaGreatDoorM12
import Derived.Test.YtaapafoibofbjaaGreatDoorM32
import Derived.Test.YtaapafoibofbjaaGreatDoorM33
import Derived.Test.YtaapafoibofbjaaGreatDoorM39
set_option linter.unusedVariables false
namespace Go.Proofs.YtaapafoibofbjaaGreatDoor
open Go.RowKit
open Go.Maps (Keyed)
open Go.ChangeMaps Go.MapKept
open Go.WideElems (Fit)
variable {b r n Fv:Nat} {k:TypeId} {x:Operand}
def QV(b r Fv:Nat)(w:World):Prop:=∃(es:Array MapEntry) (clock since:Nat) (seen:Array Nat) (a:Nat),w.heap[b]? =some (.map es clock)∧w.heap[r]? =some (.mapIter (some b) since seen a)∧(∀x∈es.toList,x.born<since)∧since≤a∧since≤clock∧(leftOf es seen).size=Fv∧(es.toList.map (·.born)).Nodup
def Pl(b r:Nat)(key val:Value)(w:World):Prop:=∃(es:Array MapEntry) (clock since:Nat) (seen:Array Nat) (e:MapEntry),w.heap[b]? =some (.map es clock)∧w.heap[r]? =some (.mapIter (some b) since (seen.push e.born) clock)∧e∈es.toList∧(es.toList.map (·.born)).Nodup∧e.key=key∧e.val=val
theorem QV.loc{w w':World}(h:QV b r Fv w)(a:w'.heap[b]? =w.heap[b]?)(c:w'.heap[r]? =w.heap[r]?):QV b r Fv w':=by
 obtain⟨es,clock,since,seen,d,h1,e,q⟩:=h
 exact⟨es,clock,since,seen,d,a.trans h1,c.trans e,q⟩
theorem Pl.loc{k v:Value}{w w':World}(h:Pl b r k v w)(a:w'.heap[b]? =w.heap[b]?)(c:w'.heap[r]? =w.heap[r]?):Pl b r k v w':=by
 obtain⟨es,clock,since,seen,e,h1,d,q⟩:=h
 exact⟨es,clock,since,seen,e,a.trans h1,c.trans d,q⟩
def Mm(b n r Fv:Nat)(f:Nat→Option Bf)(o:Option (Nat×Bf)):Atom:=
 ⟨fun j=>(AN b n f).jM j∨j=r,fun w=>(AN b n f).holds w∧QV b r Fv w∧∀p,o=some p→f p.1=some p.2∧Pl b r (Am p.1) (J6 p.2) w,
  fun w h j e=>by
   rcases e with e|e
   ·exact(AN b n f).lt w h.1 j e
   ·subst e
    obtain⟨-,⟨es,clock,since,seen,l,h1,c,q⟩, -⟩:=h
    exact(Array.getElem?_eq_some_iff.1 c).1,
  fun w w' h d e=>⟨(AN b n f).loc w w' h.1 d (fun k g=>e k (.inl g)),h.2.1.loc (e b (.inl (.inl D))) (e r (.inr D)),fun p a=>⟨(h.2.2 p a).1,(h.2.2 p a).2.loc (e b (.inl (.inl D))) (e r (.inr D))⟩⟩⟩
section
variable {ops:Array Oper} {rest:List Oper} {Aa:Exit→Act→World→Prop} {N:Nat} {f:BW} {d:Nat} {ty:TypeId} {pos:String} {An:Array Edge} {g:Option (Nat×Bool)} {F:Nat→Prop} {w0 w:World} {H:List Atom} {K:Act→World→Prop} {R:World→Act→Prop}
theorem ay(i:Nat){t e:TypeId}(u:Tryz.prog.underlying t=some (.map k e)){Z:Nat→Option Bf}(l:H[i]? =some (AN b n Z))(y:Aj f x=some (.map (some b)))(h:∀r Fv,Fv≤n→AT N (Jb f d (S r)) F w0 (H.set i (Mm b n r Fv Z none)) K)(Ad:Nat.blt d N=true:=by exact rfl):D3 Tryz.prog ⟨some d,.range t x,ty,pos,An,g⟩ Aa N f F w0 H K:=fun a w m o=>by
 have j:=o.at_ i _ l
 obtain⟨⟨es,clock,J,z,A,h1,I⟩,L⟩:=id j
 have q:=(stamped_iff es clock).1 z.stamped
 have B:b<w.heap.size:=(Array.getElem?_eq_some_iff.1 J).1
 have s:C7 (AN b n Z).jM w (w.alloc (.mapIter (some b) clock #[] clock)):=C7.Ot ((Cn _ _).grown (World.grownBy_alloc w _ none) (Br _) (fun k c=>by cases c))
 refine F8 (v:=S w.heap.size) (w':=w.alloc (.mapIter (some b) clock #[] clock)) m Ad ?_ (fun C E=>h w.heap.size (leftOf es #[]).size ?_ C _ E (o.set i l s ⟨(AN b n Z).loc w _ j s.size (fun k c=>Below.heap_alloc w _ _ ((AN b n Z).lt w j k c)),⟨es,clock,clock,#[],clock,(Below.heap_alloc w _ _ B).trans J,heap_alloc_new w _,q.1,Br _,Br _,D,q.2.1⟩,fun p G=>by cases G⟩ (fun k c=>?_)))
 ·simp[execOp,m.A_ y,run_range_map w t k e b es clock u J]
 ·unfold leftOf
  exact Eg Array.size_filter_le A
 ·rcases c with c|c
  ·exact .inl c
  ·exact .inr (Nat.le_of_eq c.symm)
theorem i'(i:Nat){Z:Nat→Option Bf}{o:Option (Nat×Bf)}(q:H[i]? =some (Mm b n r Fv Z o))(I:Aj f x=some (S r))(ab:Fv=0→AT N (Jb f d (.tuple #[.bool false])) F w0 H K)(h1:∀(k:Nat) (y:Bf) (c:Nat),Z k=some y→c<Fv→AT N (Jb f d (.tuple #[.bool true,Am k,J6 y])) F w0 (H.set i (Mm b n r c Z (some (k,y)))) K)(Ad:Nat.blt d N=true:=by exact rfl):D3 Tryz.prog ⟨some d,.next x false,ty,pos,An,g⟩ Aa N f F w0 H K:=fun a w s z=>by
 have ad:=z.at_ i _ q
 obtain⟨hm,⟨es,clock,since,seen,L,J,hr,hold,ae,M,O,Q⟩, -⟩:=id ad
 rcases run_next_at (P:=Tryz.prog) w ty r b since L seen es clock hr J hold ae with⟨af,A⟩|⟨e,he,m,B,A⟩
 ·refine F8 (v:=.tuple #[.bool false]) (w':=w) s Ad ?_ (fun C E=>ab (O.symm.trans af) C w E z)
  simp[execOp,s.A_ I,A]
 ·obtain⟨R,au⟩:=mem_left he
  obtain⟨⟨av,aw,T,ax,ay,ag,az⟩,ah⟩:=id hm
  rw[J]at T
  cases T
  obtain⟨k,y,U,V,W⟩:=ag e R
  have ai:m.heap[r]? =some (.mapIter (some b) since seen L):=by rcases B with rfl|rfl<;>exact hr
  have aj:m.heap[b]? =some (.map es clock):=by rcases B with rfl|rfl<;>exact J
  have X:b≠r:=fun h=>by subst h;rw[hr]at J;cases J
  have t:=heap_set (o':=.mapIter (some b) since (seen.push e.born) clock) ai
  have l:w.grownBy (setBlock m r (.mapIter (some b) since (seen.push e.born) clock)) (some r):=by
   rcases B with rfl|rfl<;>exact⟨D,D,D,by simp[setBlock],fun i _ q=>t.2 i (fun h=>q (by rw[h]))⟩
  have ak:∀j,j≠r→j<w.heap.size→(setBlock m r (.mapIter (some b) since (seen.push e.born) clock)).heap[j]? =w.heap[j]? :=fun j hj hl=>l.block j hl (fun h=>hj (by cases h;rfl))
  have al:∀j,(AN b n Z).jM j→j≠r:=by
   rintro j hj rfl
   rcases hj with hj|⟨k',an,ao,u⟩
   ·exact X hj.symm
   ·rcases(ah k' an ao).2 with⟨G, -⟩|⟨aB,cap,cur,G,aC,Y, -⟩
    ·rw[G]at u;cases u
    ·rw[G]at u
     cases u
     rw[hr]at Y
     cases Y
  have aD:b<w.heap.size:=(Array.getElem?_eq_some_iff.1 J).1
  have aa:(setBlock m r (.mapIter (some b) since (seen.push e.born) clock)).heap[b]? =some (.map es clock):=(t.2 b X).trans aj
  refine F8 (v:=.tuple #[.bool true,Am k,J6 y]) (w':=setBlock m r (.mapIter (some b) since (seen.push e.born) clock)) s Ad ?_ (fun C E=>h1 k y (leftOf es (seen.push e.born)).size W (O▸left_shrinks es seen e he) C _ E (z.set i q ⟨l.os,l.tape,l.output,l.size,fun j hj aq=>l.block j hj (fun h=>aq (by cases h;exact .inr D))⟩ ⟨(AN b n Z).loc w _ hm l.size (fun j hj=>ak j (al j hj) ((AN b n Z).lt w hm j hj)),⟨es,clock,since,seen.push e.born,clock,aa,t.1,hold,M,M,D,Q⟩,fun p ar=>by
   cases ar
   exact⟨W,es,clock,since,seen,e,aa,t.1,R,Q,U,V⟩⟩ (fun j hj=>.inl hj)))
  simp[execOp,s.A_ I,A,U,V]
theorem cp(i:Nat){k:Nat}{y:Bf}{Z:Nat→Option Bf}(c:H[i]? =some (Mm b n r Fv Z (some (k,y))))(h:Aj f x=some (S r)):BR Tryz.prog N f F w0 H ⟨some d,.entry x,ty,pos,An,g⟩ (.tuple #[Am k,J6 y]):=fun a w j l=>by
 obtain⟨-, -,he⟩:=l.at_ i _ c
 obtain⟨-,es,clock,since,seen,e,J,hr,m,o,p,V⟩:=he _ D
 have:=run_entry_at (P:=Tryz.prog) w r b since seen es clock e hr J m o
 show(execOp a.eval _).run Tryz.prog w=_
 simp[execOp,j.A_ h,this,p,V]
theorem hL(i:Nat){Z:Nat→Option Bf}{o:Option (Nat×Bf)}(c:H[i]? =some (Mm b n r Fv Z o))(h:AT N f F w0 (H.set i (Mm b n r Fv Z none)) K):AT N f F w0 H K:=fun a w g d=>h a w g (d.set i c (C7.refl _ _) ⟨(d.at_ i _ c).1,(d.at_ i _ c).2.1,fun p k=>by cases k⟩ (fun j e=>.inl e))
def PT(k:TypeId){Bo Dg:Type}(Ca:Bo→Value)(A_:Dg→Value)(b c:Nat)(f:Bo→Option Dg):Atom:=
 ⟨fun j=>j=b,fun w=>E8 Tryz.prog k Ca A_ b c f w∧∃es clock,w.heap[b]? =some (.map es clock)∧es.size=c,fun w h j e=>by subst e;exact h.1.lt,fun w w' h d e=>⟨h.1.loc (e b D),by obtain⟨es,As,h1,a⟩:=h.2;exact⟨es,As,(e b D).trans h1,a⟩⟩⟩
theorem Sat.Yu{Bo Dg:Type}{Ca:Bo→Value}{A_:Dg→Value}{c:Nat}{Z:Bo→Option Dg}(h:Sat F w0 H w)(i:Nat)(a:H[i]? =some (PT k Ca A_ b c Z):=by exact rfl):E8 Tryz.prog k Ca A_ b c Z w:=(h.at_ i _ a).1
theorem iT(i:Nat){Bo Dg:Type}{Ca:Bo→Value}{A_:Dg→Value}{Z:Bo→Option Dg}(d:H[i]? =some (Ap Tryz.prog k Ca A_ b n Z))(h:∀c,c≤n→AT N f F w0 (H.set i (PT k Ca A_ b c Z)) K):AT N f F w0 H K:=fun a w l g=>by
 obtain⟨es,clock,J,m,o,r⟩:=g.mp i d
 exact h es.size o a w l (g.set i d (C7.refl _ _) ⟨⟨es,clock,J,m,Br _,r⟩,es,clock,J,D⟩ (fun j e=>.inl e))
theorem fi(i:Nat){t e:TypeId}{Bo Dg:Type}{Ca:Bo→Value}{A_:Dg→Value}(j:Tryz.prog.underlying t=some (.map k e)){c:Nat}{Z:Bo→Option Dg}(m:H[i]? =some (PT k Ca A_ b c Z))(n:Aj f x=some (.map (some b))):BR Tryz.prog N f F w0 H ⟨some d,.call {callee:=.builtin .len,args:=#[x],argTypes:=#[t]},ty,pos,An,g⟩ (E c):=fun a w o p=>by
 obtain⟨⟨es,clock,J,q,r, -⟩,y,z,h,s⟩:=p.at_ i _ m
 rw[J]at h
 cases h
 have u:w.ownsMap Tryz.prog k Df b c _:=⟨es,clock,J,q,r,D⟩
 have:=u.len j ty
 have v:∀l,Maps.size (H:=Value) (DataW.map l)=l.length:=fun l=>rfl
 rw[v,length_sorted,List.length_map,Array.length_toList,s]at this
 show(execOp a.eval _).run Tryz.prog w=_
 simp[execOp,resolve,invoke,builtin,o.A_ n,this]
end
end Go.Proofs.YtaapafoibofbjaaGreatDoor
namespace Go.Proofs.YtaapafoibofbjaaGreatDoor
open Go.RowKit
set_option maxRecDepth 100000
set_option maxHeartbeats 1000000
variable {n:Nat} {L:List Nat} {l:List UInt8}
def G3(il:List UInt8)(m h:Nat):Nat:=match Dy il m h with|some r=>r.f|none=>0
def FD(il:List UInt8)(m h:Nat):Nat:=match Dy il m h with|some r=>r.v|none=>0
theorem TG(D1:Option Addr)(m c:Nat)(il:List UInt8)(l x d g o:Nat)(w:World)(T:BE [Ae 5 1 (I D1 m c) m (bv il)] w)(A5:CG w)(V:∀k,CB k→¬A6 [Ae 5 1 (I D1 m c) m (bv il)] k)(X:m % 256=0)(Y:768≤m)(aa:m≤1048576)(ab:o=m/256)(ad:m≤c)(ae:Fr.choose (AI il 0) (AI il 1)=.ok ⟨l,x,d,g,o⟩)(af:l≤32)(ag:2≤d∧d≤o)(an:g≤4096):Calls Tryz.prog 8 #[I D1 m c] w fun e W=>∃(Au:BX) (f ER i:Nat),e=.returned (.tuple #[.agg (flat [[E l],[E o],[E d],[E g],[E (G3 il d g)],[E (FD il d g)],[E f],[E ER],[E i],[I Au.p Au.n Au.c]]),E 0])∧(Au.n=0↔LR il l d g)∧Sat (A6 [Ae 5 1 (I D1 m c) m (bv il)]) w [Ae 5 1 (I D1 m c) m (bv il)] W:=by
 have A:∀F,A6 [Ae 5 1 (I D1 m c) m (bv il)]=F→∀k,CB k→¬F k:=fun F s k ah q=>V k ah (s▸q)
 refine Cb T PQ D 91 fun F s=>Je<|Jh<|U<|Bw [[E 0],[E 0],[E 0],[E 0],[E 0],[E 0],[E 0],[E 0],[E 0],[I none 0 0]] fun t=>M ?_
 refine U<|?_
 refine Ba Ux D (fun w b=>look_ok D1 m c il l x d g o w (b.Ad (H1:=[Ae 5 1 (I D1 m c) m (bv il)]) [1]) (A5.sat b (A F s)) (b.Eb A5 (A F s) [1]) X Y aa ab ad ae af ag) fun _ e W b ⟨Q,z,C,ai,Au,B,Av,Bt,Z,Ax,As,Ce,he,G,H,J,K,L,N,ao,aq,ar,q⟩=>⟨_,_,he,Sat.call (H1:=[Ae 5 1 (I D1 m c) m (bv il)]) (H2:=[O t [[E 0],[E 0],[E 0],[E 0],[E 0],[E 0],[E 0],[E 0],[E 0],[I none 0 0]] 32]) (b.pick [1,0]) q,?_⟩
 refine Jd D<|Bc D D<|Bc D D<|M ?_
 obtain rfl:l=z.w:=G.symm
 obtain rfl:d=z.m:=H.symm
 obtain rfl:g=z.h:=J.symm
 obtain rfl:o=z.p:=K.symm
 clear G H J K
 refine M ?_
 refine Ci D D D<|M ?_
 refine iT 2 D fun i au=>?_
 refine CQ [0,1,2,3,4]<|Ab 0 D (AA D)<|Ab 1 D (Bp D)<|Ab 2 D (AS C2 1 D)<|Ab 3 D (AS BM 1 D)<|Ab 4 D (Bb AF 0 1 D D D)<|Ab 5 D (AA D)<|Ab 6 D (Bp D)<|Ab 7 D (AS C2 1 D)<|Ab 8 D (AS BM 5 D)<|Ab 9 D (Bb AF 0 5 D D D)<|Ab 10 D (AA D)<|Ab 11 D (Bp D)<|Ab 12 D (AS C2 1 D)<|Ab 13 D (AS BM 3 D)<|Ab 14 D (Bb AF 0 3 D D D)<|Ab 15 D (AA D)<|Ab 16 D (Bp D)<|Ab 17 D (AS C2 1 D)<|Ab 18 D (AS BM 4 D)<|Ab 19 D (Bb AF 0 4 D D D)<|Ab 20 D (AA D)<|Ab 21 D (Bp D)<|Ab 22 D (AS C2 7 D)<|Ab 23 D (Bb K1 0 7 D D D)<|Ab 24 D (fi 2 K1 D D)<|Ab 25 D (AA D)<|Ab 26 D (Bp D)<|Ab 27 D (AS C2 10 D)<|Ab 28 D (Bb KD 0 10 D D D)<|Ab 29 D (fun _ _ j b=>Cs j (BH:=[(0,(E z.w)),(1,(E z.p)),(2,(E z.m)),(3,(E z.h)),(8,(E i)),(9,(I Au.p Au.n Au.c))]) D (v:=Value.agg (flat [[E z.w],[E z.p],[E z.m],[E z.h],[E 0],[E 0],[E 0],[E 0],[E i],[I Au.p Au.n Au.c]])) (run_build _ _ _ _ (by kernel_rfl)))<|Bh 30 D<|Bw [[E 0],[E 0],[E 0],[E 0],[E 0],[E 0],[E 0],[E 0],[E 0],[I none 0 0]] fun P=>A8 [1,2,3,4,5]<|Bh 31 D<|Bk 0 0 10 D D D<|?_
 refine A8 [1,2,3,4,5]<|Cm<|M ?_
 refine By D<|AG C2 6 D<|AZ FN 1 6 D D D<|U<|ay 2 FN D D fun r Fv av=>Jg<|Jf<|JD<|DL (fun aj a W=>∃(Fv:Nat) (f:Nat) (ER:Nat),aj=Fv+0∧AH 91 a (Jb (Jb (Jb (Jb (Jb Jk 2 (S t)) 3 (E 0)) 4 (S Q)) 6 (S P)) 54 (S r))∧Sat F w [O P [[E z.w],[E z.p],[E z.m],[E z.h],[E 0],[E 0],[E f],[E ER],[E i],[I Au.p Au.n Au.c]] 32,Ay Q z C ai Au B,Mm z.AU Av r Fv Z none,PT 3 Am BT z.jk i Ax,Ae 5 1 (I D1 m c) m (bv il),O t [[E 0],[E 0],[E 0],[E 0],[E 0],[E 0],[E 0],[E 0],[E 0],[I none 0 0]] 32] W∧f+ER+Fv≤4096) (fun a W j b=>⟨Fv,0,0,D,AY j,b.pick [0,1,2,3,4,5],by omega⟩) ?_
 rintro _ a W ⟨Fv,f,ER,rfl,j,b,ax⟩;revert a W
 refine Je<|Jh<|U<|i' 2 D D (fun az=>?_) fun k y R aA aB=>?_
 ·
  refine Bc D D<|M ?_
  cases FJ:Ax z.h with
  |none=>
   have u:Dy il z.m z.h=none:=by rw[←L.rc];exact FJ
   refine CQ [0,1,2,3,4,5]<|Ab 0 D (AA D)<|Ab 1 D (Bp D)<|Ab 2 D (AS C2 7 D)<|Ab 3 D (Bb K1 1 7 D D D)<|Ab 4 D (AA D)<|Ab 5 D (Bp D)<|Ab 6 D (AS C2 1 D)<|Ab 7 D (AS BM 4 D)<|Ab 8 D (Bb AF 1 4 D D D)<|Ab 9 D (NM K1 (fun w b=>b.Yu 3) Fg Fe (a:=z.h) (Fb (by omega)) D D KQ (by rw[FJ]))<|Ab 10 D (AA D)<|Ab 11 D (El D D)<|Ab 12 D (El D D)<|Bh 13 D<|Bw [[E 0],[E 0],[E 0],[E 0],[E 0],[E 0],Ak 32] fun ak=>A8 [1,2,3,4,5,6]<|Bh 14 D<|Bk 0 0 7 D D D<|?_
   refine A8 [1,2,3,4,5,6]<|Ab 15 D (Ck D)<|Cm<|M ?_
   refine Af (BN E9 1 D D)<|U<|Bk 6 0 10 D D D<|?_
   refine M ?_
   refine Gl E9 6 D D D fun W b=>?_
   subst s
   exact⟨Au,f,ER,i,(by unfold G3 FD;rw[u];rfl),N,b.pick [5]⟩
  |some Ah=>
   have u:Dy il z.m z.h=some Ah:=by rw[←L.rc];exact FJ
   refine CQ [0,1,2,3,4,5]<|Ab 0 D (AA D)<|Ab 1 D (Bp D)<|Ab 2 D (AS C2 7 D)<|Ab 3 D (Bb K1 1 7 D D D)<|Ab 4 D (AA D)<|Ab 5 D (Bp D)<|Ab 6 D (AS C2 1 D)<|Ab 7 D (AS BM 4 D)<|Ab 8 D (Bb AF 1 4 D D D)<|Ab 9 D (NM K1 (fun w b=>b.Yu 3) Fg Fe (a:=z.h) (Fb (by omega)) D D KQ (by rw[FJ]))<|Ab 10 D (AA D)<|Ab 11 D (El D D)<|Ab 12 D (El D D)<|Bh 13 D<|Bw [[E 0],[E 0],[E 0],[E 0],[E 0],[E 0],Ak 32] fun ak=>A8 [1,2,3,4,5,6]<|Bh 14 D<|Bk 0 0 7 D D D<|?_
   refine A8 [1,2,3,4,5,6]<|Ab 15 D (Ck D)<|Cm<|M ?_
   refine CQ [0,2,3,4,5,6]<|Ab 0 D (AS Bv 1 D)<|Ab 1 D (Bb AF 0 1 D D D)<|Ab 2 D (AS Bv 0 D)<|Ab 3 D (Bb AF 0 0 D D D)<|Ab 4 D (AS E9 4 D)<|Bh 5 D<|Cq 1 4 D D D<|?_
   refine A8 [0,2,3,4,5,6]<|Ab 6 D (AS E9 5 D)<|Bh 7 D<|Cq 1 5 D D D<|?_
   refine A8 [0,2,3,4,5,6]<|Cm<|Jf<|Je<|Jh<|Af (BN E9 1 D D)<|U<|Bk 6 0 10 D D D<|?_
   refine M ?_
   refine Gl E9 6 D D D fun W b=>?_
   subst s
   exact⟨Au,f,ER,i,(by unfold G3 FD;rw[u];rfl),N,b.pick [5]⟩
 refine Bc D D<|M ?_
 refine Af (cp 2 D D)<|hL 2 D<|Bc D D<|U<|Bw [[E 0],[E 0],[E 0],[E 0],[E 0],Ak 32,Ak 32,Ak 32,[I none 0 0]] fun aC=>U<|Bk 0 0 9 D D D<|?_
 refine M ?_
 refine AG B7 0 D<|AZ AF 0 0 D D D<|E2 D D<|Jg<|Jf<|Cz D (fun al=>?_) fun al=>?_
 ·
  refine Jh<|AG E9 6 D<|AZ AF 1 6 D D D<|B6 (q:=1) D D<|AG E9 6 D<|U<|Cq 1 6 D D D<|?_
  refine Jg<|JA<|Jf<|?_
  exact fun a W j b=>⟨_,by omega,R,f+1,ER,D,AY j,b.pick [1,2,3,4,5,6],by omega⟩
 refine Jh<|AG E9 7 D<|AZ AF 1 7 D D D<|B6 (q:=1) D D<|AG E9 7 D<|U<|Cq 1 7 D D D<|?_
 refine Jg<|JA<|Jf<|?_
 exact fun a W j b=>⟨_,by omega,R,f,ER+1,D,AY j,b.pick [1,2,3,4,5,6],by omega⟩
theorem gF{P:Program}{N:Nat}{f:BW}{F:Nat→Prop}{w0:World}{H:List Atom}{fn:Func}{T:Ending→World→Prop}{t u x:Nat}{BA d:Value}{c:TypeId}{b:Nat}{ss:List (List Value)}{tb:TypeId}{BB:TypeDesc}(hu:P.underlying c=some BB)(i:Nat)(g:H[i]? =some (O b ss tb))(V:f t=some (.pointer (some ⟨b,0,none⟩)))(j:f u=some BA)(k:f x=some d)(h:∀w,Sat F w0 H w→T (.returned (.tuple #[BA,d,.agg (flat ss)])) w)(s1:ss.flatten.length=n:=by exact Jp)(l:(P.info? c).map (·.size)=some n:=by kernel_rfl)(hr:fn.results=#[.tmp u,.tmp x,.cell t c]:=by exact rfl)(Ad:BB.isRow=true:=by exact rfl):AT N f F w0 H (bodyPost P fn T .ret):=
 fun a w m e=>ek m hr V j k (e.Dq i g) hu Ad (by rw[l,s1]) (h w e)
theorem bt{P:Program}{N:Nat}{f:BW}{d:Nat}{ty:TypeId}{pos:String}{An:Array Edge}{g:Option (Nat×Bool)}{F:Nat→Prop}{w0:World}{H:List Atom}{fn:Fn}{x y:Operand}{v BA:Value}(c:Aj f x=some v)(e:Aj f y=some BA):BR P N f F w0 H ⟨some d,.makeFunc fn #[] #[x,y],ty,pos,An,g⟩ (.func fn #[] #[v,BA]):=fun a w b h=>by
 show(execOp a.eval _).run P w=_
 simp[execOp,b.A_ c,b.A_ e]
 rfl
theorem WE{F:Nat→Prop}{w W:World}{b T:Nat}{ss:List (List Value)}{v:Value}(h:w.heap[b]? =some (.cells (flat ss) T (0,0)))(J:Below w.heap.size w W)(V:(flat ss)[0]? =some v):W.cell? ⟨b,0,none⟩=some v:=by
 rw[cell_of_row _ _ _ _ _ _ ((J.block _ (DC h)).trans h)];exact V
theorem OF{W P:Nat}{g:Nat}(h:Gv P L)(a:3≤P:=by omega)(b:P≤4096:=by omega)(c:g≤L.length+1:=by omega):(2≤(BL W P L g).m∧(BL W P L g).m≤P)∧(BL W P L g).h≤4096:=by
 unfold BL
 split
 ·have:=h.at_ (j:=g - 2) (by omega)
  show(2≤L.getD (g - 2) 0+1∧L.getD (g - 2) 0+1≤P)∧L.getD (g - 2) 0≤4096
  omega
 ·show(2≤2∧2≤P)∧0≤4096
  omega
theorem V3{W P:Nat}{i:Nat}(h:Gv P L)(hw:1≤W∧W≤32)(b:3≤P∧P≤4096)(hl:l.length=n)(c:768≤n)(d:n=256*P)(f:i≤L.length)(j:L.length≤4096):Fr.choose (AI (Ct n W P L i l).l 0) (AI (Ct n W P L i l).l 1)=.ok ⟨W,i+1,(BL W P L (i+1)).m,(BL W P L (i+1)).h,P⟩:=by
 have e:∀s:Fr.Bu,s=⟨s.w,s.g,s.m,s.h,s.p⟩:=fun s=>rfl
 have a:=e (BL W P L (i+1))
 rw[MZ,Oj,LV]at a
 rw[←a]
 exact Y7 h hw b hl c d f j
theorem UH{W P:Nat}{i d:Nat}(h:d=0↔LR (Ct n W P L i l).l W (BL W P L (i+1)).m (BL W P L (i+1)).h):decide ((0:Int)<((d:Nat):Int))=!F1 n W P L l i:=by
 unfold F1
 cases a:P' (Ct n W P L i l).l W (BL W P L (i+1)).m (BL W P L (i+1)).h with
 |true=>have:=h.2 (NH.1 a);subst this;rfl
 |false=>
  have:d≠0:=fun e=>by rw[NH.2 (h.1 e)]at a;cases a
  exact decide_eq_true (by omega)
theorem g2{Bj AK ib c:Nat}{u:Fr.Bu}{w:World}(j:BS Bj AK ib n c w l u)(k:n≤1048576){o:Option Addr}{nl As i Ac pl:Nat}(V:View w (I o nl As) nl 1 (Aq Bm L))(v:L.length=nl)(d:768≤n)(hw:1≤u.w∧u.w≤32)(B:3≤u.p∧u.p≤4096)(r:n=256*u.p)(Df:Gv u.p L)(C:i<nl∧nl≤4096)(x:w.heap[Ac]? =some (.cells (flat [[S AK]]) 62 (0,0)))(y:w.heap[pl]? =some (.cells (flat [[I o nl As]]) 39 (0,0)))(A5:CG w):Calls Tryz.prog 43 #[E i,S Ac,S pl] w fun e W=>e=.returned (.bool (!F1 n u.w u.p L l (i+1)))∧Below w.heap.size w W:=by
 have s:=FU
 refine Cg w XV D 24<|M ?_
 refine Af (fun _ _ f a=>Ei f D RA D (WE (F:=C1) x a.A0 D))<|Af (fun _ _ f a=>Ei f D Gd D (WE (F:=C1) y a.A0 D))<|Jd D<|B6 (q:=1) D D<|U<|?_
 refine Ba Oq D (fun w a=>Q_ (i:=(i+1)) (L:=L) (j.below a.A0) k ((Bx V) w a) v d hw r Df.b) fun _ e W a ⟨g,he,z,J⟩=>⟨_,_,he,a.own z J,?_⟩
 refine U<|?_
 refine Ba PQ D (fun w a=>TG (some ⟨g,0,none⟩) n n (Ct n u.w u.p L (i+1) l).l u.w (i+1+1) (BL u.w u.p L (i+1+1)).m (BL u.w u.p L (i+1+1)).h u.p w (a.Ad (H1:=[Ae 5 1 (I (some ⟨g,0,none⟩) n n) n (bv ((Ct n u.w u.p L (i+1) l).l))]) [0]) (A5.sat a s) (a.Eb A5 s [0]) (by omega) d k (by omega) (Br _) (V3 Df hw (by omega) j.len d r (by omega) (by omega)) hw.2 (OF Df).1 (OF (W:=u.w) Df).2) fun _ e W a ⟨G,H,K,N,he,t,q⟩=>⟨_,_,he,Sat.call (H1:=[Ae 5 1 (I (some ⟨g,0,none⟩) n n) n (bv ((Ct n u.w u.p L (i+1) l).l))]) (H2:=[]) (a.pick [0]) q,?_⟩
 refine Jd D<|Bc D D<|Bc D D<|U<|Bw [[E 0],[E 0],[E 0],[E 0],[E 0],[E 0],[E 0],[E 0],[E 0],[I none 0 0]] fun O=>U<|Bk 0 0 10 D D D<|?_
 refine M ?_
 refine Ci D D D<|M ?_
 refine AG E9 9 D<|Jj D D D<|AZ KD 0 9 D D D<|Jj D D D<|Cr KD D<|Jj D D D<|Kl D D (fun A=>?_) fun A=>?_
 ·
  refine A7 ?_
  exact fun W a=>⟨congrArg (fun q=>Ending.returned (.bool q)) ((decide_eq_true (by omega)).symm.trans (UH t)),a.A0⟩
 refine A7 ?_
 exact fun W a=>⟨congrArg (fun q=>Ending.returned (.bool q)) ((decide_eq_false (by omega)).symm.trans (UH t)),a.A0⟩
theorem Tx{Bj AK ib c:Nat}{u:Fr.Bu}{w:World}(g:BS Bj AK ib n c w l u)(j:n≤1048576)(o:768≤n)(hw:1≤u.w∧u.w≤32)(B:3≤u.p∧u.p≤4096)(r:n=256*u.p)(hm:2≤u.m∧256*u.m≤n)(A5:CG w):Calls Tryz.prog 20 #[S AK] w fun e W=>∃q m k i,∃Au:BX,∃C ER F,e=.returned (.tuple #[I q m k,E i,.agg (flat [[E u.w],[E u.p],[E (BL u.w u.p (A9 l u.m) (i+1)).m],[E (BL u.w u.p (A9 l u.m) (i+1)).h],[E (G3 (Ct n u.w u.p (A9 l u.m) i l).l (BL u.w u.p (A9 l u.m) (i+1)).m (BL u.w u.p (A9 l u.m) (i+1)).h)],[E (FD (Ct n u.w u.p (A9 l u.m) i l).l (BL u.w u.p (A9 l u.m) (i+1)).m (BL u.w u.p (A9 l u.m) (i+1)).h)],[E C],[E ER],[E F],[I Au.p Au.n Au.c]])])∧W.ownsRow w.heap.size 3 1 (I q m k) m (Aq Bm (A9 l u.m))∧i≤(A9 l u.m).length∧(i=0∨F1 n u.w u.p (A9 l u.m) l (i - 1+1)=true)∧(i=(A9 l u.m).length∨F1 n u.w u.p (A9 l u.m) l (i+1)=false)∧(Au.n=0↔LR (Ct n u.w u.p (A9 l u.m) i l).l u.w (BL u.w u.p (A9 l u.m) (i+1)).m (BL u.w u.p (A9 l u.m) (i+1)).h)∧Below w.heap.size w W:=by
 have s:=FU
 have Df:Gv u.p (A9 l u.m):=Ok
 refine Cg w P2 D 26<|Je<|Jh<|U<|SL [[S AK]] D D fun HK=>Js D<|Js D<|U<|Bw [[E 0],[E 0],[E 0],[E 0],[E 0],[E 0],[E 0],[E 0],[E 0],[I none 0 0]] fun G=>M ?_
 refine AZ RA 1 0 D D D<|U<|?_
 refine Ba UT D (fun w a=>bZ (g.below a.A0) j hm) fun _ e W a ⟨y,d,z,he,A,J⟩=>⟨_,_,he,a.own A J,?_⟩
 have t:(A9 l u.m).length=d:=I3 Gj (by decide) A
 have Y:=Ni l u.m
 refine U<|NI (I none 0 0) [[I none 0 0]] D fun v=>U<|Cq 0 0 D D D<|?_
 refine M ?_
 refine AZ Gd 0 0 D D D<|Cr Gd D<|U<|IK (bt D D)<|U<|?_
 refine Ba UR D (fun w a=>bL d 43 #[] #[S HK,S v] _ (fun i=>!F1 n u.w u.p (A9 l u.m) l (i+1)) (fun i=>[E i,S HK,S v]) w (by omega) XV (fun i=>rfl) (by kernel_rfl) (by kernel_rfl) (fun i Z aa f=>g2 ((g.below a.A0).below f) j ((View.own (a.rw 1)).below f) t o hw B r Df (by omega) ((f.block _ (DC (a.Dq 3))).trans (a.Dq 3)) ((f.block _ (DC (a.Dq 0))).trans (a.Dq 0)) ((A5.sat a s).below f D))) fun _ e W a ⟨i5,he,H,K,N,J⟩=>⟨_,_,he,a.below J,?_⟩
 refine M ?_
 refine AZ RA 3 0 D D D<|AZ Gd 0 0 D D D<|Jd D<|U<|?_
 refine Ba Oq D (fun w a=>Q_ (i:=i5) (L:=(A9 l u.m)) (g.below a.A0) j ((BZ 1) w a) (I3 Gj (by decide) (a.rw 1)) o hw r Df.b) fun _ e W a ⟨x,he,P,J⟩=>⟨_,_,he,a.own P J,?_⟩
 refine U<|?_
 refine Ba PQ D (fun w a=>TG (some ⟨x,0,none⟩) n n (Ct n u.w u.p (A9 l u.m) i5 l).l u.w (i5+1) (BL u.w u.p (A9 l u.m) (i5+1)).m (BL u.w u.p (A9 l u.m) (i5+1)).h u.p w (a.Ad (H1:=[Ae 5 1 (I (some ⟨x,0,none⟩) n n) n (bv ((Ct n u.w u.p (A9 l u.m) i5 l).l))]) [0]) (A5.sat a s) (a.Eb A5 s [0]) (by omega) o j (by omega) (Br _) (V3 Df hw (by omega) g.len o r (by omega) (by omega)) hw.2 (OF Df).1 (OF (W:=u.w) Df).2) fun _ e W a ⟨Q,R,T,V,he,X,q⟩=>⟨_,_,he,Sat.call (H1:=[Ae 5 1 (I (some ⟨x,0,none⟩) n n) n (bv ((Ct n u.w u.p (A9 l u.m) i5 l).l))]) (H2:=[O v [[I y d z]] 39,Ae 3 1 (I y d z) d (Aq Bm (A9 l u.m)),O G [[E 0],[E 0],[E 0],[E 0],[E 0],[E 0],[E 0],[E 0],[E 0],[I none 0 0]] 32,O HK [[S AK]] 62]) (a.pick [0,1,2,3,4]) q,?_⟩
 refine Jd D<|Bc D D<|Bc D D<|U<|Bw [[E 0],[E 0],[E 0],[E 0],[E 0],[E 0],[E 0],[E 0],[E 0],[I none 0 0]] fun ab=>U<|Bk 0 0 10 D D D<|?_
 refine M ?_
 refine DD 5<|zs (Bb Gd 2 0 D D D)<|zs (AA D)<|zs (BN E9 0 D D)<|zs (Ck D)<|zs (Ck D)<|CS<|U<|Bk 4 0 10 D D D<|?_
 refine Jg<|Jf<|Jq<|gF E9 4 D D D D fun W a=>?_
 exact⟨_,_,_,i5,Q,R,T,V,D,a.DQ 3,t▸H,K.imp id (fun h=>by simpa using h),N.imp (fun h=>h.trans t.symm) (fun h=>by simpa using h),X,a.A0⟩
end Go.Proofs.YtaapafoibofbjaaGreatDoor
namespace Go.Proofs.YtaapafoibofbjaaGreatDoor
open Go.RowKit
section
variable {Bj AK ib n c p:Nat} {l:List UInt8} {u:Fr.Bu} {w:World}
theorem BS.mono{Di:Nat}(h:BS Bj AK ib n c w l u)(a:Di≤Bj):BS Di AK ib n c w l u:=by
 obtain⟨b,d,e,f,g,i,j,k,h⟩:=h
 exact⟨b,d,e,f,g,i,j,k,h.H,Ew h.o a,h.A,h.B,Eg a h.j6,h.ne⟩
theorem UM{b d e f q r s t:Value}(h:MK Bj AK ib n c w l u b d e f q r s t):BE [O AK [[I (some ⟨ib,0,none⟩) n c],[E u.w],[E u.g],[E u.m],[E u.h],[E u.p],[b],[d],[e],[f],[q],[r],[s],[t]] 85,Ae 5 1 (I (some ⟨ib,0,none⟩) n c) n (bv l)] w:=by
 refine⟨fun i A a=>?_,fun i j A A' v a hj k x y=>?_⟩
 ·match i,a with
  |0,a=>cases a;exact h.H
  |1,a=>cases a;exact Ew h.o (Nat.zero_le _)
  |i+2,a=>simp at a
 ·match i,j,a,hj with
  |0,0,_,_=>exact v D
  |1,1,_,_=>exact v D
  |0,1,a,hj=>cases a;cases hj;cases y;exact h.ne x
  |1,0,a,hj=>cases a;cases hj;cases x;exact h.ne y
  |i+2,_,a,_=>simp at a
  |0,j+2,_,hj=>simp at hj
  |1,j+2,_,hj=>simp at hj
theorem V_{a b d f i j r t:Value}{s:Fr.Bu}{W:World}(L:Bj≤w.heap.size)(h:MK Bj AK ib n c w l u a b d f i j r t)(q:Sat (A6 [O AK [[I (some ⟨ib,0,none⟩) n c],[E u.w],[E u.g],[E u.m],[E u.h],[E u.p],[a],[b],[d],[f],[i],[j],[r],[t]] 85,Ae 5 1 (I (some ⟨ib,0,none⟩) n c) n (bv l)]) w [O AK [[I (some ⟨ib,0,none⟩) n c],[E s.w],[E s.g],[E s.m],[E s.h],[E s.p],[a],[b],[d],[f],[i],[j],[r],[t]] 85,Ae 5 1 (I (some ⟨ib,0,none⟩) n c) n (bv l)] W):BS Bj AK ib n c W l s∧Below Bj w W:=by
 have C:∀k,A6 [O AK [[I (some ⟨ib,0,none⟩) n c],[E u.w],[E u.g],[E u.m],[E u.h],[E u.p],[a],[b],[d],[f],[i],[j],[r],[t]] 85,Ae 5 1 (I (some ⟨ib,0,none⟩) n c) n (bv l)] k→k=AK∨k=ib:=by
  intro k x
  rcases K4.1 x with e|e
  ·exact .inl e
  ·cases e;exact .inr D
 obtain⟨F,cur,G,M,N,P,Q⟩:=HL h.o
 obtain⟨-,R,J,EF,Ev,Kw,HQ⟩:=HL (q.rw 1)
 have hm:∀k,k<w.heap.size→(∃es As,w.heap[k]? =some (.map es As))→W.heap[k]? =w.heap[k]? :=by
  rintro k x ⟨es,As,y⟩
  refine q.jF.block k x (fun z=>?_)
  rcases C k z with rfl|rfl
  ·rw[h.H]at y;cases y
  ·rw[G]at y;cases y
 refine⟨⟨a,b,d,f,i,j,r,t,q.Dq 0,P3 F J EF Ev Kw HQ,h.A.kept hm,h.B.kept hm,h.j6,h.ne⟩,⟨q.jF.os,q.jF.tape,q.jF.output,q.jF.size,fun k x=>q.jF.block k (by omega) (fun z=>?_)⟩⟩
 have:=h.j6
 rcases C k z with rfl|rfl<;>omega
theorem RE(b:Bj≤w.heap.size)(a:BS Bj AK ib n c w l u)(d:768≤n∧n≤1048576∧n % 256=0:=by omega):Calls Tryz.prog 23 #[S AK] w fun e W=>∃(k:Nat) (s:Fr.Bu),e=.returned (E k)∧OV l n k s∧BS Bj AK ib n c W l s∧Below Bj w W:=by
 have f:=a.cap
 obtain⟨g,i,j,m,o,p,r,t,h⟩:=a
 refine(RQ AK ib n c u g i j m o p r t l w (UM h) d f.1).mono ?_
 rintro e W ⟨k,s,he,v,q⟩
 exact⟨k,s,he,v,V_ b h q⟩
theorem ey(b:Bj≤w.heap.size)(a:BS Bj AK ib n c w l u)(d:768≤n∧n≤1048576∧n % 256=0):Calls Tryz.prog 18 #[S AK] w fun e W=>∃(k:Nat) (s:Fr.Bu),e=.returned (E k)∧R6 l n k s∧BS Bj AK ib n c W l s∧Below Bj w W:=by
 have f:=a.cap
 obtain⟨g,i,j,m,o,p,r,t,h⟩:=a
 refine(iH AK ib n c u g i j m o p r t l w (UM h) d f.1).mono ?_
 rintro e W ⟨k,s,he,v,q⟩
 exact⟨k,s,he,v,V_ b h q⟩
end
section
variable {P:Program} {Aa:Exit→Act→World→Prop} {N:Nat} {f:BW} {d:Nat} {ty:TypeId} {pos:String} {An:Array Edge} {g:Option (Nat×Bool)} {w0:World} {H:List Atom} {K:Act→World→Prop}
theorem HN{Cf:FuncId}{fn:Func}(c:P.funcs[Cf]? =some fn){xs:List Operand}{ts:Array TypeId}{l:List Value}(i:GX f xs=some l){T:World→Ending→World→Prop}(j:∀w,Sat C1 w0 H w→Calls P Cf l.toArray w (T w))(h:∀w e W,Sat C1 w0 H w→T w e W→∃v,e=.returned v∧AT N (Jb f d v) C1 W [] K)
 (k:(fn.name== "runtime.NumGoroutine")=false:=by kernel_rfl)(J:fn.body.isNone=false:=by kernel_rfl)(Ad:Nat.blt d N=true:=by exact rfl):D3 P ⟨some d,.call {callee:=.value (.func Cf),args:=xs.toArray,argTypes:=ts},ty,pos,An,g⟩ Aa N f C1 w0 H K:=fun a w m b=>
 Rj m Ad c k J (Nf i) (j w b) (fun e W Df=>by
  obtain⟨v,he,n⟩:=h w e W b Df
  exact⟨v,he,fun o p=>n o W p (Sat.start C1 W)⟩)
theorem D2{w a W:World}(h:Below w.heap.size w a)(b:Sat C1 a H W):Below w.heap.size w W:=h.trans (b.A0.mono h.size)
end
end Go.Proofs.YtaapafoibofbjaaGreatDoor
namespace Go.Proofs.YtaapafoibofbjaaGreatDoor
open Go.RowKit
set_option maxRecDepth 100000
set_option maxHeartbeats 1000000
structure Gp (l:List UInt8) (n:Nat) (s:Fr.Bu):Prop where
 a:L1 l 0
 b:L1 l 1
 ch:Fr.choose (AI l 0) (AI l 1)=.ok s
 p:n=256*s.p
 Ar:∀p,2≤p→p<s.m→Fr.CZ p (AI l p)=true
structure D5 (n:Nat) (s:Fr.Bu) (x:List UInt8) (i:Nat):Prop where
 v:Fr.DE s=true
 p:n=256*s.p
 len:x.length=n
 le:i≤(A9 x s.m).length
 jB:i=0∨F1 n s.w s.p (A9 x s.m) x (i - 1+1)=true
 ji:i=(A9 x s.m).length∨F1 n s.w s.p (A9 x s.m) x (i+1)=false
def BJ(s:Fr.Bu)(x:List UInt8)(i:Nat):Fr.Bu:=BL s.w s.p (A9 x s.m) (i+1)
def Cl(n:Nat)(s:Fr.Bu)(x:List UInt8)(i:Nat):List UInt8:=(Ct n s.w s.p (A9 x s.m) i x).l
theorem Wd{q:Option Addr}{n c:Nat}{l:List UInt8}{w:World}(V:View w (I q n c) n 1 (bv l))(hl:l.length=n)(ai:768≤n∧n≤1048576∧n % 256=0)(A5:CG w):Calls Tryz.prog 6 #[I q n c] w fun e W=>((∃k:Nat,k≠0∧(∀f,¬Gp l n f)∧e=.returned (.tuple #[I none 0 0,E 0,E k]))∨∃x s i AB,D5 n s x i∧(∀f,Gp l n f→x=l∧s=f)∧e=.returned (.tuple #[I (some ⟨AB,0,none⟩) n n,E (FD (Cl n s x i) (BJ s x i).m (BJ s x i).h),E 0])∧W.ownsRow w.heap.size 5 1 (I (some ⟨AB,0,none⟩) n n) n (bv (Cl n s x i)))∧Below w.heap.size w W:=by
 have g:Below w.heap.size w w:=Cn _ _
 refine Cg w Qi D 53<|M ?_
 refine U<|?_
 refine HN Mj D (fun w d=>Qu _ n c (n/256) l w (Bx V w d) hl) fun _ e o d ⟨AK,ib,ci,he,t,u⟩=>⟨_,he,?_⟩
 have j:=t.mono (D2 g d).size
 have g:=(D2 g d).trans (u.mono (D2 g d).size)
 refine Jd D<|Bc D D<|Bc D D<|M ?_
 refine Ci D D D<|M ?_
 refine U<|?_
 refine HN Ms D (fun w d=>S_ (p:=0) (D2 g d).size (j.below d.A0)) fun _ e o d ⟨t2,P,he,Q,t,_,u⟩=>⟨_,he,?_⟩
 have g:=(D2 g d).trans u
 clear j;have j:=t
 have R:∀f,Gp l n f→P=l:=fun f h=>(Q h.a).2
 have hlen:=j.len
 refine M ?_
 refine U<|?_
 refine HN Ms D (fun w d=>S_ (p:=1) (D2 g d).size (j.below d.A0)) fun _ e o d ⟨t5,C,he,F,t,_,u⟩=>⟨_,he,?_⟩
 have g:=(D2 g d).trans u
 clear j;have j:=t
 have z:∀f,Gp l n f→C=l:=fun f h=>(by have e:=R f h;rw[e]at F;exact(F h.b).2)
 have hlen:=j.len
 refine M ?_
 refine U<|?_
 refine HN W9 D (fun w d=>ey (D2 g d).size (j.below d.A0) (by omega)) fun _ e o d ⟨G,DR,he,A,t,u⟩=>⟨_,he,?_⟩
 have g:=(D2 g d).trans u
 clear j;have j:=t
 refine M ?_
 refine JU D D<|Jg<|Jf<|HI D (fun T=>?_) fun T=>?_
 ·
  refine M ?_
  refine Gz D D D fun W d=>?_
  exact⟨.inl ⟨G,by omega,fun f r=>by have:=(A.2 f (by rw[z f r];exact r.ch) r.p).1;omega,D⟩,D2 g d⟩
 obtain rfl:G=0:=by omega
 have B:=A.1 D
 have H:∀f,Gp l n f→DR=f:=fun f r=>(A.2 f (by rw[z f r];exact r.ch) r.p).2
 have X:=B.1
 simp only[Fr.DE,Bool.and_eq_true,Bool.or_eq_true,decide_eq_true_eq]at X
 refine M ?_
 refine DL (fun Y a W=>∃p x o,Y=DR.m - p∧AH 53 a (Jb (Jb (Jb (Jb (Jb Jk 2 (I none 0 0)) 3 (E 0)) 4 (E 0)) 5 (S AK)) 8 (E p))∧Sat C1 o [] W∧(2≤p∧p≤DR.m)∧(∀f,Gp l n f→x=l)∧BS w.heap.size AK ib n ci o x DR∧Below w.heap.size w o) (fun a W v d=>⟨2,C,o,D,AY v,d.pick [],by omega,z,j,g⟩) ?_
 rintro _ a W ⟨p,x,o,rfl,v,d,aj,y,j,g⟩;revert a W
 refine M ?_
 refine By D<|AG F_ 1 D<|AG BM 3 D<|Af (fun _ _ v d=>Ei v D AF D (j.below d.A0).mark)<|Ej D D<|Jg<|Jf<|Cz D (fun Z=>?_) fun Z=>?_
 ·
  refine M ?_
  refine U<|?_
  refine HN NK D (fun w d=>W8 (p:=p) (D2 g d).size (j.below d.A0) (by omega) (by omega)) fun _ e o d ⟨t13,K,he,N,t,_,u⟩=>⟨_,he,?_⟩
  have g:=(D2 g d).trans u
  clear j;have j:=t
  have y:∀f,Gp l n f→K=l:=fun f h=>(by have e:=y f h;rw[e]at N;obtain rfl:=H f h;exact(N (by rw[OL];exact h.Ar p (by omega) (by omega))).2)
  have hlen:=j.len
  refine M ?_
  refine B6 (q:=1) D D<|M ?_
  exact fun a W v d=>⟨_,by omega,p+1,K,o,D,AY v,d.pick [],by omega,y,j,g⟩
 have hlen:=j.len
 refine M ?_
 refine U<|?_
 refine Ba P2 D (fun w d=>Tx (j.below d.A0) (by omega) (by omega) (by omega) (by omega) (by omega) (by omega) ((A5.below g D).sat d FU)) fun _ e W d ⟨ak,aa,al,i18,an,ao,aq,ar,he,O,ab,ad,ae,au,J⟩=>⟨_,_,he,d.own O J,?_⟩
 have af:(A9 x DR.m).length=aa:=I3 Gj (by decide) O
 have av:=Ni x DR.m
 refine Jd D<|Bc D D<|Bc D D<|Bc D D<|U<|Bw [[E 0],[E 0],[E 0],[E 0],[E 0],[E 0],[E 0],[E 0],[E 0],[I none 0 0]] fun aw=>Js D<|Js D<|U<|Bk 0 0 10 D D D<|?_
 refine Jg<|Jf<|Je<|?_
 refine CQ [0,1]<|Ab 0 D (AA D)<|Ab 1 D (AA D)<|Ab 2 D (AA D)<|Ab 4 D (AS E9 5 D)<|Ab 5 D (Bb AF 0 5 D D D)<|Bh 3 D<|?_
 refine Ba Oq D (fun w d=>Q_ (i:=i18) (L:=(A9 x DR.m)) (j.below d.A0) (by omega) ((BZ 1) w d) af (by omega) (by omega) (by omega) (Ok).b) fun _ e W d ⟨ag,he,ah,J⟩=>⟨_,_,he,d.own ah J,?_⟩
 refine A8 [1,2]<|Ab 6 D (Ck D)<|Ab 7 D (Ck D)<|Ab 8 D (Ck D)<|Cm<|Jf<|Jq<|Gz D D D fun W d=>?_
 exact⟨.inr ⟨x,DR,i18,ag,⟨B.1,B.2,hlen,ab,ad,ae⟩,fun f r=>⟨y f r,H f r⟩,D,Ew (d.DQ 0) g.size⟩,D2 g d⟩
end Go.Proofs.YtaapafoibofbjaaGreatDoor
