/- Laws and walks on the road to SalvagePlays (part M45). No conditions beyond each law's own. -/
import Derived.Maps.RangeRun
import Derived.Test.YtjdboncaegphmaaGreatDoorM44
set_option linter.unusedVariables false
namespace Go.Proofs.YtjdboncaegphmaaGreatDoor
open Go.RowKit
open Go.Maps (Keyed)
open Go.ChangeMaps Go.MapKept
open Go.WideElems (Fit)
set_option maxRecDepth 100000
set_option maxHeartbeats 2000000
variable {b r n Fv:Nat} {k:TypeId} {x:Operand}
def QV(b r Fv:Nat)(w:World):Prop:=∃(es:Array MapEntry) (clock since:Nat) (seen:Array Nat) (a:Nat),w.heap[b]? =some (.map es clock)∧w.heap[r]? =some (.mapIter (some b) since seen a)∧(∀x∈es.toList,x.born<since)∧since≤a∧since≤clock∧(leftOf es seen).size=Fv∧(es.toList.map (·.born)).Nodup
def Pl(b r:Nat)(key val:Value)(w:World):Prop:=∃(es:Array MapEntry) (clock since:Nat) (seen:Array Nat) (e:MapEntry),w.heap[b]? =some (.map es clock)∧w.heap[r]? =some (.mapIter (some b) since (seen.push e.born) clock)∧e∈es.toList∧(es.toList.map (·.born)).Nodup∧e.key=key∧e.val=val
theorem QV.loc{w w':World}(h:QV b r Fv w)(a:w'.heap[b]? =w.heap[b]?)(c:w'.heap[r]? =w.heap[r]?):QV b r Fv w':=by
 obtain⟨es,clock,since,seen,d,h1,e,q⟩:=h;exact⟨es,clock,since,seen,d,a.trans h1,c.trans e,q⟩
theorem Pl.loc{k v:Value}{w w':World}(h:Pl b r k v w)(a:w'.heap[b]? =w.heap[b]?)(c:w'.heap[r]? =w.heap[r]?):Pl b r k v w':=by
 obtain⟨es,clock,since,seen,e,h1,d,q⟩:=h;exact⟨es,clock,since,seen,e,a.trans h1,c.trans d,q⟩
def Mm(b n r Fv:Nat)(f:Nat→Option Bf)(o:Option (Nat×Bf)):Atom:=
 ⟨fun j=>(AN b n f).u1 j∨j=r,fun w=>(AN b n f).holds w∧QV b r Fv w∧∀p,o=some p→f p.1=some p.2∧Pl b r (Am p.1) (J6 p.2) w,
  fun w h j e=>by
   rcases e with e|e
   ·exact(AN b n f).lt w h.1 j e
   ·subst e;obtain⟨-,⟨es,clock,since,seen,l,h1,c,q⟩, -⟩:=h;exact(SR.1 c).1,
  fun w w' h d e=>⟨(AN b n f).loc w w' h.1 d (fun k g=>e k (.inl g)),h.2.1.loc (e b (.inl (.inl D))) (e r (.inr D)),fun p a=>⟨(h.2.2 p a).1,(h.2.2 p a).2.loc (e b (.inl (.inl D))) (e r (.inr D))⟩⟩⟩
section
variable {ops:Array Oper} {rest:List Oper} {Aa:Exit→Act→World→Prop} {N:Nat} {f:BW} {d:Nat} {ty:TypeId} {pos:String} {An:Array Edge} {g:Option (Nat×Bool)} {F:Nat→Prop} {w0 w:World} {H:List Atom} {A5:Act→World→Prop} {R:World→Act→Prop}
theorem ay(i:Nat){t e:TypeId}(s:Tryz.prog.underlying t=some (.map k e)){Z:Nat→Option Bf}(V:H[i]? =some (AN b n Z))(u:Aj f x=some (.map (some b)))(h:∀r Fv,Fv≤n→AT N (Jb f d (S r)) F w0 (H.set i (Mm b n r Fv Z none)) A5)(Ad:Nat.blt d N=true:=by exact rfl):D3 Tryz.prog ⟨some d,.range t x,ty,pos,An,g⟩ Aa N f F w0 H A5:=fun a w l m=>by
 have j:=m.at_ i _ V;obtain⟨⟨es,clock,J,y,z,h1,G⟩,I⟩:=id j;have o:=(stamped_iff es clock).1 y.stamped;have A:b<w.heap.size:=(SR.1 J).1;have q:C7 (AN b n Z).u1 w (w.alloc (.mapIter (some b) clock #[] clock)):=C7.Ot ((Cn _ _).grown (World.grownBy_alloc w _ none) (Br _) (fun k c=>by cases c));refine F8 (v:=S w.heap.size) (w':=w.alloc (.mapIter (some b) clock #[] clock)) l Ad ?_ (fun B C=>h w.heap.size (leftOf es #[]).size ?_ B _ C (m.set i V q ⟨(AN b n Z).loc w _ j q.size (fun k c=>Below.heap_alloc w _ _ ((AN b n Z).lt w j k c)),⟨es,clock,clock,#[],clock,(Below.heap_alloc w _ _ A).trans J,heap_alloc_new w _,o.1,Br _,Br _,D,o.2.1⟩,fun p E=>by cases E⟩ (fun k c=>?_)))
 ·simp[execOp,l.A_ u,run_range_map w t k e b es clock s J]
 ·unfold leftOf;exact Eg Array.size_filter_le z
 ·rcases c with c|c
  ·exact .inl c
  ·exact .inr (Mk c.symm)
theorem i'(i:Nat){Z:Nat→Option Bf}{o:Option (Nat×Bf)}(V:H[i]? =some (Mm b n r Fv Z o))(G:Aj f x=some (S r))(aa:Fv=0→AT N (Jb f d (.tuple #[.bool false])) F w0 H A5)(h1:∀(k:Nat) (y:Bf) (c:Nat),Z k=some y→c<Fv→AT N (Jb f d (.tuple #[.bool true,Am k,J6 y])) F w0 (H.set i (Mm b n r c Z (some (k,y)))) A5)(Ad:Nat.blt d N=true:=by exact rfl):D3 Tryz.prog ⟨some d,.next x false,ty,pos,An,g⟩ Aa N f F w0 H A5:=fun a w q u=>by
 have ab:=u.at_ i _ V;obtain⟨hm,⟨es,clock,since,seen,I,J,hr,hold,ad,K,L,M⟩, -⟩:=id ab
 rcases run_next_at (P:=Tryz.prog) w ty r b since I seen es clock hr J hold ad with⟨ae,z⟩|⟨e,he,m,A,z⟩
 ·refine F8 (v:=.tuple #[.bool false]) (w':=w) q Ad ?_ (fun B C=>aa (L.symm.trans ae) B w C u);simp[execOp,q.A_ G,z]
 ·obtain⟨O,ar⟩:=mem_left he;obtain⟨⟨au,av,Q,aw,ax,af,ay⟩,ag⟩:=id hm;rw[J]at Q;cases Q;obtain⟨k,y,R,T,U⟩:=af e O;have ah:m.heap[r]? =some (.mapIter (some b) since seen I):=by rcases A with rfl|rfl<;>exact hr
  have ai:m.heap[b]? =some (.map es clock):=by rcases A with rfl|rfl<;>exact J
  have W:b≠r:=fun h=>by subst h;rw[hr]at J;cases J
  have s:=heap_set (o':=.mapIter (some b) since (seen.push e.born) clock) ah;have l:w.grownBy (setBlock m r (.mapIter (some b) since (seen.push e.born) clock)) (some r):=by
   rcases A with rfl|rfl<;>exact⟨D,D,D,by simp[setBlock],fun i _ V=>s.2 i (fun h=>V (by rw[h]))⟩
  have aj:∀j,j≠r→j<w.heap.size→(setBlock m r (.mapIter (some b) since (seen.push e.born) clock)).heap[j]? =w.heap[j]? :=fun j hj hl=>l.block j hl (fun h=>hj (by cases h;rfl));have ak:∀j,(AN b n Z).u1 j→j≠r:=by
   rintro j hj rfl
   rcases hj with hj|⟨k',al,an,t⟩
   ·exact W hj.symm
   ·rcases(ag k' al an).2 with⟨E, -⟩|⟨aA,cap,cur,E,aB,X, -⟩
    ·rw[E]at t;cases t
    ·rw[E]at t;cases t;rw[hr]at X;cases X
  have aC:b<w.heap.size:=(SR.1 J).1;have Y:(setBlock m r (.mapIter (some b) since (seen.push e.born) clock)).heap[b]? =some (.map es clock):=(s.2 b W).trans ai;refine F8 (v:=.tuple #[.bool true,Am k,J6 y]) (w':=setBlock m r (.mapIter (some b) since (seen.push e.born) clock)) q Ad ?_ (fun B C=>h1 k y (leftOf es (seen.push e.born)).size U (L▸left_shrinks es seen e he) B _ C (u.set i V ⟨l.os,l.tape,l.output,l.size,fun j hj ao=>l.block j hj (fun h=>ao (by cases h;exact .inr D))⟩ ⟨(AN b n Z).loc w _ hm l.size (fun j hj=>aj j (ak j hj) ((AN b n Z).lt w hm j hj)),⟨es,clock,since,seen.push e.born,clock,Y,s.1,hold,K,K,D,M⟩,fun p aq=>by
   cases aq;exact⟨U,es,clock,since,seen,e,Y,s.1,O,M,R,T⟩⟩ (fun j hj=>.inl hj)))
  simp[execOp,q.A_ G,z,R,T]
theorem cp(i:Nat){k:Nat}{y:Bf}{Z:Nat→Option Bf}(V:H[i]? =some (Mm b n r Fv Z (some (k,y))))(c:Aj f x=some (S r)):BR Tryz.prog N f F w0 H ⟨some d,.entry x,ty,pos,An,g⟩ (.tuple #[Am k,J6 y]):=fun a w h j=>by
 obtain⟨-, -,he⟩:=j.at_ i _ V;obtain⟨-,es,clock,since,seen,e,J,hr,l,m,o,p⟩:=he _ D;have:=run_entry_at (P:=Tryz.prog) w r b since seen es clock e hr J l m;show(execOp a.eval _).run Tryz.prog w=_;simp[execOp,h.A_ c,this,o,p]
theorem hL(i:Nat){Z:Nat→Option Bf}{o:Option (Nat×Bf)}(V:H[i]? =some (Mm b n r Fv Z o))(h:AT N f F w0 (H.set i (Mm b n r Fv Z none)) A5):AT N f F w0 H A5:=fun a w d c=>h a w d (c.set i V (C7.refl _ _) ⟨(c.at_ i _ V).1,(c.at_ i _ V).2.1,fun p g=>by cases g⟩ (fun j e=>.inl e))
def PT(k:TypeId){Bo Dg:Type}(Ca:Bo→Value)(A_:Dg→Value)(b c:Nat)(f:Bo→Option Dg):Atom:=
 ⟨fun j=>j=b,fun w=>E8 Tryz.prog k Ca A_ b c f w∧∃es clock,w.heap[b]? =some (.map es clock)∧es.size=c,fun w h j e=>by subst e;exact h.1.lt,fun w w' h d e=>⟨h.1.loc (e b D),by obtain⟨es,As,h1,a⟩:=h.2;exact⟨es,As,(e b D).trans h1,a⟩⟩⟩
theorem Sat.Yu{Bo Dg:Type}{Ca:Bo→Value}{A_:Dg→Value}{c:Nat}{Z:Bo→Option Dg}(h:Sat F w0 H w)(i:Nat)(V:H[i]? =some (PT k Ca A_ b c Z):=by exact rfl):E8 Tryz.prog k Ca A_ b c Z w:=(h.at_ i _ V).1
theorem iT(i:Nat){Bo Dg:Type}{Ca:Bo→Value}{A_:Dg→Value}{Z:Bo→Option Dg}(V:H[i]? =some (Ap Tryz.prog k Ca A_ b n Z))(h:∀c,c≤n→AT N f F w0 (H.set i (PT k Ca A_ b c Z)) A5):AT N f F w0 H A5:=fun a w g d=>by
 obtain⟨es,clock,J,l,m,r⟩:=d.mp i V;exact h es.size m a w g (d.set i V (C7.refl _ _) ⟨⟨es,clock,J,l,Br _,r⟩,es,clock,J,D⟩ (fun j e=>.inl e))
theorem fi(i:Nat){t e:TypeId}{Bo Dg:Type}{Ca:Bo→Value}{A_:Dg→Value}(j:Tryz.prog.underlying t=some (.map k e)){c:Nat}{Z:Bo→Option Dg}(V:H[i]? =some (PT k Ca A_ b c Z))(m:Aj f x=some (.map (some b))):BR Tryz.prog N f F w0 H ⟨some d,.call {callee:=.builtin .len,args:=#[x],argTypes:=#[t]},ty,pos,An,g⟩ (E c):=fun a w n o=>by
 obtain⟨⟨es,clock,J,p,q, -⟩,v,y,h,r⟩:=o.at_ i _ V;rw[J]at h;cases h;have s:w.ownsMap Tryz.prog k Df b c _:=⟨es,clock,J,p,q,D⟩
 have:=s.len j ty;have u:∀l,Maps.size (H:=Value) (DataW.map l)=l.length:=fun l=>rfl;rw[u,length_sorted,MU,Array.length_toList,r]at this;show(execOp a.eval _).run Tryz.prog w=_;simp[execOp,resolve,invoke,builtin,n.A_ m,this]
end
end Go.Proofs.YtjdboncaegphmaaGreatDoor
namespace Go.Proofs.YtjdboncaegphmaaGreatDoor
open Go.RowKit
set_option maxRecDepth 100000
set_option maxHeartbeats 2000000
variable {n:Nat} {L:List Nat}
def G3(il:rG)(m h:Nat):Nat:=match Dy il m h with|some r=>r.f|none=>0
def FD(il:rG)(m h:Nat):Nat:=match Dy il m h with|some r=>r.v|none=>0
theorem TG(D1:Option Addr)(m c:Nat)(il:rG)(i s d f j:Nat)(w:World)(P:BE [Ae 5 1 (I D1 m c) m (bv il)] w)(t:CG w)(R:∀k,CB k→¬A6 [Ae 5 1 (I D1 m c) m (bv il)] k)(T:m % 256=0)(V:768≤m)(X:m≤1048576)(Y:j=m/256)(aa:m≤c)(ab:Fr.choose (AI il 0) (AI il 1)=.ok ⟨i,s,d,f,j⟩)(ad:i≤32)(ae:2≤d∧d≤j)(ak:f≤4096):Calls Tryz.prog 68 #[I D1 m c] w fun e W=>∃(Au:BX) (Fz ER g:Nat),e=.returned (.tuple #[.agg (flat [[E i],[E j],[E d],[E f],[E (G3 il d f)],[E (FD il d f)],[E Fz],[E ER],[E g],[I Au.p Au.n Au.c]]),E 0])∧(Au.n=0↔LR il i d f)∧Sat (A6 [Ae 5 1 (I D1 m c) m (bv il)]) w [Ae 5 1 (I D1 m c) m (bv il)] W:=by
 have u:∀F,A6 [Ae 5 1 (I D1 m c) m (bv il)]=F→∀k,CB k→¬F k:=fun F hF k af q=>R k af (hF▸q);refine Cb P Nx D 91 fun F hF=>Je<|Jh<|U<|Bw bM fun v=>K ?_;refine U<|Ba Nt D (fun w b=>look_ok D1 m c il i s d f j w (b.Ad [1]) (t.sat b (u F hF)) (b.Eb t (u F hF) [1]) T V X Y aa ab ad ae) fun _ e W b ⟨Q,z,C,ag,Au,B,Av,Bt,Z,Ax,As,Ce,he,x,A,G,H,J,L,al,an,ao,q⟩=>⟨_,_,he,b.As [1] [0] q,?_⟩
 refine Jd D<|Bc D D<|Bc D D<|K ?_;obtain rfl:i=z.w:=x.symm;obtain rfl:d=z.m:=A.symm;obtain rfl:f=z.h:=G.symm;obtain rfl:j=z.p:=H.symm;clear x A G H;refine K ?_;refine Ci D D D<|K ?_;refine iT 2 D fun g aq=>?_;refine CQ [0,1,2,3,4]<|Ab 0 D (AA D)<|Ab 1 D (Bp D)<|Ab 2 D (AS Kp 1 D)<|Ab 3 D (AS Bs 1 D)<|Ab 4 D (Bb AF 0 1 D D D)<|Ab 5 D (AA D)<|Ab 6 D (Bp D)<|Ab 7 D (AS Kp 1 D)<|Ab 8 D (AS Bs 5 D)<|Ab 9 D (Bb AF 0 5 D D D)<|Ab 10 D (AA D)<|Ab 11 D (Bp D)<|Ab 12 D (AS Kp 1 D)<|Ab 13 D (AS Bs 3 D)<|Ab 14 D (Bb AF 0 3 D D D)<|Ab 15 D (AA D)<|Ab 16 D (Bp D)<|Ab 17 D (AS Kp 1 D)<|Ab 18 D (AS Bs 4 D)<|Ab 19 D (Bb AF 0 4 D D D)<|Ab 20 D (AA D)<|Ab 21 D (Bp D)<|Ab 22 D (AS Kp 7 D)<|Ab 23 D (Bb PH 0 7 D D D)<|Ab 24 D (fi 2 PH D D)<|Ab 25 D (AA D)<|Ab 26 D (Bp D)<|Ab 27 D (AS Kp 10 D)<|Ab 28 D (Bb Mi 0 10 D D D)<|Ab 29 D (S8 [[E z.w],[E z.p],[E z.m],[E z.h],[E 0],[E 0],[E 0],[E 0],[E g],[I Au.p Au.n Au.c]])<|Bh 30 D<|Bw bM fun M=>A8 [1,2,3,4,5]<|Bh 31 D<|Bk 0 0 10 D D D<|?_;refine A8 [1,2,3,4,5]<|Cm<|K ?_;refine By D<|AG Kp 6 D<|AZ tr 1 6 D D D<|U<|ay 2 tr D D fun r Fv ar=>Jg<|Jf<|JD<|DL (fun ah a W=>∃(Fv:Nat) (Fz:Nat) (ER:Nat),ah=Fv+0∧AH 91 a (Jb (Jb (Jb (Jb (Jb Jk 2 (S v)) 3 (E 0)) 4 (S Q)) 6 (S M)) 54 (S r))∧Sat F w [O M [[E z.w],[E z.p],[E z.m],[E z.h],[E 0],[E 0],[E Fz],[E ER],[E g],[I Au.p Au.n Au.c]] 85,Ay Q z C ag Au B,Mm z.AU Av r Fv Z none,PT 3 Am BT z.uL g Ax,Ae 5 1 (I D1 m c) m (bv il),O v bM 85] W∧Fz+ER+Fv≤4096) (fun a W l b=>⟨Fv,0,0,D,AY l,b.pick [0,1,2,3,4,5],JY⟩) ?_;rintro _ a W ⟨Fv,Fz,ER,rfl,l,b,av⟩;revert a W;refine Je<|Jh<|U<|i' 2 D D (fun aw=>?_) fun k y N ax az=>?_
 ·
  refine Bc D D<|K ?_;cases FJ:Ax z.h with
  |none=>
   have o:Dy il z.m z.h=none:=by rw[←J.rc];exact FJ
   refine CQ [0,1,2,3,4,5]<|Ab 0 D (AA D)<|Ab 1 D (Bp D)<|Ab 2 D (AS Kp 7 D)<|Ab 3 D (Bb PH 1 7 D D D)<|Ab 4 D (AA D)<|Ab 5 D (Bp D)<|Ab 6 D (AS Kp 1 D)<|Ab 7 D (AS Bs 4 D)<|Ab 8 D (Bb AF 1 4 D D D)<|Ab 9 D (NM PH (fun w b=>b.Yu 3) Fg Fe (a:=z.h) (Fb JY) D D KQ (by rw[FJ]))<|Ab 10 D (AA D)<|Ab 11 D (El D D)<|Ab 12 D (El D D)<|Bh 13 D<|Bw Yc fun ai=>A8 [1,2,3,4,5,6]<|Bh 14 D<|Bk 0 0 7 D D D<|?_;refine A8 [1,2,3,4,5,6]<|Ab 15 D (Ck D)<|Cm<|K ?_;refine Af (BN F_ 1 D D)<|U<|Bk 6 0 10 D D D<|?_;refine K ?_;refine Gl F_ 6 D D D fun W b=>?_;subst hF;exact⟨Au,Fz,ER,g,(by unfold G3 FD;rw[o];rfl),L,b.pick [5]⟩
  |some Ah=>
   have o:Dy il z.m z.h=some Ah:=by rw[←J.rc];exact FJ
   refine CQ [0,1,2,3,4,5]<|Ab 0 D (AA D)<|Ab 1 D (Bp D)<|Ab 2 D (AS Kp 7 D)<|Ab 3 D (Bb PH 1 7 D D D)<|Ab 4 D (AA D)<|Ab 5 D (Bp D)<|Ab 6 D (AS Kp 1 D)<|Ab 7 D (AS Bs 4 D)<|Ab 8 D (Bb AF 1 4 D D D)<|Ab 9 D (NM PH (fun w b=>b.Yu 3) Fg Fe (a:=z.h) (Fb JY) D D KQ (by rw[FJ]))<|Ab 10 D (AA D)<|Ab 11 D (El D D)<|Ab 12 D (El D D)<|Bh 13 D<|Bw Yc fun ai=>A8 [1,2,3,4,5,6]<|Bh 14 D<|Bk 0 0 7 D D D<|?_;refine A8 [1,2,3,4,5,6]<|Ab 15 D (Ck D)<|Cm<|K ?_;refine CQ [0,2,3,4,5,6]<|Ab 0 D (AS sP 1 D)<|Ab 1 D (Bb AF 0 1 D D D)<|Ab 2 D (AS sP 0 D)<|Ab 3 D (Bb AF 0 0 D D D)<|Ab 4 D (AS F_ 4 D)<|Bh 5 D<|Cq 1 4 D D D<|?_;refine A8 [0,2,3,4,5,6]<|Ab 6 D (AS F_ 5 D)<|Bh 7 D<|Cq 1 5 D D D<|?_;refine A8 [0,2,3,4,5,6]<|Cm<|Jf<|Je<|Jh<|Af (BN F_ 1 D D)<|U<|Bk 6 0 10 D D D<|?_;refine K ?_;refine Gl F_ 6 D D D fun W b=>?_;subst hF;exact⟨Au,Fz,ER,g,(by unfold G3 FD;rw[o];rfl),L,b.pick [5]⟩
 refine Bc D D<|K ?_;refine Af (cp 2 D D)<|hL 2 D<|Bc D D<|U<|Bw VF fun aA=>U<|Bk 0 0 9 D D D<|?_;refine K ?_;refine AG Bv 0 D<|AZ AF 0 0 D D D<|E2 D D<|Jg<|Jf<|Cz D (fun aj=>?_) fun aj=>?_
 ·
  refine Jh<|AG F_ 6 D<|AZ AF 1 6 D D D<|B6 (q:=1) D D<|AG F_ 6 D<|U<|Cq 1 6 D D D<|?_;refine Jg<|JA<|Jf<|?_;exact fun a W l b=>⟨_,JY,N,Fz+1,ER,D,AY l,b.pick [1,2,3,4,5,6],JY⟩
 refine Jh<|AG F_ 7 D<|AZ AF 1 7 D D D<|B6 (q:=1) D D<|AG F_ 7 D<|U<|Cq 1 7 D D D<|?_;refine Jg<|JA<|Jf<|?_;exact fun a W l b=>⟨_,JY,N,Fz,ER+1,D,AY l,b.pick [1,2,3,4,5,6],JY⟩
theorem gF{P:Program}{N:Nat}{f:BW}{F:Nat→Prop}{w0:World}{H:List Atom}{fn:Func}{T:Ending→World→Prop}{t u x:Nat}{BA d:Value}{c:TypeId}{b:Nat}{ss:List (List Value)}{tb:TypeId}{BB:TypeDesc}(hu:P.underlying c=some BB)(i:Nat)(V:H[i]? =some (O b ss tb))(g:f t=some (.pointer (some ⟨b,0,none⟩)))(j:f u=some BA)(k:f x=some d)(h:∀w,Sat F w0 H w→T (.returned (.tuple #[BA,d,rS ss])) w)(s1:ss.flatten.length=n:=by exact Jp)(l:(P.info? c).map (·.size)=some n:=by kernel_rfl)(hr:fn.results=#[.tmp u,.tmp x,.cell t c]:=by exact rfl)(Ad:BB.isRow=true:=by exact rfl):AT N f F w0 H (bodyPost P fn T .ret):=
 fun a w m e=>ek m hr g j k (e.Dq i V) hu Ad (by rw[l,s1]) (h w e)
theorem bt{P:Program}{N:Nat}{f:BW}{d:Nat}{ty:TypeId}{pos:String}{An:Array Edge}{g:Option (Nat×Bool)}{F:Nat→Prop}{w0:World}{H:List Atom}{fn:Fn}{x y:Operand}{v BA:Value}(c:Aj f x=some v)(e:Aj f y=some BA):BR P N f F w0 H ⟨some d,.makeFunc fn #[] #[x,y],ty,pos,An,g⟩ (.func fn #[] #[v,BA]):=fun a w b h=>by
 show(execOp a.eval _).run P w=_;simp[execOp,b.A_ c,b.A_ e];rfl
theorem WE{F:Nat→Prop}{w W:World}{b T:Nat}{ss:List (List Value)}{v:Value}(h:w.heap[b]? =some (.cells (flat ss) T (0,0)))(J:Below w.heap.size w W)(a:(flat ss)[0]? =some v):W.cell? ⟨b,0,none⟩=some v:=by
 rw[cell_of_row _ _ _ _ _ _ ((J.block _ (DC h)).trans h)];exact a
theorem OF{W P:Nat}{g:Nat}(h:Gv P L)(a:3≤P:=by omega)(b:P≤4096:=by omega)(c:g≤L.length+1:=by omega):(2≤(BL W P L g).m∧(BL W P L g).m≤P)∧(BL W P L g).h≤4096:=by
 unfold BL;split
 ·have:=h.at_ (j:=g - 2) JY;show(2≤L.getD (g - 2) 0+1∧L.getD (g - 2) 0+1≤P)∧L.getD (g - 2) 0≤4096;omega
 ·show(2≤2∧2≤P)∧0≤4096;omega
theorem V3{W P:Nat}{l:rG}{i:Nat}(h:Gv P L)(hw:1≤W∧W≤32)(b:3≤P∧P≤4096)(hl:l.length=n)(c:768≤n)(d:n=256*P)(V:i≤L.length)(f:L.length≤4096):Fr.choose (AI (Ct n W P L i l).l 0) (AI (Ct n W P L i l).l 1)=.ok ⟨W,i+1,(BL W P L (i+1)).m,(BL W P L (i+1)).h,P⟩:=by
 have e:∀s:Fr.Bu,s=⟨s.w,s.g,s.m,s.h,s.p⟩:=fun s=>rfl;have a:=e (BL W P L (i+1));rw[MZ,Oj,LV]at a;rw[←a];exact Y7 h hw b hl c d V f
theorem UH{W P:Nat}{l:rG}{i d:Nat}(h:d=0↔LR (Ct n W P L i l).l W (BL W P L (i+1)).m (BL W P L (i+1)).h):decide ((0:Int)<((d:Nat):Int))=!F1 n W P L l i:=by
 unfold F1;cases a:P' (Ct n W P L i l).l W (BL W P L (i+1)).m (BL W P L (i+1)).h with
 |true=>have:=h.2 (NH.1 a);subst this;rfl
 |false=>
  have:d≠0:=fun e=>by rw[NH.2 (h.1 e)]at a;cases a
  exact decide_eq_true JY
theorem g2{Bj AK ib c:Nat}{l:rG}{u:Fr.Bu}{w:World}(g:BS Bj AK ib n c w l u)(j:n≤1048576){k:Option Addr}{nl As i Ac pl:Nat}(v:View w (I k nl As) nl 1 (Aq Bm L))(x:L.length=nl)(d:768≤n)(hw:1≤u.w∧u.w≤32)(G:3≤u.p∧u.p≤4096)(o:n=256*u.p)(Df:Gv u.p L)(V:i<nl∧nl≤4096)(y:w.heap[Ac]? =some (.cells (flat [[S AK]]) 79 (0,0)))(z:w.heap[pl]? =some (.cells (flat [[I k nl As]]) 38 (0,0)))(r:CG w):Calls lp 67 #[E i,S Ac,S pl] w (sM w (.bool (!F1 n u.w u.p L l (i+1)))):=by
 have s:=FU;refine Cg w My D 24<|K ?_;refine Af (fun _ _ f a=>Ei f D px D (WE (F:=C1) y a.A0 D))<|Af (fun _ _ f a=>Ei f D Lc D (WE (F:=C1) z a.A0 D))<|Jd D<|B6 (q:=1) D D<|U<|Ba OJ D (fun w a=>Q_ (i:=(i+1)) (L:=L) (g.below a.A0) j ((Bx v) w a) x d hw o Df.b) fun _ e W a ⟨A,he,B,J⟩=>⟨_,_,he,a.own B J,?_⟩
 refine U<|Ba Nx D (fun w a=>TG (some ⟨A,0,none⟩) n n (Ct n u.w u.p L (i+1) l).l u.w (i+1+1) (BL u.w u.p L (i+1+1)).m (BL u.w u.p L (i+1+1)).h u.p w (a.Ad [0]) (r.sat a s) (a.Eb r s [0]) JY d j JY (Br _) (V3 Df hw JY g.len d o JY JY) hw.2 (OF Df).1 (OF (W:=u.w) Df).2) fun _ e W a ⟨H,M,N,O,he,t,q⟩=>⟨_,_,he,a.As [0] [] q,?_⟩
 refine Jd D<|Bc D D<|Bc D D<|U<|Bw bM fun P=>U<|Bk 0 0 10 D D D<|?_;refine K ?_;refine Ci D D D<|K ?_;refine AG F_ 9 D<|Jj D D D<|AZ Mi 0 9 D D D<|Jj D D D<|Cr Mi D<|Jj D D D<|Kl D D (fun C=>?_) fun C=>?_
 ·
  refine A7 ?_;exact fun W a=>⟨congrArg (fun q=>Ending.returned (.bool q)) ((decide_eq_true JY).symm.trans (UH t)),a.A0⟩
 refine A7 ?_;exact fun W a=>⟨congrArg (fun q=>Ending.returned (.bool q)) ((decide_eq_false JY).symm.trans (UH t)),a.A0⟩
theorem Tx{Bj AK ib c:Nat}{l:rG}{u:Fr.Bu}{w:World}(f:BS Bj AK ib n c w l u)(g:n≤1048576)(j:768≤n)(hw:1≤u.w∧u.w≤32)(z:3≤u.p∧u.p≤4096)(o:n=256*u.p)(hm:2≤u.m∧256*u.m≤n)(r:CG w):Calls lp 35 #[S AK] w fun e W=>∃q m k i,∃Au:BX,∃Fz ER A,e=.returned (.tuple #[I q m k,E i,rS [[E u.w],[E u.p],[E (BL u.w u.p (A9 l u.m) (i+1)).m],[E (BL u.w u.p (A9 l u.m) (i+1)).h],[E (G3 (Ct n u.w u.p (A9 l u.m) i l).l (BL u.w u.p (A9 l u.m) (i+1)).m (BL u.w u.p (A9 l u.m) (i+1)).h)],[E (FD (Ct n u.w u.p (A9 l u.m) i l).l (BL u.w u.p (A9 l u.m) (i+1)).m (BL u.w u.p (A9 l u.m) (i+1)).h)],[E Fz],[E ER],[E A],[I Au.p Au.n Au.c]]])∧W.ownsRow w.heap.size 3 1 (I q m k) m (Aq Bm (A9 l u.m))∧i≤(A9 l u.m).length∧(i=0∨F1 n u.w u.p (A9 l u.m) l (i - 1+1)=true)∧(i=(A9 l u.m).length∨F1 n u.w u.p (A9 l u.m) l (i+1)=false)∧(Au.n=0↔LR (Ct n u.w u.p (A9 l u.m) i l).l u.w (BL u.w u.p (A9 l u.m) (i+1)).m (BL u.w u.p (A9 l u.m) (i+1)).h)∧Below w.heap.size w W:=by
 have s:=FU;have Df:Gv u.p (A9 l u.m):=Ok;refine Cg w Fy D 26<|Je<|Jh<|U<|SL [[S AK]] D D fun HK=>Js D<|Js D<|U<|Bw bM fun R=>K ?_;refine AZ px 1 0 D D D<|U<|Ba VN D (fun w a=>bZ (f.below a.A0) g hm) fun _ e W a ⟨T,v,X,he,x,J⟩=>⟨_,_,he,a.own x J,?_⟩
 have t:(A9 l u.m).length=v:=I3 Gj JZ x;have Y:=Ni l u.m;refine U<|NI (I none 0 0) [[I none 0 0]] D fun y=>U<|Cq 0 0 D D D<|?_;refine K ?_;refine AZ Lc 0 0 D D D<|Cr Lc D<|U<|IK (bt D D)<|U<|Ba Wq D (fun w a=>bL v 67 #[] #[S HK,S y] _ (fun i=>!F1 n u.w u.p (A9 l u.m) l (i+1)) (fun i=>[E i,S HK,S y]) w JY My (fun i=>rfl) AB AB (fun i V Z d=>g2 ((f.below a.A0).below d) g ((View.own (a.rw 1)).below d) t j hw z o Df JY ((d.block _ (DC (a.Dq 3))).trans (a.Dq 3)) ((d.block _ (DC (a.Dq 0))).trans (a.Dq 0)) ((r.sat a s).below d D))) fun _ e W a ⟨i5,he,B,C,F,J⟩=>⟨_,_,he,a.below J,?_⟩
 refine K ?_;refine AZ px 3 0 D D D<|AZ Lc 0 0 D D D<|Jd D<|U<|Ba OJ D (fun w a=>Q_ (i:=i5) (L:=(A9 l u.m)) (f.below a.A0) g ((BZ 1) w a) (I3 Gj JZ (a.rw 1)) j hw o Df.b) fun _ e W a ⟨G,he,H,J⟩=>⟨_,_,he,a.own H J,?_⟩
 refine U<|Ba Nx D (fun w a=>TG (some ⟨G,0,none⟩) n n (Ct n u.w u.p (A9 l u.m) i5 l).l u.w (i5+1) (BL u.w u.p (A9 l u.m) (i5+1)).m (BL u.w u.p (A9 l u.m) (i5+1)).h u.p w (a.Ad [0]) (r.sat a s) (a.Eb r s [0]) JY j g JY (Br _) (V3 Df hw JY f.len j o JY JY) hw.2 (OF Df).1 (OF (W:=u.w) Df).2) fun _ e W a ⟨M,N,O,P,he,Q,q⟩=>⟨_,_,he,a.As [0] [1,2,3,4] q,?_⟩
 refine Jd D<|Bc D D<|Bc D D<|U<|Bw bM fun aa=>U<|Bk 0 0 10 D D D<|?_;refine K ?_;refine DD 5<|zs (Bb Lc 2 0 D D D)<|zs (AA D)<|zs (BN F_ 0 D D)<|zs (Ck D)<|zs (Ck D)<|CS<|U<|Bk 4 0 10 D D D<|?_;refine Jg<|Jf<|Jq<|gF F_ 4 D D D D fun W a=>?_;exact⟨_,_,_,i5,M,N,O,P,D,a.DQ 3,t▸B,C.imp id (fun h=>by simpa using h),F.imp (fun h=>h.trans t.symm) (fun h=>by simpa using h),Q,a.A0⟩
section
variable {Bj AK ib n c p:Nat} {l:rG} {u:Fr.Bu} {w:World}
theorem BS.mono{Di:Nat}(h:BS Bj AK ib n c w l u)(a:Di≤Bj):BS Di AK ib n c w l u:=by
 obtain⟨b,d,e,f,g,i,j,k,h⟩:=h;exact⟨b,d,e,f,g,i,j,k,h.H,Ew h.o a,h.A,h.B,Eg a h.vC,h.ne⟩
theorem UM{a b d e f g m p:Value}(h:MK Bj AK ib n c w l u a b d e f g m p):BE [O AK (ZK ib n c u a b d e f g m p) 118,Ae 5 1 (I (some ⟨ib,0,none⟩) n c) n (bv l)] w:=by
 refine⟨fun i A V=>?_,fun i j A A' q V hj k r s=>?_⟩
 ·match i,V with
  |0,V=>cases V;exact h.H
  |1,V=>cases V;exact Ew h.o (F2 _)
  |i+2,V=>simp at V
 ·match i,j,V,hj with
  |0,0,_,_=>exact q D
  |1,1,_,_=>exact q D
  |0,1,V,hj=>cases V;cases hj;cases s;exact h.ne r
  |1,0,V,hj=>cases V;cases hj;cases r;exact h.ne s
  |i+2,_,V,_=>simp at V
  |0,j+2,_,hj=>simp at hj
  |1,j+2,_,hj=>simp at hj
theorem V_{a b d f g i j m:Value}{s:Fr.Bu}{W:World}(E:Bj≤w.heap.size)(h:MK Bj AK ib n c w l u a b d f g i j m)(q:Sat (A6 [O AK (ZK ib n c u a b d f g i j m) 118,Ae 5 1 (I (some ⟨ib,0,none⟩) n c) n (bv l)]) w [O AK (ZK ib n c s a b d f g i j m) 118,Ae 5 1 (I (some ⟨ib,0,none⟩) n c) n (bv l)] W):BS Bj AK ib n c W l s∧Below Bj w W:=by
 have t:∀k,A6 [O AK (ZK ib n c u a b d f g i j m) 118,Ae 5 1 (I (some ⟨ib,0,none⟩) n c) n (bv l)] k→k=AK∨k=ib:=by
  intro k p
  rcases K4.1 p with e|e
  ·exact .inl e
  ·cases e;exact .inr D
 obtain⟨v,cur,x,F,G,J,K⟩:=HL h.o;obtain⟨-,L,y,EF,Ev,Kw,HQ⟩:=HL (q.rw 1);have hm:∀k,k<w.heap.size→(∃es As,w.heap[k]? =some (.map es As))→W.heap[k]? =w.heap[k]? :=by
  rintro k p ⟨es,As,r⟩;refine q.GA.block k p (fun z=>?_)
  rcases t k z with rfl|rfl
  ·rw[h.H]at r;cases r
  ·rw[x]at r;cases r
 refine⟨⟨a,b,d,f,g,i,j,m,q.Dq 0,P3 v y EF Ev Kw HQ,h.A.kept hm,h.B.kept hm,h.vC,h.ne⟩,⟨q.GA.os,q.GA.tape,q.GA.output,q.GA.size,fun k p=>q.GA.block k JY (fun z=>?_)⟩⟩;have:=h.vC
 rcases t k z with rfl|rfl<;>omega
end
section
variable {P:Program} {Aa:Exit→Act→World→Prop} {N:Nat} {f:BW} {d:Nat} {ty:TypeId} {pos:String} {An:Array Edge} {g:Option (Nat×Bool)} {w0:World} {H:List Atom} {A5:Act→World→Prop}
theorem HN{Cf:FuncId}{fn:Func}(c:P.funcs[Cf]? =some fn){xs:List Operand}{sU:Array TypeId}{l:List Value}(i:GX f xs=some l){T:World→Ending→World→Prop}(j:∀w,Sat C1 w0 H w→Calls P Cf l.toArray w (T w))(h:∀w e W,Sat C1 w0 H w→T w e W→∃v,e=.returned v∧AT N (Jb f d v) C1 W [] A5)
 (k:(fn.name== "runtime.NumGoroutine")=false:=by kernel_rfl)(J:fn.body.isNone=false:=by kernel_rfl)(Ad:Nat.blt d N=true:=by exact rfl):D3 P ⟨some d,.call {callee:=.value (.func Cf),args:=xs.toArray,argTypes:=sU},ty,pos,An,g⟩ Aa N f C1 w0 H A5:=fun a w m b=>
 Rj m Ad c k J (Nf i) (j w b) (fun e W Df=>by
  obtain⟨v,he,n⟩:=h w e W b Df;exact⟨v,he,fun o p=>n o W p (Sat.start C1 W)⟩)
theorem D2{w a W:World}(h:Below w.heap.size w a)(b:Sat C1 a H W):Below w.heap.size w W:=h.trans (b.A0.mono h.size)
end
structure D5 (n:Nat) (s:Fr.Bu) (x:rG) (i:Nat):Prop where
 v:Fr.DE s=true
 p:n=256*s.p
 len:x.length=n
 le:i≤(A9 x s.m).length
 BU:i=0∨F1 n s.w s.p (A9 x s.m) x (i - 1+1)=true
 V:i=(A9 x s.m).length∨F1 n s.w s.p (A9 x s.m) x (i+1)=false
def BJ(s:Fr.Bu)(x:rG)(i:Nat):Fr.Bu:=BL s.w s.p (A9 x s.m) (i+1)
def Cl(n:Nat)(s:Fr.Bu)(x:rG)(i:Nat):List UInt8:=(Ct n s.w s.p (A9 x s.m) i x).l
end Go.Proofs.YtjdboncaegphmaaGreatDoor
namespace Go.Proofs.YtjdboncaegphmaaGreatDoor.At
open Go.Proofs.YtjdboncaegphmaaGreatDoor
set_option linter.unusedVariables false
def mN:Nat→Nat→Bool
 |0,_=>true
 |n+1,r=>cond (Nat.beq (step r) 2147483648) false (mN n (step r))
set_option maxRecDepth 100000 in
theorem lD:mN 2047 2147483648=true:=by decide+kernel
theorem nL:∀(n r:Nat),mN n r=true→∀k,k<n→steps (k+1) r≠2147483648:=by
 intro n
 induction n with
 |zero=>intro r _ k h;omega
 |succ n a=>
  intro r h k b;rw[mN]at h;cases J:Nat.beq (step r) 2147483648 with
  |true=>rw[J]at h;cases h
  |false=>
   rw[J]at h;cases k with
   |zero=>exact fun e=>by rw[show step r=2147483648 from e]at J;cases J
   |succ k=>exact a (step r) h k JY
theorem e1{a b:Nat}(f:a<b)(J:b<2048):F9.s5 a≠F9.s5 b:=by
 intro e;rw[show b=a+(b - a)by omega,F9.qW,show F9.s5 a=steps a (F9.s5 0)from by rw[←F9.qW,tA]]at e;have c:steps a (F9.s5 0^^^F9.s5 (b - a))=0:=by rw[N1,e,j5]
 have d:F9.s5 0^^^F9.s5 (b - a)≠0:=fun q=>by
  have q:=az.1 q;have:=nL 2047 2147483648 lD (b - a - 1) JY;rw[show b - a - 1+1=b - a by omega]at this;exact this (show F9.s5 (b - a)=F9.s5 0 from q.symm)
 exact F9.q9 a _ (Mx (n:=32) (F9.oJ _) (F9.oJ _)) d c
theorem n2{n i j:Nat}(a:8*n+32≤2048)(V:i<8*n+32)(hj:j<8*n+32)(h:PD n i=PD n j):i=j:=by
 rw[F9.nc n i V,F9.nc n j hj]at h
 rcases od i j with q|q|q
 ·exact absurd h.symm (e1 JY JY)
 ·exact q
 ·exact absurd h (e1 JY JY)
theorem qU{n d j:Nat}(b:8*n+32≤2048):last (EG n) d=some j↔j<8*n+32∧PD n j=d:=by
 constructor
 ·intro h;have:=(F9.Yd n d j).1 (F9.XZ _ h);exact⟨this.1,this.2.symm⟩
 ·rintro⟨h1,a⟩;cases hl:last (EG n) d with
  |none=>exact absurd hl (F9.sh _ ((F9.Yd n d j).2 ⟨h1,a.symm⟩))
  |some k=>
   have:=(F9.Yd n d k).1 (F9.XZ _ hl);rw[n2 b this.1 h1 (this.2.symm.trans a.symm)]
theorem qQ(l:rG)(n:Nat):C5 (l.take (n+4)) n=C5 l n:=by
 have g:∀i,i<n+4→(l.take (n+4)).getD i 0=l.getD i 0:=fun i V=>by
  rw[Dm,Dm,LQ,if_pos V]
 unfold C5 stored;rw[g n JY,g (n+1) JY,g (n+2) JY,g (n+3) JY,LN,aQ JY]
theorem uA{n j:Nat}(h:j<8*n+32):PD n j<4294967296:=by rw[F9.nc n j h];exact F9.oJ _
theorem mv{n i:Nat}(h:i<8*n):PD n i=steps (8*n - i) 1:=by
 rw[F9.nc n i JY,show 8*n+31 - i=31+(8*n - i)by omega];show steps (31+(8*n - i)) 2147483648=_;rw[T',show steps 31 2147483648=1 from F9.o4 0 JZ]
theorem qn{n k:Nat}(h:k<32):PD n (8*n+k)=2^k:=by unfold PD;rw[if_neg JY,Zm]
end Go.Proofs.YtjdboncaegphmaaGreatDoor.At
namespace Go.Proofs.YtjdboncaegphmaaGreatDoor
open Go.RowKit
set_option maxRecDepth 100000
set_option maxHeartbeats 2000000
def Mo(l:rG)(p:Nat):Bool:=if p<2 then(Fr.DP (AI l p)).isSome else Fr.CZ p (AI l p)
theorem Ns(q:Option Addr)(n c p:Nat)(l:rG)(w:World)(d:DA w)(b:View w (I q n c) n 1 (bv l))(hl:l.length=n)(m:p<4096∧(p+1)*256≤n:=by omega):Calls lp 27 #[I q n c,E p] w (sM w (C' (Mo l p))):=by
 refine Cg w QQ D 36<|K ?_;refine Af (E3 (p:=256) D D)<|Jd D<|B6 (q:=1) D D<|Af (E3 (p:=256) D D)<|Af (Fi A3 (256*p) (256*(p+1)) (Bx b) D (.some D) (.some D))<|CR 17 D (show _=(I (sp q (p*256) c 1) 256 (c - p*256))from by rw[show 256*(p+1) - 256*p=256 by omega,RV 256 p])<|K ?_
 by_cases f:p<2
 ·
  cases hu:Fr.DP (AI l p)with
  |none=>
   refine K ?_;refine IS JY D D<|K ?_;refine U<|Ba V6 D (fun w a=>(KD _ _ (AI l p) w (d.below a.A0 (Br _)) ((Lr p (Bx b)) w a) En).mono fun e W q=>(let⟨k,h1,h⟩:=q.2.1 hu;⟨k,h,h1,q.2.2⟩:∃k,_∧_∧_)) fun _ e W a ⟨o,he,r,J⟩=>⟨_,_,he,a.below J,?_⟩
   refine Jd D<|Bc D D<|Bc D D<|U<|Bw SY fun i=>U<|Bk 0 0 5 D D D<|?_;refine K ?_;refine Gi JY D D<|A7 ?_;exact fun W a=>⟨by unfold Mo;rw[if_pos f,hu];rfl,a.A0⟩
  |some s=>
   refine K ?_;refine IS JY D D<|K ?_;refine U<|Ba V6 D (fun w a=>(KD _ _ (AI l p) w (d.below a.A0 (Br _)) ((Lr p (Bx b)) w a) En).mono fun e W q=>(⟨q.1 _ hu,q.2.2⟩:_∧_)) fun _ e W a ⟨he,J⟩=>⟨_,_,he,a.below J,?_⟩
   refine Jd D<|Bc D D<|Bc D D<|U<|Bw SY fun i=>U<|Bk 0 0 5 D D D<|?_;refine K ?_;refine EU JY D D<|A7 ?_;exact fun W a=>⟨by unfold Mo;rw[if_pos f,hu];rfl,a.A0⟩
 ·
  cases g:Fr.CZ p (AI l p)with
  |false=>
   refine K ?_;refine ET JY D D<|K ?_;refine U<|Ba EV D (fun w a=>sf p _ _ (AI l p) w (d.below a.A0 (Br _)) JY ((Lr p (Bx b)) w a) En g) fun _ e W a ⟨t,u,he,J⟩=>⟨_,_,he,a.below J,?_⟩
   refine Jd D<|Bc D D<|Bc D D<|Bc D D<|K ?_;refine Gi JY D D<|A7 ?_;exact fun W a=>⟨by unfold Mo;rw[if_neg f,g],a.A0⟩
  |true=>
   refine K ?_;refine ET JY D D<|K ?_;refine U<|Ba EV D (fun w a=>e7 p _ _ (AI l p) w (d.below a.A0 (Br _)) JY ((Lr p (Bx b)) w a) En g) fun _ e W a ⟨v,x,he,j,J⟩=>⟨_,_,he,a.own j J,?_⟩
   refine Jd D<|Bc D D<|Bc D D<|Bc D D<|K ?_;refine EU JY D D<|A7 ?_;exact fun W a=>⟨by unfold Mo;rw[if_neg f,g],a.A0⟩
def At.cz(r:UInt32):UInt32:=if r&&&1=1 then r>>>1^^^3988292384 else r>>>1
theorem At.nS(r:UInt32):(At.cz r).toNat=At.step r.toNat:=by
 unfold At.cz At.step;have e:(r&&&1=1)↔r.toNat % 2=1:=by
  rw[←lX,UInt32.toNat_and,show(1:UInt32).toNat=1 from D,pg]
 have s:(r>>>1).toNat=r.toNat/2:=by rw[Ss,show(1:UInt32).toNat % 32=1 from D,mM]
 by_cases h:r&&&1=1
 ·rw[if_pos h,if_pos (e.1 h),j8,s];rfl
 ·rw[if_neg h,if_neg (fun q=>h (e.2 q)),s]
def At.aT:Nat→UInt32→UInt32
 |0,r=>r
 |n+1,r=>At.cz (At.aT n r)
theorem At.nQ:∀(n:Nat) (r:UInt32),(At.aT n r).toNat=At.steps n r.toNat
 |0,r=>rfl
 |n+1,r=>by
  have h:=At.T' n 1 r.toNat;rw[At.aT,At.nS,At.nQ n r,h];rfl
def At.fd(l:rG):UInt32:=l.foldl (fun r x=>At.aT 8 (r^^^x.toUInt32)) 4294967295
theorem At.pL(l:rG)(x:UInt8):At.fd (l++[x])=At.aT 8 (At.fd l^^^x.toUInt32):=by unfold At.fd;rw[Zz];rfl
theorem At.kv(l:rG):(At.fd l).toNat=At.feed 4294967295 l:=by
 have:∀(l:rG) (r:UInt32),(l.foldl (fun r x=>At.aT 8 (r^^^x.toUInt32)) r).toNat=At.feed r.toNat l:=by
  intro l
  induction l with
  |nil=>intro r;rfl
  |cons x l a=>intro r;rw[j_,a,At.MR,At.nQ,j8,nX]
 exact this l 4294967295
theorem qf(q:Option Addr)(n c:Nat)(l:rG)(w:World)(h:View w (I q n c) n 1 (bv l))(hl:l.length=n)(p:n≤1048576):Calls lp 49 #[I q n c] w (sM w (Be .u32 ((~~~(At.fd l)).toNat))):=by
 refine Cg w nt D 33<|K ?_;refine DL (fun e a W=>∃i,∃r:UInt32,e=n - i∧AH 33 a (Jb (Jb (Jb (Jb Jk 0 (I q n c)) 2 (Be .u32 0)) 4 (E i)) 3 (Be .u32 r.toNat))∧Sat C1 w [] W∧i≤n∧r=At.fd (l.take i)) (fun a W d b=>⟨0,4294967295,D,AY d,b.pick [],F2 _,D⟩) ?_;rintro _ a W ⟨i,r,rfl,d,b,V,hr⟩;revert a W;refine K ?_;refine Cr B7 D<|Ej D D<|Jg<|Jf<|Cz D (fun m=>?_) fun m=>?_
 ·
  refine K ?_;refine Af (Dj A3 i i (Bx h) D D)<|Af (Fj BV i (Bx h) D)<|Af (Pq BV Wz D)<|Af (J0 D D)<|K ?_;refine DL (fun e a W=>∃j,∃y:UInt32,e=8 - j∧AH 33 a (Jb (Jb (Jb (Jb (Jb Jk 0 (I q n c)) 2 (Be .u32 0)) 4 (E i)) 5 (E j)) 3 (Be .u32 y.toNat))∧Sat C1 w [] W∧j≤8∧y=At.aT j (r^^^(l.getD i 0).toUInt32)) (fun a W d b=>⟨0,r^^^(l.getD i 0).toUInt32,D,AY d,b.pick [],JY,D⟩) ?_;rintro _ a W ⟨j,y,rfl,d,b,hj,f⟩;revert a W;refine K ?_;refine Ej D D<|Jg<|Jf<|Cz D (fun o=>?_) fun o=>?_
  ·
   refine K ?_;refine Af (RW (q:=1) D D)<|E2 D D<|Jg<|Jf<|Cz D (fun k=>?_) fun k=>?_
   ·
    have g:y&&&1=1:=lX.1 (show(y&&&1).toNat=1 by omega);refine Jh<|Jd D<|Af (KO 1 D D)<|Af (J0 (q:=3988292384) D D)<|K ?_;refine B6 (q:=1) D D<|K ?_;exact fun a W d b=>⟨_,JY,j+1,(y>>>1)^^^3988292384,D,AY d,b.pick [],JY,(by rw[At.aT,←f];unfold At.cz;rw[if_pos g])⟩
   have g:¬y&&&1=1:=fun q=>k (by rw[q];rfl);refine Jh<|Jd D<|Af (KO 1 D D)<|K ?_;refine B6 (q:=1) D D<|K ?_;exact fun a W d b=>⟨_,JY,j+1,y>>>1,D,AY d,b.pick [],JY,(by rw[At.aT,←f];unfold At.cz;rw[if_neg g])⟩
  refine K ?_;refine B6 (q:=1) D D<|K ?_;exact fun a W d b=>⟨_,JY,i+1,y,D,AY d,b.pick [],JY,by rw[f,show j=8 by omega,hr,←RT JY,At.pL]⟩
 refine K ?_;refine Af (r5 D)<|A7 ?_;intro W b;rw[hr,DV JY];exact⟨D,b.A0⟩
