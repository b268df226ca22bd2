/- Laws and walks on the road to SalvagePlays (part M37). No conditions beyond each law's own. -/
import Derived.Test.YtjdboncaegphmaaGreatDoorM36
set_option linter.unusedVariables false
namespace Go.Proofs.YtjdboncaegphmaaGreatDoor
open Go.RowKit
set_option maxRecDepth 100000
set_option maxHeartbeats 2000000
theorem gN(w:World):Calls lp 129 #[] w (sM w (rS [[Value.iface 251 (rS [])],[Value.iface 252 (rS [])]])):=by
 refine Cg w b5 D 6<|Je<|Jh<|U<|Bw [[Value.nilIface],[Value.nilIface]] fun b=>K ?_;refine Af (S8 [])<|Af (Qx D)<|Af (S8 [])<|Af (Qx D)<|Af (S8 [[Value.iface 251 (rS [])],[Value.iface 252 (rS [])]])<|U<|Bk 0 0 2 D D D<|?_;refine Jg<|Jf<|Jq<|Fq tZ 0 D D fun W a=>?_;exact⟨D,a.A0⟩
def IT(il:rG)(p:Nat):Bool:=match G.CW p (AI il p)with|.no=>false|_=>true
inductive Mb (il:rG) (p:Nat) (C:BX) (Av Bt:Nat) (Z:Nat→Option Bf) (Ax:Nat→Option B9) (As:List Nat):BX→Nat→Nat→(Nat→Option Bf)→(Nat→Option B9)→List Nat→Prop
 |slot:p<2→Mb il p C Av Bt Z Ax As C Av Bt Z Ax As
 |SB (x:Bf):2≤p→G.CW p (AI il p)=.nd x.AW→Mb il p C Av Bt Z Ax As C (Av+1) Bt (CF Z p x) Ax As
 |TO (EY:BX) (Ah:B9):2≤p→G.CW p (AI il p)=.rc Ah→EY.n=C.n+1→Mb il p C Av Bt Z Ax As EY Av (Bt+1) Z (CF Ax p Ah) (As++[p])
theorem h6(Q:Nat)(z:Dl)(C b Au B:BX)(p Av Bt:Nat)(Z:Nat→Option Bf)(Ax:Nat→Option B9)(il:rG)(As:List Nat)(w:World)(g:BE [Ay Q z C b Au B,AN z.AU Av Z,Ap lp 3 Am BT z.uL Bt Ax,Ae 5 1 (I z.ip z.uX z.uY) z.uX (bv il),Ae 3 1 (I C.p C.n C.c) C.n (Aq Bm As)] w)(i:(p+1)*256≤z.uX∧z.uX≤z.uY∧p≤4095)(j:Av≤4096∧Bt≤4096∧C.n≤4096)(l:2≤p)(hl:IT il p=false):Calls lp 251 #[rS [],S Q,E p] w fun e W=>∃k:Nat,k≠0∧e=.returned (E k)∧Sat (A6 [Ay Q z C b Au B,AN z.AU Av Z,Ap lp 3 Am BT z.uL Bt Ax,Ae 5 1 (I z.ip z.uX z.uY) z.uX (bv il),Ae 3 1 (I C.p C.n C.c) C.n (Aq Bm As)]) w [Ay Q z C b Au B,AN z.AU Av Z,Ap lp 3 Am BT z.uL Bt Ax,Ae 5 1 (I z.ip z.uX z.uY) z.uX (bv il),Ae 3 1 (I C.p C.n C.c) C.n (Aq Bm As)] W:=by
 cases d:Fr.CZ p (AI il p)with
 |false=>exact iJ Q z C b Au B p Av Bt Z Ax il As w g i j l d
 |true=>
  unfold IT G.CW at hl;rw[if_pos d]at hl
  by_cases f:((AI il p).getD 0 0).toNat=3
  ·rw[if_pos f]at hl;cases hr:G.record (G.load (AI il p))with
   |none=>exact an Q z C b Au B p Av Bt Z Ax il As w g i j l d f hr
   |some Ah=>rw[hr]at hl;cases hl
  ·rw[if_neg f]at hl;cases o:G.node ((AI il p).getD 0 0).toNat (G.load (AI il p))with
   |none=>exact gl Q z C b Au B p Av Bt Z Ax il As w g i j l d f o
   |some n=>rw[o]at hl;cases hl
theorem fe(Q:Nat)(z:Dl)(C g Au B:BX)(p Av Bt:Nat)(Z:Nat→Option Bf)(Ax:Nat→Option B9)(il:rG)(As:List Nat)(w:World)(j:BE [Ay Q z C g Au B,AN z.AU Av Z,Ap lp 3 Am BT z.uL Bt Ax,Ae 5 1 (I z.ip z.uX z.uY) z.uX (bv il),Ae 3 1 (I C.p C.n C.c) C.n (Aq Bm As)] w)(l:(p+1)*256≤z.uX∧z.uX≤z.uY∧p≤4095)(m:Av≤4096∧Bt≤4096∧C.n≤4096)(hl:p<2∨IT il p=true):Calls lp 251 #[rS [],S Q,E p] w fun e W=>∃EY s t Kf Ks Kv,e=.returned (E 0)∧Mb il p C Av Bt Z Ax As EY s t Kf Ks Kv∧Sat (A6 [Ay Q z C g Au B,AN z.AU Av Z,Ap lp 3 Am BT z.uL Bt Ax,Ae 5 1 (I z.ip z.uX z.uY) z.uX (bv il),Ae 3 1 (I C.p C.n C.c) C.n (Aq Bm As)]) w [Ay Q z EY g Au B,AN z.AU s Kf,Ap lp 3 Am BT z.uL t Ks,Ae 5 1 (I z.ip z.uX z.uY) z.uX (bv il),Ae 3 1 (I EY.p EY.n EY.c) EY.n (Aq Bm Kv)] W:=by
 by_cases o:p<2
 ·exact(fT Q z C g Au B p Av Bt Z Ax il As w j l m o).mono (fun e W ⟨he,q⟩=>⟨C,Av,Bt,Z,Ax,As,he,.slot o,q⟩)
 ·have hl:=hl.resolve_left o;unfold IT at hl;cases i:G.CW p (AI il p)with
  |no=>rw[i]at hl;cases hl
  |nd n=>
   have a:=i;unfold G.CW at a;cases d:Fr.CZ p (AI il p)with
   |false=>rw[d]at a;cases a
   |true=>
    rw[if_pos d]at a
    by_cases f:((AI il p).getD 0 0).toNat=3
    ·rw[if_pos f]at a;cases hr:G.record (G.load (AI il p))with
     |none=>rw[hr]at a;cases a
     |some Ah=>rw[hr]at a;cases a
    ·rw[if_neg f]at a;cases h:G.node ((AI il p).getD 0 0).toNat (G.load (AI il p))with
     |none=>rw[h]at a;cases a
     |some u=>
      rw[h]at a;cases a;refine(ai Q z C g Au B p Av Bt Z Ax il As w j l m JY d f h).mono ?_;rintro e W ⟨x,v,he,q⟩;exact⟨C,Av+1,Bt,CF Z p x,Ax,As,he,.SB x JY (by rw[v];exact i),q⟩
  |rc Ah=>
   have a:=i;unfold G.CW at a;cases d:Fr.CZ p (AI il p)with
   |false=>rw[d]at a;cases a
   |true=>
    rw[if_pos d]at a
    by_cases f:((AI il p).getD 0 0).toNat=3
    ·rw[if_pos f]at a;cases hr:G.record (G.load (AI il p))with
     |none=>rw[hr]at a;cases a
     |some A=>
      rw[hr]at a;cases a;refine(aM Q z C g Au B p Av Bt Z Ax il As Ah w j l m JY d f hr).mono ?_;rintro e W ⟨EY,he,y,q⟩;exact⟨EY,Av,Bt+1,Z,CF Ax p Ah,As++[p],he,.TO EY Ah JY i y,q⟩
    ·rw[if_neg f]at a;cases h:G.node ((AI il p).getD 0 0).toNat (G.load (AI il p))with
     |none=>rw[h]at a;cases a
     |some u=>rw[h]at a;cases a
end Go.Proofs.YtjdboncaegphmaaGreatDoor
namespace Go.Proofs.YtjdboncaegphmaaGreatDoor
set_option maxRecDepth 100000
set_option maxHeartbeats 2000000
variable {q:Nat}
def EB(il:rG)(n p:Nat):Option G.Dh:=if 2≤p∧p<n then(match G.CW p (AI il p)with|.nd x=>some x|_=>none)else none
def Dy(il:rG)(n p:Nat):Option B9:=if 2≤p∧p<n then(match G.CW p (AI il p)with|.rc r=>some r|_=>none)else none
def EA(il:rG)(p:Nat):Bool:=decide (2≤p)&&(match G.CW p (AI il p)with|.rc _=>true|_=>false)
def A9(il:rG)(n:Nat):List Nat:=(List.range n).filter (EA il)
def FC(il:rG)(p:Nat):Bool:=if p<2 then Fr.CN ((AI il p).drop 64)else IT il p
structure E1 (il:rG) (p:Nat) (Z:Nat→Option Bf) (Ax:Nat→Option B9) (As:List Nat):Prop where
 nd:∀q,(Z q).map Bf.AW=EB il p q
 rc:∀q,Ax q=Dy il p q
 ch:As=A9 il p
section
variable {il:rG} {p:Nat} {Z Kf:Nat→Option Bf} {Ax Ks:Nat→Option B9} {As Kv:List Nat}
theorem E1.begin:E1 il 0 (fun _=>none) (fun _=>none) []:=⟨fun q=>by unfold EB;rw[if_neg JY];rfl,fun q=>by unfold Dy;rw[if_neg JY],D⟩
theorem Nj:A9 il (p+1)=A9 il p++(if EA il p=true then [p]else []):=by
 unfold A9;rw[Qt,lL]
 congr 1
 cases h:EA il p<;>simp[h]
theorem SF(h:q≠p):EB il (p+1) q=EB il p q:=by
 unfold EB
 by_cases h1:2≤q∧q<p
 ·rw[if_pos h1,if_pos ⟨h1.1,JY⟩]
 ·rw[if_neg h1,if_neg JY]
theorem Su(h:q≠p):Dy il (p+1) q=Dy il p q:=by
 unfold Dy
 by_cases h1:2≤q∧q<p
 ·rw[if_pos h1,if_pos ⟨h1.1,JY⟩]
 ·rw[if_neg h1,if_neg JY]
theorem YP:EB il p p=none:=by unfold EB;rw[if_neg JY]
theorem Y9:Dy il p p=none:=by unfold Dy;rw[if_neg JY]
theorem E1.skip(h:E1 il p Z Ax As)(b:p<2∨G.CW p (AI il p)=.no):E1 il (p+1) Z Ax As:=by
 have c:EB il (p+1) p=none:=by
  unfold EB
  rcases b with q|q
  ·rw[if_neg JY]
  ·rw[q];split<;>rfl
 have d:Dy il (p+1) p=none:=by
  unfold Dy
  rcases b with q|q
  ·rw[if_neg JY]
  ·rw[q];split<;>rfl
 have e:EA il p=false:=by
  unfold EA
  rcases b with q|q
  ·rw[decide_eq_false JY];rfl
  ·rw[q,tH]
 refine⟨fun q=>?_,fun q=>?_,?_⟩
 ·by_cases a:q=p
  ·subst a;rw[h.nd,YP,c]
  ·rw[h.nd,SF a]
 ·by_cases a:q=p
  ·subst a;rw[h.rc,Y9,d]
  ·rw[h.rc,Su a]
 ·rw[Nj,e,h.ch];simp
theorem E1.bad(h:E1 il p Z Ax As)(a:FC il p=false):E1 il (p+1) Z Ax As:=by
 refine h.skip ?_;unfold FC at a
 by_cases b:p<2
 ·exact .inl b
 ·rw[if_neg b]at a;unfold IT at a;cases c:G.CW p (AI il p)with
  |no=>exact .inr D
  |nd x=>rw[c]at a;cases a
  |rc r=>rw[c]at a;cases a
theorem E1.step{C EY:BX}{Av Bt e f:Nat}(h:E1 il p Z Ax As)(hl:Mb il p C Av Bt Z Ax As EY e f Kf Ks Kv):E1 il (p+1) Kf Ks Kv:=by
 cases hl with
 |slot c=>exact h.skip (.inl c)
 |SB x c b=>
  have g:Dy il (p+1) p=none:=by unfold Dy;rw[b];split<;>rfl
  have d:EA il p=false:=by unfold EA;rw[b,tH]
  refine⟨fun q=>?_,fun q=>?_,?_⟩
  ·unfold CF
   by_cases a:q=p
   ·subst a;rw[if_pos D];unfold EB;rw[if_pos ⟨c,JY⟩,b];rfl
   ·rw[if_neg a,h.nd,SF a]
  ·by_cases a:q=p
   ·subst a;rw[h.rc,Y9,g]
   ·rw[h.rc,Su a]
  ·rw[Nj,d,h.ch];simp
 |TO _ Ah c b j=>
  have i:EB il (p+1) p=none:=by unfold EB;rw[b];split<;>rfl
  have d:EA il p=true:=by unfold EA;rw[b,decide_eq_true c];rfl
  refine⟨fun q=>?_,fun q=>?_,?_⟩
  ·by_cases a:q=p
   ·subst a;rw[h.nd,YP,i]
   ·rw[h.nd,SF a]
  ·unfold CF
   by_cases a:q=p
   ·subst a;rw[if_pos D];unfold Dy;rw[if_pos ⟨c,JY⟩,b]
   ·rw[if_neg a,h.rc,Su a]
  ·rw[Nj,d,h.ch];rfl
end
section
variable {il:rG} {p:Nat} {Z:Nat→Option Bf} {Ax:Nat→Option B9} {As:List Nat}
theorem UG{n:G.Dh}(h:G.CW q (AI il q)=.nd n):∃Bd B1,G.node Bd B1=some n:=by
 unfold G.CW at h;split at h
 ·split at h
  ·split at h<;>cases h
  ·split at h
   ·rename_i b a;cases h;exact⟨_,_,a⟩
   ·cases h
 ·cases h
theorem TB{r:B9}(h:G.CW q (AI il q)=.rc r):∃B1,G.record B1=some r:=by
 unfold G.CW at h;split at h
 ·split at h
  ·split at h
   ·rename_i a hr;cases h;exact⟨_,hr⟩
   ·cases h
  ·split at h<;>cases h
 ·cases h
theorem X2{p c:Nat}{s:Jc}(h:G.child p c s=true):p≤4096∧c≤4096∧(p=0→c=0):=by
 unfold G.child at h;split at h
 ·rename_i a;simp only[Kq,decide_eq_true_eq]at h;omega
 ·simp only[Kq,decide_eq_true_eq]at h;omega
theorem Zy{Bd:Nat}{B1:rG}{x:Bf}(h:G.node Bd B1=some x.AW):Ge x:=by
 unfold G.node at h;split at h
 ·split at h
  ·rename_i i;have e:x.AW=⟨1,0,0,0,0,CU,CU,G.DF B1 0,B1.drop 32⟩:=(Option.some.inj h).symm;have a:x.Bd=1:=congrArg G.Dh.Bd e;have c:x.l=0:=congrArg G.Dh.l e;have d:x.r=0:=congrArg G.Dh.r e;have f:x.lc=0:=congrArg G.Dh.lc e;have g:x.rc=0:=congrArg G.Dh.rc e;have b:x.s.v=B1.drop 32:=congrArg G.Dh.val e;exact⟨.inl a,by rw[b];omega,JY,JY,JY,JY,fun q=>JY,fun _=>⟨c,d,f,g⟩⟩
  ·cases h
 ·split at h
  ·split at h
   ·rename_i J;have e:=(Option.some.inj h).symm;have a:x.Bd=2:=congrArg G.Dh.Bd e;have c:x.l=G.BD B1 0:=congrArg G.Dh.l e;have d:x.r=G.BD B1 4:=congrArg G.Dh.r e;have f:x.lc=G.BD B1 8:=congrArg G.Dh.lc e;have g:x.rc=G.BD B1 12:=congrArg G.Dh.rc e;have b:x.s.v=[]:=congrArg G.Dh.val e;unfold G.branch at J;simp only[Kq,decide_eq_true_eq]at J;have j:=X2 J.1.1.1.1;have c2:=X2 J.1.1.1.2;exact⟨.inr a,by rw[b];exact F2 _,JY,JY,JY,JY,fun _=>JY,fun q=>JY⟩
   ·cases h
  ·cases h
theorem bs{r:B9}(h:G.right r=true):O0 r:=by
 obtain⟨v,f,a,b,Ah,c,s⟩:=r;rw[Zb]at h;have h:=of_decide_eq_true h;exact⟨by show v≤1099511627776;omega,by show f≤1099511627776;omega,by show Ah≤4096;omega,by show c≤4096;omega⟩
theorem E1.CM(h:E1 il p Z Ax As)(g:p≤4096):∀q x,Z q=some x→Ge x∧2≤q∧q≤4096:=by
 intro q x b;have e:=h.nd q;rw[b]at e;unfold EB at e;split at e
 ·rename_i c;cases a:G.CW q (AI il q)with
  |nd n=>
   rw[a]at e;have d:x.AW=n:=Option.some.inj e;obtain⟨Bd,B1,f⟩:=UG a;exact⟨Zy (by rw[d];exact f),c.1,JY⟩
  |no=>rw[a]at e;cases e
  |rc r=>rw[a]at e;cases e
 ·cases e
theorem E1.FJ(h:E1 il p Z Ax As):∀q x,Ax q=some x→O0 x:=by
 intro q x a;rw[h.rc q]at a;unfold Dy at a;split at a
 ·cases b:G.CW q (AI il q)with
  |rc r=>
   rw[b]at a;cases a;obtain⟨B1,hr⟩:=TB b;unfold G.record at hr;split at hr
   ·split at hr
    ·rename_i h1;cases hr;exact bs h1
    ·cases hr
   ·cases hr
  |no=>rw[b]at a;cases a
  |nd n=>rw[b]at a;cases a
 ·cases a
theorem E1.mem(h:E1 il p Z Ax As)(b:q∈As):q<p∧2≤q∧∃x,Ax q=some x:=by
 rw[h.ch]at b;unfold A9 at b;obtain⟨h1,a⟩:=kf.1 b;have h1:=QZ.1 h1;unfold EA at a;simp only[Kq,decide_eq_true_eq]at a;refine⟨h1,a.1,?_⟩;cases c:G.CW q (AI il q)with
 |rc r=>exact⟨r,by rw[h.rc];unfold Dy;rw[if_pos ⟨a.1,h1⟩,c]⟩
 |no=>rw[c]at a;cases a.2
 |nd n=>rw[c]at a;cases a.2
end
structure tv (il:rG) (p:Nat) (z:BF):Prop where
 va:z.FN.length=p
 uM:z.DS.length=p
 vE:z.rs.length=p
 BU:∀q k,q<2→z.FN[q]? =some k→k=0
 nd:∀q,z.AW q=EB il p q
 rc:∀q r,Dy il p q=some r→z.rs[q]? =some r
 Bd:∀(q k:Nat) (x:Bf),z.FN[q]? =some k→z.DS[q]? =some x→(k=1∨k=2)→x.Bd=k
 KE:z.KE=A9 il p
section
variable {il:rG} {p k dU:Nat} {z Lw:BF} {x:Bf} {r:B9} {a7:List Nat}
theorem tv.step(h:tv il p z)(t:2≤p)(d:gj p (AI il p) z.KE a7 k x r dU)(l:Lw.FN=z.FN++[k])(m:Lw.DS=z.DS++[x])(o:Lw.rs=z.rs++[r])(C:Lw.KE=a7):tv il (p+1) Lw:=by
 have u:Lw.FN[p]? =some k:=by rw[l,←h.va];exact lR
 have v:Lw.DS[p]? =some x:=by rw[m,←h.uM];exact lR
 have E:Lw.rs[p]? =some r:=by rw[o,←h.vE];exact lR
 have s:∀q,q≠p→Lw.FN[q]? =z.FN[q]? :=fun q a=>by
  rw[l]
  by_cases hl:q<p
  ·rw[V5 (by rw[h.va];exact hl)]
  ·rw[S6 (by rw[Gd,h.va];show p+1≤q;omega),S6 (by rw[h.va];omega)]
 have w:∀q,q≠p→Lw.DS[q]? =z.DS[q]? :=fun q a=>by
  rw[m]
  by_cases hl:q<p
  ·rw[V5 (by rw[h.uM];exact hl)]
  ·rw[S6 (by rw[Gd,h.uM];show p+1≤q;omega),S6 (by rw[h.uM];omega)]
 have F:∀q,q≠p→Lw.rs[q]? =z.rs[q]? :=fun q a=>by
  rw[o]
  by_cases hl:q<p
  ·rw[V5 (by rw[h.vE];exact hl)]
  ·rw[S6 (by rw[Gd,h.vE];show p+1≤q;omega),S6 (by rw[h.vE];omega)]
 have G:∀q,q≠p→Lw.Z q=z.Z q:=fun q a=>by unfold BF.Z;rw[s q a,w q a]
 have H:Lw.Z p=if k=1∨k=2 then some x else none:=by unfold BF.Z;rw[u,v]
 have key:(if k=1∨k=2 then some x else none).map Bf.AW=EB il (p+1) p∧(∀c,Dy il (p+1) p=some c→r=c)∧((k=1∨k=2)→x.Bd=k)∧a7=A9 il (p+1):=by
  unfold EB Dy;have y:2≤p∧p<p+1:=⟨t,JY⟩
  rw[if_pos y,if_pos y,Nj,←h.KE];unfold EA;rw[decide_eq_true t];unfold gj at d;split at d
  ·rename_i e;obtain⟨rfl,rfl,rfl,rfl,_⟩:=d;rw[e];exact⟨D,fun _ q=>(by cases q),fun q=>JY,(Ha _).symm⟩
  ·rename_i n e;obtain⟨rfl,I,A,rfl,rfl,_⟩:=d;rw[e,if_pos I];exact⟨congrArg some A,fun _ q=>(by cases q),fun _=>by rw[←A];rfl,(Ha _).symm⟩
  ·rename_i c e;obtain⟨rfl,rfl,rfl,rfl,_⟩:=d;rw[e];exact⟨D,fun _ q=>(by cases q;rfl),fun q=>JY,D⟩
 refine⟨by rw[l,Gd,h.va];rfl,by rw[m,Gd,h.uM];rfl,by rw[o,Gd,h.vE];rfl,fun q k' a b=>?_,fun q=>?_,fun q c hr=>?_,fun q k' J b j B=>?_,C.trans key.2.2.2⟩
 ·rw[s q JY]at b;exact h.BU q k' a b
 ·by_cases a:q=p
  ·subst a;unfold BF.AW;rw[H];exact key.1
  ·unfold BF.AW;rw[G q a,SF a];exact h.nd q
 ·by_cases a:q=p
  ·subst a;rw[E,key.2.1 c hr]
  ·rw[Su a]at hr;rw[F q a];exact h.rc q c hr
 ·by_cases a:q=p
  ·subst a;rw[u]at b;rw[v]at j;cases b;cases j;exact key.2.2.1 B
  ·rw[s q a]at b;rw[w q a]at j;exact h.Bd q k' J b j B
theorem kC:A9 il 2=[]:=by
 unfold A9;rw[List.filter_eq_nil_iff];intro q a;unfold EA;rw[decide_eq_false (by have:=QZ.1 a;omega),Bool.false_and];decide
theorem tv.two(b:z.FN=List.replicate 2 0)(c:z.DS.length=2)(d:z.rs.length=2)(e:z.KE=[]):tv il 2 z:=by
 have a:∀q k,z.FN[q]? =some k→k=0:=fun q k h=>by
  rw[b,eg]at h;split at h
  ·cases h;rfl
  ·cases h
 refine⟨by rw[b];rfl,c,d,fun q k _ h=>a q k h,fun q=>?_,fun q r h=>?_,fun q k x h _ f=>?_,e.trans kC.symm⟩
 ·unfold EB;rw[if_neg JY];have:z.Z q=none:=by
   unfold BF.Z;split
   ·rename_i k x h1 g;rw[if_neg (by have:=a q k h1;omega)]
   ·rfl
  unfold BF.AW;rw[this];rfl
 ·unfold Dy at h;rw[if_neg JY]at h;cases h
 ·have:=a q k h;omega
theorem lf(h:q∈A9 il p):2≤q∧q<p∧∃r,Dy il p q=some r:=by
 unfold A9 at h;obtain⟨h1,a⟩:=kf.1 h;have h1:=QZ.1 h1;unfold EA at a;rw[Kq,decide_eq_true_iff]at a;refine⟨a.1,h1,?_⟩;unfold Dy;rw[if_pos ⟨a.1,h1⟩];have a:=a.2;split at a
 ·rename_i r e;exact⟨r,D⟩
 ·cases a
theorem tv.ok(h:tv il p z)(hw:z.w≤32)(d:2≤p)(f:p≤4096):tG z:=by
 refine⟨hw,by rw[h.va,h.uM],by rw[h.va,h.vE],by rw[h.va];exact f,by rw[h.va];exact d,h.BU,h.Bd,fun q x g=>?_,fun q c=>?_,?_⟩
 ·have a:=h.nd q;unfold BF.AW at a;rw[g]at a;have a:some x.AW=EB il p q:=a;unfold EB at a;split at a
  ·rename_i c;split at a
   ·rename_i n e;obtain⟨Bd,B1,i⟩:=UG e;cases a;exact⟨Zy i,c.1,JY⟩
   ·cases a
  ·cases a
 ·rw[h.KE]at c;have:=lf c;rw[h.va];exact⟨this.1,this.2.1⟩
 ·rw[h.KE];exact List.pairwise_lt_range.filter _
theorem tv.TO(h:tv il p z)(b:q∈z.KE):∃y,z.rs[q]? =some y∧Dy il p q=some y∧G.right y=true:=by
 rw[h.KE]at b;obtain⟨_,_,r,hr⟩:=lf b;refine⟨r,h.rc q r hr,hr,?_⟩;unfold Dy at hr;split at hr
 ·split at hr
  ·rename_i c e;cases hr;obtain⟨B1,a⟩:=TB e;unfold G.record at a;split at a
   ·split at a
    ·cases a;assumption
    ·cases a
   ·cases a
  ·cases hr
 ·cases hr
theorem kG{y:B9}(h:G.right y=true):y.f≤1073741824∧y.v≤1073741824∧y.c≤4096∧y.r≤4096:=by
 have h1:=bs h;unfold G.right at h;simp only[Kq,decide_eq_true_eq]at h;exact⟨h.1.1.1.1.1,h.1.1.1.2,h1.c,h1.r⟩
end
end Go.Proofs.YtjdboncaegphmaaGreatDoor
namespace Go.Proofs.YtjdboncaegphmaaGreatDoor
open Go.RowKit
set_option maxRecDepth 100000
set_option maxHeartbeats 2000000
variable {w0 w:World} {k p:Nat} {F:Nat→Prop}
theorem Sat.apart{H H1:List Atom}(h:Sat C1 w0 H w)(BI:List Nat)(d:k<w0.heap.size)(e:BI.map (fun i=>H[i]?)=H1.map some:=by exact rfl)(a:BI.Nodup:=by decide):¬A6 H1 k:=by
 rintro⟨p,A,b,c⟩
 rcases(h.pick BI e a).u4 p A b k c with q|q
 ·exact q
 ·omega
theorem DA.gg(h:DA w)(a:j0 k):k<w.heap.size:=by
 rcases a with rfl|rfl|rfl
 ·exact h.vz
 ·exact h.vy
 ·exact h.vx
theorem k_{v:Value}{n size:Nat}{xs:List Value}(c:View w v n size xs)(a:v.ownBlock=some k):k<w.heap.size:=by
 rcases c.2 with⟨rfl,_,_⟩|⟨b,off,cap,rfl,_,_,_,J,_⟩
 ·cases a
 ·cases a;exact J
theorem Sat.conv{H:List Atom}{C EY:Atom}(h:Sat F w0 (C::H) w)(c:∀k,EY.u1 k→C.u1 k)(l:C.holds w→EY.holds w):Sat F w0 (EY::H) w:=by
 refine⟨h.GA,fun i X q=>?_,fun i X q k a=>?_,fun i j X e b V hj k a d=>?_⟩
 ·cases i with
  |zero=>cases q;exact l (h.at_ 0 _ D)
  |succ i=>exact h.at_ (i+1) X q
 ·cases i with
  |zero=>cases q;exact h.u4 0 _ D k (c k a)
  |succ i=>exact h.u4 (i+1) X q k a
 ·cases i with
  |zero=>
   cases V;cases j with
   |zero=>exact absurd D b
   |succ j=>exact h.u_ 0 (j+1) _ e b D hj k (c k a) d
  |succ i=>
   cases j with
   |zero=>cases hj;exact h.u_ (i+1) 0 X _ b V D k a (c k d)
   |succ j=>exact h.u_ (i+1) (j+1) X e b V hj k a d
theorem Sat.Tq{H:List Atom}{A B:Atom}(h:Sat F w0 (A::B::H) w):Sat F w0 (jJ B A::H) w:=h.uh.conv (fun _ q=>q.elim .inr .inl) (fun q=>⟨q.2,q.1⟩)
theorem qV{N:Nat}{f:BW}{H H1:List Atom}{A5:Act→World→Prop}{z:BF}(BI:List Nat)(h:AT N f F w0 (Gb z::H1) A5)(e:BI.map (fun i=>H[i]?)=(tj z.DS::S2 z::SQ z::Ub z::Vg z::tm z::H1).map some:=by exact rfl)(b:BI.Nodup:=by decide):AT N f F w0 H A5:=
 fun a w c d=>h a w c (d.pick BI e b).Tq.Tq.Tq.Tq.Tq
theorem tv.all{il:rG}{z:BF}(h:tv il p z)(a:p≤4096):z.KE.length≤4096:=by
 rw[h.KE];unfold A9;exact Eg (ln _ _) (by rw[Wv];omega)
theorem l4{N:Nat}{f:BW}{H:List Atom}{A5:Act→World→Prop}(h:AT N f F w0 (tj (List.replicate 2 Vw)::H) A5):AT N f F w0 H A5:=fun a w c d=>h a w c (d.new (Cn _ _) (fun x b=>by rw[lu b];exact World.ownsRow_nil _ _ _ _) (fun k ⟨x,b,e⟩=>by rw[lu b]at e;cases e))
theorem oj{il:rG}{dU:Nat}{KE a7:List Nat}{x:Bf}{r:B9}(h:gj p (AI il p) KE a7 k x r dU):dU=if IT il p=true then 0 else 1:=by
 unfold gj at h;unfold IT;split at h
 ·rename_i e;rw[e];exact h.2.2.2.2
 ·rename_i e;rw[e];exact h.2.2.2.2.2
 ·rename_i e;rw[e];exact h.2.2.2.2
theorem qY(z:BF)(ip:Option Addr)(n d p:Nat)(il:rG)(w0 w:World){H:List Atom}(b:Sat C1 w0 H w)(BI:List Nat)(h:DA w0)(j:View w0 (I ip n d) n 1 (bv il))(o:il.length=n)(l:2≤p∧p<4096∧(p+1)*256≤n)(c:tv il p z)(e:BI.map (fun i=>H[i]?)=([Ez z AE AE,tm z,Vg z,Ub z,SQ z,S2 z,tj z.DS]).map some:=by exact rfl)(f:BI.Nodup:=by decide):
 Calls lp 74 #[S z.Q,I ip n d,E p] w fun e W=>∃Lw:BF,∃a:BX,e=.returned (.tuple #[])∧Lw.Q=z.Q∧(Lw.w=z.w∧Lw.p=z.p)∧tv il (p+1) Lw∧(a.n=0→a=AE)∧(a.n=if IT il p=true then 0 else 1)∧Sat (A6 [Ez z AE AE,tm z,Vg z,Ub z,SQ z,S2 z,tj z.DS]) w [Ez Lw AE a,tm Lw,Vg Lw,Ub Lw,SQ Lw,S2 Lw,tj Lw.DS] W:=by
 have J:z.KE.length≤4096:=by rw[c.KE];unfold A9;exact Eg (ln _ _) (by rw[Wv];omega)
 refine(n8 z ip n d p il w (b.Ad BI e f) (h.below b.A0 (Br _)) (fun k g=>b.apart BI (h.gg g) e f) (Ws j b) (fun k g=>b.apart BI (k_ j g) e f) o l ⟨by rw[c.va];omega,by rw[c.uM];omega,by rw[c.vE];omega,J⟩).mono ?_;rintro e W ⟨vA,hI,hb,ia,dC,rc,ap,ac,k,x,r,a7,a,he,m,s,q⟩;exact⟨z.add vA hI hb ia dC rc ap ac k x r a7,a,he,D,⟨D,D⟩,c.step l.1 m D D D D,s,oj m,q⟩
theorem qL{il:rG}(z:BF)(T:BX)(L:List BX)(a:BX)(A:List (G.Ae×Nat))(o:G.Shape)(i:Nat)(w0 w:World){H:List Atom}(b:Sat C1 w0 H w)(BI:List Nat)(Df:Ld w0)(c:tv il p z)(D:2≤p∧p≤4096)(V:i<z.KE.length)(m:W6 z o.1 o.2 A)(r:i=0→a=AE)(s:i≠0→L[i - 1]? =some a)(t:T.n=i)(e:BI.map (fun i=>H[i]?)=([Ez z T AE,Gb z,Z4 T L,sZ a A]).map some:=by exact rfl)(g:BI.Nodup:=by decide):
 Calls lp 75 #[S z.Q,E i] w fun e W=>(∀o':G.Shape,G.version z.w z.AW z.Em z.KE o (i+1)=some o'→∃d:BX,∃h X,e=.returned (.tuple #[])∧d.n=T.n+1∧W6 z o'.1 o'.2 X∧Sat (A6 [Ez z T AE,Gb z,Z4 T L,sZ a A]) w [Ez z d AE,Gb z,Z4 d (L++[h]),sZ h X] W)∧(G.version z.w z.AW z.Em z.KE o (i+1)=none→∃f:BX,e=.returned (.tuple #[])∧1≤f.n∧f.n≤1048576∧Sat (A6 [Ez z T AE,Gb z,Z4 T L,sZ a A]) w [Ez z T f,Gb z,Z4 T L] W):=by
 obtain⟨q,j⟩:∃q,z.KE[i]? =some q:=⟨_,F3 V⟩
 obtain⟨Ll,l⟩:∃q,z.KE[0]? =some q:=⟨_,F3 JY⟩
 obtain⟨y,u,_,v⟩:=c.TO (ta j);obtain⟨s6,x,_,B⟩:=c.TO (ta l);have h1:=kG v;have F:=kG B;have J:z.KE.length≤4096:=by rw[c.KE];unfold A9;exact Eg (ln _ _) (by rw[Wv];omega)
 exact qs z T L a A o i q Ll y s6 w (b.Ad BI e g) m (Df.sat b (fun _ _ q=>q)) (fun k C=>b.apart BI (Df.lt C) e g) r s t j u l x J JY JY JY
structure aO (il:rG) (u:Fr.Bu) (z:BF) (k p:Nat):Prop where
 hw:z.w=u.w∧z.p=u.p
 uF:2≤p∧p≤max 2 u.m
 fr:tv il p z
 ok:∀q,2≤q→q+1<p→IT il q=true
 uZ:(p=max 2 u.m∧∀q,2≤q→q<p→IT il q=true)∨(3≤p∧IT il (p - 1)=false)
 uD:k≤z.KE.length
 yes:∃o,G.EO z.w z.AW z.Em z.KE k=some o
 no:k<z.KE.length→G.EO z.w z.AW z.Em z.KE (k+1)=none
theorem gT{z:BF}{i:Nat}{T Au b:BX}{L:List BX}{A:List (G.Ae×Nat)}{o:G.Shape}(V:i≤z.KE.length)(c:Au.n=0→T.n=i∧G.EO z.w z.AW z.Em z.KE i=some o∧W6 z o.1 o.2 A∧(i=0→b=AE)∧(i≠0→L[i - 1]? =some b))(d:Au.n≠0→T.n+1=i∧(∃o,G.EO z.w z.AW z.Em z.KE T.n=some o)∧G.EO z.w z.AW z.Em z.KE (T.n+1)=none)(h:z.KE.length≤i∨Au.n≠0):T.n≤z.KE.length∧(∃o,G.EO z.w z.AW z.Em z.KE T.n=some o)∧(T.n<z.KE.length→G.EO z.w z.AW z.Em z.KE (T.n+1)=none):=by
 by_cases Ad:Au.n=0
 ·obtain⟨h1,a,_⟩:=c Ad;exact⟨JY,⟨o,by rw[h1];exact a⟩,fun q=>JY⟩
 ·obtain⟨h1,a,e⟩:=d Ad;exact⟨JY,a,fun _=>e⟩
theorem l9{il:rG}{d:Nat}(h:∀q,2≤q→q<p→IT il q=true)(a:2≤p)(Ad:d=if IT il p=true then 0 else 1):(d=0∧∀q,2≤q→q<p+1→IT il q=true)∨(d=1∧3≤p+1∧IT il (p+1 - 1)=false):=by
 cases e:IT il p with
 |true=>rw[e]at Ad;exact .inl ⟨Ad,fun q h1 b=>(s9 q p).elim (fun g=>h q h1 g) (fun g=>(show p=q by omega)▸e)⟩
 |false=>rw[e]at Ad;exact .inr ⟨Ad,JY,e⟩
theorem uo(ip:Option Addr)(n k:Nat)(il:rG)(u:Fr.Bu)(w:World)(an:DA w)(Df:Ld w)(ao:View w (I ip n k) n 1 (bv il))(aq:il.length=n)(hw:u.w≤32)(hm:u.m≤4096∧u.m*256≤n):Calls lp 44 #[I ip n k,rS (Z1 u)] w fun e W=>∃z:BF,∃T Au:BX,∃p,e=.returned (.tuple #[S z.Q,E T.n])∧aO il u z T.n p∧Sat C1 w [Ez z T Au,Gb z] W:=by
 refine Cg w SI D 96<|Je<|Jh<|U<|Cv D fun f=>K ?_;refine CQ [0]<|Ab 0 D (BN Bs 0 D D)<|Ab 1 D (AS Bs 0 D)<|Ab 2 D (Bb AF 0 0 D D D)<|Bh 3 D<|?_;refine Ba Si D (fun w b=>oI u.w w (Df.sat b)) fun _ e W b ⟨l,c2,he,ho,J⟩=>⟨_,_,he,b.own ho J,?_⟩
 refine A8 [1]<|Ab 4 D (fun _ _ c b=>E_ c (BH:=[(0,(rS (Z1 u))),(7,(I l 257 c2))]) D (r:=flat [[E u.w],[E u.g],[E u.m],[E u.h],[E u.p],[I none 0 0],[I none 0 0],[I none 0 0],[I none 0 0],[I none 0 0],[I none 0 0],[I l 257 c2]]) (E5 sT (ss:=[[E 0],[E 0],[E 0],[E 0],[E 0],[I none 0 0],[I none 0 0],[I none 0 0],[I none 0 0],[I none 0 0],[I none 0 0],[I none 0 0]]) AB (places:=[(0,5),(5,1),(6,1),(7,1),(8,1),(9,1),(10,1),(11,1)]) AB (B3 [] SY [[I none 0 0],[I none 0 0],[I none 0 0],[I none 0 0],[I none 0 0],[I none 0 0],[I none 0 0]] (Z1 u) D Ja.nil (Ja.one (Ja.one (Ja.one (Ja.one (Ja.one Ja.nil))))) (Ja.one (Ja.one (Ja.one (Ja.one (Ja.one Ja.nil))))) D (B3 [[E u.w],[E u.g],[E u.m],[E u.h],[E u.p],[I none 0 0],[I none 0 0],[I none 0 0],[I none 0 0],[I none 0 0],[I none 0 0]] [[I none 0 0]] [] [[I l 257 c2]] D (Ja.one (Ja.one (Ja.one (Ja.one (Ja.one (Ja.one (Ja.one (Ja.one (Ja.one (Ja.one (Ja.one Ja.nil))))))))))) (Ja.one Ja.nil) (Ja.one Ja.nil) D D))))<|Bh 5 D<|Cv D fun Q=>A8 [2]<|Ab 6 D (Ck D)<|Cm<|K ?_;refine Dr 142 38 (Aq Mv [])<|Dr 138 102 (Aq GI [])<|Dr 3 1 (Aq Bm [])<|Tf 0 (Aq Bm ([])) (Aq Bm (List.replicate 0 0)) D<|Tf 1 (Aq GI ([])) (Aq GI (List.replicate 0 Vw)) D<|Tf 2 (Aq Mv ([])) (Aq Mv (List.replicate 0 G.DX)) D<|?_;refine DL (fun v a W=>∃i y B C F H M,v=2 - i∧AH 96 a (Jb (Jb (Jb (Jb (Jb (Jb Jk 0 (I ip n k)) 3 (S f)) 4 (Value.pointer none)) 5 (E 0)) 6 (S Q)) 7 (E i))∧Sat C1 w [Ae 3 1 (I y i B) i (Aq Bm (List.replicate i 0)),Ae 138 102 (I C i F) i (Aq GI (List.replicate i Vw)),Ae 142 38 (I H i M) i (Aq Mv (List.replicate i G.DX)),O Q [[E u.w],[E u.g],[E u.m],[E u.h],[E u.p],[I y i B],[I C i F],[I H i M],[I none 0 0],[I none 0 0],[I none 0 0],[I l 257 c2]] 100,Ae 136 32 (I l 257 c2) 257 (Aq EJ (SS u.w 257)),O f (Z1 u) 70] W∧i≤2) (fun a W c b=>⟨0,_,_,_,_,_,_,D,AY c,b.pick [0,1,2,3,4,5],JY⟩) ?_;rintro _ a W ⟨i,y,B,C,F,H,M,rfl,c,b,V⟩;revert a W;refine K ?_;refine Ej D D<|Jg<|Jf<|Cz D (fun ar=>?_) fun ar=>?_
 ·
  refine K ?_;refine By D<|AG sT 5 D<|AZ Lc 3 5 D D D<|U<|Ey G0 (Aq Bm [0]) D D D fun aI=>U<|DI (m:=1) G0 1 (Aq Bm (List.replicate i 0++([0]))) D D D (BZ 0) (HJ TR _) (H0 Gj D) D fun aJ aK=>By D<|AG sT 5 D<|U<|Cq 4 5 D D D<|?_;refine Jg<|Tf 1 (Aq Bm (List.replicate i 0++([0]))) (Aq Bm (List.replicate (i+1) 0)) (congrArg (Aq Bm) (hs (a:=0)).symm)<|K ?_;refine By D<|AG sT 6 D<|AZ IA 4 6 D D D<|Af (S8 VF)<|U<|Ey MF (Aq GI [(⟨0,0,0,0,0,CU,CU,CU,NP⟩:Bf)]) D (tg D) Oz fun aL=>U<|DI (m:=1) MF 3 (Aq GI (List.replicate i Vw++([(⟨0,0,0,0,0,CU,CU,CU,NP⟩:Bf)]))) D D D (BZ 0) (HJ jm _) (H0 QR D) D fun aM aN=>By D<|AG sT 6 D<|U<|Cq 5 6 D D D<|?_;refine Jg<|Tf 3 (Aq GI (List.replicate i Vw++([(⟨0,0,0,0,0,CU,CU,CU,NP⟩:Bf)]))) (Aq GI (List.replicate (i+1) Vw)) (congrArg (Aq GI) (hs (a:=Vw)).symm)<|K ?_;refine By D<|AG sT 7 D<|AZ W2 5 7 D D D<|Af (S8 Yc)<|U<|Ey TT (Aq Mv [(⟨0,0,0,0,0,0,CU⟩:B9)]) D (tg D) Oz fun aP=>U<|DI (m:=1) TT 5 (Aq Mv (List.replicate i G.DX++([(⟨0,0,0,0,0,0,CU⟩:B9)]))) D D D (BZ 0) (HJ iV _) (H0 Wh D) D fun aQ aR=>By D<|AG sT 7 D<|U<|Cq 6 7 D D D<|?_;refine Jg<|Tf 5 (Aq Mv (List.replicate i G.DX++([(⟨0,0,0,0,0,0,CU⟩:B9)]))) (Aq Mv (List.replicate (i+1) G.DX)) (congrArg (Aq Mv) (hs (a:=G.DX)).symm)<|K ?_;refine B6 (q:=1) D D<|K ?_;exact fun a W c b=>⟨_,JY,i+1,_,_,_,_,_,_,D,AY c,b.pick [3,4,5,6,7,8],JY⟩
 obtain rfl:i=2:=JY;refine JR<|Jz<|Jz<|JE<|Jf<|Dr 3 1 (Aq Bm [])<|l4<|Gq (fun a W=>∃p,∃z:BF,∃Au:BX,AH 96 a (Jb (Jb (Jb (Jb (Jb Jk 0 (I ip n k)) 3 (S f)) 4 (Value.pointer none)) 5 (E 0)) 6 (S z.Q))∧Sat C1 w [tj z.DS,SQ z,tm z,Vg z,Ub z,Ez z AE Au,S2 z,O f (Z1 u) 70] W∧(2≤p∧p≤max 2 u.m)∧(z.w=u.w∧z.p=u.p)∧tv il p z∧(∀q,2≤q→q+1<p→IT il q=true)∧z.KE.length≤4096∧((p=max 2 u.m∧∀q,2≤q→q<p→IT il q=true)∨(3≤p∧IT il (p - 1)=false))) ?_ ?_
 ·
  refine K ?_;refine DL (fun v a W=>∃p,∃z:BF,∃Au:BX,v=4096 - p+0∧AH 96 a (Jb (Jb (Jb (Jb (Jb (Jb Jk 0 (I ip n k)) 3 (S f)) 4 (Value.pointer none)) 5 (E 0)) 6 (S z.Q)) 8 (E p))∧Sat C1 w [tj z.DS,SQ z,tm z,Vg z,Ub z,Ez z AE Au,S2 z,O f (Z1 u) 70] W∧(2≤p∧p≤max 2 u.m)∧(z.w=u.w∧z.p=u.p)∧tv il p z∧(Au.n=0→Au=AE)∧(∀q,2≤q→q+1<p→IT il q=true)∧((Au.n=0∧∀q,2≤q→q<p→IT il q=true)∨(Au.n=1∧3≤p∧IT il (p - 1)=false))) (fun a W c b=>⟨2,(⟨Q,u.w,u.g,u.m,u.h,u.p,y,B,List.replicate 2 0,C,F,List.replicate 2 Vw,H,M,List.replicate 2 G.DX,none,0,[],l,c2⟩:BF),AE,D,AY c,b.pick [0,1,2,3,4,5,6,7],JY,⟨D,D⟩,tv.two D D D D,fun _=>rfl,fun q _ _=>JY,.inl ⟨D,fun q _ _=>JY⟩⟩) ?_;rintro _ a W ⟨p,z,Au,rfl,c,b,s,j,d,P,CM,R⟩;revert a W;refine K ?_;refine AG Bs 2 D<|AZ AF 7 2 D D D<|GV D D (fun au=>?_) fun au=>?_
  ·
   refine K ?_;refine By D<|Jj D D D<|AG sT 10 D<|Jj D D D<|AZ Mi 5 10 D D D<|Jj D D D<|Cr Mi D<|Jj D D D<|Gx D D (fun av=>?_) fun av=>?_
   ·
    have X:=P JY;subst X;have ae:∀q,2≤q→q<p→IT il q=true:=R.elim (fun h=>h.2) (fun h=>absurd h.1 JZ);refine K ?_;refine U<|Ba X_ D (fun w b=>qY z ip n k p il _ w b [5,2,3,4,1,6,0] an ao aq JY d) fun _ e W b ⟨aw,Y,he,ax,af,ay,ag,az,q⟩=>⟨_,_,he,Sat.call (H2:=[O f (Z1 u) 70]) (b.pick [5,2,3,4,1,6,0,7]) q,?_⟩
    refine K ?_;refine B6 (q:=1) D D<|K ?_;exact fun a W c b=>⟨_,JY,p+1,aw,Y,D,by rw[ax];exact AY c,b.pick [6,4,1,2,3,0,5,7],JY,⟨af.1.trans j.1,af.2.trans j.2⟩,ay,ag,fun q h1 aS=>ae q h1 JY,l9 ae s.1 az⟩
   refine K ?_;exact fun a W c b=>⟨p,z,Au,AY c,b.pick [0,1,2,3,4,5,6,7],s,j,d,CM,d.all JY,R.elim (fun h=>by first|exact absurd h.1 JY|exact .inl ⟨JY,h.2⟩) (fun h=>.inr h.2)⟩
  refine K ?_;exact fun a W c b=>⟨p,z,Au,AY c,b.pick [0,1,2,3,4,5,6,7],s,j,d,CM,d.all JY,R.elim (fun h=>by first|exact absurd h.1 JY|exact .inl ⟨JY,h.2⟩) (fun h=>.inr h.2)⟩
 rintro a W ⟨p,z,Au,c,b,s,j,d,CM,aT,aA⟩;revert a W;refine K ?_;refine By D<|AG sT 10 D<|U<|Cq 5 10 D D D<|?_;refine Jg<|Jf<|qV (z:=z) (H1:=[Ez z AE AE,O f (Z1 u) 70]) [0,6,1,4,3,2,5,7]<|Dr 217 66 (Aq I6 [])<|Tf 0 (Aq I6 ([])) (Aq I6 ([].map I9)) D<|Dr 130 1 (Aq jc [])<|Gq (fun a W=>∃T Au:BX,AH 96 a (Jb (Jb (Jb Jk 4 (Value.pointer none)) 5 (E 0)) 6 (S z.Q))∧Sat C1 w [Gb z,Ez z T Au] W∧(T.n≤z.KE.length∧(∃o,G.EO z.w z.AW z.Em z.KE T.n=some o)∧(T.n<z.KE.length→G.EO z.w z.AW z.Em z.KE (T.n+1)=none))) ?_ ?_
 ·
  refine K ?_;refine DL (fun v a W=>∃i,∃T:BX,∃L:List BX,∃t A o,∃Au:BX,v=z.KE.length - i∧AH 96 a (Jb (Jb (Jb (Jb Jk 4 (Value.pointer none)) 5 (E 0)) 6 (S z.Q)) 9 (E i))∧Sat C1 w [Z4 T L,sZ t A,Gb z,Ez z T Au] W∧i≤z.KE.length∧(Au.n=0→Au=AE)∧Au.n≤1048576∧T.n≤i∧L.length=T.n∧(Au.n=0→T.n=i∧G.EO z.w z.AW z.Em z.KE i=some o∧W6 z o.1 o.2 A∧(i=0→t=AE)∧(i≠0→L[i - 1]? =some t))∧(Au.n≠0→T.n+1=i∧(∃o,G.EO z.w z.AW z.Em z.KE T.n=some o)∧G.EO z.w z.AW z.Em z.KE (T.n+1)=none)) (fun a W c b=>⟨0,AE,[],AE,[],(([],[]):G.Shape),AE,D,AY c,b.pick [0,1,2,3],JY,fun _=>rfl,JZ,JZ,D,fun _=>⟨D,D,⟨d.ok (by rw[j.1];exact hw) s.1 JY,BM.L'.nil,.inl D,FB.nil,JZ⟩,fun _=>rfl,fun h=>absurd D h⟩,fun h=>absurd D h⟩) ?_;rintro _ a W ⟨i,T,L,t,A,o,Au,rfl,c,b,V,P,aU,aV,Z,aa,ah⟩;revert a W;refine K ?_;refine By D<|AG sT 8 D<|AZ Lc 3 8 D D D<|Cr Lc D<|GV D D (fun aB=>?_) fun aB=>?_
  ·
   refine K ?_;refine By D<|Jj D D D<|AG sT 10 D<|Jj D D D<|AZ Mi 3 10 D D D<|Jj D D D<|Cr Mi D<|Jj D D D<|Gx D D (fun aC=>?_) fun aC=>?_
   ·
    have X:=P JY;subst X;obtain⟨x,ab,ai,aj,ak⟩:=aa D;refine K ?_;cases N:G.version z.w z.AW z.Em z.KE o (i+1)with
    |none=>
     refine K ?_;refine U<|Ba bB D (fun w b=>(qL z T L t A o i _ w b [3,2,0,1] Df d JY JY ai aj ak x).mono fun e W q=>q.2 N) fun _ e W b ⟨Y,he,ag,aD,q⟩=>⟨_,_,he,Sat.call (H2:=[]) (b.pick [3,2,0,1]) q,?_⟩
     refine Jg<|Dr 217 66 (Aq I6 [])<|Tf 0 (Aq I6 ([])) (Aq I6 ([].map I9)) D<|?_;refine K ?_;refine B6 (q:=1) D D<|K ?_;exact fun a W c b=>⟨_,JY,i+1,T,L,AE,[],o,Y,D,AY c,b.pick [3,0,2,1],JY,fun h=>absurd h JY,aD,JY,Z,fun h=>absurd h JY,fun _=>⟨JY,⟨o,by rw[x];exact ab⟩,by rw[x,G.EO,ab];exact N⟩⟩
    |some aE=>
     refine K ?_;refine U<|Ba bB D (fun w b=>(qL z T L t A o i _ w b [3,2,0,1] Df d JY JY ai aj ak x).mono fun e W q=>q.1 _ N) fun _ e W b ⟨aF,al,DT,he,aG,aH,q⟩=>⟨_,_,he,Sat.call (H2:=[]) (b.pick [3,2,0,1]) q,?_⟩
     refine K ?_;refine B6 (q:=1) D D<|K ?_;exact fun a W c b=>⟨_,JY,i+1,aF,L++[al],al,DT,aE,AE,D,AY c,b.pick [2,3,1,0],JY,fun _=>rfl,JZ,JY,by rw[Gd,Z,aG];rfl,fun _=>⟨JY,by rw[G.EO,ab];exact N,aH,fun h=>JY,fun _=>(by rw[Yp,←x,←Z];exact lR)⟩,fun h=>absurd D h⟩
   refine K ?_;exact fun a W c b=>⟨T,Au,AY c,b.pick [2,3],gT V aa ah JY⟩
  refine K ?_;exact fun a W c b=>⟨T,Au,AY c,b.pick [2,3],gT V aa ah JY⟩
 rintro a W ⟨T,Au,c,b,ad⟩;revert a W;refine Je<|GR<|zs (AA D)<|zs (AA D)<|zs (Bp D)<|zs (AS sT 9 D)<|zs (Bb C2 1 9 D D D)<|zs (R7 C2 D)<|zs (Ck D)<|zs (Ck D)<|CS<|A7 ?_;exact fun W b=>⟨z,T,Au,p,D,⟨j,s,d,CM,aA,ad.1,ad.2.1,ad.2.2⟩,b.pick [1,0]⟩
