/- Laws and walks on the road to SalvagePlays (part M50). No conditions beyond each law's own. -/
import Derived.Test.YtjdboncaegphmaaGreatDoorM49
set_option linter.unusedVariables false
namespace Go.Proofs.YtjdboncaegphmaaGreatDoor
set_option maxRecDepth 100000
set_option maxHeartbeats 2000000
attribute [local irreducible] G.EO
def cN(n:Nat)(s:Fr.Bu)(x:rG):Nat:=((List.range (A9 x s.m).length).filter fun i=>F1 n s.w s.p (A9 x s.m) x (i+1)).length
theorem filter_lt{f:Nat→Bool}{k:Nat}(h:∀i,f i=true↔i<k):∀m,k≤m→((List.range m).filter f).length=k:=by
 have BU:∀m,m≤k→((List.range m).filter f).length=m:=by
  intro m hm;rw[List.filter_eq_self.2 (fun i V=>(h i).2 (by have:=QZ.1 V;omega)),Wv]
 intro m
 induction m with
 |zero=>intro a;rw[BU 0 JY];omega
 |succ m b=>
  intro a
  by_cases e:k=m+1
  ·rw[BU _ JY,e]
  ·rw[Qt,lL,Gd,b JY];have:f m=false:=by rw[gC];intro q;have:=(h m).1 q;omega
   simp[this]
section
variable {n i k p:Nat} {s:Fr.Bu} {x:rG} {z:BF}
theorem k9(h:D5 n s x i):cN n s x=i:=by
 have a:=h.cs;have cs:∀j,j≤(A9 x s.m).length→Fl n s.w s.p s.m x j:=fun j hj=>⟨a.hw,a.uF,a.hl,a.u2,a.hm,hj⟩
 unfold cN;have hle:=h.le;rw[List.filter_congr (q:=fun j=>decide (j<i)) (fun j hj=>?_)]
 ·exact filter_lt (fun j=>decide_eq_true_iff) _ hle
 ·have hj:=QZ.1 hj
  by_cases q:j<i
  ·rw[decide_eq_true q];exact ZT (cs i hle) JY h.clean
  ·rw[decide_eq_false q]
   by_cases e:j=i
   ·subst e;exact h.V.resolve_left JY
   ·rw[gC];intro w;have h1:=h.V.resolve_left JY;rw[ZT (cs (j+1) JY) JY w]at h1;cases h1
theorem ur(h:aO x s z k p)(b:Fr.DE s=true)(c:n=256*s.p)(hl:x.length=n):D5 n s x k:=by
 have a:(1≤s.w∧s.w≤32)∧(3≤s.p∧s.p≤4096)∧2≤s.m∧s.m≤s.p:=by
  simp only[Fr.DE,Kq,hy,decide_eq_true_eq]at b;omega
 have hm:=a.2.2.1;have d:k≤(A9 x s.m).length:=by
  obtain⟨R,Df,_⟩:=nu h hm;have:=h.uD;rw[Df,Gd];omega
 have cs:∀j,j≤(A9 x s.m).length→Fl n s.w s.p s.m x j:=fun j hj=>⟨a.1,a.2.1,hl,c,a.2.2.2,hj⟩
 refine⟨b,c,hl,d,?_,?_⟩
 ·by_cases e:k=0
  ·exact .inl e
  ·right
   rw[show k - 1+1=k by omega];exact sD h (cs k d) hm h.uD (Br _)
 ·by_cases e:k=(A9 x s.m).length
  ·exact .inl e
  ·exact .inr (pP h (cs (k+1) JY) hm)
def bH(n:Nat)(s:Fr.Bu)(x:rG):Nat:=G3 (Cl n s x (cN n s x)) (BJ s x (cN n s x)).m (BJ s x (cN n s x)).h
def SA(n:Nat)(s:Fr.Bu)(x:rG):Nat:=FD (Cl n s x (cN n s x)) (BJ s x (cN n s x)).m (BJ s x (cN n s x)).h
def WC(n:Nat)(s:Fr.Bu)(x:rG)(j:Nat):List UInt8:=(Ct n s.w s.p (A9 x s.m) j x).l
theorem qa(h:D5 n s x i):bH n s x≤1073741824∧SA n s x≤1073741824∧((bH n s x=0∧SA n s x=i)∨(0<i∧0<bH n s x∧SA n s x+1=bH n s x+i)):=by
 have F:=k9 h;unfold bH SA;rw[F]
 rcases mg i with rfl|H
 ·have e:Dy (Cl n s x 0) (BJ s x 0).m (BJ s x 0).h=none:=by
   show Dy _ 2 0=none;unfold Dy;rw[if_neg JY]
  unfold G3 FD;rw[e];exact⟨F2 _,F2 _,.inl ⟨D,D⟩⟩
 have g:=h.cs;have hle:=h.le;have Df:=g.Ir;have t:=h.clean;unfold F1 at t;rw[NH]at t;obtain⟨-,f⟩:=t;have I:=g.A9;unfold LA at f;rw[I]at f;have li:((A9 x s.m).take i).length=i:=by rw[FX];omega
 rw[li]at f;have v:=(Ko (W:=s.w) (P:=s.p) (L:=A9 x s.m) H)
 have y:∀j,1≤j→j≤i→∃r,Dy (Ct n s.w s.p (A9 x s.m) i x).l (BL s.w s.p (A9 x s.m) (i+1)).m (G.at_ ((A9 x s.m).take i) j)=some r∧G.right r=true:=by
  intro j J K;rw[M0 hle,if_pos ⟨J,K⟩];have A:=Df.at_ (j:=j - 1) JY;have B:(A9 x s.m).getD (j - 1) 0<(BL s.w s.p (A9 x s.m) (i+1)).m:=by
   rw[v.1]
   by_cases e:j=i
   ·subst e;exact Nat.lt_succ_self _
   ·have:=Df.lt (j:=j - 1) (k:=i - 1) JY JY;omega
  have M:(A9 x s.m).getD (j - 1) 0∈A9 x s.m:=by rw[Dm,F3 JY];exact PV _
  have a:=YC M;unfold EA at a;rw[Kq]at a;have a:=a.2;rw[←g.KY A.1 B]at a;generalize (A9 x s.m).getD (j - 1) 0=q at*;unfold Dy;rw[if_pos ⟨A.1,B⟩];cases u:G.CW q (AI (Ct n s.w s.p (A9 x s.m) i x).l q)with
  |no=>rw[u]at a;cases a
  |nd z=>rw[u]at a;cases a
  |rc r=>
   refine⟨r,D,?_⟩;obtain⟨B1,d⟩:=TB u;unfold G.record at d;split at d
   ·split at d
    ·cases d;assumption
    ·cases d
   ·cases d
 obtain⟨r,hr,N⟩:=y i JY (Br _);obtain⟨EF,O,Q⟩:=y 1 (Br _) JY;have R:G.at_ ((A9 x s.m).take i) i=(BJ s x i).h:=by
  rw[M0 hle,if_pos ⟨JY,Br _⟩];exact v.2.symm
 cases c:G.EO s.w (EB (Ct n s.w s.p (A9 x s.m) i x).l (BL s.w s.p (A9 x s.m) (i+1)).m) (fun p=>(Dy (Ct n s.w s.p (A9 x s.m) i x).l (BL s.w s.p (A9 x s.m) (i+1)).m p).getD G.DX) ((A9 x s.m).take i) i with
 |none=>rw[c]at f;cases f
 |some o=>
  obtain⟨j,rfl⟩:∃j,i=j+1:=⟨i - 1,JY⟩
  unfold G.EO at c;cases C:G.EO s.w (EB (Ct n s.w s.p (A9 x s.m) (j+1) x).l (BL s.w s.p (A9 x s.m) (j+1+1)).m) (fun p=>(Dy (Ct n s.w s.p (A9 x s.m) (j+1) x).l (BL s.w s.p (A9 x s.m) (j+1+1)).m p).getD G.DX) ((A9 x s.m).take (j+1)) j with
  |none=>rw[C]at c;cases c
  |some S=>
   rw[C]at c;simp only[s3]at c;unfold G.version at c;obtain⟨E, -⟩:=XK c;simp only[hr,O,QW]at E;obtain⟨T,c2, -, -⟩:=E;have e:Dy (Cl n s x (j+1)) (BJ s x (j+1)).m (BJ s x (j+1)).h=some r:=by rw[←R];exact hr
   unfold G3 FD;rw[e];have b:=kG N;have U:=kG Q;dsimp only;split at c2<;>omega
end
def Tc(l:rG):List UInt8×List Nat×Nat:=if GD l.length=0 then(match t' l with
 |.ok a=>(a.1,a.2,0)
 |.error k=>([],[],k))else([],[],GD l.length)
def Zw(l:rG):Nat×Nat×Nat:=if GD l.length=0 then(match sY l with
 |.ok s=>(bH l.length s l,SA l.length s l,0)
 |.error k=>(0,0,k))else(0,0,GD l.length)
def eW(n:Nat)(s:Fr.Bu)(x:rG)(v:Int):List UInt8×Nat:=
 if(if v= -1 then(SA n s x:Int)else v)<0∨(SA n s x:Int)<(if v= -1 then(SA n s x:Int)else v)then([],151)
 else if(if v= -1 then(SA n s x:Int)else v)<(bH n s x:Int)then([],152)
 else(WC n s x ((cN n s x:Int) - ((SA n s x:Int) - (if v= -1 then(SA n s x:Int)else v))).toNat,0)
def G6(l:rG)(v:Int):List UInt8×Nat:=if GD l.length=0 then(match sY l with
 |.ok s=>eW l.length s l v
 |.error k=>([],k))else([],GD l.length)
def YB(l:rG):List UInt8×Nat×Nat:=if GD l.length=0 then(match lj l with
 |.ok a=>(WC l.length a.2 a.1 (cN l.length a.2 a.1),SA l.length a.2 a.1,0)
 |.error k=>([],0,k))else([],0,GD l.length)
section
variable {l:rG}
theorem dQ:∀k,(L3 l k).2.length≤k
 |0=>Br _
 |k+1=>by
  show((L3 l k).2++Zt (s7 (L3 l k).1 (2+k)).2 (2+k)).length≤k+1;have h1:=dQ k;rw[Gd];have a:(Zt (s7 (L3 l k).1 (2+k)).2 (2+k)).length≤1:=by
   unfold Zt;split
   ·exact Br 1
   ·exact F2 1
  omega
theorem qk:∀k,(tx l k).2.length≤k
 |0=>Br _
 |k+1=>by
  show((tx l k).2++Zt (FF (tx l k).1 k).2 k).length≤k+1;have h1:=qk k;rw[Gd];have a:(Zt (FF (tx l k).1 k).2 k).length≤1:=by
   unfold Zt;split
   ·exact Br 1
   ·exact F2 1
  omega
theorem qD:(Tc l).1.length≤l.length∧(Tc l).2.1.length≤8192:=by
 unfold Tc
 by_cases a:GD l.length=0
 ·rw[if_pos a];have d:=ff a;unfold t';cases b:sY (sX l).1 with
  |error k=>exact⟨F2 _,F2 _⟩
  |ok s=>
   have e:=hA b;have c:(sX l).1.length=l.length:=ml;have hm:=(me b c).2.1;refine⟨Mk ((b4 _).trans c),?_⟩;show((sX l).2++(L3 (sX l).1 (s.m - 2)).2).length≤8192;have h1:=dQ (l:=(sX l).1) (s.m - 2);have f:(sX l).2.length≤2:=qk 2;rw[Gd];omega
 ·rw[if_neg a];exact⟨F2 _,F2 _⟩
theorem oB{v:Int}:(G6 l v).1.length≤l.length:=by
 unfold G6;split
 ·split
  ·unfold eW;generalize (if v= -1 then(SA _ _ _:Int)else v)=t;split
   ·exact F2 _
   ·split
    ·exact F2 _
    ·exact Mk (Ji.h _)
  ·exact F2 _
 ·exact F2 _
theorem sE:(YB l).1.length≤l.length:=by
 unfold YB;split
 ·split
  ·exact Mk (Ji.h _)
  ·exact F2 _
 ·exact F2 _
end
end Go.Proofs.YtjdboncaegphmaaGreatDoor
namespace Go.Proofs.YtjdboncaegphmaaGreatDoor
open Go.RowKit
set_option maxRecDepth 100000
set_option maxHeartbeats 2000000
def tF(A:List UInt8×List Nat×Nat)(w:World)(e:Ending)(W:World):Prop:=∃p k q c,e=.returned (.tuple #[I p A.1.length k,I q A.2.1.length c,E A.2.2])∧Sat C1 w [Ae 5 1 (I p A.1.length k) A.1.length (bv A.1),Ae 3 1 (I q A.2.1.length c) A.2.1.length (Aq Bm A.2.1)] W
def sc(A:Nat×Nat×Nat)(w:World)(e:Ending)(W:World):Prop:=e=.returned (.tuple #[E A.1,E A.2.1,E A.2.2])∧Below w.heap.size w W
def XC(A:List UInt8×Nat)(w:World)(e:Ending)(W:World):Prop:=∃p k,e=.returned (.tuple #[I p A.1.length k,E A.2])∧W.ownsRow w.heap.size 5 1 (I p A.1.length k) A.1.length (bv A.1)∧Below w.heap.size w W
def tK(A:List UInt8×Nat×Nat)(w:World)(e:Ending)(W:World):Prop:=∃p k,e=.returned (.tuple #[I p A.1.length k,E A.2.1,E A.2.2])∧W.ownsRow w.heap.size 5 1 (I p A.1.length k) A.1.length (bv A.1)∧Below w.heap.size w W
section
variable {w W:World} {H:List Atom} {p q:Option Addr} {n m k c Mq v:Nat} {x y z l:rG} {L Aa:List Nat}
theorem tF.mk(a:x.length=n)(b:L.length=m)(h:Sat C1 w [Ae 5 1 (I p n k) n (bv x),Ae 3 1 (I q m c) m (Aq Bm L)] W):tF (x,L,Mq) w (.returned (.tuple #[I p n k,I q m c,E Mq])) W:=by
 subst a b;exact⟨p,k,q,c,D,h⟩
theorem tF.no(h:Sat C1 w H W):tF ([],[],Mq) w (.returned (.tuple #[I none 0 0,I none 0 0,E Mq])) W:=⟨none,0,none,0,D,((h.nil 3 1).nil 5 1).pick [0,1]⟩
theorem XC.mk(a:x.length=n)(ho:W.ownsRow w.heap.size 5 1 (I p n k) n (bv x))(h:Below w.heap.size w W):XC (x,Mq) w (.returned (.tuple #[I p n k,E Mq])) W:=by
 subst a;exact⟨p,k,D,ho,h⟩
theorem XC.no(h:Below w.heap.size w W):XC ([],Mq) w (.returned (.tuple #[I none 0 0,E Mq])) W:=⟨none,0,D,World.ownsRow_nil _ _ _ _,h⟩
theorem tK.mk(a:x.length=n)(ho:W.ownsRow w.heap.size 5 1 (I p n k) n (bv x))(h:Below w.heap.size w W):tK (x,v,Mq) w (.returned (.tuple #[I p n k,E v,E Mq])) W:=by
 subst a;exact⟨p,k,D,ho,h⟩
theorem tK.no(h:Below w.heap.size w W):tK ([],v,Mq) w (.returned (.tuple #[I none 0 0,E v,E Mq])) W:=⟨none,0,D,World.ownsRow_nil _ _ _ _,h⟩
theorem mF{pp:Nat}(h:Mo l pp=true):s7 l pp=(l,false):=if_pos h
theorem Om{pp:Nat}(h:Mo l pp=false):s7 l pp=tk l pp:=if_neg (by rw[h];decide)
theorem uw(a:L3 l k=(y,Aa))(b:s7 y (2+k)=(z,true)):L3 l (k+1)=(z,Aa++[2+k]):=by rw[L3,a];show((s7 y (2+k)).1,Aa++Zt (s7 y (2+k)).2 (2+k))=_;rw[b];rfl
theorem o0(a:L3 l k=(y,Aa))(b:s7 y (2+k)=(z,false)):L3 l (k+1)=(z,Aa):=by rw[L3,a];show((s7 y (2+k)).1,Aa++Zt (s7 y (2+k)).2 (2+k))=_;rw[b];show(z,Aa++[])=_;rw[Ha]
theorem qg{s:Fr.Bu}(h:s0 l=.ok s):s.p=l.length/256∧Fr.DE s=true:=by
 have one:∀ {b:rG} {n:Nat} {s:Fr.Bu},sW b n=some s→s.p=n/256∧Fr.DE s=true:=by
  intro b n s h;unfold sW at h;split at h
  ·rename_i x c;split at h
   ·cases h;exact⟨by assumption,Rb c⟩
   ·cases h
  ·cases h
 unfold s0 at h;split at h
 ·split at h
  ·cases a:sW (AI l 0) l.length with
   |none=>
    rw[a]at h;cases h1:sW (AI l 1) l.length with
    |none=>rw[h1]at h;cases h
    |some y=>rw[h1]at h;cases h;exact one h1
   |some x=>
    rw[a]at h;cases h1:sW (AI l 1) l.length with
    |none=>rw[h1]at h;cases h;exact one a
    |some y=>
     rw[h1]at h;simp only[lH]at h;split at h<;>cases h
     ·exact one h1
     ·exact one a
  ·have:=hA h;exact⟨this.1,this.2.1⟩
 ·have:=hA h;exact⟨this.1,this.2.1⟩
theorem qv{b:Bool}{p:Nat}:(Zt b p).length≤1:=by unfold Zt;split;exact Br 1;exact F2 1
theorem mo:(sX l).2.length≤2:=by
 show(([]++Zt (FF l 0).2 0)++Zt (FF (FF l 0).1 1).2 1).length≤2;have a:=qv (b:=(FF l 0).2) (p:=0);have h1:=qv (b:=(FF (FF l 0).1 1).2) (p:=1);rw[Hg,Gd];omega
theorem R1{s:Fr.Bu}(a:Fr.DE s=true):(1≤s.w∧s.w≤32)∧(3≤s.p∧s.p≤4096)∧2≤s.m∧s.m≤s.p:=by
 simp only[Fr.DE,Kq,hy,decide_eq_true_eq]at a;omega
theorem jD{n:Nat}(h:GD n=0):n % 256=0:=by
 unfold GD at h;split at h
 ·assumption
 ·cases h
theorem rz{k:Nat}(h:s0 l=.error k):4≤k∧k≤55:=by
 unfold s0 at h;split at h
 ·split at h
  ·cases a:sW (AI l 0) l.length with
   |none=>
    rw[a]at h;cases h1:sW (AI l 1) l.length with
    |none=>rw[h1]at h;cases h;decide
    |some y=>rw[h1]at h;cases h
   |some x=>
    rw[a]at h;cases h1:sW (AI l 1) l.length with
    |none=>rw[h1]at h;cases h
    |some y=>rw[h1]at h;simp only[lH]at h;split at h<;>cases h
  ·have:=jo h;omega
 ·have:=jo h;omega
end
theorem qH(q:Option Addr)(n c:Nat)(l:rG)(w:World)(g:DA w)(C:n≠0→View w (I q n c) n 1 (bv l))(hl:l.length=n)(Z:n≤1099511627776):Calls lp 11 #[I q n c] w fun e W=>tF (Tc l) w e W:=by
 refine Cg w X0 D 49<|K ?_
 by_cases h:GD n=0
 ·
  have aa:=ff h;have ab:=jD h;have A:(sX l).1.length=n:=(ml).trans hl;cases j:sY (sX l).1 with
  |ok s=>
   have Q:=hA j;have ad:=R1 Q.2.1;have ae:n=256*s.p:=by rw[Q.1,A];omega
   refine K ?_;refine U<|Ba Xd D (fun w d=>(ju _ _ _ l w (fun R=>(Bx (C JY)) w d) hl).mono fun e W q=>(let⟨t,u,h1,v⟩:=q.2.1 h;⟨t,u,h1,v,q.2.2⟩:∃t u,_∧_∧_)) fun _ e W d ⟨ip,o,he,F,J⟩=>⟨_,_,he,d.own F J,?_⟩
   refine Jd D<|Bc D D<|Bc D D<|K ?_;refine Ci JY D D<|K ?_;refine U<|Ba lg D (fun w d=>mO ip n o l w (d.Ad [0]) (g.below d.A0 (Br _)) (fun k i=>d.apart [0] (g.gg i))) fun _ e W d ⟨jp,G,V,he,q⟩=>⟨_,_,he,d.As [0] [] q,?_⟩
   have T:G≤2:=by have h1:=I3 Gj JZ (q.rw 1);have v:=mo (l:=l);omega
   refine K ?_;refine U<|Ba Pd D (fun w d=>(jG _ _ _ ((sX l).1) w (g.below d.A0 (Br _)) ((BZ 0) w d) A).mono fun e W q=>(⟨q.1 _ j,q.2.2⟩:_∧_)) fun _ e W d ⟨he,J⟩=>⟨_,_,he,d.below J,?_⟩
   refine Jd D<|Bc D D<|Bc D D<|U<|Bw SY fun H=>U<|Bk 0 0 5 D D D<|?_;refine K ?_;refine Ci JY D D<|Jg<|Jf<|JH D<|Jy<|Jf<|Je<|Je<|Jh<|Js D<|Jg<|Tf 2 (Aq Bm ((sX l).2)) (Aq Bm ((sX l).2++[])) (congrArg (Aq Bm) (Ha _).symm)<|Jf<|JD<|DL (fun X a W=>∃k,∃y:List UInt8,∃Aa L M x,X=s.m - 2 - k∧AH 49 a (Jb (Jb (Jb (Jb (Jb (Jb (Jb Jk 2 (I none 0 0)) 3 (I none 0 0)) 4 (E 0)) 5 (I ip n o)) 8 (S H)) 9 (E (2+k))) 7 (I L x M))∧Sat C1 w [O H (Z1 s) 70,Ae 5 1 (I ip n o) n (bv y),Ae 3 1 (I L x M) x (Aq Bm ((sX l).2++Aa))] W∧2+k≤s.m∧x≤2+k∧L3 (sX l).1 k=(y,Aa)∧y.length=n) (fun a W f d=>⟨0,(sX l).1,[],_,_,_,D,AY f,d.pick [0,1,2],JY,T,D,A⟩) ?_;rintro _ a W ⟨k,y,Aa,L,M,x,rfl,f,d,i,G4,B,r⟩;revert a W;refine K ?_;refine AG Bs 2 D<|AZ AF 0 2 D D D<|Ej D D<|Jg<|Jf<|Cz D (fun Y=>?_) fun Y=>?_
   ·
    refine K ?_;cases z:Mo y (2+k)with
    |false=>
     refine K ?_;refine U<|BP QQ D (fun w d=>(Ns _ _ _ (2+k) y w (g.below d.A0 (Br _)) ((BZ 1) w d) r).mono fun e W q=>⟨q.1.trans (congrArg (fun b=>Ending.returned (Value.bool b)) z),q.2⟩)<|Af (Te D)<|K ?_;refine U<|Ba YF D (fun w d=>ov ip n o (2+k) y w (d.Ad [1]) (g.below d.A0 (Br _)) (fun k i=>d.apart [1] (g.gg i))) fun _ e W d ⟨he,q⟩=>⟨_,_,he,d.As [1] [0,2] q,?_⟩
     refine K ?_;refine J9 D (fun N=>?_) fun N=>?_
     ·
      have P:(tk y (2+k)).2=true:=N;refine K ?_;refine U<|Ey G0 (Aq Bm [2+k]) D D D fun af=>U<|DI (m:=1) G0 3 (Aq Bm ((sX l).2++Aa++([2+k]))) D D D (BZ 0) (HJ TR _) (H0 Gj D) D fun ag ah=>Js D<|Jg<|Tf 3 (Aq Bm ((sX l).2++Aa++([2+k]))) (Aq Bm ((sX l).2++(Aa++[2+k]))) (congrArg (Aq Bm) (C9 _ _ _))<|K ?_;refine B6 (q:=1) D D<|K ?_;exact fun a W f d=>⟨_,JY,k+1,(tk y (2+k)).1,Aa++[2+k],_,_,_,D,AY f,d.pick [2,1,3],JY,JY,uw B ((Om z).trans (Prod.ext D P)),lo.trans r⟩
     have P:(tk y (2+k)).2=false:=N;refine K ?_;refine B6 (q:=1) D D<|K ?_;exact fun a W f d=>⟨_,JY,k+1,(tk y (2+k)).1,Aa,_,_,_,D,AY f,d.pick [1,0,2],JY,JY,o0 B ((Om z).trans (Prod.ext D P)),lo.trans r⟩
    |true=>
     refine K ?_;refine U<|BP QQ D (fun w d=>(Ns _ _ _ (2+k) y w (g.below d.A0 (Br _)) ((BZ 1) w d) r).mono fun e W q=>⟨q.1.trans (congrArg (fun b=>Ending.returned (Value.bool b)) z),q.2⟩)<|Af (Te D)<|K ?_;refine B6 (q:=1) D D<|K ?_;exact fun a W f d=>⟨_,JY,k+1,y,Aa,_,_,_,D,AY f,d.pick [0,1,2],JY,JY,o0 B (mF z),r⟩
   refine K ?_;refine Gz D D D fun W d=>?_;obtain rfl:k=s.m - 2:=JY;have f:Tc l=(y,(sX l).2++Aa,0):=by unfold Tc;rw[hl,if_pos h];unfold t';rw[j];show((L3 (sX l).1 (s.m - 2)).1,(sX l).2++(L3 (sX l).1 (s.m - 2)).2,0)=_;rw[B]
   rw[f];exact tF.mk r (I3 Gj JZ (d.rw 2)) (d.pick [1,2])
  |error k=>
   have i:=jo j;refine K ?_;refine U<|Ba Xd D (fun w d=>(ju _ _ _ l w (fun R=>(Bx (C JY)) w d) hl).mono fun e W q=>(let⟨t,u,h1,v⟩:=q.2.1 h;⟨t,u,h1,v,q.2.2⟩:∃t u,_∧_∧_)) fun _ e W d ⟨ip,o,he,F,J⟩=>⟨_,_,he,d.own F J,?_⟩
   refine Jd D<|Bc D D<|Bc D D<|K ?_;refine Ci JY D D<|K ?_;refine U<|Ba lg D (fun w d=>mO ip n o l w (d.Ad [0]) (g.below d.A0 (Br _)) (fun k i=>d.apart [0] (g.gg i))) fun _ e W d ⟨jp,G,V,he,q⟩=>⟨_,_,he,d.As [0] [] q,?_⟩
   have T:G≤2:=by have h1:=I3 Gj JZ (q.rw 1);have v:=mo (l:=l);omega
   refine K ?_;refine U<|Ba Pd D (fun w d=>(jG _ _ _ ((sX l).1) w (g.below d.A0 (Br _)) ((BZ 0) w d) A).mono fun e W q=>(⟨q.2.1 _ j,q.2.2⟩:_∧_)) fun _ e W d ⟨he,J⟩=>⟨_,_,he,d.below J,?_⟩
   refine Jd D<|Bc D D<|Bc D D<|U<|Bw SY fun H=>U<|Bk 0 0 5 D D D<|?_;refine K ?_;refine Ix JY D D<|K ?_;refine Gz D D D fun W d=>?_;have f:Tc l=([],[],k):=by unfold Tc;rw[hl,if_pos h];unfold t';rw[j]
   rw[f];exact tF.no d
 ·
  refine K ?_;refine U<|Ba Xd D (fun w d=>(ju _ _ _ l w (fun R=>(Bx (C JY)) w d) hl).mono fun e W q=>(⟨q.1 h,q.2.2⟩:_∧_)) fun _ e W d ⟨he,J⟩=>⟨_,_,he,d.below J,?_⟩
  refine Jd D<|Bc D D<|Bc D D<|K ?_;refine Ix JY D D<|K ?_;refine Gz D D D fun W d=>?_;have f:Tc l=([],[],GD n):=by unfold Tc;rw[hl,if_neg h]
  rw[f];exact tF.no d
theorem sg(q:Option Addr)(n c:Nat)(l:rG)(w:World)(f:DA w)(Df:Ld w)(G:n≠0→View w (I q n c) n 1 (bv l))(hl:l.length=n)(ak:n≤1099511627776):Calls lp 22 #[I q n c] w fun e W=>tK (YB l) w e W:=by
 refine Cg w Ux D 65<|K ?_
 by_cases j:GD n=0
 ·
  have Y:=ff j;have al:=jD j;have C:(sX l).1.length=n:=(ml).trans hl;cases r:s0 (sX l).1 with
  |ok s=>
   have H:=qg r;have an:=R1 H.2;have Z:n=256*s.p:=by rw[H.1,C];omega
   refine K ?_;refine U<|Ba Xd D (fun w d=>(ju _ _ _ l w (fun Q=>(Bx (G JY)) w d) hl).mono fun e W q=>(let⟨v,A,h1,B⟩:=q.2.1 j;⟨v,A,h1,B,q.2.2⟩:∃v A,_∧_∧_)) fun _ e W d ⟨ip,t,he,L,J⟩=>⟨_,_,he,d.own L J,?_⟩
   refine Jd D<|Bc D D<|Bc D D<|K ?_;refine Ci JY D D<|K ?_;refine U<|Ba lg D (fun w d=>mO ip n t l w (d.Ad [0]) (f.below d.A0 (Br _)) (fun k i=>d.apart [0] (f.gg i))) fun _ e W d ⟨jp,M,aa,he,q⟩=>⟨_,_,he,d.As [0] [] q,?_⟩
   have ab:M≤2:=by have h1:=I3 Gj JZ (q.rw 1);have B:=mo (l:=l);omega
   refine K ?_;refine U<|Ba XV D (fun w d=>(pE _ _ _ ((sX l).1) w (f.below d.A0 (Br _)) ((BZ 0) w d) C JY).mono fun e W q=>(⟨q.1 _ r,q.2.2⟩:_∧_)) fun _ e W d ⟨he,J⟩=>⟨_,_,he,d.below J,?_⟩
   refine Jd D<|Bc D D<|Bc D D<|U<|Bw SY fun N=>U<|Bk 0 0 5 D D D<|?_;refine K ?_;refine Ci JY D D<|K ?_;refine DL (fun ad a W=>∃k,∃y:List UInt8,ad=s.m - 2 - k∧AH 65 a (Jb (Jb (Jb (Jb (Jb (Jb Jk 2 (I none 0 0)) 3 (E 0)) 4 (E 0)) 5 (I ip n t)) 7 (S N)) 8 (E (2+k)))∧Sat C1 w [O N (Z1 s) 70,Ae 5 1 (I ip n t) n (bv y)] W∧2+k≤s.m∧(L3 (sX l).1 k).1=y∧y.length=n) (fun a W g d=>⟨0,(sX l).1,D,AY g,d.pick [0,1],JY,D,C⟩) ?_;rintro _ a W ⟨k,y,rfl,g,d,i,P,o⟩;revert a W;refine K ?_;refine AG Bs 2 D<|AZ AF 0 2 D D D<|Ej D D<|Jg<|Jf<|Cz D (fun ae=>?_) fun ae=>?_
   ·
    refine K ?_;cases F:Mo y (2+k)with
    |false=>
     refine K ?_;refine U<|BP QQ D (fun w d=>(Ns _ _ _ (2+k) y w (f.below d.A0 (Br _)) ((BZ 1) w d) o).mono fun e W q=>⟨q.1.trans (congrArg (fun b=>Ending.returned (Value.bool b)) F),q.2⟩)<|Af (Te D)<|K ?_;refine U<|Ba YF D (fun w d=>ov ip n t (2+k) y w (d.Ad [1]) (f.below d.A0 (Br _)) (fun k i=>d.apart [1] (f.gg i))) fun _ e W d ⟨he,q⟩=>⟨_,_,he,d.As [1] [0] q,?_⟩
     refine K ?_;refine B6 (q:=1) D D<|K ?_;exact fun a W g d=>⟨_,JY,k+1,(tk y (2+k)).1,D,AY g,d.pick [1,0],JY,by show(s7 (L3 (sX l).1 k).1 (2+k)).1=_;rw[P,Om F],lo.trans o⟩
    |true=>
     refine K ?_;refine U<|BP QQ D (fun w d=>(Ns _ _ _ (2+k) y w (f.below d.A0 (Br _)) ((BZ 1) w d) o).mono fun e W q=>⟨q.1.trans (congrArg (fun b=>Ending.returned (Value.bool b)) F),q.2⟩)<|Af (Te D)<|K ?_;refine B6 (q:=1) D D<|K ?_;exact fun a W g d=>⟨_,JY,k+1,y,D,AY g,d.pick [0,1],JY,by show(s7 (L3 (sX l).1 k).1 (2+k)).1=_;rw[P,mF F],o⟩
   obtain rfl:k=s.m - 2:=JY;refine K ?_;refine Af (BN Bs 0 D D)<|U<|Ba SI D (fun w d=>uo _ _ _ y s w (f.below d.A0 (Br _)) (Df.sat d) ((BZ 1) w d) o JY JY) fun _ e W d ⟨z,T,Au,p,he,hQ,q⟩=>⟨_,_,he,d.Nk q,?_⟩
   have af:p≤4096:=by have:=hQ.uF;omega
   have R:=hQ.fr.all af;have ao:=hQ.uD;have X:∀x∈z.KE,2≤x∧x<p:=fun x u=>by rw[hQ.fr.KE]at u;have:=lf u;exact⟨this.1,this.2.1⟩
   have ah:∀x∈z.KE,x≤1048576:=fun x u=>by have:=X x u;omega
   have Sf:∀x∈z.KE,2≤x∧(x+1)*256≤n:=fun x u=>by have:=X x u;have:=hQ.uF;omega
   refine Jd D<|Bc D D<|Bc D D<|K ?_;refine U<|Ba Lm D (fun w d=>pt z T Au y p T.n w (d.Ad [0,1]) hQ.fr hQ.uD R) fun _ e W d ⟨he,q⟩=>⟨_,_,he,d.As [0,1] [2,3] q,?_⟩
   refine Jd D<|Bc D D<|Bc D D<|K ?_;refine CQ [0,1,2,3]<|Ab 0 D (AA D)<|Ab 1 D (BN Bs 2 D D)<|Ab 2 D (AA D)<|Ab 3 D (Bp D)<|Ab 4 D (AS sT 8 D)<|Ab 5 D (Bb Lc 0 8 D D D)<|Ab 6 D (AA D)<|Ab 8 D (AA D)<|Bh 7 D<|?_;refine Ba S7 D (fun w d=>fq _ n _ y s z.ap z.KE.length z.ac T.n z.KE w (f.below d.A0 (Br _)) ((BZ 3) w d) o Y ((a8 1) w d) D ⟨JY,R,JY⟩ ah Sf) fun _ e W d ⟨aq,ar,he,ai,J⟩=>⟨_,_,he,d.own ai J,?_⟩
   refine A8 [1,2,3,4]<|Ab 9 D (Ck D)<|Ab 10 D (Ck D)<|Ab 11 D (Ck D)<|Cm<|Jf<|Jq<|Gz D D D fun W d=>?_;have hw:=ur hQ H.2 Z o;have V:=k9 hw;have aj:=(r' hQ hw).2;have g:YB l=(iB y s z.KE T.n,(Lv z T.n).2,0):=by unfold YB;rw[hl,if_pos j];unfold lj;rw[r];show(WC n s (L3 (sX l).1 (s.m - 2)).1 (cN n s (L3 (sX l).1 (s.m - 2)).1),SA n s (L3 (sX l).1 (s.m - 2)).1,0)=_;rw[P,V,←nE hQ hw (Br _),←aj];unfold SA;rw[V];rfl
   rw[g];exact tK.mk (by rw[←nE hQ hw (Br _)];exact Ji.h _) (d.DQ 0) d.A0
  |error k=>
   have i:=rz r;refine K ?_;refine U<|Ba Xd D (fun w d=>(ju _ _ _ l w (fun Q=>(Bx (G JY)) w d) hl).mono fun e W q=>(let⟨v,A,h1,B⟩:=q.2.1 j;⟨v,A,h1,B,q.2.2⟩:∃v A,_∧_∧_)) fun _ e W d ⟨ip,t,he,L,J⟩=>⟨_,_,he,d.own L J,?_⟩
   refine Jd D<|Bc D D<|Bc D D<|K ?_;refine Ci JY D D<|K ?_;refine U<|Ba lg D (fun w d=>mO ip n t l w (d.Ad [0]) (f.below d.A0 (Br _)) (fun k i=>d.apart [0] (f.gg i))) fun _ e W d ⟨jp,M,aa,he,q⟩=>⟨_,_,he,d.As [0] [] q,?_⟩
   have ab:M≤2:=by have h1:=I3 Gj JZ (q.rw 1);have B:=mo (l:=l);omega
   refine K ?_;refine U<|Ba XV D (fun w d=>(pE _ _ _ ((sX l).1) w (f.below d.A0 (Br _)) ((BZ 0) w d) C JY).mono fun e W q=>(⟨q.2.1 _ r,q.2.2⟩:_∧_)) fun _ e W d ⟨he,J⟩=>⟨_,_,he,d.below J,?_⟩
   refine Jd D<|Bc D D<|Bc D D<|U<|Bw SY fun N=>U<|Bk 0 0 5 D D D<|?_;refine K ?_;refine Ix JY D D<|K ?_;refine Gz D D D fun W d=>?_;have g:YB l=([],0,k):=by unfold YB;rw[hl,if_pos j];unfold lj;rw[r]
   rw[g];exact tK.no d.A0
 ·
  refine K ?_;refine U<|Ba Xd D (fun w d=>(ju _ _ _ l w (fun Q=>(Bx (G JY)) w d) hl).mono fun e W q=>(⟨q.1 j,q.2.2⟩:_∧_)) fun _ e W d ⟨he,J⟩=>⟨_,_,he,d.below J,?_⟩
  refine Jd D<|Bc D D<|Bc D D<|K ?_;refine Ix JY D D<|K ?_;refine Gz D D D fun W d=>?_;have g:YB l=([],0,GD n):=by unfold YB;rw[hl,if_neg j]
  rw[g];exact tK.no d.A0
section
variable {Bj AK ib n c p j:Nat} {l:rG} {u:Fr.Bu} {w:World}
theorem mj(h:p<2):Mo l p=(Fr.DP (Dc l p)).isSome:=by unfold Mo;rw[if_pos h,OL]
theorem mz(h:¬p<2):Mo l p=Fr.CZ p (Dc l p):=by unfold Mo;rw[if_neg h,OL]
theorem pq(h:p<2):ME l p=At.last (At.EG 60) (At.C5 ((Dc l p).take 64) 60):=by
 unfold ME IQ;rw[if_pos h,OL,←At.qQ (AI l p) 60]
theorem oq(h:¬p<2):ME l p=At.last (At.EG 252) (At.C5 (Dc l p) 252):=by
 unfold ME IQ;rw[if_neg h,OL]
theorem rW(h:ME l p=none):tk l p=(l,false):=by unfold tk;rw[h]
theorem q7(h:ME l p=some j)(a:Mo (F5 l p j) p=true):tk l p=(F5 l p j,true):=by unfold tk;rw[h];exact if_pos a
theorem gh(h:ME l p=some j)(a:Mo (F5 l p j) p=false):tk l p=(l,false):=by unfold tk;rw[h];exact if_neg (by rw[a];decide)
theorem kT(h:Bj≤w.heap.size)(g:BS Bj AK ib n c w l u)(k:n≤1048576:=by omega)(b:p<2:=by omega)(m:256*(p+1)≤n:=by omega):
 Calls Tryz.prog 40 #[Value.pointer (some ⟨AK,0,none⟩),Value.int .i64 ((p:Nat):Int)] w fun e w'=>e=.returned (.bool (FF l p).2)∧BS Bj AK ib n c w' (FF l p).1 u∧Cu (EM AK ib) w w'∧Below Bj w w':=by
 have hl:=g.len;have t:(AI l p).length=256:=En;cases f:Fr.DP (Dc l p)with
 |some s=>
  have a:Mo l p=true:=by rw[mj b,f];rfl
  refine(g5 h g k m f).mono ?_;rintro e w' ⟨ch,rfl,h1,v,q⟩;have e:FF l p=(GW l p 192,ch):=by
   refine mq (mF a) a t ?_;rw[DV (by rw[J3];omega),Bool.false_or,←OL];cases ch with
   |true=>
    obtain⟨i,i1,i2,i3⟩:=h1 D;cases y:Fr.CN ((Dc l p).drop 64)with
    |false=>rfl
    |true=>exact absurd (X9 y i1 i2 JY) i3
   |false=>
    have:Fr.CN ((Dc l p).drop 64)=true:=by
     rw[Vu];intro x z;obtain⟨i,V⟩:=List.getElem?_of_mem z;rw[Q1,fU]at V;split at V
     ·have:=v D (64+i) JY JY;rw[Dm,V]at this;exact this
     ·cases V
    rw[this];rfl
  rw[e];exact⟨D,q⟩
 |none=>
  have a:Mo l p=false:=by rw[mj b,f];rfl
  cases d:At.last (At.EG 60) (At.C5 ((Dc l p).take 64) 60)with
  |none=>
   refine(fx h g k m d f).mono ?_;rintro e w' ⟨rfl,q⟩;have hu:s7 l p=(l,false):=(Om a).trans (rW ((pq b).trans d));rw[m5 hu a];exact⟨D,q⟩
  |some j=>
   have hj:j<512:=((F9.Yd 60 _ j).1 (F9.XZ _ d)).1;cases o:Fr.DP (Dc (At.bit l (2048*p+j)) p)with
   |none=>
    refine(eB h g k m f d hj o).mono ?_;rintro e w' ⟨rfl,q⟩;have hu:s7 l p=(l,false):=(Om a).trans (gh ((pq b).trans d) (by rw[mj b];show(Fr.DP (Dc (At.bit l (2048*p+j)) p)).isSome=_;rw[o];rfl));rw[m5 hu a];exact⟨D,q⟩
   |some s=>
    refine(bJ h g k m f d hj o).mono ?_;rintro e w' ⟨rfl,q⟩;have r:Mo (F5 l p j) p=true:=by rw[mj b];show(Fr.DP (Dc (At.bit l (2048*p+j)) p)).isSome=_;rw[o];rfl
    have hu:s7 l p=(F5 l p j,true):=(Om a).trans (q7 ((pq b).trans d) r);rw[mq (GA:=true) hu r (En (by rw[ua];omega)) D];exact⟨D,q⟩
theorem q5(g:Bj≤w.heap.size)(f:BS Bj AK ib n c w l u)(h:n≤1048576)(o:2≤p)(i:256*(p+1)≤n):
 Calls Tryz.prog 42 #[Value.pointer (some ⟨AK,0,none⟩),Value.int .i64 ((p:Nat):Int)] w fun e w'=>e=.returned (.bool (s7 l p).2)∧BS Bj AK ib n c w' (s7 l p).1 u∧Cu (EM AK ib) w w'∧Below Bj w w':=by
 have hl:=f.len;have a:¬p<2:=JY;cases d:Fr.CZ p (Dc l p)with
 |true=>
  refine(gO g f h i d).mono ?_;rintro e w' ⟨rfl,q⟩;rw[mF ((mz a).trans d)];exact⟨D,q⟩
 |false=>
  have m:=(mz (l:=l) a).trans d;cases b:At.last (At.EG 252) (At.C5 (Dc l p) 252)with
  |none=>
   refine(c_ g f h i d b).mono ?_;rintro e w' ⟨rfl,q⟩;rw[Om m,rW ((oq a).trans b)];exact⟨D,q⟩
  |some j=>
   have hj:j<2048:=((F9.Yd 252 _ j).1 (F9.XZ _ b)).1;cases k:Fr.CZ p (Dc (At.bit l (2048*p+j)) p)with
   |false=>
    refine(ed g f h i d b hj k).mono ?_;rintro e w' ⟨rfl,q⟩;rw[Om m,gh ((oq a).trans b) ((mz a).trans k)];exact⟨D,q⟩
   |true=>
    refine(iF g f h i d b hj k).mono ?_;rintro e w' ⟨rfl,q⟩;rw[Om m,q7 ((oq a).trans b) ((mz a).trans k)];exact⟨D,q⟩
theorem sQ{a b d f g h i j:Value}{W:World}{H:List Atom}(q:Sat (A6 [O AK (ZK ib n c u a b d f g h i j) 118,Ae 5 1 (I (some ⟨ib,0,none⟩) n c) n (bv l)]) w H W):Cu (EM AK ib) w W:=
 ⟨q.GA.os,q.GA.tape,q.GA.output,q.GA.size,fun k m o=>q.GA.block k m (fun z=>o (by
   rcases K4.1 z with e|e
   ·exact .inl e
   ·cases e;exact .inr D))⟩
theorem oE{W:World}{p q:Option Addr}{n c m k:Nat}{xs CP:List Value}(o:Below w.heap.size w W)(d:W.ownsRow w.heap.size 5 1 (I p n c) n xs)(e:W.ownsRow w.heap.size 3 1 (I q m k) m CP)(f:∀j,(I q m k).ownBlock=some j→¬(I p n c).ownBlock=some j):Sat C1 w [Ae 5 1 (I p n c) n xs,Ae 3 1 (I q m k) m CP] W:=by
 refine⟨C7.Ot o,fun i A h=>?_,fun i A h j hj=>?_,fun i b A A' g h a j hj l=>?_⟩
 ·match i,h with
  |0,h=>cases h;exact Ew d (F2 _)
  |1,h=>cases h;exact Ew e (F2 _)
  |i+2,h=>simp at h
 ·match i,h with
  |0,h=>cases h;exact .inr (d.lt j hj).1
  |1,h=>cases h;exact .inr (e.lt j hj).1
  |i+2,h=>simp at h
 ·match i,b,h,a with
  |0,0,_,_=>exact g D
  |1,1,_,_=>exact g D
  |0,1,h,a=>cases h;cases a;exact f j l hj
  |1,0,h,a=>cases h;cases a;exact f j hj l
  |i+2,_,h,_=>simp at h
  |0,b+2,_,a=>simp at a
  |1,b+2,_,a=>simp at a
theorem fp(d:Bj≤w.heap.size)(a:BS Bj AK ib n c w l u)(f:768≤n∧n≤1048576∧n % 256=0):Calls Tryz.prog 34 #[S AK] w fun e W=>∃(s:Fr.Bu),e=.returned (E (mV (sY l)))∧(∀b,sY l=.ok b→s=b)∧BS Bj AK ib n c W l s∧Cu (EM AK ib) w W∧Below Bj w W:=by
 have g:=a.cap;obtain⟨i,j,k,m,o,p,r,t,h⟩:=a;refine(oT AK ib n c u i j k m o p r t l w (UM h) f g.1).mono ?_;rintro e W ⟨s,he,v,q⟩;have J:=V_ d h q;exact⟨s,he,v,J.1,sQ q,J.2⟩
theorem g4(d:Bj≤w.heap.size)(a:BS Bj AK ib n c w l u)(f:768≤n∧n≤1048576∧n % 256=0):Calls Tryz.prog 41 #[S AK] w fun e W=>∃(s:Fr.Bu),e=.returned (E (mV (s0 l)))∧(∀b,s0 l=.ok b→s=b)∧BS Bj AK ib n c W l s∧Below Bj w W:=by
 have g:=a.cap;obtain⟨i,j,k,m,o,p,r,t,h⟩:=a;refine(sn AK ib n c u i j k m o p r t l w (UM h) f g.1).mono ?_;rintro e W ⟨s,he,v,q⟩;exact⟨s,he,v,V_ d h q⟩
theorem oh{s:Fr.Bu}(a:sY l=.ok s)(b:Bj≤w.heap.size)(d:BS Bj AK ib n c w l u)(f:768≤n∧n≤1048576∧n % 256=0:=by omega):Calls Tryz.prog 34 #[S AK] w fun e W=>e=.returned (E 0)∧BS Bj AK ib n c W l s∧Cu (EM AK ib) w W∧Below Bj w W:=(fp b d f).mono fun e W ⟨i,h1,g,h⟩=>by
 obtain rfl:=g _ a;exact⟨h1.trans (by rw[a];rfl),h⟩
theorem nG{k:Nat}(a:sY l=.error k)(b:Bj≤w.heap.size)(d:BS Bj AK ib n c w l u)(f:768≤n∧n≤1048576∧n % 256=0:=by omega):Calls Tryz.prog 34 #[S AK] w fun e W=>∃s,e=.returned (E k)∧BS Bj AK ib n c W l s∧Cu (EM AK ib) w W∧Below Bj w W:=(fp b d f).mono fun e W ⟨g,h1,i,h⟩=>⟨g,h1.trans (by rw[a];rfl),h⟩
theorem pk{s:Fr.Bu}(a:s0 l=.ok s)(b:Bj≤w.heap.size)(d:BS Bj AK ib n c w l u)(f:768≤n∧n≤1048576∧n % 256=0):Calls Tryz.prog 41 #[S AK] w fun e W=>e=.returned (E 0)∧BS Bj AK ib n c W l s∧Below Bj w W:=(g4 b d f).mono fun e W ⟨i,h1,g,h⟩=>by
 obtain rfl:=g _ a;exact⟨h1.trans (by rw[a];rfl),h⟩
theorem lr{k:Nat}(a:s0 l=.error k)(b:Bj≤w.heap.size)(d:BS Bj AK ib n c w l u)(f:768≤n∧n≤1048576∧n % 256=0):Calls Tryz.prog 41 #[S AK] w fun e W=>∃s,e=.returned (E k)∧BS Bj AK ib n c W l s∧Below Bj w W:=(g4 b d f).mono fun e W ⟨g,h1,i,h⟩=>⟨g,h1.trans (by rw[a];rfl),h⟩
end
