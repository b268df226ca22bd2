/- Laws and walks on the road to SalvagePlays (part M34). No conditions beyond each law's own. -/
import Derived.Test.YtjdboncaegphmaaGreatDoorM33
set_option linter.unusedVariables false
namespace Go.Proofs.YtjdboncaegphmaaGreatDoor
open Go.RowKit
set_option maxRecDepth 100000
set_option maxHeartbeats 2000000
def BF.Em(z:BF)(p:Nat):B9:=(z.rs[p]?).getD G.DX
def Zj(z:BF)(i:Nat):Prop:=(z.Em (G.at_ z.KE (i+1))).f=(z.Em (G.at_ z.KE 1)).f∧(z.Em (G.at_ z.KE (i+1))).v=(if 0<(z.Em (G.at_ z.KE 1)).f then(z.Em (G.at_ z.KE 1)).f+(i+1) - 1 else i+1)∧(z.Em (G.at_ z.KE (i+1))).uU=G.at_ z.KE i∧(z.Em (G.at_ z.KE (i+1))).uW=G.at_ z.KE ((i+1)&&&(i+1 - 1))
instance (z:BF) (i:Nat):Decidable (Zj z i):=by unfold Zj;exact inferInstance
theorem dI{z:BF}{i q:Nat}(h:z.KE[i]? =some q):G.at_ z.KE (i+1)=q:=by
 have:=(EH.1 h).1;unfold G.at_;rw[if_pos JY,Yp,Dm,h];rfl
theorem tu{z:BF}{p:Nat}{y:B9}(h:z.rs[p]? =some y):z.Em p=y:=by unfold BF.Em;rw[h];rfl
theorem og(a b:Nat):a&&&b≤a:=Nat.and_le_left
theorem rX(z:BF)(T Au:BX)(i q Ll:Nat)(y s6:B9)(w:World)(g:BE [Ez z T Au,Gb z] w)(l:tG z)(p:z.KE[i]? =some q)(c:z.rs[q]? =some y)(r:z.KE[0]? =some Ll)(d:z.rs[Ll]? =some s6)(C:z.KE.length≤4096)(H:y.f≤1099511627776∧y.v≤1099511627776)(I:s6.f≤1099511627776):Calls Tryz.prog 110 #[S z.Q,E i] w fun e W=>e=.returned (.bool (decide (Zj z i)))∧Sat (A6 [Ez z T Au,Gb z]) w [Ez z T Au,Gb z] W:=by
 have J:=l.vr;have M:=l.vB;have P:=l.n;have R:=l.w;have h:=dI p;have j:=dI r;have V:=(EH.1 p).1;have U:=(EH.1 c).1;have X:=(EH.1 d).1;have Y:=og (i+1) (i+1 - 1);refine Cb g V' D 69 fun F hF=>K ?_;refine CQ [0,1]<|Ab 0 D (AA D)<|Ab 1 D (Bp D)<|Ab 2 D (AS sT 7 D)<|Ab 3 D (Bb W2 0 7 D D D)<|Ab 4 D (AA D)<|Ab 5 D (Bp D)<|Ab 6 D (AS sT 8 D)<|Ab 7 D (Bb Lc 0 8 D D D)<|Ab 8 D (AA D)<|Ab 9 D (Dj G0 i i (a8 1) D D)<|Ab 10 D (J1 AF Gj i p (a8 1) D D)<|Ab 11 D (Dj TT q (q*38) (ik 1) D D)<|Ab 12 D (LH sP Wh q 0 7 (ab y) c (ik 1) D D)<|Bh 13 D<|Bw Yc fun s=>A8 [1,2]<|Bh 14 D<|Bk 0 0 7 D D D<|?_;refine A8 [1,2]<|Cm<|Jf<|Je<|GR<|zs (AA D)<|zs (Bp D)<|zs (AS sT 7 D)<|zs (Bb W2 1 7 D D D)<|zs (AA D)<|zs (Bp D)<|zs (AS sT 8 D)<|zs (Bb Lc 1 8 D D D)<|zs (Dj G0 0 0 (a8 2) D D)<|zs (J1 AF Gj 0 r (a8 2) D D)<|zs (Dj TT Ll (Ll*38) (ik 2) D D)<|zs (Nd sP (Ll*38+1) D)<|zs (Q8 AF Wh Ll 1 d (ik 2) D D D)<|zs (Ck D)<|CS<|K ?_;refine B6 (q:=1) D D<|Js D<|Jg<|Jf<|Gq (fun a W=>∃(m:Nat),AH 69 a (Jb (Jb (Jb (Jb (Jb (Jb Jk 0 (S z.Q)) 1 (E i)) 4 (C' false)) 5 (S s)) 6 (E s6.f)) 7 (E m))∧Sat F w [O s (ab y) 142,Ez z T Au,Gb z] W∧m=(if 0<s6.f then s6.f+(i+1) - 1 else i+1)) ?_ ?_
 ·
  refine K ?_;refine Mp D D<|Jg<|Jf<|Cz D (fun B=>?_) fun B=>?_
  ·
   refine K ?_;refine B6 D D<|K ?_;exact fun a W o b=>⟨s6.f+i,AY o,b.pick [0,1,2],by split<;>omega⟩
  refine Jy<|Jf<|?_;exact fun a W o b=>⟨i+1,AY o,b.pick [0,1,2],by split<;>omega⟩
 rintro a W ⟨m,o,b,k⟩;revert a W;refine Je<|G9<|AR (AS sP 1 D)<|AR (Bb AF 0 1 D D D)<|AR (AA D)<|?_
 by_cases t:((y.f:Nat):Int)=((s6.f:Nat):Int)
 ·
  refine AR (OY t D D)<|AR (AA D)<|B2 D D D<|AR (AS sP 0 D)<|B2 D D D<|AR (Bb AF 0 0 D D D)<|B2 D D D<|AR (AA D)<|B2 D D D<|?_
  by_cases u:((y.v:Nat):Int)=((m:Nat):Int)
  ·
   refine AR (OY u D D)<|AR (D' D D)<|AR (AA D)<|B2 D D D<|AR (AS sP 2 D)<|B2 D D D<|AR (Bb AF 0 2 D D D)<|B2 D D D<|AR (AA D)<|B2 D D D<|AR (AA D)<|B2 D D D<|KK L_ D [1,2] (H1:=[Ez z T Au,Gb z]) (fun w g=>py z T Au i w g)<|B2 D D D<|?_
   by_cases x:((y.uU:Nat):Int)=((G.at_ z.KE i:Nat):Int)
   ·
    refine AR (OY x D D)<|AR (D' D D)<|AR (AA D)<|B2 D D D<|AR (AS sP 3 D)<|B2 D D D<|AR (Bb AF 0 3 D D D)<|B2 D D D<|AR (AA D)<|B2 D D D<|AR (AA D)<|B2 D D D<|AR (Pc (q:=1) D D)<|B2 D D D<|MB Up D (fun w b=>nU (i+1) w)<|B2 D D D<|KK L_ D [1,2] (H1:=[Ez z T Au,Gb z]) (fun w g=>py z T Au ((i+1)&&&((i+1) - 1)) w g)<|B2 D D D<|?_
    by_cases A:((y.uW:Nat):Int)=((G.at_ z.KE ((i+1)&&&((i+1) - 1)):Nat):Int)
    ·
     refine AR (OY A D D)<|AR (D' D D)<|AR (Ck D)<|Er<|A7 ?_;intro W b;subst hF;exact⟨CT ((decide_eq_true (by unfold Zj;rw[h,j,tu c,tu d,←k];omega)).symm),b.pick [1,2]⟩
    refine AR (M6 A D D)<|AR (D' D D)<|AR (Ck D)<|Er<|A7 ?_;intro W b;subst hF;exact⟨CT ((decide_eq_false (by unfold Zj;rw[h,j,tu c,tu d,←k];omega)).symm),b.pick [1,2]⟩
   refine AR (M6 x D D)<|AR (D' D D)<|AR (AA D)<|Bq D D D D<|Bq D D D D<|Bq D D D D<|Bq D D D D<|Bq D D D D<|Bq D D D D<|Bq D D D D<|Bq D D D D<|AR (EK D D)<|AR (Ck D)<|Er<|A7 ?_;intro W b;subst hF;exact⟨CT ((decide_eq_false (by unfold Zj;rw[h,j,tu c,tu d,←k];omega)).symm),b.pick [1,2]⟩
  refine AR (M6 u D D)<|AR (D' D D)<|AR (AA D)<|Bq D D D D<|Bq D D D D<|Bq D D D D<|Bq D D D D<|Bq D D D D<|Bq D D D D<|AR (EK D D)<|AR (AA D)<|Bq D D D D<|Bq D D D D<|Bq D D D D<|Bq D D D D<|Bq D D D D<|Bq D D D D<|Bq D D D D<|Bq D D D D<|AR (EK D D)<|AR (Ck D)<|Er<|A7 ?_;intro W b;subst hF;exact⟨CT ((decide_eq_false (by unfold Zj;rw[h,j,tu c,tu d,←k];omega)).symm),b.pick [1,2]⟩
 refine AR (M6 t D D)<|AR (AA D)<|Bq D D D D<|Bq D D D D<|Bq D D D D<|Bq D D D D<|AR (EK D D)<|AR (AA D)<|Bq D D D D<|Bq D D D D<|Bq D D D D<|Bq D D D D<|Bq D D D D<|Bq D D D D<|AR (EK D D)<|AR (AA D)<|Bq D D D D<|Bq D D D D<|Bq D D D D<|Bq D D D D<|Bq D D D D<|Bq D D D D<|Bq D D D D<|Bq D D D D<|AR (EK D D)<|AR (Ck D)<|Er<|A7 ?_;intro W b;subst hF;exact⟨CT ((decide_eq_false (by unfold Zj;rw[h,j,tu c,tu d,←k];omega)).symm),b.pick [1,2]⟩
structure O0 (x:B9):Prop where
 v:x.v≤1099511627776
 f:x.f≤1099511627776
 r:x.r≤4096
 c:x.c≤4096
def HW(o:Option Nat)(ss:List (List Value))(T:TypeId):Atom:=match o with
 |some b=>O b ss T
 |none=>⟨fun _=>False,fun _=>True,fun _ _ _ h=>h.elim,fun _ _ _ _ _=>trivial⟩
theorem gz{N:Nat}{f:BW}{F:Nat→Prop}{w0:World}{H:List Atom}{A5:Act→World→Prop}(ss:List (List Value))(T:TypeId)(h:AT N f F w0 (HW none ss T::H) A5):AT N f F w0 H A5:=fun a w b c=>h a w b (c.new (Cn _ _) trivial (fun k e=>e.elim))
theorem Sat.ak{F:Nat→Prop}{w:World}{H:List Atom}(s:Sat F w H w):∀k,A6 H k→F k:=by
 rintro k ⟨p,A,a,b⟩;exact(s.u4 p A a k b).resolve_right (fun q=>by have:=A.lt w (s.at_ p A a) k b;omega)
attribute [local irreducible] G.through AL.bare G.version
theorem We(Q:Nat)(z:Dl)(C a B:BX)(Av Bt:Nat)(Z:Nat→Option Bf)(Ax:Nat→Option B9)(As b:List Nat)(o:Option Nat)(v1 v2:Value)(AJ:List (G.Ae×Nat))(AO:List (Jc×Nat))(i:Nat)(x xa:B9)(w:World)(A:BE ((NY Q z C a B Av Z Bt Ax As b++[HW o [[v1],[v2]] 265,AQ 273 AM v1 (G.get AJ),AQ 48 AP v2 (G.get AO)])) w)(D:CG w)(F:∀k,CB k→¬A6 ((NY Q z C a B Av Z Bt Ax As b++[HW o [[v1],[v2]] 265,AQ 273 AM v1 (G.get AJ),AQ 48 AP v2 (G.get AO)])) k)(hw:z.w≤32)(CM:∀p x,Z p=some x→Ge x∧2≤p∧p≤4096)(H:Ax (G.at_ As i)=some x)(J:Ax (G.at_ As 1)=some xa)(K:C.n≤4096)(L:∀q∈As,q≤4096)(M:a.n+1=i)(N:i≤4096)(l:O0 x)(O:O0 xa)(ho:(i=1∧o=none∧AJ=[]∧AO=[])∨(2≤i∧∃m,o=some m∧b[i - 2]? =some m))(hOr:FB Z AJ)(P:F7 Z AO):Calls Tryz.prog 158 #[S Q,E i] w fun e W=>(∀o',G.version z.w (fun p=>(Z p).map Bf.AW) (fun p=>(Ax p).getD G.DX) As (AJ,AO) i=some o'→∃d j s t u,e=.returned (.bool true)∧j.n=a.n+1∧Sat (A6 ((NY Q z C a B Av Z Bt Ax As b++[HW o [[v1],[v2]] 265,AQ 273 AM v1 (G.get AJ),AQ 48 AP v2 (G.get AO)]))) w (Ay Q z C j AE d::(jM z d Av Z Bt Ax C As++[Ae 261 1 (I j.p j.n j.c) j.n (Aq CC (b++[s])),HW (some s) [[t],[u]] 265,AQ 273 AM t (G.get o'.1),AQ 48 AP u (G.get o'.2)])) W)∧(G.version z.w (fun p=>(Z p).map Bf.AW) (fun p=>(Ax p).getD G.DX) As (AJ,AO) i=none→∃g y d,e=.returned (.bool false)∧1≤g.n∧g.n≤1048576∧Sat (A6 ((NY Q z C a B Av Z Bt Ax As b++[HW o [[v1],[v2]] 265,AQ 273 AM v1 (G.get AJ),AQ 48 AP v2 (G.get AO)]))) w (Ay Q z C a g d::(jM z d Av Z Bt Ax C As++[Ae 237 2 (I g.p g.n g.c) g.n (Aq BQ y)])) W):=by
 rcases ho with⟨V,rfl,rfl,rfl⟩|⟨V,m,rfl,R⟩
 ·have s1:=(Sat.begin A).pick (H':=(NY Q z C a B Av Z Bt Ax As b)) [0,1,2,3,4,5];have sub:=s1.ak;refine(aj Q z C a B Av Bt Z Ax As b i x xa w s1.hold D (fun k T q=>F k T (sub k q)) hw CM H J K L V M N l.v O.f l.r l.c).mono ?_;rintro e W ⟨h1,U⟩;refine⟨fun o' h=>?_,fun h=>?_⟩
  ·obtain⟨d,j,s,t,u,he,X,q⟩:=h1 o' h;exact⟨d,j,s,t,u,he,X,q.mono sub⟩
  ·obtain⟨g,y,d,he,d1,d2,q⟩:=U h;exact⟨g,y,d,he,d1,d2,q.mono sub⟩
 ·exact ea Q z C a B Av Bt Z Ax As b m v1 v2 AJ AO i x xa w A D F hw CM H J K L V M N l.v O.f l.r l.c R hOr P
theorem YE{W:Nat}{nd:Nat→Option G.Dh}{rc:Nat→B9}{ch:List Nat}{j:Nat}(h:G.EO W nd rc ch j=none):∀n,j≤n→G.EO W nd rc ch n=none:=by
 intro n b
 induction n with
 |zero=>rw[show j=0 by omega]at h;exact h
 |succ n a=>
  by_cases e:j=n+1
  ·subst e;exact h
  ·rw[G.EO,a JY];rfl
def La(W:Nat)(Z:Nat→Option Bf)(Ax:Nat→Option B9)(As:List Nat)(m h:Nat):Bool:=match G.EO W (fun p=>(Z p).map Bf.AW) (fun p=>(Ax p).getD G.DX) As As.length with
 |none=>false
 |some _=>!decide (max 1 (G.at_ As As.length)+1<m)&&!(decide (0<As.length)&&!decide (h=max 1 (G.at_ As As.length)))
theorem VD{As:List Nat}{Ax:Nat→Option B9}(a:∀p∈As,∃x,Ax p=some x){i:Nat}(h:i<As.length):∃x,Ax (G.at_ As (i+1))=some x:=by
 unfold G.at_;rw[if_pos ⟨JY,JY⟩,Dm,Yp,F3 h];exact a _ (PV h)
theorem iZ(Q:Nat)(z:Dl)(C B:BX)(Av Bt:Nat)(Z:Nat→Option Bf)(Ax:Nat→Option B9)(As:List Nat)(w:World)(H:BE (Ay Q z C AE AE B::jM z B Av Z Bt Ax C As) w)(J:CG w)(ag:∀k,CB k→¬A6 (Ay Q z C AE AE B::jM z B Av Z Bt Ax C As) k)(hw:z.w≤32)(CM:∀p x,Z p=some x→Ge x∧2≤p∧p≤4096)(FJ:∀p x,Ax p=some x→O0 x)(Y:∀p∈As,∃x,Ax p=some x)(P:C.n≤4095)(R:∀q∈As,q≤4096)(hm:z.m≤4096):Calls Tryz.prog 131 #[S Q] w fun e W=>∃aa ah d ai,e=.returned (.tuple #[])∧(d.n=0↔La z.w Z Ax As z.m z.h=true)∧d.n≤1048576∧Sat (A6 (Ay Q z C AE AE B::jM z B Av Z Bt Ax C As)) w (Ay Q z C ah d aa::(jM z aa Av Z Bt Ax C As++[Ae 237 2 (I d.p d.n d.c) d.n (Aq BQ ai)])) W:=by
 have L:∀F,A6 (Ay Q z C AE AE B::jM z B Av Z Bt Ax C As)=F→∀k,CB k→¬F k:=fun F hF k aj q=>ag k aj (hF▸q);have M:As.length=C.n:=I3 Gj JZ (H.at_ 4 _ D);have aE:=Lx R C.n;have P:C.n≤4096:=JY;refine Cb H uy D 58 fun F hF=>K ?_;refine By D<|AG Kp 8 D<|AZ Lc 0 8 D D D<|Cr Lc D<|K ?_;refine Dr 261 1 (Aq CC [])<|gz [[Value.map none],[Value.map none]] 265<|Rh 48 AP<|Rh 273 AM<|I_ 1 (AQ 48 AP (Value.map none) (G.get [])) D D<|I_ 0 (AQ 273 AM (Value.map none) (G.get [])) D D<|DL (fun ak a W=>∃(i:Nat) (Di:BX) (Cd:BX) (o:Option Nat) (y:Value) (A:Value) (DQ:List (G.Ae×Nat)) (ol:List (Jc×Nat)) (f:List Nat),ak=C.n - i∧AH 58 a (Jb (Jb (Jb Jk 0 (S Q)) 8 (E C.n)) 9 (E i))∧Sat F w [AQ 273 AM y (G.get DQ),AQ 48 AP A (G.get ol),HW o [[y],[A]] 265,Ae 261 1 (I Cd.p Cd.n Cd.c) Cd.n (Aq CC f),Ay Q z C Cd AE Di,A1 z.w Di,AN z.AU Av Z,Ap Tryz.prog 3 Am BT z.uL Bt Ax,Ae 3 1 (I C.p C.n C.c) C.n (Aq Bm As)] W∧i≤C.n∧Cd.n=i∧f.length=i∧((i=0∧o=none∧DQ=[]∧ol=[])∨(0<i∧∃r,o=some r∧f[i - 1]? =some r))∧G.EO z.w (fun p=>(Z p).map Bf.AW) (fun p=>(Ax p).getD G.DX) As i=some (DQ,ol)∧FB Z DQ∧F7 Z ol) (fun a W N b=>⟨0,B,AE,none,.map none,.map none,[],[],[],D,AY N,b.pick [0,1,2,3,4,5,6,7,8],JY,D,D,.inl ⟨D,D,D,D⟩,D,FB.nil,F7.nil⟩) ?_;rintro _ a W ⟨i,Di,Cd,o,y,A,DQ,ol,f,rfl,N,b,V,aG,ab,ho,s,O,ad⟩;revert a W;refine Je<|Jh<|Ej D D<|Jg<|Jf<|Je<|Cz D (fun al=>?_) fun al=>?_
 ·
  refine K ?_;obtain⟨x,t⟩:=VD Y (i:=i) JY;obtain⟨xa,u⟩:=VD Y (i:=0) JY;cases v:G.version z.w (fun p=>(Z p).map Bf.AW) (fun p=>(Ax p).getD G.DX) As (DQ,ol) (i+1)with
  |none=>
   refine K ?_;refine B6 (q:=1) D D<|U<|Ba Xp D (fun w b=>(We Q z C Cd Di Av Bt Z Ax As f o y A DQ ol (i+1) x xa w (b.Ad [4,5,6,7,8,3,2,0,1]) (J.sat b (L F hF)) (b.Eb J (L F hF) [4,5,6,7,8,3,2,0,1]) hw CM t u P R JY JY (FJ _ _ t) (FJ _ _ u) (by rcases ho with⟨h1,g,l,T⟩|⟨h1,r,g,l⟩;exact .inl ⟨JY,g,l,T⟩;exact .inr ⟨JY,r,g,l⟩) O ad).mono fun e W q=>q.2 v) fun _ e W b ⟨an,ao,aq,he,aH,aI,q⟩=>⟨_,_,he,b.As [4,5,6,7,8,3,2,0,1] [] q,?_⟩
   refine Af (Te D)<|K ?_;refine Ff fun W b=>?_;subst hF;refine⟨aq,Cd,an,ao,D,⟨fun h=>JY,fun h=>?_⟩,JY,b.pick [0,1,2,3,4,5]⟩;unfold La at h;rw[YE (j:=i+1) (by rw[G.EO,s];exact v) As.length JY]at h;cases h
  |some on=>
   refine K ?_;refine B6 (q:=1) D D<|U<|Ba Xp D (fun w b=>(We Q z C Cd Di Av Bt Z Ax As f o y A DQ ol (i+1) x xa w (b.Ad [4,5,6,7,8,3,2,0,1]) (J.sat b (L F hF)) (b.Eb J (L F hF) [4,5,6,7,8,3,2,0,1]) hw CM t u P R JY JY (FJ _ _ t) (FJ _ _ u) (by rcases ho with⟨h1,g,l,T⟩|⟨h1,r,g,l⟩;exact .inl ⟨JY,g,l,T⟩;exact .inr ⟨JY,r,g,l⟩) O ad).mono fun e W q=>q.1 _ v) fun _ e W b ⟨ar,au,X,av,aw,he,aJ,q⟩=>⟨_,_,he,b.As [4,5,6,7,8,3,2,0,1] [] q,?_⟩
   refine Af (Te D)<|K ?_;refine B6 (q:=1) D D<|K ?_;exact fun a W N b=>⟨_,JY,i+1,ar,au,some X,av,aw,on.1,on.2,f++[X],D,AY N,b.pick [7,8,6,5,0,1,2,3,4],JY,JY,by rw[Gd,ab];rfl,.inr ⟨JY,X,D,by rw[Yp,←ab];exact lR⟩,by rw[G.EO,s];exact v,(Vt CM t u O v).1,(Vt CM t u O v).2⟩
 obtain rfl:i=C.n:=JY;refine K ?_;refine By D<|AG Kp 8 D<|AZ Lc 4 8 D D D<|Cr Lc D<|U<|Cx Qf D [4,8] (H1:=[Ay Q z C Cd AE Di,Ae 3 1 (I C.p C.n C.c) C.n (Aq Bm As)]) (fun w H=>HX Q z C Cd AE Di C.n As w H)<|Af (Mn D D (((max 1 (G.at_ As C.n)):Nat):Int))<|K ?_;refine B6 (q:=1) D D<|Jd D<|By D<|AG Kp 1 D<|AG Bs 3 D<|AZ AF 4 3 D D D<|Ej D D<|K ?_;refine Cz D (fun ax=>?_) fun ax=>?_
 ·
  refine K ?_;refine B6 (q:=1) D D<|U<|Dr 237 2 (Aq BQ [])<|?_;refine Ba P1 D (fun w b=>EZ Q z C Cd AE Di ((max 1 (G.at_ As C.n))+1) 172 ([]) w (b.Ad [5,0])) fun _ e W b ⟨ae,ay,he,az,q⟩=>⟨_,_,he,b.As [5,0] [1,2,3,4,6,7,8,9] q,?_⟩
  have aK:ae.n=1:=az;refine Jg<|JA<|Jt<|Ff fun W b=>?_;subst hF;refine⟨Di,Cd,ae,ay,D,⟨fun h=>JY,fun h=>?_⟩,JY,b.pick [0,6,7,8,9,1]⟩;unfold La at h;rw[M,s]at h;simp at h;omega
 refine K ?_;refine By D<|AG Kp 8 D<|AZ Lc 4 8 D D D<|Cr Lc D<|Kl D D (fun aA=>?_) fun aA=>?_
 ·
  refine K ?_;refine By D<|Jj D D D<|AG Kp 1 D<|Jj D D D<|AG Bs 4 D<|Jj D D D<|AZ AF 4 4 D D D<|K ?_;refine Li D D (fun aB=>?_) fun aB=>?_
  ·
   refine K ?_;refine Jt<|Ff fun W b=>?_;subst hF;exact⟨Di,Cd,AE,[],D,⟨fun _=>(by unfold La;rw[M,s];simp;omega),fun _=>rfl⟩,JZ,(b.nil 237 2).pick [5,6,7,8,9,0]⟩
  refine K ?_;refine U<|Dr 237 2 (Aq BQ [])<|?_;refine Ba P1 D (fun w b=>EZ Q z C Cd AE Di (max 1 (G.at_ As C.n)) 173 ([]) w (b.Ad [5,0])) fun _ e W b ⟨af,aC,he,aD,q⟩=>⟨_,_,he,b.As [5,0] [1,2,3,4,6,7,8,9] q,?_⟩
  have aL:af.n=1:=aD;refine Jg<|JA<|Jt<|Ff fun W b=>?_;subst hF;refine⟨Di,Cd,af,aC,D,⟨fun h=>JY,fun h=>?_⟩,JY,b.pick [0,6,7,8,9,1]⟩;unfold La at h;rw[M,s]at h;simp at h;omega
 refine K ?_;refine Jt<|Ff fun W b=>?_;subst hF;exact⟨Di,Cd,AE,[],D,⟨fun _=>(by unfold La;rw[M,s];simp;omega),fun _=>rfl⟩,JZ,(b.nil 237 2).pick [5,6,7,8,9,0]⟩
def jc(x:BX):List Value:=List.flatten [[I x.p x.n x.c]]
theorem mA(x:BX):(jc x).length=1:=rfl
theorem p2(x:BX):∀u∈jc x,u.oneCell'=true:=OR (.one rfl .nil)
theorem Ua:CO Tryz.prog 97 130 1 24 (.slice none 0 0):=CO.mk' C2 AB D JZ
abbrev Z4(T:BX)(L:List BX):Atom:=Ae 130 1 (I T.p T.n T.c) T.n (Aq jc L)
section
variable {z:BF} {o o':G.Shape} {i q Ll:Nat} {y s6:B9}
theorem pZ(b:G.at_ z.KE (i+1)=q)(c:z.rs[q]? =some y)(d:G.at_ z.KE 1=Ll)(g:z.rs[Ll]? =some s6):G.version z.w z.AW z.Em z.KE o (i+1)=if Zj z i then(Hq z.w z.Z z.KE o (i+1) y).bind (fun s=>if s.A4=q then some (s.rows,s.Fz)else none)else none:=by
 have h:=GC (W:=z.w) (Z:=z.Z) (Ax:=fun p=>z.rs[p]?) (As:=z.KE) (o:=o) (i:=i+1) (x:=y) (xa:=s6) (by show z.rs[_]? =_;rw[b];exact c) (by show z.rs[_]? =_;rw[d];exact g);rw[b]at h;refine Eq.trans h ?_;have e:Zj z i↔(y.f=s6.f∧y.v=(if 0<s6.f then s6.f+(i+1) - 1 else i+1)∧y.uU=G.at_ z.KE (i+1 - 1)∧y.uW=G.at_ z.KE ((i+1)&&&(i+1 - 1))):=by
  unfold Zj;rw[b,d,tu c,tu g];exact Iff.rfl
 by_cases a:Zj z i
 ·rw[if_pos a,if_pos (e.1 a)]
 ·rw[if_neg a,if_neg (fun q=>a (e.2 q))]
theorem qM(a:G.version z.w z.AW z.Em z.KE o (i+1)=if Zj z i then(Hq z.w z.Z z.KE o (i+1) y).bind (fun s=>if s.A4=q then some (s.rows,s.Fz)else none)else none)(b:Hq z.w z.Z z.KE o (i+1) y=none):G.version z.w z.AW z.Em z.KE o (i+1)=none:=by
 rw[a,b];split<;>rfl
theorem pR{A X:List (G.Ae×Nat)}{s1:G.B4}(a:W6 z o.1 o.2 A)(b:G.at_ z.KE (i+1)=q)(c:z.rs[q]? =some y)(d:G.at_ z.KE 1=Ll)(e:z.rs[Ll]? =some s6)(h:G.version z.w z.AW z.Em z.KE o (i+1)=some (s1.rows,s1.Fz))(hr:BM.L' z.AW s1.rows s1.Fz X)(f:BM.ub z.AW X)(hl:X.length≤549755813888):W6 z s1.rows s1.Fz X:=
 ⟨a.ok,hr,f,(Vt (Z:=z.Z) (Ax:=fun p=>z.rs[p]?) (i:=i+1) a.ok.nd (by show z.rs[_]? =_;rw[b];exact c) (by show z.rs[_]? =_;rw[d];exact e) a.vF h).1,hl⟩
end
theorem qs(z:BF)(T:BX)(L:List BX)(d:BX)(A:List (G.Ae×Nat))(o:G.Shape)(i q Ll:Nat)(y s6:B9)(w:World)(M:BE [Ez z T AE,Gb z,Z4 T L,sZ d A] w)(an:W6 z o.1 o.2 A)(Df:Ld w)(hQ:∀k,Zs k→¬A6 [Ez z T AE,Gb z,Z4 T L,sZ d A] k)(aM:i=0→d=AE)(aN:i≠0→L[i - 1]? =some d)(a6:T.n=i)(aa:z.KE[i]? =some q)(ad:z.rs[q]? =some y)(av:z.KE[0]? =some Ll)(ah:z.rs[Ll]? =some s6)(aC:z.KE.length≤4096)(aD:y.f≤1099511627776∧y.v≤1099511627776)(aE:s6.f≤1099511627776)(a7:y.c≤1073741824∧y.r≤1099511627776):Calls Tryz.prog 75 #[S z.Q,E i] w fun e W=>(∀o':G.Shape,G.version z.w z.AW z.Em z.KE o (i+1)=some o'→∃(aw aF:BX) (X:List (G.Ae×Nat)),e=.returned (.tuple #[])∧aw.n=T.n+1∧W6 z o'.1 o'.2 X∧Sat (A6 [Ez z T AE,Gb z,Z4 T L,sZ d A]) w [Ez z aw AE,Gb z,Z4 aw (L++[aF]),sZ aF X] W)∧(G.version z.w z.AW z.Em z.KE o (i+1)=none→∃ax:BX,e=.returned (.tuple #[])∧1≤ax.n∧ax.n≤1048576∧Sat (A6 [Ez z T AE,Gb z,Z4 T L,sZ d A]) w [Ez z T ax,Gb z,Z4 T L] W):=by
 have H:=an.ok;have a9:=H.vr;have a':=H.vB;have bb:=H.n;have bc:=H.w;have N:=dI aa;have aG:=dI av;have ai:=pZ (o:=o) N ad aG ah;have V:=(EH.1 aa).1;have bd:=(EH.1 ad).1;have bf:=(EH.1 ah).1;have bg:L.length=T.n:=I3 mA JZ (M.at_ 2 _ D);have bh:=H.KE _ (ta aa);obtain⟨fr,Y⟩:∃fr,fr=max 1 (G.at_ z.KE i)+1:=⟨_,D⟩
 have aO:i≠0→2≤G.at_ z.KE i:=fun h=>by
  obtain⟨p,aj⟩:∃p,z.KE[i - 1]? =some p:=⟨_,F3 JY⟩
  have e:=dI aj;rw[show i - 1+1=i by omega]at e;rw[e];exact(H.KE _ (ta aj)).1
 have aP:fr≤2097152:=by
  have:G.at_ z.KE i≤4096:=by
   by_cases h:i=0
   ·subst h;show 0≤4096;omega
   ·obtain⟨p,aj⟩:∃p,z.KE[i - 1]? =some p:=⟨_,F3 JY⟩
    have e:=dI aj;rw[show i - 1+1=i by omega]at e;rw[e];have:=(H.KE _ (ta aj)).2;omega
  omega
 have aH:KG z [] ⟨0,CU⟩ ⟨fr,[],[]⟩:=⟨BM.L'.nil,(fun x h=>by cases h),BM.s8.zero,aP⟩
 obtain⟨B,ay⟩:∃e,(SS z.w 257)[256]? =some e:=⟨_,F3 (by rw[ma];decide)⟩
 have az:=QB ay;refine Cb M bB D 130 fun F hF=>K ?_;refine By D<|AG sT 8 D<|AZ Lc 0 8 D D D<|Jd D<|Af (Dj G0 i i (a8 1) D D)<|Af (J1 AF Gj i aa (a8 1) D D)<|K ?_;refine By D<|AG sT 7 D<|AZ W2 0 7 D D D<|Jd D<|Af (Dj TT q (q*38) (ik 1) D D)<|Af (LH sP Wh q 0 7 (ab y) ad (ik 1) D D)<|U<|Bw Yc fun ae=>U<|Bk 0 0 7 D D D<|?_;refine Jg<|Jf<|Je<|?_
 by_cases ak:Zj z i
 ·
  refine K ?_;refine U<|Cx V' D [1,2] (H1:=[Ez z T AE,Gb z]) (fun w M=>((rX z T AE i q Ll y s6 w M H aa ad av ah aC aD aE).mono fun e W q=>⟨q.1.trans (by rw[decide_eq_true ak]),q.2⟩))<|K ?_;refine Af (Te D)<|K ?_;refine U<|Cx L_ D [1,2] (H1:=[Ez z T AE,Gb z]) (fun w M=>py z T AE i w M)<|B6 (q:=1) D D<|Af (S8 [[S z.Q],[E ((G.at_ z.KE i)+1)],[E 0],[I none 0 0],[I none 0 0],[C' false]])<|U<|Cv D fun J=>Js D<|Jg<|Jf<|Gq (fun a W=>AH 130 a (Jb (Jb (Jb (Jb (Jb Jk 0 (S z.Q)) 1 (E i)) 4 (E q)) 5 (S ae)) 7 (S J))∧Sat F w [s4 J z fr 0 d AE false,O ae (ab y) 142,Ez z T AE,Gb z,Z4 T L,sZ d A] W) ?_ ?_
  ·
   refine Je<|?_
   by_cases ao:i=0
   ·
    have aA:fr=2:=by rw[Y,ao];rfl
    have aQ:=aM ao;refine K ?_;refine EU JY D D<|K ?_;refine By D<|AG sV 1 D<|U<|Cq 0 1 D D D<|?_;refine Jg<|FO 0 [[S z.Q],[E fr],[E 0],[I d.p d.n d.c],[I none 0 0],[C' false]] D (by rw[aA,aQ];rfl)<|Jf<|?_;exact fun a W j b=>⟨AY j,b.pick [0,1,2,3,4,5]⟩
   ·
    have aR:=aN ao;have aA:fr=G.at_ z.KE i+1:=by have:=aO ao;omega
    refine K ?_;refine Gi JY D D<|K ?_;refine By D<|AG sT 9 D<|AZ C2 2 9 D D D<|Jd D<|Es (q:=1) D D<|Af (Dj Ua (i - 1) (i - 1) (BZ 4) D D)<|Af (J1 Sz mA (i - 1) aR (BZ 4) D D)<|By D<|AG sV 3 D<|U<|Cq 0 3 D D D<|?_;refine Jg<|FO 0 [[S z.Q],[E fr],[E 0],[I d.p d.n d.c],[I none 0 0],[C' false]] D (by rw[aA];rfl)<|Jf<|?_;exact fun a W j b=>⟨AY j,b.pick [0,1,2,3,4,5]⟩
  rintro a W ⟨j,b⟩;revert a W;refine Je<|?_;cases C:Hq z.w z.Z z.KE o (i+1) y with
  |none=>
   refine K ?_;refine By D<|AG sV 1 D<|AZ AF 0 1 D D D<|By D<|AG sV 2 D<|U<|Cq 0 2 D D D<|?_;refine K ?_
   by_cases P:y.r=0
   ·
    have g:=C;unfold Hq at g;rw[if_pos P,Yp,←Y]at g;have al:¬y.s=B:=fun e=>by rw[if_pos (e.trans az)]at g;cases g
    have aq:¬y.s.l=B.l:=fun e=>al (Jc.ext e);refine GR<|zs (AS sP 4 D)<|zs (Bb AF 1 4 D D D)<|zs (OY JY D D)<|zs (AA D)<|CX D D D<|zs (AS sP 6 D)<|CX D D D<|zs (DH Nl 1 6 1 [bv y.s.l] D D)<|CX D D D<|zs (AA D)<|CX D D D<|zs (Bp D)<|CX D D D<|zs (AS sT 11 D)<|CX D D D<|zs (Bb J' 2 11 D D D)<|CX D D D<|zs (Dj Kt 256 8192 (iP 3) D D)<|CX D D D<|zs (LH Nl Hh 256 0 1 [bv B.l] ay (iP 3) D D)<|CX D D D<|?_
    by_cases N:y.s.l=B.l
    ·
     exact absurd N aq
    refine zs (bm (fun _ _ j b=>Qj j y.s.h B.h D D _ D) (congrArg Bool.not (decide_eq_false N)))<|zs (D' D D)<|CS<|K ?_;refine U<|Dr 237 2 (Aq BQ [])<|?_;refine Ba Re D (fun w b=>kU z T AE q 171 ([]) w (b.Ad [3,0])) fun _ e W b ⟨aI,bj,he,aS,q⟩=>⟨_,_,he,b.As [3,0] [1,2,4,5,6] q,?_⟩
    have bk:aI.n=1:=aS;refine K ?_;refine Ff fun W b=>?_;subst hF;have t:G.version z.w z.AW z.Em z.KE o (i+1)=none:=by exact qM ai C
    exact⟨fun ar ho=>(by rw[t]at ho;cases ho),fun _=>⟨aI,rfl,JY,JY,b.pick [0,4,5]⟩⟩
   ·
    have g:=C;unfold Hq at g;rw[if_neg P,N,Yp,←Y]at g;have au:=g;refine GR<|zs (AS sP 4 D)<|zs (Bb AF 1 4 D D D)<|zs (M6 JY D D)<|zs (AA D)<|Dp D D D D<|Dp D D D D<|Dp D D D D<|Dp D D D D<|Dp D D D D<|Dp D D D D<|Dp D D D D<|Dp D D D D<|Dp D D D D<|zs (EK D D)<|CS<|K ?_;refine K ?_;refine AG sP 4 D<|AZ AF 1 4 D D D<|Ix JY D D<|K ?_;refine AG sP 4 D<|AZ AF 1 4 D D D<|Jd D<|AG sP 5 D<|AZ AF 1 5 D D D<|AG sP 6 D<|Af (DH Nl 1 6 1 [bv y.s.l] D D)<|Af (S8 [Ak 32])<|U<|Dr 217 66 (Aq I6 [])<|Tf 0 (Aq I6 ([])) (Aq I6 ([].map I9)) D<|?_;refine Ba Vo D (fun w b=>(qx J z T fr d A o.1 o.2 an 4097 y.r q y.c 257 y.s ⟨0,CU⟩ ⟨fr,[],[]⟩ AE [] w (b.Ad [3,4,1,6,0]) (Df.sat b) (b.tE Df (fun k aB q=>hQ k aB (hF▸q)) [3,4,1,6,0]) aH JY JY D JZ (by show 0+257*y.c≤549755813888;omega)).mono fun e W q=>q.2 au) fun _ e W b ⟨aT,bl,bn,he,bo,bp,q⟩=>⟨_,_,he,b.As [3,4,1,6,0] [2,5] q,?_⟩
    refine K ?_;refine By D<|AG sV 5 D<|AZ PW 2 5 D D D<|Af (Te D)<|K ?_;refine By D<|AG sV 5 D<|AZ PW 2 5 D D D<|Af (Te D)<|K ?_;refine Jt<|Ff fun W b=>?_;subst hF;have t:G.version z.w z.AW z.Em z.KE o (i+1)=none:=by exact qM ai C
    exact⟨fun ar ho=>(by rw[t]at ho;cases ho),fun _=>⟨aT,rfl,JY,JY,b.pick [0,1,4]⟩⟩
  |some s1=>
   refine K ?_;refine By D<|AG sV 1 D<|AZ AF 0 1 D D D<|By D<|AG sV 2 D<|U<|Cq 0 2 D D D<|?_;refine Jg<|Jf<|Gq (fun a W=>AH 130 a (Jb (Jb (Jb (Jb Jk 0 (S z.Q)) 4 (E q)) 5 (S ae)) 7 (S J))∧Sat F w [s4 J z fr fr d AE false,O ae (ab y) 142,Ez z T AE,Gb z,Z4 T L,sZ d A] W) ?_ ?_
   ·
    refine Je<|?_
    by_cases P:y.r=0
    ·
     have g:=C;unfold Hq at g;rw[if_pos P,Yp,←Y]at g;obtain⟨al,R⟩:=SZ g;have R:(⟨fr,[],[]⟩:G.B4)=s1:=Option.some.inj R;have aq:y.s.l=B.l:=by rw[al,az]
     refine GR<|zs (AS sP 4 D)<|zs (Bb AF 1 4 D D D)<|zs (OY JY D D)<|zs (AA D)<|CX D D D<|zs (AS sP 6 D)<|CX D D D<|zs (DH Nl 1 6 1 [bv y.s.l] D D)<|CX D D D<|zs (AA D)<|CX D D D<|zs (Bp D)<|CX D D D<|zs (AS sT 11 D)<|CX D D D<|zs (Bb J' 2 11 D D D)<|CX D D D<|zs (Dj Kt 256 8192 (iP 3) D D)<|CX D D D<|zs (LH Nl Hh 256 0 1 [bv B.l] ay (iP 3) D D)<|CX D D D<|?_
     by_cases aJ:y.s.l=B.l
     ·
      refine zs (bm (fun _ _ j b=>Qj j y.s.h B.h D D _ D) (congrArg Bool.not (decide_eq_true aJ)))<|zs (D' D D)<|CS<|K ?_;exact fun a W j b=>⟨AY j,b.pick [0,1,2,3,4,5]⟩
     exact absurd aq aJ
    ·
     have g:=C;unfold Hq at g;rw[if_neg P,N,Yp,←Y]at g;have au:=g;refine GR<|zs (AS sP 4 D)<|zs (Bb AF 1 4 D D D)<|zs (M6 JY D D)<|zs (AA D)<|Dp D D D D<|Dp D D D D<|Dp D D D D<|Dp D D D D<|Dp D D D D<|Dp D D D D<|Dp D D D D<|Dp D D D D<|Dp D D D D<|zs (EK D D)<|CS<|K ?_;exact fun a W j b=>⟨AY j,b.pick [0,1,2,3,4,5]⟩
   rintro a W ⟨j,b⟩;revert a W;refine Dr 217 66 (Aq I6 [])<|Tf 0 (Aq I6 ([])) (Aq I6 (([]++[]).map I9)) D<|?_;refine Gq (fun a W=>∃(X:List (G.Ae×Nat)) (u:BX),AH 130 a (Jb (Jb (Jb (Jb Jk 0 (S z.Q)) 4 (E q)) 5 (S ae)) 7 (S J))∧Sat F w [sZ u ([]++X),s4 J z fr s1.A4 d u false,O ae (ab y) 142,Ez z T AE,Gb z,Z4 T L,sZ d A] W∧BM.ub z.AW X∧X.length≤549755813888∧BM.L' z.AW s1.rows s1.Fz ([]++X)∧s1.A4≤2097152) ?_ ?_
   ·
    refine Je<|?_
    by_cases P:y.r=0
    ·
     have g:=C;unfold Hq at g;rw[if_pos P,Yp,←Y]at g;obtain⟨al,R⟩:=SZ g;have R:(⟨fr,[],[]⟩:G.B4)=s1:=Option.some.inj R;have aq:y.s.l=B.l:=by rw[al,az]
     refine FO 1 [[S z.Q],[E fr],[E s1.A4],[I d.p d.n d.c],[I none 0 0],[C' false]] D (by rw[←R])<|Jh<|AG Tryz.underlying142 4 D<|AZ Tryz.underlying3 2 4 D D D<|Ci JY D D<|K ?_;exact fun a W j b=>⟨[],AE,AY j,b.pick [0,1,2,3,4,5,6],.inl D,JZ,R▸BM.L'.nil,by rw[←R];omega⟩
    ·
     have g:=C;unfold Hq at g;rw[if_neg P,N,Yp,←Y]at g;have au:=g;refine K ?_;refine AG sP 4 D<|AZ AF 2 4 D D D<|Ix JY D D<|K ?_;refine AG sP 4 D<|AZ AF 2 4 D D D<|Jd D<|AG sP 5 D<|AZ AF 2 5 D D D<|AG sP 6 D<|Af (DH Nl 2 6 1 [bv y.s.l] D D)<|Af (S8 [Ak 32])<|U<|Tf 0 (Aq I6 (([]++[]).map I9)) (Aq I6 ([].map I9)) D<|?_;refine Ba Vo D (fun w b=>(qx J z T fr d A o.1 o.2 an 4097 y.r q y.c 257 y.s ⟨0,CU⟩ ⟨fr,[],[]⟩ AE [] w (b.Ad [3,4,1,6,0]) (Df.sat b) (b.tE Df (fun k aB q=>hQ k aB (hF▸q)) [3,4,1,6,0]) aH JY JY D JZ (by show 0+257*y.c≤549755813888;omega)).mono fun e W q=>q.1 _ au) fun _ e W b ⟨aU,X,he,aV,bq,aW,aX,q⟩=>⟨_,_,he,b.As [3,4,1,6,0] [2,5] q,?_⟩
     refine Jg<|Jf<|?_;exact fun a W j b=>⟨X,aU,AY j,b.pick [4,2,5,0,1,6,3],.inr ⟨_,aV⟩,JY,aW,aX⟩
   rintro a W ⟨X,u,j,b,aY,aZ,a0,br⟩;revert a W;refine K ?_;refine By D<|AG sV 5 D<|AZ PW 1 5 D D D<|Af (Te D)<|K ?_;refine By D<|Jj D D D<|AG sV 2 D<|Jj D D D<|AZ AF 1 2 D D D<|K ?_;refine Li D D (fun a1=>?_) fun a1=>?_
   ·
    refine K ?_;refine By D<|AG sV 5 D<|AZ PW 1 5 D D D<|Af (Te D)<|K ?_;refine Hj (fun a W=>∃(af:Option Addr) (ag:Nat),AH 130 a Jk∧Sat F w [sZ u ([]++X),s4 J z fr s1.A4 d u false,Ez z ⟨af,T.n+1,ag⟩ AE,Gb z,Ae 130 1 (I af (T.n+1) ag) (T.n+1) (Aq jc (L++([u]))),sZ d A] W) ?_ ?_
    ·
     refine CQ [1,2,4]<|Ab 0 D (AA D)<|Ab 1 D (AA D)<|Ab 2 D (Bp D)<|Ab 3 D (AS sT 9 D)<|Ab 5 D (AA D)<|Ab 6 D (Bp D)<|Ab 7 D (AS sV 4 D)<|Ab 8 D (Bb Sz 0 4 D D D)<|Gy 4 9 D D ?_ ?_
     ·
      refine IK (Bb C2 3 9 D D D)<|A8 [1,2,4]<|Bh 9 D<|Ey Ua (Aq jc [u]) D D D fun bs=>A8 [2,3,5]<|Bh 10 D<|DI (m:=1) Ua 6 (Aq jc (L++([u]))) D D D (BZ 0) (HJ p2 _) (H0 mA D) D fun af ag=>A8 [2,3,5]<|Ab 11 D (Bp D)<|Ab 12 D (AS sT 9 D)<|Bh 13 D<|Cq 4 9 D D D<|?_;refine A8 [2,3,5]<|Cm<|?_;exact fun a W j b=>⟨af,ag,AY j,b.pick [1,2,4,5,6,7]⟩
     refine Ey Ua (Aq jc [u]) D D D fun bt=>A8 [2,3,5]<|Bh 4 D<|IK (Bb C2 4 9 D D D)<|A8 [2,3,5]<|Bh 10 D<|DI (m:=1) Ua 6 (Aq jc (L++([u]))) D D D (BZ 0) (HJ p2 _) (H0 mA D) D fun a2 a3=>A8 [2,3,5]<|Ab 11 D (Bp D)<|Ab 12 D (AS sT 9 D)<|Bh 13 D<|Cq 4 9 D D D<|?_;refine A8 [2,3,5]<|Cm<|?_;exact fun a W j b=>⟨a2,a3,AY j,b.pick [1,2,4,5,6,7]⟩
    rintro a W ⟨af,ag,j,b⟩;revert a W;refine Jt<|Ff fun W b=>?_;subst hF;have t:G.version z.w z.AW z.Em z.KE o (i+1)=some (s1.rows,s1.Fz):=by rw[ai,if_pos ak,C];exact if_pos JY
    refine⟨fun ar ho=>?_,fun ho=>(by rw[t]at ho;cases ho)⟩;rw[t]at ho;cases ho;exact⟨⟨af,T.n+1,ag⟩,u,X,D,D,pR an N ad aG ah t a0 aY aZ,b.pick [2,3,4,0]⟩
   refine K ?_;refine By D<|AG sV 2 D<|AZ AF 1 2 D D D<|U<|Dr 237 2 (Aq BQ [])<|?_;refine Ba Re D (fun w b=>kU z T AE s1.A4 172 ([]) w (b.Ad [4,0])) fun _ e W b ⟨aK,bu,he,a4,q⟩=>⟨_,_,he,b.As [4,0] [1,2,3,5,6,7] q,?_⟩
   have bw:aK.n=1:=a4;refine K ?_;refine By D<|AG sV 5 D<|U<|Cq 3 5 D D D<|?_;refine K ?_;refine By D<|AG sV 5 D<|AZ PW 3 5 D D D<|Af (Te D)<|K ?_;refine Jt<|Ff fun W b=>?_;subst hF;have t:G.version z.w z.AW z.Em z.KE o (i+1)=none:=by rw[ai,if_pos ak,C];exact if_neg JY
   exact⟨fun ar ho=>(by rw[t]at ho;cases ho),fun _=>⟨aK,rfl,JY,JY,b.pick [0,5,6]⟩⟩
 ·
  refine K ?_;refine U<|Cx V' D [1,2] (H1:=[Ez z T AE,Gb z]) (fun w M=>((rX z T AE i q Ll y s6 w M H aa ad av ah aC aD aE).mono fun e W q=>⟨q.1.trans (by rw[decide_eq_false ak]),q.2⟩))<|K ?_;refine Af (Te D)<|K ?_;refine U<|Dr 237 2 (Aq BQ [])<|?_;refine Ba Re D (fun w b=>kU z T AE q 173 ([]) w (b.Ad [2,0])) fun _ e W b ⟨aL,bx,he,a5,q⟩=>⟨_,_,he,b.As [2,0] [1,3,4,5] q,?_⟩
  have bz:aL.n=1:=a5;refine K ?_;refine Ff fun W b=>?_;subst hF;have t:G.version z.w z.AW z.Em z.KE o (i+1)=none:=by rw[ai];exact if_neg ak
  exact⟨fun ar ho=>(by rw[t]at ho;cases ho),fun _=>⟨aL,rfl,JY,JY,b.pick [0,3,4]⟩⟩
