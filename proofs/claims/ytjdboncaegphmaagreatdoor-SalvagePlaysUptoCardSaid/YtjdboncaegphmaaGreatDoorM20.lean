/- Laws and walks on the road to SalvagePlays (part M20). No conditions beyond each law's own. -/
import Derived.Test.YtjdboncaegphmaaGreatDoorM19
set_option linter.unusedVariables false
namespace Go.Proofs.YtjdboncaegphmaaGreatDoor
open Go.RowKit
set_option maxRecDepth 100000
set_option maxHeartbeats 2000000
variable {c m:Nat} {w:World} {x:Operand}
theorem dp(n:Nat):G.NO n=decide (2≤n∧n<4096):=by simp[G.NO]
theorem gf(p c:Nat):G.held p c=decide (p=0∧c=0∨¬p=0∧0<c∧c≤4096):=by simp[G.held,Bool.and_assoc]
theorem Zb{v f b a r:Nat}{x:Jc}:G.right ⟨v,f,b,a,r,c,x⟩=decide (f≤1073741824∧(1≤v∧f≤v)∧v≤1073741824∧(r=0∧c=0∨¬r=0∧0<c∧c≤4096)∧(r=0∨2≤r∧r<4096)∧
 ((if f=0 then v else v - f+1)=1∧b=0∧a=0∨¬(if f=0 then v else v - f+1)=1∧(2≤b∧b<4096)∧(((if f=0 then v else v - f+1)&&&((if f=0 then v else v - f+1) - 1))=0∧a=0∨
   ¬((if f=0 then v else v - f+1)&&&((if f=0 then v else v - f+1) - 1))=0∧(((if f=0 then v else v - f+1)&&&((if f=0 then v else v - f+1) - 1))=(if f=0 then v else v - f+1) - 1∧a=b∨¬((if f=0 then v else v - f+1)&&&((if f=0 then v else v - f+1) - 1))=(if f=0 then v else v - f+1) - 1∧(2≤a∧a<4096)∧a<b)))):=by
 unfold G.right G.num;simp only[dp,gf];generalize (if f=0 then v else v - f+1)=n;generalize n&&&(n - 1)=q;rw[tp]
 by_cases h1:n=1
 ·rw[if_pos h1];simp;omega
 rw[if_neg h1]
 by_cases d:q=0
 ·rw[if_pos d];simp;omega
 rw[if_neg d]
 by_cases e:q=n - 1
 ·rw[if_pos e];simp;omega
 rw[if_neg e];simp;omega
theorem NV(n:Nat)(w:World):Calls lp 156 #[E n] w (sM w (.bool (decide (2≤n∧n<4096)))):=by
 refine Cg w Nm D 9<|K ?_;refine L6 D D (fun b=>?_) fun b=>?_
 ·
  refine K ?_;refine GV D D (fun c=>?_) fun c=>?_
  ·
   refine A7 ?_;exact fun W a=>⟨CT (by symm;exact decide_eq_true JY),a.A0⟩
  refine A7 ?_;exact fun W a=>⟨CT,a.A0⟩
 refine A7 ?_;exact fun W a=>⟨CT,a.A0⟩
theorem iR(p c:Nat)(w:World):Calls lp 155 #[E p,E c] w (sM w (.bool (decide (p=0∧c=0∨¬p=0∧0<c∧c≤4096)))):=by
 refine Cg w Np D 23<|K ?_;refine Gx D D (fun b=>?_) fun b=>?_
 ·
  refine K ?_;refine Gx D D (fun d=>?_) fun d=>?_
  ·
   refine A7 ?_;exact fun W a=>⟨CT (by symm;exact decide_eq_true JY),a.A0⟩
  refine K ?_;refine Li D D (fun e=>?_) fun e=>?_
  ·
   refine A7 ?_;exact fun W a=>⟨CT,a.A0⟩
  refine K ?_;refine GV D D (fun f=>?_) fun f=>?_
  ·
   refine K ?_;refine L6 D D (fun g=>?_) fun g=>?_
   ·
    refine A7 ?_;exact fun W a=>⟨CT (by symm;exact decide_eq_true JY),a.A0⟩
   refine A7 ?_;exact fun W a=>⟨CT,a.A0⟩
  refine A7 ?_;exact fun W a=>⟨CT,a.A0⟩
 refine K ?_;refine Li D D (fun h=>?_) fun h=>?_
 ·
  refine A7 ?_;exact fun W a=>⟨CT,a.A0⟩
 refine K ?_;refine GV D D (fun i=>?_) fun i=>?_
 ·
  refine K ?_;refine L6 D D (fun j=>?_) fun j=>?_
  ·
   refine A7 ?_;exact fun W a=>⟨CT (by symm;exact decide_eq_true JY),a.A0⟩
  refine A7 ?_;exact fun W a=>⟨CT,a.A0⟩
 refine A7 ?_;exact fun W a=>⟨CT,a.A0⟩
theorem LJ(v f d e r c:Nat)(x:Jc)(w:World)(h1:f≤v)(h:v≤1073741824){n:Nat}(b:(if f=0 then v else v - f+1)=n):Calls lp 157 #[rS [[E v],[E f],[E d],[E e],[E r],[E c],bv x.l]] w (sM w (E n)):=by
 refine Cg w Qw D 14<|Je<|Jh<|U<|Cv D fun HK=>K ?_;refine AG sP 1 D<|AZ AF 0 1 D D D<|E2 D D<|Jg<|Jf<|Cz D (fun g=>?_) fun g=>?_
 ·
  refine Je<|Jh<|AG sP 0 D<|AZ AF 0 0 D D D<|A7 ?_;exact fun W a=>⟨by rw[←b];split<;>first|rfl|(exfalso;omega),a.A0⟩
 refine K ?_;refine AG sP 0 D<|AZ AF 0 0 D D D<|AG sP 1 D<|AZ AF 0 1 D D D<|Es D D<|B6 (q:=1) D D<|A7 ?_;exact fun W a=>⟨by rw[←b];split<;>first|rfl|(exfalso;omega),a.A0⟩
theorem Vr(v f b d r c:Nat)(x:Jc)(w:World):Calls lp 127 #[rS [[E v],[E f],[E b],[E d],[E r],[E c],bv x.l]] w (sM w (.bool (G.right ⟨v,f,b,d,r,c,x⟩))):=by
 rw[Zb];obtain⟨n,e⟩:∃n,(if f=0 then v else v - f+1)=n:=⟨_,D⟩
 rw[e];have X:n≤v+1:=by rw[←e];split<;>omega
 have Y:1≤v→1≤n:=by rw[←e];split<;>omega
 obtain⟨q,o⟩:∃q,n&&&(n - 1)=q:=⟨_,D⟩
 rw[o];refine Cg w o5 D 88<|Je<|Jh<|U<|Cv D fun HK=>K ?_;refine AG sP 1 D<|AZ AF 0 1 D D D<|GV D D (fun p=>?_) fun p=>?_
 ·
  refine A7 ?_;exact fun W a=>⟨CT,a.A0⟩
 refine K ?_;refine AG sP 1 D<|Jj D D D<|AZ AF 0 1 D D D<|Jj D D D<|Kl D D (fun s=>?_) fun s=>?_
 ·
  refine A7 ?_;exact fun W a=>⟨CT,a.A0⟩
 refine K ?_;refine AG sP 0 D<|Jj D D D<|AZ AF 0 0 D D D<|Jj D D D<|AG sP 1 D<|Jj D D D<|AZ AF 0 1 D D D<|Jj D D D<|Af (Mn D D (((max 1 f):Nat):Int))<|Jj D D D<|GV D D (fun t=>?_) fun t=>?_
 ·
  refine A7 ?_;exact fun W a=>⟨CT,a.A0⟩
 refine K ?_;refine AG sP 0 D<|Jj D D D<|AZ AF 0 0 D D D<|Jj D D D<|Kl D D (fun u=>?_) fun u=>?_
 ·
  refine A7 ?_;exact fun W a=>⟨CT,a.A0⟩
 refine K ?_;refine AG sP 4 D<|AZ AF 0 4 D D D<|AG sP 5 D<|AZ AF 0 5 D D D<|U<|BP Np D (fun w a=>iR r c w)<|?_
 rcases Ln (decide (r=0∧c=0∨¬r=0∧0<c∧c≤4096))with g|g
 ·
  have y:=of_decide_eq_true g;refine CR 30 D (congrArg Value.bool g)<|Af (Te D)<|K ?_;refine AG sP 4 D<|Jj D D D<|AZ AF 0 4 D D D<|Jj D D D<|Li D D (fun z=>?_) fun z=>?_
  ·
   refine K ?_;refine Af (BN sP 0 D D)<|U<|BP Qw D (fun w a=>LJ v f b d r c x w JY JY e)<|K ?_;refine E2 D D<|Jg<|Jf<|Cz D (fun A=>?_) fun A=>?_
   ·
    refine Je<|Jh<|AG sP 2 D<|AZ AF 0 2 D D D<|Gx D D (fun B=>?_) fun B=>?_
    ·
     refine K ?_;refine AG sP 3 D<|Jj D D D<|AZ AF 0 3 D D D<|Jj D D D<|Gx D D (fun C=>?_) fun C=>?_
     ·
      refine A7 ?_;exact fun W a=>⟨CT (by symm;exact decide_eq_true JY),a.A0⟩
     refine A7 ?_;exact fun W a=>⟨CT,a.A0⟩
    refine A7 ?_;exact fun W a=>⟨CT,a.A0⟩
   refine K ?_;refine AG sP 2 D<|AZ AF 0 2 D D D<|U<|BP Nm D (fun w a=>NV b w)<|?_
   rcases Ln (decide (2≤b∧b<4096))with h|h
   ·
    have F:=of_decide_eq_true h;refine CR 57 D (congrArg Value.bool h)<|Af (Te D)<|K ?_;refine Es (q:=1) D D<|Af (Na D D q o)<|K ?_;refine E2 D D<|K ?_;refine Cz D (fun H=>?_) fun H=>?_
    ·
     refine Je<|Jh<|AG sP 3 D<|AZ AF 0 3 D D D<|E2 D D<|A7 ?_;exact fun W a=>⟨CT (decide_eq_decide.2 JY),a.A0⟩
    refine K ?_;refine Es (q:=1) D D<|E2 D D<|K ?_;refine Cz D (fun I=>?_) fun I=>?_
    ·
     refine Je<|Jh<|AG sP 3 D<|AZ AF 0 3 D D D<|AG sP 2 D<|AZ AF 0 2 D D D<|E2 D D<|A7 ?_;exact fun W a=>⟨CT (decide_eq_decide.2 JY),a.A0⟩
    refine K ?_;refine AG sP 3 D<|AZ AF 0 3 D D D<|U<|BP Nm D (fun w a=>NV d w)<|?_
    rcases Ln (decide (2≤d∧d<4096))with i|i
    ·
     have J:=of_decide_eq_true i;refine CR 80 D (congrArg Value.bool i)<|K ?_;refine AG sP 3 D<|Jj D D D<|AZ AF 0 3 D D D<|Jj D D D<|AG sP 2 D<|Jj D D D<|AZ AF 0 2 D D D<|Jj D D D<|GV D D (fun L=>?_) fun L=>?_
     ·
      refine A7 ?_;exact fun W a=>⟨CT (by symm;exact decide_eq_true JY),a.A0⟩
     refine A7 ?_;exact fun W a=>⟨CT,a.A0⟩
    have J:=of_decide_eq_false i;refine CR 80 D (congrArg Value.bool i)<|A7 ?_;exact fun W a=>⟨CT,a.A0⟩
   have F:=of_decide_eq_false h;refine CR 57 D (congrArg Value.bool h)<|Af (Te D)<|A7 ?_;exact fun W a=>⟨CT,a.A0⟩
  refine K ?_;refine AG sP 4 D<|Jj D D D<|AZ AF 0 4 D D D<|Jj D D D<|U<|BP Nm D (fun w a=>NV r w)<|?_
  rcases Ln (decide (2≤r∧r<4096))with j|j
  ·
   have M:=of_decide_eq_true j;refine CR 39 D (congrArg Value.bool j)<|Jj D D D<|Af (Te D)<|K ?_;refine Af (BN sP 0 D D)<|U<|BP Qw D (fun w a=>LJ v f b d r c x w JY JY e)<|K ?_;refine E2 D D<|Jg<|Jf<|Cz D (fun N=>?_) fun N=>?_
   ·
    refine Je<|Jh<|AG sP 2 D<|AZ AF 0 2 D D D<|Gx D D (fun O=>?_) fun O=>?_
    ·
     refine K ?_;refine AG sP 3 D<|Jj D D D<|AZ AF 0 3 D D D<|Jj D D D<|Gx D D (fun P=>?_) fun P=>?_
     ·
      refine A7 ?_;exact fun W a=>⟨CT (by symm;exact decide_eq_true JY),a.A0⟩
     refine A7 ?_;exact fun W a=>⟨CT,a.A0⟩
    refine A7 ?_;exact fun W a=>⟨CT,a.A0⟩
   refine K ?_;refine AG sP 2 D<|AZ AF 0 2 D D D<|U<|BP Nm D (fun w a=>NV b w)<|?_
   rcases Ln (decide (2≤b∧b<4096))with k|k
   ·
    have Q:=of_decide_eq_true k;refine CR 57 D (congrArg Value.bool k)<|Af (Te D)<|K ?_;refine Es (q:=1) D D<|Af (Na D D q o)<|K ?_;refine E2 D D<|K ?_;refine Cz D (fun R=>?_) fun R=>?_
    ·
     refine Je<|Jh<|AG sP 3 D<|AZ AF 0 3 D D D<|E2 D D<|A7 ?_;exact fun W a=>⟨CT (decide_eq_decide.2 JY),a.A0⟩
    refine K ?_;refine Es (q:=1) D D<|E2 D D<|K ?_;refine Cz D (fun S=>?_) fun S=>?_
    ·
     refine Je<|Jh<|AG sP 3 D<|AZ AF 0 3 D D D<|AG sP 2 D<|AZ AF 0 2 D D D<|E2 D D<|A7 ?_;exact fun W a=>⟨CT (decide_eq_decide.2 JY),a.A0⟩
    refine K ?_;refine AG sP 3 D<|AZ AF 0 3 D D D<|U<|BP Nm D (fun w a=>NV d w)<|?_
    rcases Ln (decide (2≤d∧d<4096))with m|m
    ·
     have T:=of_decide_eq_true m;refine CR 80 D (congrArg Value.bool m)<|K ?_;refine AG sP 3 D<|Jj D D D<|AZ AF 0 3 D D D<|Jj D D D<|AG sP 2 D<|Jj D D D<|AZ AF 0 2 D D D<|Jj D D D<|GV D D (fun V=>?_) fun V=>?_
     ·
      refine A7 ?_;exact fun W a=>⟨CT (by symm;exact decide_eq_true JY),a.A0⟩
     refine A7 ?_;exact fun W a=>⟨CT,a.A0⟩
    have T:=of_decide_eq_false m;refine CR 80 D (congrArg Value.bool m)<|A7 ?_;exact fun W a=>⟨CT,a.A0⟩
   have Q:=of_decide_eq_false k;refine CR 57 D (congrArg Value.bool k)<|Af (Te D)<|A7 ?_;exact fun W a=>⟨CT,a.A0⟩
  have M:=of_decide_eq_false j;refine CR 39 D (congrArg Value.bool j)<|Jj D D D<|Af (Te D)<|A7 ?_;exact fun W a=>⟨CT,a.A0⟩
 have y:=of_decide_eq_false g;refine CR 30 D (congrArg Value.bool g)<|Af (Te D)<|A7 ?_;exact fun W a=>⟨CT,a.A0⟩
theorem Pn{N:Nat}{f:BW}{F:Nat→Prop}{w0:World}{H:List Atom}{A5:Act→World→Prop}(i:Nat){b:Nat}{ss:List (List Value)}{T:TypeId}(a:List (List Value))(V:H[i]? =some (O b ss T))(e:flat ss=flat a)(h:AT N f F w0 (H.set i (O b a T)) A5):AT N f F w0 H A5:=by
 have c:O b ss T=O b a T:=by simp only[O,e]
 have:H.set i (O b ss T)=H:=by
  obtain⟨l,q⟩:=EH.1 V;rw[←q,nM]
 rw[←c,this]at h;exact h
def LI(l:rG)(i:Nat):List Value:=[0,1,2,3,4,5].map fun j=>E (if j<i then G.BD l (4*j)else 0)
theorem Uu(l:rG)(i:Nat):Row 6 (LI l i):=⟨D,by intro u hu;obtain⟨x,_,rfl⟩:=bI.1 hu;rfl⟩
theorem X5{l:rG}{i x:Nat}(V:i<6)(a:x=G.BD l (4*i)):(LI l i).set i (E x)=LI l (i+1):=by
 subst a
 match i,V with
 |0,_=>rfl
 |1,_=>rfl
 |2,_=>rfl
 |3,_=>rfl
 |4,_=>rfl
 |5,_=>rfl
theorem Xw{b i:Nat}(V:i<6):([[S b],[A2 b 1],[A2 b 2],[A2 b 3],[A2 b 4],[A2 b 5]]:List (List Value)).flatten[i]? =some (A2 b i):=by
 match i,V with
 |0,_=>rfl
 |1,_=>rfl
 |2,_=>rfl
 |3,_=>rfl
 |4,_=>rfl
 |5,_=>rfl
abbrev Qb:List (List Value):=[[E 0],[E 0],[E 0],[E 0],[E 0],[E 0],Ak 32]
abbrev Ro(r:B9):List (List Value):=[[E r.v],[E r.f],[E r.uU],[E r.uW],[E r.r],[E r.c],bv r.s.l]
theorem dd(q:Option Addr)(m c:Nat)(l:rG)(w:World)(b:View w (.slice q m c) m 1 (bv l))(hl:l.length=m)(hm:¬m=56):Calls lp 93 #[I q m c] w (sM w (.tuple #[rS Qb,E 150])):=by
 refine Cg w PM D 62<|Je<|Jh<|U<|Bw Yc fun d=>K ?_;refine Cr B7 D<|Ix JY D D<|K ?_;refine Af (S8 Yc)<|U<|Bk 0 0 7 D D D<|?_;refine K ?_;refine Gl sP 0 D D D fun W a=>?_;exact⟨D,a.A0⟩
theorem bQ(q:Option Addr)(m c:Nat)(l:rG)(w:World)(d:View w (.slice q m c) m 1 (bv l))(hl:l.length=m)(hm:m=56)(hr:G.right (G.Kd l)=true):Calls lp 93 #[I q m c] w (sM w (.tuple #[rS (Ro (G.Kd l)),E 0])):=by
 refine Cg w PM D 62<|Je<|Jh<|U<|Bw Yc fun h=>K ?_;refine Cr B7 D<|Ci JY D D<|K ?_;refine U<|Bw Yc fun b=>K ?_;refine AG sP 0 D<|AG sP 1 D<|AG sP 2 D<|AG sP 3 D<|AG sP 4 D<|AG sP 5 D<|Af (S8 [[S b],[A2 b 1],[A2 b 2],[A2 b 3],[A2 b 4],[A2 b 5]])<|K ?_;refine Pn 0 [LI l 0,Ak 32] D D<|DL (fun j a W=>∃i,j=6 - i∧AH 62 a (Jb (Jb (Jb (Jb (Jb (Jb Jk 0 (I q m c)) 2 (S h)) 3 (E 0)) 4 (S b)) 18 (rS [[S b],[A2 b 1],[A2 b 2],[A2 b 3],[A2 b 4],[A2 b 5]])) 19 (E i))∧Sat C1 w [O b [LI l i,Ak 32] 142,O h Yc 142] W∧i≤6) (fun a W f e=>⟨0,D,AY f,e.pick [0,1],JY⟩) ?_;rintro _ a W ⟨i,rfl,f,e,V⟩;revert a W;refine Je<|Jh<|Ej D D<|Jg<|Jf<|Je<|Cz D (fun k=>?_) fun k=>?_
 ·
  refine K ?_;refine Af (KT qj i D D (Xw JY) DW)<|K ?_;refine Af (E3 (p:=4) D D)<|Af (Fi A3 (4*i) m (Bx d) D (.some D) .none)<|?_;have o:=((l.drop (4*i)).getD 0 0).toNat_lt;have r:=((l.drop (4*i)).getD 1 0).toNat_lt;have s:=((l.drop (4*i)).getD 2 0).toNat_lt;have t:=((l.drop (4*i)).getD 3 0).toNat_lt;refine K ?_;refine DD 24<|zs (AA D)<|zs (AA D)<|zs (Dj A3 0 0 (Db (4*i) m (Bx d) (DV (by rw[J3];have:(l).length=m:=hl;omega))) D D)<|zs (Fj Tryz.underlying5 0 (Db (4*i) m (Bx d) (DV (by rw[J3];have:(l).length=m:=hl;omega))) D)<|zs (Gg Tryz.underlying5 Tryz.underlying3 D)<|zs (AA D)<|zs (Dj A3 1 1 (Db (4*i) m (Bx d) (DV (by rw[J3];have:(l).length=m:=hl;omega))) D D)<|zs (Fj Tryz.underlying5 1 (Db (4*i) m (Bx d) (DV (by rw[J3];have:(l).length=m:=hl;omega))) D)<|zs (Gg Tryz.underlying5 Tryz.underlying3 D)<|zs (Ke (n:=8) D D (((l.drop (4*i)).getD 1 0).toNat*2^8) D)<|zs (Ku D D (((l.drop (4*i)).getD 0 0).toNat+((l.drop (4*i)).getD 1 0).toNat*2^8) KM)<|zs (AA D)<|zs (Dj A3 2 2 (Db (4*i) m (Bx d) (DV (by rw[J3];have:(l).length=m:=hl;omega))) D D)<|zs (Fj Tryz.underlying5 2 (Db (4*i) m (Bx d) (DV (by rw[J3];have:(l).length=m:=hl;omega))) D)<|zs (Gg Tryz.underlying5 Tryz.underlying3 D)<|zs (Ke (n:=16) D D (((l.drop (4*i)).getD 2 0).toNat*2^16) D)<|zs (Ku D D (((l.drop (4*i)).getD 0 0).toNat+((l.drop (4*i)).getD 1 0).toNat*2^8+((l.drop (4*i)).getD 2 0).toNat*2^16) KM)<|zs (AA D)<|zs (Dj A3 3 3 (Db (4*i) m (Bx d) (DV (by rw[J3];have:(l).length=m:=hl;omega))) D D)<|zs (Fj Tryz.underlying5 3 (Db (4*i) m (Bx d) (DV (by rw[J3];have:(l).length=m:=hl;omega))) D)<|zs (Gg Tryz.underlying5 Tryz.underlying3 D)<|zs (Ke (n:=24) D D (((l.drop (4*i)).getD 3 0).toNat*2^24) D)<|zs (Ku D D (((l.drop (4*i)).getD 0 0).toNat+((l.drop (4*i)).getD 1 0).toNat*2^8+((l.drop (4*i)).getD 2 0).toNat*2^16+((l.drop (4*i)).getD 3 0).toNat*2^24) KM)<|zs (Bp D)<|CS<|U<|H6 0 0 i D D D D (X5 JY (by unfold G.BD;rw[RO])) (hl:=Uu l i)<|K ?_;refine B6 (q:=1) D D<|K ?_;exact fun a W f e=>⟨_,JY,i+1,D,AY f,e.pick [0,1],JY⟩
 obtain rfl:i=6:=JY;refine Pn 0 [[E (G.BD l 0)],[E (G.BD l 4)],[E (G.BD l 8)],[E (G.BD l 12)],[E (G.BD l 16)],[E (G.BD l 20)],Ak 32] D D<|K ?_;refine DD 4<|FO 0 [[E (G.BD l 0)],[E (G.BD l 4)],[E (G.BD l 8)],[E (G.BD l 12)],[E (G.BD l 16)],[E (G.BD l 20)],bv (Ji.zero 32).l] D D<|zs (AS Tryz.underlying142 6 D)<|zs (Fp Tryz.underlying136 0 32 rfl .none .none 6)<|zs (AA D)<|zs (Fi A3 24 m (Bx d) D (.some D) .none)<|CS<|U<|HC 0 6 0 32 (Db 24 m (Bx d) (DV (by rw[J3];have:(l).length=m:=hl;omega))) Tryz.underlying29 D D D D D (by have:(l.drop 24).length=m - 24:=(by have:(l).length=m:=hl;simp only[J3];omega);rw[FX];omega)<|?_;refine FO 0 [[E (G.BD l 0)],[E (G.BD l 4)],[E (G.BD l 8)],[E (G.BD l 12)],[E (G.BD l 16)],[E (G.BD l 20)],bv (G.DF l 24).l] D (by rw[←Og];rfl)<|K ?_;refine Af (BN sP 0 D D)<|U<|BP o5 D (fun w e=>Vr (G.BD l 0) (G.BD l 4) (G.BD l 8) (G.BD l 12) (G.BD l 16) (G.BD l 20) (G.DF l 24) w)<|?_
 rcases Ln (G.right ⟨G.BD l 0,G.BD l 4,G.BD l 8,G.BD l 12,G.BD l 16,G.BD l 20,G.DF l 24⟩)with g|g
 ·
  refine CR 58 D (congrArg Value.bool g)<|Af (Te D)<|K ?_;refine Af (BN sP 0 D D)<|U<|Bk 1 0 7 D D D<|?_;refine K ?_;refine Gl sP 1 D D D fun W e=>?_;exact⟨D,e.A0⟩
 refine CR 58 D (congrArg Value.bool g)<|?_;exact absurd (g.symm.trans hr) JZ
theorem eh(q:Option Addr)(m c:Nat)(l:rG)(w:World)(d:View w (.slice q m c) m 1 (bv l))(hl:l.length=m)(hm:m=56)(hr:G.right (G.Kd l)=false):Calls lp 93 #[I q m c] w (sM w (.tuple #[rS Qb,E 150])):=by
 refine Cg w PM D 62<|Je<|Jh<|U<|Bw Yc fun h=>K ?_;refine Cr B7 D<|Ci JY D D<|K ?_;refine U<|Bw Yc fun b=>K ?_;refine AG sP 0 D<|AG sP 1 D<|AG sP 2 D<|AG sP 3 D<|AG sP 4 D<|AG sP 5 D<|Af (S8 [[S b],[A2 b 1],[A2 b 2],[A2 b 3],[A2 b 4],[A2 b 5]])<|K ?_;refine Pn 0 [LI l 0,Ak 32] D D<|DL (fun j a W=>∃i,j=6 - i∧AH 62 a (Jb (Jb (Jb (Jb (Jb (Jb Jk 0 (I q m c)) 2 (S h)) 3 (E 0)) 4 (S b)) 18 (rS [[S b],[A2 b 1],[A2 b 2],[A2 b 3],[A2 b 4],[A2 b 5]])) 19 (E i))∧Sat C1 w [O b [LI l i,Ak 32] 142,O h Yc 142] W∧i≤6) (fun a W f e=>⟨0,D,AY f,e.pick [0,1],JY⟩) ?_;rintro _ a W ⟨i,rfl,f,e,V⟩;revert a W;refine Je<|Jh<|Ej D D<|Jg<|Jf<|Je<|Cz D (fun k=>?_) fun k=>?_
 ·
  refine K ?_;refine Af (KT qj i D D (Xw JY) DW)<|K ?_;refine Af (E3 (p:=4) D D)<|Af (Fi A3 (4*i) m (Bx d) D (.some D) .none)<|?_;have o:=((l.drop (4*i)).getD 0 0).toNat_lt;have r:=((l.drop (4*i)).getD 1 0).toNat_lt;have s:=((l.drop (4*i)).getD 2 0).toNat_lt;have t:=((l.drop (4*i)).getD 3 0).toNat_lt;refine K ?_;refine DD 24<|zs (AA D)<|zs (AA D)<|zs (Dj A3 0 0 (Db (4*i) m (Bx d) (DV (by rw[J3];have:(l).length=m:=hl;omega))) D D)<|zs (Fj Tryz.underlying5 0 (Db (4*i) m (Bx d) (DV (by rw[J3];have:(l).length=m:=hl;omega))) D)<|zs (Gg Tryz.underlying5 Tryz.underlying3 D)<|zs (AA D)<|zs (Dj A3 1 1 (Db (4*i) m (Bx d) (DV (by rw[J3];have:(l).length=m:=hl;omega))) D D)<|zs (Fj Tryz.underlying5 1 (Db (4*i) m (Bx d) (DV (by rw[J3];have:(l).length=m:=hl;omega))) D)<|zs (Gg Tryz.underlying5 Tryz.underlying3 D)<|zs (Ke (n:=8) D D (((l.drop (4*i)).getD 1 0).toNat*2^8) D)<|zs (Ku D D (((l.drop (4*i)).getD 0 0).toNat+((l.drop (4*i)).getD 1 0).toNat*2^8) KM)<|zs (AA D)<|zs (Dj A3 2 2 (Db (4*i) m (Bx d) (DV (by rw[J3];have:(l).length=m:=hl;omega))) D D)<|zs (Fj Tryz.underlying5 2 (Db (4*i) m (Bx d) (DV (by rw[J3];have:(l).length=m:=hl;omega))) D)<|zs (Gg Tryz.underlying5 Tryz.underlying3 D)<|zs (Ke (n:=16) D D (((l.drop (4*i)).getD 2 0).toNat*2^16) D)<|zs (Ku D D (((l.drop (4*i)).getD 0 0).toNat+((l.drop (4*i)).getD 1 0).toNat*2^8+((l.drop (4*i)).getD 2 0).toNat*2^16) KM)<|zs (AA D)<|zs (Dj A3 3 3 (Db (4*i) m (Bx d) (DV (by rw[J3];have:(l).length=m:=hl;omega))) D D)<|zs (Fj Tryz.underlying5 3 (Db (4*i) m (Bx d) (DV (by rw[J3];have:(l).length=m:=hl;omega))) D)<|zs (Gg Tryz.underlying5 Tryz.underlying3 D)<|zs (Ke (n:=24) D D (((l.drop (4*i)).getD 3 0).toNat*2^24) D)<|zs (Ku D D (((l.drop (4*i)).getD 0 0).toNat+((l.drop (4*i)).getD 1 0).toNat*2^8+((l.drop (4*i)).getD 2 0).toNat*2^16+((l.drop (4*i)).getD 3 0).toNat*2^24) KM)<|zs (Bp D)<|CS<|U<|H6 0 0 i D D D D (X5 JY (by unfold G.BD;rw[RO])) (hl:=Uu l i)<|K ?_;refine B6 (q:=1) D D<|K ?_;exact fun a W f e=>⟨_,JY,i+1,D,AY f,e.pick [0,1],JY⟩
 obtain rfl:i=6:=JY;refine Pn 0 [[E (G.BD l 0)],[E (G.BD l 4)],[E (G.BD l 8)],[E (G.BD l 12)],[E (G.BD l 16)],[E (G.BD l 20)],Ak 32] D D<|K ?_;refine DD 4<|FO 0 [[E (G.BD l 0)],[E (G.BD l 4)],[E (G.BD l 8)],[E (G.BD l 12)],[E (G.BD l 16)],[E (G.BD l 20)],bv (Ji.zero 32).l] D D<|zs (AS Tryz.underlying142 6 D)<|zs (Fp Tryz.underlying136 0 32 rfl .none .none 6)<|zs (AA D)<|zs (Fi A3 24 m (Bx d) D (.some D) .none)<|CS<|U<|HC 0 6 0 32 (Db 24 m (Bx d) (DV (by rw[J3];have:(l).length=m:=hl;omega))) Tryz.underlying29 D D D D D (by have:(l.drop 24).length=m - 24:=(by have:(l).length=m:=hl;simp only[J3];omega);rw[FX];omega)<|?_;refine FO 0 [[E (G.BD l 0)],[E (G.BD l 4)],[E (G.BD l 8)],[E (G.BD l 12)],[E (G.BD l 16)],[E (G.BD l 20)],bv (G.DF l 24).l] D (by rw[←Og];rfl)<|K ?_;refine Af (BN sP 0 D D)<|U<|BP o5 D (fun w e=>Vr (G.BD l 0) (G.BD l 4) (G.BD l 8) (G.BD l 12) (G.BD l 16) (G.BD l 20) (G.DF l 24) w)<|?_
 rcases Ln (G.right ⟨G.BD l 0,G.BD l 4,G.BD l 8,G.BD l 12,G.BD l 16,G.BD l 20,G.DF l 24⟩)with g|g
 ·
  refine CR 58 D (congrArg Value.bool g)<|?_;exact absurd (g.symm.trans hr) JZ
 refine CR 58 D (congrArg Value.bool g)<|Af (Te D)<|K ?_;refine Af (S8 Yc)<|U<|Bk 1 0 7 D D D<|?_;refine K ?_;refine Gl sP 1 D D D fun W e=>?_;exact⟨D,e.A0⟩
theorem MV{q:Option Addr}{l:rG}(a:View w (.slice q m c) m 1 (bv l))(hl:l.length=m):
 Calls lp 93 #[I q m c] w fun e W=>(e=match G.record l with|some r=>.returned (.tuple #[rS (Ro r),E 0])|none=>.returned (.tuple #[rS Qb,E 150]))∧Below w.heap.size w W:=by
 unfold G.record
 by_cases h:l.length=56
 ·rw[if_pos h]
  by_cases hr:G.right (G.Kd l)=true
  ·rw[if_pos hr];exact bQ q m c l w a hl JY hr
  ·rw[if_neg hr];exact eh q m c l w a hl JY (gC.2 hr)
 ·rw[if_neg h];exact dd q m c l w a hl JY
theorem MM{f:Nat}{a:Array Value}{x:Ending}(h:Calls lp f a w fun e W=>e=x∧w=W):Calls lp f a w fun e W=>e=x∧Below w.heap.size w W:=h.mono (fun _ _ q=>⟨q.1,q.2▸Cn _ _⟩)
theorem aA(q:Option Addr)(n c:Nat)(l:rG)(w:World)(a:View w (.slice q n c) n 1 (bv l))(hl:l.length=n):
 Calls lp 102 #[I q n c] w (sM w (Be .u32 (UInt32.ofNat (At.sum l)).toNat)):=by
 have:=At.G7 l;rw[show(UInt32.ofNat (At.sum l)).toNat=At.sum l from UInt32.toNat_ofNat_of_lt' this];exact I4 q n c l w a hl
theorem PE{l:rG}{x:UInt32}(a:x=UInt32.ofNat (At.sum (l.take m))):At.C5 l m=0↔(l.getD m 0).toNat=x.toUInt8.toNat∧(l.getD (m+1) 0).toNat=(x>>>8).toUInt8.toNat∧(l.getD (m+2) 0).toNat=(x>>>16).toUInt8.toNat∧(l.getD (m+3) 0).toNat=(x>>>24).toUInt8.toNat:=by
 have b:=At.G7 (l.take m);have c:=(l.getD m 0).toNat_lt;have h1:=(l.getD (m+1) 0).toNat_lt;have d:=(l.getD (m+2) 0).toNat_lt;have f:=(l.getD (m+3) 0).toNat_lt;have e:x.toNat=At.sum (l.take m):=by rw[a];exact UInt32.toNat_ofNat_of_lt' b
 rw[At.XP,At.Sh,←e];simp only[Hx,Ss,show(8:UInt32).toNat % 32=8 from D,show(16:UInt32).toNat % 32=16 from D,show(24:UInt32).toNat % 32=24 from D,mM];have:=x.toNat_lt;omega
section
variable {P:Program} {N:Nat} {f:BW} {d:Nat} {ty:TypeId} {pos:String} {An:Array Edge} {g:Option (Nat×Bool)} {F:Nat→Prop} {w0:World} {H:List Atom}
theorem Lf{T e:TypeId}{n:Nat}(b:P.underlying T=some (.array n e)){p:Option Addr}{size:Nat}{xs:List Value}(i:∀w,Sat F w0 H w→View w (.slice p m c) m size xs)(j:Aj f x=some (.slice p m c))(k:0<m:=by omega)(l:n≤m:=by omega):BR P N f F w0 H ⟨some d,.sliceToArrayPointer T x,ty,pos,An,g⟩ (Hn p 0):=fun a w o q=>by
 show(execOp a.eval _).run P w=_;have h:=Qs (i w q) k;simp only[execOp,o.A_ j,Sem.run_bind,T8 b p m c l w,Result.andThen_ok,Sem.run_pure];rw[Hn,tA,←h]
theorem M7{T e:TypeId}{n:Nat}(j:P.underlying T=some (.array n e)){p:Option Addr}{l l':rG}(k:∀w,Sat F w0 H w→View w (.slice p m c) m 1 (bv l))(q:Aj f x=some (Hn p 0))(e:l=l')(hl:l'.length=n)(i:0<m:=by omega)(r:(P.info? T).map (·.size)=some n:=by kernel_rfl):BR P N f F w0 H ⟨some d,.load T x,ty,pos,An,g⟩ (rS [bv l']):=fun a w s t=>by
 subst e;have h:=k w t;rw[Qs h i]at h
 rcases h.2 with⟨i,_⟩|⟨b,o,cap,i,_,_,_,_,u⟩
 ·cases i
 ·simp only[Value.slice.injEq,Option.some.injEq,Addr.mk.injEq]at i;obtain⟨⟨rfl,rfl,_⟩,_,_⟩:=i;exact Wg s q j D (mid:=[bv l]) (by simpa using u) (by rw[r];simp[DG,hl])
end
theorem IY(q:Option Addr)(m c:Nat)(l:rG)(w:World)(a:View w (.slice q (m+4) c) (m+4) 1 (bv l))(hl:l.length=m+4):Calls lp 98 #[I q (m+4) c] w (sM w (.bool (decide (At.C5 l m=0)))):=by
 have j:=a.max;refine Cg w fA D 54<|K ?_;refine Cr B7 D<|Es (q:=4) D D<|CR 7 D (show _=(E m)from by rw[Yp])<|K ?_;refine ET JY D D<|K ?_;refine Af (Fi A3 0 m (Bx a) rfl .none (.some D))<|U<|BP p7 D (fun w b=>aA _ _ _ (l.take m) w ((Db 0 m (Bx a) (by rw[HE,jS])) w b) (by have:(l).length=m+4:=hl;simp only[FX];omega))<|?_;obtain⟨x,e⟩:∃x:UInt32,x=UInt32.ofNat (At.sum (l.take m)):=⟨_,D⟩
 have d:=PE (l:=l) (m:=m) e;refine CR 13 D (show _=(Be .u32 x.toNat)from by rw[e])<|K ?_;refine Af (Dj A3 m m (Bx a) D D)<|Af (Fj BV m (Bx a) D)<|Jd D<|Af (Lj Wz BV D)<|Gx D D (fun f=>?_) fun f=>?_
 ·
  refine K ?_;refine B6 (q:=1) D D<|Jj D D D<|Af (Dj A3 (m+1) (m+1) (Bx a) D D)<|Jj D D D<|Af (Fj BV (m+1) (Bx a) D)<|K ?_;refine Af (KO 8 D D)<|Jj D D D<|Af (Lj Wz BV D)<|Jj D D D<|Gx D D (fun g=>?_) fun g=>?_
  ·
   refine K ?_;refine B6 (q:=2) D D<|Jj D D D<|Af (Dj A3 (m+2) (m+2) (Bx a) D D)<|Jj D D D<|Af (Fj BV (m+2) (Bx a) D)<|K ?_;refine Af (KO 16 D D)<|Jj D D D<|Af (Lj Wz BV D)<|Jj D D D<|Gx D D (fun h=>?_) fun h=>?_
   ·
    refine K ?_;refine B6 (q:=3) D D<|Jj D D D<|Af (Dj A3 (m+3) (m+3) (Bx a) D D)<|Jj D D D<|Af (Fj BV (m+3) (Bx a) D)<|K ?_;refine Af (KO 24 D D)<|Jj D D D<|Af (Lj Wz BV D)<|Jj D D D<|Gx D D (fun i=>?_) fun i=>?_
    ·
     refine A7 ?_;exact fun W b=>⟨by rw[decide_eq_true (by rw[d];omega)],b.A0⟩
    refine A7 ?_;exact fun W b=>⟨by rw[decide_eq_false (by rw[d];omega)],b.A0⟩
   refine A7 ?_;exact fun W b=>⟨by rw[decide_eq_false (by rw[d];omega)],b.A0⟩
  refine A7 ?_;exact fun W b=>⟨by rw[decide_eq_false (by rw[d];omega)],b.A0⟩
 refine A7 ?_;exact fun W b=>⟨by rw[decide_eq_false (by rw[d];omega)],b.A0⟩
theorem Fr.Ht(l:rG)(a n:Nat):Fr.le ((l.drop a).take n)<256^n:=Wb (Fr.Lt ((l.drop a).take n)) (aI JZ (show((l.drop a).take n).length≤n by rw[FX];omega))
section
variable {F:Nat→Prop} {w0:World} {H:List Atom} {b:Nat} {T:TypeId}
theorem QH(X:Ji 64)(w:World):Calls lp 95 #[rS [[E (X.l.getD 4 0).toNat],[E (Fr.le ((X.l.drop 8).take 7))],[E (Fr.le ((X.l.drop 16).take 4))],[E (Fr.le ((X.l.drop 20).take 4))],[E (Fr.le ((X.l.drop 24).take 4))]]] w (sM w (C' (Fr.DE (Fr.fields X.l)))):=by
 have h1:=Fr.Ht X.l 8 7;have a:=Fr.Ht X.l 16 4;have b:=Fr.Ht X.l 20 4;have c:=Fr.Ht X.l 24 4;have d:=(X.l.getD 4 0).toNat_lt;exact(UO (Fr.fields X.l) w (by show Fr.le _≤_;omega) (by show Fr.le _≤_;omega) (by show Fr.le _≤_;omega) (by show Fr.le _≤_;omega) (by show UInt8.toNat _≤_;omega))
theorem CJ(X:Ji 64)(i a:Nat)(w:World)(c:Sat F w0 H w)(n:Nat)(V:H[i]? =some (O b [bv X.l] T):=by exact rfl)(f:a+n≤64:=by omega)(d:n≤7:=by omega):Calls lp 100 #[I (some ⟨b,a,none⟩) (64 - a) (64 - a),E n] w (sM w (E (Fr.le ((X.l.drop a).take n)))):=by
 exact(MM (KA _ _ _ n _ w ((MS i 0 a (64 - a) (64 - a) D V) w c) (by have:=X.h;simp only[FX,J3];omega) JY d)).mono fun e W q=>⟨q.1.trans (by rw[LN,aQ JY]),q.2⟩
theorem Ki(X:Ji 64)(i a n:Nat)(w:World)(c:Sat F w0 H w)(V:H[i]? =some (O b [bv X.l] T):=by exact rfl)(d:a+n≤64:=by omega):Calls lp 99 #[I (some ⟨b,a,none⟩) n (64 - a)] w fun e W=>e=.returned (C' (Fr.CN ((X.l.drop a).take n)))∧Below w.heap.size w W:=
 MM (LU _ _ _ _ w ((MS i 0 a n (64 - a) D V) w c) (by have:=X.h;simp only[FX,J3];omega))
end
theorem EP(q:Option Addr)(c:Nat)(l:rG)(w:World)(j:View w (.slice q 256 c) 256 1 (bv l))(hl:l.length=256):Calls lp 71 #[I q 256 c] w fun e W=>(∀s,Fr.DP l=some s→e=.returned (.tuple #[rS (Z1 s),E 0]))∧(Fr.DP l=none→∃k:Nat,k≠0∧e=.returned (.tuple #[rS SY,E k]))∧Below w.heap.size w W:=by
 obtain⟨X,i⟩:∃X:Ji 64,l.take 64=X.l:=⟨⟨l.take 64,by rw[FX];omega⟩,D⟩
 refine Cg w LM D 55<|Je<|Jh<|U<|Bw SY fun t=>K ?_;refine Cr B7 D<|Ci D D D<|K ?_;refine Af (Fi A3 0 64 (Bx j) rfl .none (.some D))<|U<|BP fA D (fun w b=>IY _ 60 _ (l.take 64) w ((Db 0 64 (Bx j) (by rw[HE])) w b) (by have:(l).length=256:=hl;simp only[FX];omega))<|Af (Te D)<|Jg<|Jf<|J9 D (fun m=>?_) fun m=>?_
 ·
  rw[i]at m;simp at m;refine Je<|Jh<|Af (S8 SY)<|U<|Bk 0 0 5 D D D<|?_;refine K ?_;refine Gl Bs 0 D D D fun W b=>?_;have f:Fr.DP l=none:=by unfold Fr.DP Fr.Hz;rw[i];simp[*]
  exact⟨(fun s h=>by rw[f]at h;cases h),fun _=>⟨52,JZ,rfl⟩,b.A0⟩
 rw[i]at m;simp at m;refine K ?_;refine Af (Fi A3 0 64 (Bx j) rfl .none (.some D))<|Af (Lf Tryz.underlying194 (Db 0 64 (Bx j) (by rw[HE])) D)<|Af (M7 Tryz.underlying194 (Db 0 64 (Bx j) (by rw[HE])) D i X.h)<|U<|Bw [bv (Ji.zero 64).l] fun v=>U<|Bk 0 0 1 D D D<|?_;refine K ?_;refine Af (Fp L7 0 4 rfl .none (.some D) 0)<|Af (fun _ _ d b=>Lk d A3 BV Ho D ((MS 0 0 0 4 64 (by rw[HE])) _ b) (by have:=X.h;simp only[FX];omega))<|?_
 by_cases u:X.l.take 4=[76,68,71,49]
 ·
  refine Af (bm (fun _ _ d b=>SW d D D _ D) (congrArg Bool.not (decide_eq_true u)))<|K ?_;refine Af (Fp L7 5 8 D (.some D) (.some D) 5)<|Jj D D D<|U<|BP o1 D (fun w b=>Ki X 0 5 3 w b)<|?_
  rcases Ln (Fr.CN ((X.l.drop 5).take 3))with n|n
  ·
   refine CR 24 D (congrArg Value.bool n)<|Jj D D D<|Af (Te D)<|K ?_;refine Af (Fp L7 28 60 D (.some D) (.some D) 28)<|Jj D D D<|U<|BP o1 D (fun w b=>Ki X 0 28 32 w b)<|?_
   rcases Ln (Fr.CN ((X.l.drop 28).take 32))with o|o
   ·
    refine CR 29 D (congrArg Value.bool o)<|Jj D D D<|Af (Te D)<|K ?_;refine Af (Fp L7 15 16 D (.some D) (.some D) 15)<|Jj D D D<|U<|BP o1 D (fun w b=>Ki X 0 15 1 w b)<|?_
    rcases Ln (Fr.CN ((X.l.drop 15).take 1))with p|p
    ·
     refine CR 34 D (congrArg Value.bool p)<|Jj D D D<|Af (Te D)<|K ?_;refine Hj (fun a W=>∃g,AH 55 a (Jb (Jb (Jb Jk 2 (S t)) 3 (E 0)) 5 (S g))∧Sat C1 w [O g (b1 X) 70,O t SY 70] W) ?_ ?_
     ·
      refine CQ [0]<|Ab 0 D (D9 L7 1 4 4 D D)<|Ab 1 D (K3 BV 0 0 4 D D D)<|Ab 2 D (Gg BV AF D)<|Ab 3 D (Fp L7 8 64 D (.some D) .none 8)<|Ab 5 D (Fp L7 16 64 D (.some D) .none 16)<|Ab 7 D (Fp L7 20 64 D (.some D) .none 20)<|Ab 9 D (Fp L7 24 64 D (.some D) .none 24)<|Gy 4 12 D D ?_ ?_
      ·
       refine BP Z5 D (fun w b=>CJ X 0 8 w b 7)<|A8 [0]<|Gy 6 12 D D ?_ ?_
       ·
        refine BP Z5 D (fun w b=>CJ X 0 16 w b 4)<|A8 [0]<|Gy 8 12 D D ?_ ?_
        ·
         refine BP Z5 D (fun w b=>CJ X 0 20 w b 4)<|A8 [0]<|Gy 10 12 D D ?_ ?_
         ·
          refine BP Z5 D (fun w b=>CJ X 0 24 w b 4)<|A8 [0]<|Ab 11 D (S8 (b1 X))<|Bh 12 D<|Bw SY fun g=>A8 [1]<|Bh 13 D<|Bk 0 0 5 D D D<|?_;refine A8 [1]<|Cm<|?_;exact fun a W d b=>⟨g,AY d,b.pick [0,2]⟩
         refine Bw SY fun g=>A8 [1]<|Bh 10 D<|BP Z5 D (fun w b=>CJ X 1 24 w b 4)<|A8 [1]<|Ab 11 D (S8 (b1 X))<|Bh 13 D<|Bk 0 0 5 D D D<|?_;refine A8 [1]<|Cm<|?_;exact fun a W d b=>⟨g,AY d,b.pick [0,2]⟩
        refine Bw SY fun g=>A8 [1]<|Bh 8 D<|BP Z5 D (fun w b=>CJ X 1 20 w b 4)<|A8 [1]<|Bh 10 D<|BP Z5 D (fun w b=>CJ X 1 24 w b 4)<|A8 [1]<|Ab 11 D (S8 (b1 X))<|Bh 13 D<|Bk 0 0 5 D D D<|?_;refine A8 [1]<|Cm<|?_;exact fun a W d b=>⟨g,AY d,b.pick [0,2]⟩
       refine Bw SY fun g=>A8 [1]<|Bh 6 D<|BP Z5 D (fun w b=>CJ X 1 16 w b 4)<|A8 [1]<|Bh 8 D<|BP Z5 D (fun w b=>CJ X 1 20 w b 4)<|A8 [1]<|Bh 10 D<|BP Z5 D (fun w b=>CJ X 1 24 w b 4)<|A8 [1]<|Ab 11 D (S8 (b1 X))<|Bh 13 D<|Bk 0 0 5 D D D<|?_;refine A8 [1]<|Cm<|?_;exact fun a W d b=>⟨g,AY d,b.pick [0,2]⟩
      refine Bw SY fun g=>A8 [1]<|Bh 4 D<|BP Z5 D (fun w b=>CJ X 1 8 w b 7)<|A8 [1]<|Bh 6 D<|BP Z5 D (fun w b=>CJ X 1 16 w b 4)<|A8 [1]<|Bh 8 D<|BP Z5 D (fun w b=>CJ X 1 20 w b 4)<|A8 [1]<|Bh 10 D<|BP Z5 D (fun w b=>CJ X 1 24 w b 4)<|A8 [1]<|Ab 11 D (S8 (b1 X))<|Bh 13 D<|Bk 0 0 5 D D D<|?_;refine A8 [1]<|Cm<|?_;exact fun a W d b=>⟨g,AY d,b.pick [0,2]⟩
     rintro a W ⟨g,d,b⟩;revert a W;refine K ?_;refine Af (BN Bs 0 D D)<|U<|BP gV D (fun w b=>QH X w)<|Af (Te D)<|Jg<|Jf<|J9 D (fun r=>?_) fun r=>?_
     ·
      simp at r;refine Je<|Jh<|Af (S8 SY)<|U<|Bk 1 0 5 D D D<|?_;refine K ?_;refine Gl Bs 1 D D D fun W b=>?_;have f:Fr.DP l=none:=by unfold Fr.DP Fr.Hz;rw[i];simp[*]
      exact⟨(fun s h=>by rw[f]at h;cases h),fun _=>⟨53,JZ,rfl⟩,b.A0⟩
     simp at r;refine K ?_;refine Af (BN Bs 0 D D)<|U<|Bk 1 0 5 D D D<|?_;refine K ?_;refine Gl Bs 1 D D D fun W b=>?_;have f:Fr.DP l=some (Fr.fields X.l):=by unfold Fr.DP Fr.Hz;rw[i];simp[*]
     exact⟨(fun s h=>by rw[f]at h;cases h;rfl),(fun h=>by rw[f]at h;cases h),b.A0⟩
    refine CR 34 D (congrArg Value.bool p)<|Jj D D D<|Af (Te D)<|K ?_;refine Af (S8 SY)<|U<|Bk 1 0 5 D D D<|?_;refine K ?_;refine Gl Bs 1 D D D fun W b=>?_;have f:Fr.DP l=none:=by unfold Fr.DP Fr.Hz;rw[i];simp[*]
    exact⟨(fun s h=>by rw[f]at h;cases h),fun _=>⟨53,JZ,rfl⟩,b.A0⟩
   refine CR 29 D (congrArg Value.bool o)<|Jj D D D<|Af (Te D)<|K ?_;refine Af (S8 SY)<|U<|Bk 1 0 5 D D D<|?_;refine K ?_;refine Gl Bs 1 D D D fun W b=>?_;have f:Fr.DP l=none:=by unfold Fr.DP Fr.Hz;rw[i];simp[*]
   exact⟨(fun s h=>by rw[f]at h;cases h),fun _=>⟨53,JZ,rfl⟩,b.A0⟩
  refine CR 24 D (congrArg Value.bool n)<|Jj D D D<|Af (Te D)<|K ?_;refine Af (S8 SY)<|U<|Bk 1 0 5 D D D<|?_;refine K ?_;refine Gl Bs 1 D D D fun W b=>?_;have f:Fr.DP l=none:=by unfold Fr.DP Fr.Hz;rw[i];simp[*]
  exact⟨(fun s h=>by rw[f]at h;cases h),fun _=>⟨53,JZ,rfl⟩,b.A0⟩
 refine Af (bm (fun _ _ d b=>SW d D D _ D) (congrArg Bool.not (decide_eq_false u)))<|K ?_;refine Af (S8 SY)<|U<|Bk 1 0 5 D D D<|?_;refine K ?_;refine Gl Bs 1 D D D fun W b=>?_;have f:Fr.DP l=none:=by unfold Fr.DP Fr.Hz;rw[i];simp[*]
 exact⟨(fun s h=>by rw[f]at h;cases h),fun _=>⟨53,JZ,rfl⟩,b.A0⟩
theorem Z3(x y:Operand)(p q:Array Value)(w:World):(eqGuard .eql 194 x y (.agg p) (.agg q)).run lp w=.ok () w:=AB
theorem hz(x y:Operand)(p q:Array Value)(w:World):(eqGuard .neq 70 x y (.agg p) (.agg q)).run lp w=.ok () w:=AB
theorem K_{c:Act}{N:Nat}{f:BW}{ty t:TypeId}{pos:String}{An:Array Edge}{dst:Option Tmp}{g:Option (Nat×Bool)}(d:AH N c f){y:Operand}{a b:Ji 64}(i:Aj f x=some (rS [bv a.l]))(j:Aj f y=some (rS [bv b.l])):CD lp c w ⟨dst,.binOp .eql 194 x y t,ty,pos,An,g⟩ (.bool (decide (a.l=b.l))) w:=by
 have e:∀l:List UInt8,flat [bv l]=(bv l).toArray:=fun l=>by simp only[flat,W1,fH,Ha]
 have h:=congr (congrArg (fun x y=>(binOp .eql 194 (Value.agg x) (Value.agg y)).run lp w) (e a.l)) (e b.l);exact ED d i j (Z3 _ _ _ _ _) (h.trans (dM a.h b.h _))
theorem M8(q:Option Addr)(c:Nat)(l:rG)(w:World)(b:View w (.slice q 256 c) 256 1 (bv l))(hl:l.length=256):Calls lp 92 #[I q 256 c] w (sM w (.bool (Fr.Sa l))):=by
 obtain⟨X,d⟩:∃X:Ji 64,l.take 64=X.l:=⟨⟨l.take 64,by rw[FX];omega⟩,D⟩
 refine Cg w O7 D 14<|K ?_;refine Cr B7 D<|EU D D D<|K ?_;refine Af (Fi A3 0 64 (Bx b) rfl .none (.some D))<|Jj D D D<|Af (Lf Tryz.underlying194 (Db 0 64 (Bx b) (by rw[HE])) D)<|Jj D D D<|Af (M7 Tryz.underlying194 (Db 0 64 (Bx b) (by rw[HE])) D d X.h)<|Jj D D D<|Af (S8 [bv (Ji.zero 64).l])<|Jj D D D<|?_
 by_cases f:X.l=(Ji.zero 64).l
 ·
  refine Af (bm (fun _ _ e a=>K_ e D D) (decide_eq_true f))<|A7 ?_;intro W a;unfold Fr.Sa;rw[d,decide_eq_true (by assumption)];exact⟨D,a.A0⟩
 refine Af (bm (fun _ _ e a=>K_ e D D) (decide_eq_false f))<|A7 ?_;intro W a;unfold Fr.Sa;rw[d,decide_eq_false (by assumption)];exact⟨D,a.A0⟩
theorem Fr.fF(a b:Fr.Bu):(((a.g % 2=0∧b.g % 2=1∧a.w=b.w∧a.p=b.p)∧a.g=b.g+1∧b.m≤a.m)∧Fr.Ed a b=some a)∨(((a.g % 2=0∧b.g % 2=1∧a.w=b.w∧a.p=b.p)∧b.g=a.g+1∧a.m≤b.m)∧Fr.Ed a b=some b)∨((¬((a.g % 2=0∧b.g % 2=1∧a.w=b.w∧a.p=b.p)∧((a.g=b.g+1∧b.m≤a.m)∨(b.g=a.g+1∧a.m≤b.m))))∧Fr.Ed a b=none):=by
 have J:b={a with g:=a.g+1,m:=b.m,h:=b.h}↔b.w=a.w∧b.g=a.g+1∧b.p=a.p:=by cases a;cases b;simp
 have d:a={b with g:=b.g+1,m:=a.m,h:=a.h}↔a.w=b.w∧a.g=b.g+1∧a.p=b.p:=by cases a;cases b;simp
 unfold Fr.Ed
 by_cases h1:a.g % 2≠0∨b.g % 2≠1
 ·rw[if_pos h1];exact .inr (.inr ⟨JY,D⟩)
 ·rw[if_neg h1]
  by_cases e:a.g<b.g
  ·rw[if_pos e]
   by_cases c:b={a with g:=a.g+1,m:=b.m,h:=b.h}∧a.m≤b.m
   ·rw[if_pos c];have:=J.1 c.1;exact .inr (.inl ⟨JY,D⟩)
   ·rw[if_neg c];have f:¬((b.w=a.w∧b.g=a.g+1∧b.p=a.p)∧a.m≤b.m):=fun q=>c ⟨J.2 q.1,q.2⟩;exact .inr (.inr ⟨JY,D⟩)
  ·rw[if_neg e]
   by_cases c:a={b with g:=b.g+1,m:=a.m,h:=a.h}∧b.m≤a.m
   ·rw[if_pos c];have:=d.1 c.1;exact .inl ⟨JY,D⟩
   ·rw[if_neg c];have f:¬((a.w=b.w∧a.g=b.g+1∧a.p=b.p)∧b.m≤a.m):=fun q=>c ⟨d.2 q.1,q.2⟩;exact .inr (.inr ⟨JY,D⟩)
theorem Fr.FK{a b d e:Nat}{x:Fr.Bu}:(⟨a,b,c,d,e⟩:Fr.Bu)=x↔a=x.w∧b=x.g∧c=x.m∧d=x.h∧e=x.p:=by cases x;simp
theorem QU{c:Act}{N:Nat}{f:BW}{ty t:TypeId}{pos:String}{An:Array Edge}{dst:Option Tmp}{g:Option (Nat×Bool)}(d:AH N c f){y:Operand}{a b:Fr.Bu}(e:Aj f x=some (FV a))(h:Aj f y=some (FV b))(r:Bool)(hr:(!decide (a=b))=r):CD lp c w ⟨dst,.binOp .neq 70 x y t,ty,pos,An,g⟩ (.bool r) w:=by
 subst hr;exact ED d e h (hz _ _ _ _ _) (h2 _ _ _)
theorem KI(x y:Fr.Bu)(w:World)(h1:x.g≤4611686018427387904)(u:y.g≤4611686018427387904):Calls lp 91 #[rS (Z1 x),rS (Z1 y)] w fun e W=>(∀s,Fr.Ed x y=some s→e=.returned (.tuple #[rS (Z1 s),E 0]))∧(Fr.Ed x y=none→e=.returned (.tuple #[rS SY,E 4]))∧Below w.heap.size w W:=by
 refine Cg w Yb D 48<|Je<|Jh<|U<|Cv D fun v=>U<|Cv D fun z=>U<|Bw SY fun A=>K ?_;refine AG Bs 1 D<|AZ AF 2 1 D D D<|Af (GG (q:=2) D D)<|Li D D (fun k=>?_) fun k=>?_
 ·
  refine K ?_;refine AG Bs 1 D<|Jj D D D<|AZ AF 1 1 D D D<|Jj D D D<|Af (GG (q:=2) D D)<|Jj D D D<|Li D D (fun l=>?_) fun l=>?_
  ·
   refine K ?_;refine AG Bs 1 D<|AZ AF 2 1 D D D<|AG Bs 1 D<|AZ AF 1 1 D D D<|Ej D D<|Jg<|Jf<|Cz D (fun n=>?_) fun n=>?_
   ·
    refine Jh<|Af (BN Bs 1 D D)<|Af (BN Bs 2 D D)<|U<|Bk 2 0 5 D D D<|?_;refine U<|Bk 1 0 5 D D D<|?_;refine K ?_;refine Af (BN Bs 1 D D)<|U<|Bw SY fun o=>U<|Bk 0 0 5 D D D<|?_;refine Jg<|Jf<|Je<|CQ [2,3]<|Ab 0 D (AS Bs 1 D)<|Ab 1 D (Bb AF 0 1 D D D)<|Ab 2 D (Pc (q:=1) D D)<|Ab 3 D (AS Bs 2 D)<|Ab 4 D (Bb AF 1 2 D D D)<|Ab 5 D (AS Bs 3 D)<|Ab 6 D (Bb AF 1 3 D D D)<|Ab 7 D (AS Bs 1 D)<|Bh 8 D<|Cq 0 1 D D D<|?_;refine A8 [2,3]<|Ab 9 D (AS Bs 2 D)<|Bh 10 D<|Cq 0 2 D D D<|?_;refine A8 [2,3]<|Ab 11 D (AS Bs 3 D)<|Bh 12 D<|Cq 0 3 D D D<|?_;refine A8 [2,3]<|Cm<|K ?_;refine Af (BN Bs 0 D D)<|Af (BN Bs 3 D D)<|?_
    by_cases i:(⟨x.w,x.g+1,y.m,y.h,x.p⟩:Fr.Bu)=y
    ·
     refine Af (bm (fun _ _ f c=>QU f (a:=(⟨x.w,x.g+1,y.m,y.h,x.p⟩:Fr.Bu)) (b:=y) D D _ D) (congrArg Bool.not (decide_eq_true i)))<|K ?_;refine AG Bs 2 D<|Jj D D D<|AZ AF 3 2 D D D<|Jj D D D<|AG Bs 2 D<|Jj D D D<|AZ AF 2 2 D D D<|Jj D D D<|GV D D (fun r=>?_) fun r=>?_
     ·
      refine K ?_;refine Af (S8 SY)<|U<|Bk 1 0 5 D D D<|?_;refine K ?_;refine Gl Bs 1 D D D fun W c=>?_;have d:Fr.Ed x y=none:=by rcases Fr.fF x y with⟨h,e⟩|⟨h,e⟩|⟨h,e⟩<;>first|exact e|omega|(simp only[Fr.FK,true_and]at*;omega)
      exact⟨(fun s h=>by rw[d]at h;cases h),fun _=>rfl,c.A0⟩
     refine K ?_;refine Af (BN Bs 3 D D)<|U<|Bk 1 0 5 D D D<|?_;refine K ?_;refine Gl Bs 1 D D D fun W c=>?_;have d:Fr.Ed x y=some y:=by rcases Fr.fF x y with⟨h,e⟩|⟨h,e⟩|⟨h,e⟩<;>first|exact e|omega|(simp only[Fr.FK,true_and]at*;omega)
     exact⟨(fun s h=>by rw[d]at h;cases h;rfl),(fun h=>by rw[d]at h;cases h),c.A0⟩
    refine Af (bm (fun _ _ f c=>QU f (a:=(⟨x.w,x.g+1,y.m,y.h,x.p⟩:Fr.Bu)) (b:=y) D D _ D) (congrArg Bool.not (decide_eq_false i)))<|K ?_;refine Af (S8 SY)<|U<|Bk 1 0 5 D D D<|?_;refine K ?_;refine Gl Bs 1 D D D fun W c=>?_;have d:Fr.Ed x y=none:=by rcases Fr.fF x y with⟨h,e⟩|⟨h,e⟩|⟨h,e⟩<;>first|exact e|omega|(simp only[Fr.FK,true_and]at*;omega)
    exact⟨(fun s h=>by rw[d]at h;cases h),fun _=>rfl,c.A0⟩
   refine K ?_;refine Af (BN Bs 1 D D)<|U<|Bw SY fun o=>U<|Bk 0 0 5 D D D<|?_;refine Jg<|Jf<|Je<|CQ [2,3]<|Ab 0 D (AS Bs 1 D)<|Ab 1 D (Bb AF 0 1 D D D)<|Ab 2 D (Pc (q:=1) D D)<|Ab 3 D (AS Bs 2 D)<|Ab 4 D (Bb AF 1 2 D D D)<|Ab 5 D (AS Bs 3 D)<|Ab 6 D (Bb AF 1 3 D D D)<|Ab 7 D (AS Bs 1 D)<|Bh 8 D<|Cq 0 1 D D D<|?_;refine A8 [2,3]<|Ab 9 D (AS Bs 2 D)<|Bh 10 D<|Cq 0 2 D D D<|?_;refine A8 [2,3]<|Ab 11 D (AS Bs 3 D)<|Bh 12 D<|Cq 0 3 D D D<|?_;refine A8 [2,3]<|Cm<|K ?_;refine Af (BN Bs 0 D D)<|Af (BN Bs 3 D D)<|?_
   by_cases j:(⟨y.w,y.g+1,x.m,x.h,y.p⟩:Fr.Bu)=x
   ·
    refine Af (bm (fun _ _ f c=>QU f (a:=(⟨y.w,y.g+1,x.m,x.h,y.p⟩:Fr.Bu)) (b:=x) D D _ D) (congrArg Bool.not (decide_eq_true j)))<|K ?_;refine AG Bs 2 D<|Jj D D D<|AZ AF 3 2 D D D<|Jj D D D<|AG Bs 2 D<|Jj D D D<|AZ AF 2 2 D D D<|Jj D D D<|GV D D (fun t=>?_) fun t=>?_
    ·
     refine K ?_;refine Af (S8 SY)<|U<|Bk 1 0 5 D D D<|?_;refine K ?_;refine Gl Bs 1 D D D fun W c=>?_;have d:Fr.Ed x y=none:=by rcases Fr.fF x y with⟨h,e⟩|⟨h,e⟩|⟨h,e⟩<;>first|exact e|omega|(simp only[Fr.FK,true_and]at*;omega)
     exact⟨(fun s h=>by rw[d]at h;cases h),fun _=>rfl,c.A0⟩
    refine K ?_;refine Af (BN Bs 3 D D)<|U<|Bk 1 0 5 D D D<|?_;refine K ?_;refine Gl Bs 1 D D D fun W c=>?_;have d:Fr.Ed x y=some x:=by rcases Fr.fF x y with⟨h,e⟩|⟨h,e⟩|⟨h,e⟩<;>first|exact e|omega|(simp only[Fr.FK,true_and]at*;omega)
    exact⟨(fun s h=>by rw[d]at h;cases h;rfl),(fun h=>by rw[d]at h;cases h),c.A0⟩
   refine Af (bm (fun _ _ f c=>QU f (a:=(⟨y.w,y.g+1,x.m,x.h,y.p⟩:Fr.Bu)) (b:=x) D D _ D) (congrArg Bool.not (decide_eq_false j)))<|K ?_;refine Af (S8 SY)<|U<|Bk 1 0 5 D D D<|?_;refine K ?_;refine Gl Bs 1 D D D fun W c=>?_;have d:Fr.Ed x y=none:=by rcases Fr.fF x y with⟨h,e⟩|⟨h,e⟩|⟨h,e⟩<;>first|exact e|omega|(simp only[Fr.FK,true_and]at*;omega)
   exact⟨(fun s h=>by rw[d]at h;cases h),fun _=>rfl,c.A0⟩
  refine K ?_;refine Af (S8 SY)<|U<|Bk 0 0 5 D D D<|?_;refine K ?_;refine Gl Bs 0 D D D fun W c=>?_;have d:Fr.Ed x y=none:=by rcases Fr.fF x y with⟨h,e⟩|⟨h,e⟩|⟨h,e⟩<;>first|exact e|omega|(simp only[Fr.FK,true_and]at*;omega)
  exact⟨(fun s h=>by rw[d]at h;cases h),fun _=>rfl,c.A0⟩
 refine K ?_;refine Af (S8 SY)<|U<|Bk 0 0 5 D D D<|?_;refine K ?_;refine Gl Bs 0 D D D fun W c=>?_;have d:Fr.Ed x y=none:=by rcases Fr.fF x y with⟨h,e⟩|⟨h,e⟩|⟨h,e⟩<;>first|exact e|omega|(simp only[Fr.FK,true_and]at*;omega)
 exact⟨(fun s h=>by rw[d]at h;cases h),fun _=>rfl,c.A0⟩
theorem Fr.k7{s:Fr.Bu}(h:Fr.DE s=true):s.g≤1099511627776:=by
 unfold Fr.DE at h;simp only[Kq,decide_eq_true_eq]at h;exact h.1.1.1.1.1.2
theorem m_{a:rG}{s:Fr.Bu}(h:Fr.DP a=some s):Fr.DE s=true:=by
 unfold Fr.DP at h;split at h
 ·split at h
  ·split at h
   ·rename_i b;cases h;exact b
   ·cases h
  ·cases h
 ·cases h
theorem Fr.kI{l a:rG}(h:Fr.DP l=none):Fr.choose l a=if Fr.Sa a=false then .error 4 else if Fr.Sa l=true then .error 55 else .error 4:=by
 unfold Fr.choose;rw[h];simp
theorem Fr.VV{l a:rG}{x:Fr.Bu}(h:Fr.DP l=some x)(b:Fr.DP a=none):Fr.choose l a=if Fr.Sa a=false then .error 4 else if x.g=0 then .error 55 else if Fr.Sa l=true then .error 55 else .error 4:=by
 unfold Fr.choose;rw[h,b];simp
def HP(o:Except Nat Fr.Bu):Value:=match o with
 |.ok s=>.tuple #[rS [[E s.w],[E s.g],[E s.m],[E s.h],[E s.p]],E 0]
 |.error n=>.tuple #[rS [[E 0],[E 0],[E 0],[E 0],[E 0]],E n]
theorem choose_spec(q u:Option Addr)(c v:Nat)(l b:rG)(w:World)(h:View w (.slice q 256 c) 256 1 (bv l))(hl:l.length=256)(i:View w (.slice u 256 v) 256 1 (bv b))(j:b.length=256):Calls lp 62 #[I q 256 c,I u 256 v] w (sM w (HP (Fr.choose l b))):=by
 refine Cg w Rr D 50<|Je<|Jh<|U<|Bw SY fun H=>K ?_;cases f:Fr.DP l with
 |none=>
  cases g:Fr.DP b with
  |none=>
   refine K ?_;refine U<|Ba LM D (fun w a=>(EP _ _ l w ((Bx h) w a) hl).mono fun e W q=>(let⟨k,h1,m⟩:=q.2.1 f;⟨k,m,h1,q.2.2⟩:∃k:Nat,_∧_∧_)) fun _ e W a ⟨L,he,M,J⟩=>⟨_,_,he,a.below J,?_⟩
   refine Jd D<|Bc D D<|Bc D D<|U<|Bw SY fun o=>U<|Bk 0 0 5 D D D<|?_;refine K ?_;refine U<|Ba LM D (fun w a=>(EP _ _ b w ((Bx i) w a) j).mono fun e W q=>(let⟨k,h1,m⟩:=q.2.1 g;⟨k,m,h1,q.2.2⟩:∃k:Nat,_∧_∧_)) fun _ e W a ⟨N,he,O,J⟩=>⟨_,_,he,a.below J,?_⟩
   refine Jd D<|Bc D D<|Bc D D<|U<|Bw SY fun p=>U<|Bk 0 0 5 D D D<|?_;refine K ?_;refine Gi JY D D<|K ?_;refine U<|BP O7 D (fun w a=>M8 _ _ b w ((Bx i) w a) j)<|Af (Te D)<|K ?_;refine J9 D (fun r=>?_) fun r=>?_
   ·
    simp at r;refine K ?_;refine Af (S8 SY)<|U<|Bk 2 0 5 D D D<|?_;refine K ?_;refine Gl Bs 2 D D D fun W a=>?_;have d:Fr.choose l b=.error 4:=by rw[Fr.kI f];first|(simp[*];done)|(simp[*];omega)
    rw[d];exact⟨D,a.A0⟩
   simp at r;refine K ?_;refine Gi JY D D<|K ?_;refine U<|BP O7 D (fun w a=>M8 _ _ l w ((Bx h) w a) hl)<|K ?_;refine J9 D (fun A=>?_) fun A=>?_
   ·
    refine K ?_;refine Af (S8 SY)<|U<|Bk 2 0 5 D D D<|?_;refine K ?_;refine Gl Bs 2 D D D fun W a=>?_;have d:Fr.choose l b=.error 55:=by rw[Fr.kI f];first|(simp[*];done)|(simp[*];omega)
    rw[d];exact⟨D,a.A0⟩
   refine K ?_;refine Af (S8 SY)<|U<|Bk 2 0 5 D D D<|?_;refine K ?_;refine Gl Bs 2 D D D fun W a=>?_;have d:Fr.choose l b=.error 4:=by rw[Fr.kI f];first|(simp[*];done)|(simp[*];omega)
   rw[d];exact⟨D,a.A0⟩
  |some y=>
   have B:=Fr.k7 (m_ g);refine K ?_;refine U<|Ba LM D (fun w a=>(EP _ _ l w ((Bx h) w a) hl).mono fun e W q=>(let⟨k,h1,m⟩:=q.2.1 f;⟨k,m,h1,q.2.2⟩:∃k:Nat,_∧_∧_)) fun _ e W a ⟨P,he,Q,J⟩=>⟨_,_,he,a.below J,?_⟩
   refine Jd D<|Bc D D<|Bc D D<|U<|Bw SY fun o=>U<|Bk 0 0 5 D D D<|?_;refine K ?_;refine U<|Ba LM D (fun w a=>(EP _ _ b w ((Bx i) w a) j).mono fun e W q=>(⟨q.1 _ g,q.2.2⟩:_∧_)) fun _ e W a ⟨he,J⟩=>⟨_,_,he,a.below J,?_⟩
   refine Jd D<|Bc D D<|Bc D D<|U<|Bw SY fun p=>U<|Bk 0 0 5 D D D<|?_;refine K ?_;refine Gi JY D D<|K ?_;refine U<|BP O7 D (fun w a=>M8 _ _ b w ((Bx i) w a) j)<|Af (Te D)<|K ?_;refine J9 D (fun s=>?_) fun s=>?_
   ·
    simp at s;refine K ?_;refine Af (S8 SY)<|U<|Bk 2 0 5 D D D<|?_;refine K ?_;refine Gl Bs 2 D D D fun W a=>?_;have d:Fr.choose l b=.error 4:=by rw[Fr.kI f];first|(simp[*];done)|(simp[*];omega)
    rw[d];exact⟨D,a.A0⟩
   simp at s;refine K ?_;refine Gi JY D D<|K ?_;refine U<|BP O7 D (fun w a=>M8 _ _ l w ((Bx h) w a) hl)<|K ?_;refine J9 D (fun C=>?_) fun C=>?_
   ·
    refine K ?_;refine Af (S8 SY)<|U<|Bk 2 0 5 D D D<|?_;refine K ?_;refine Gl Bs 2 D D D fun W a=>?_;have d:Fr.choose l b=.error 55:=by rw[Fr.kI f];first|(simp[*];done)|(simp[*];omega)
    rw[d];exact⟨D,a.A0⟩
   refine K ?_;refine Af (S8 SY)<|U<|Bk 2 0 5 D D D<|?_;refine K ?_;refine Gl Bs 2 D D D fun W a=>?_;have d:Fr.choose l b=.error 4:=by rw[Fr.kI f];first|(simp[*];done)|(simp[*];omega)
   rw[d];exact⟨D,a.A0⟩
 |some x=>
  cases g:Fr.DP b with
  |none=>
   have E:=Fr.k7 (m_ f);refine K ?_;refine U<|Ba LM D (fun w a=>(EP _ _ l w ((Bx h) w a) hl).mono fun e W q=>(⟨q.1 _ f,q.2.2⟩:_∧_)) fun _ e W a ⟨he,J⟩=>⟨_,_,he,a.below J,?_⟩
   refine Jd D<|Bc D D<|Bc D D<|U<|Bw SY fun o=>U<|Bk 0 0 5 D D D<|?_;refine K ?_;refine U<|Ba LM D (fun w a=>(EP _ _ b w ((Bx i) w a) j).mono fun e W q=>(let⟨k,h1,m⟩:=q.2.1 g;⟨k,m,h1,q.2.2⟩:∃k:Nat,_∧_∧_)) fun _ e W a ⟨R,he,S,J⟩=>⟨_,_,he,a.below J,?_⟩
   refine Jd D<|Bc D D<|Bc D D<|U<|Bw SY fun p=>U<|Bk 0 0 5 D D D<|?_;refine K ?_;refine EU JZ D D<|K ?_;refine Gi JY D D<|K ?_;refine U<|BP O7 D (fun w a=>M8 _ _ b w ((Bx i) w a) j)<|Af (Te D)<|K ?_;refine J9 D (fun t=>?_) fun t=>?_
   ·
    simp at t;refine K ?_;refine Af (S8 SY)<|U<|Bk 2 0 5 D D D<|?_;refine K ?_;refine Gl Bs 2 D D D fun W a=>?_;have d:Fr.choose l b=.error 4:=by rw[Fr.VV f g];first|(simp[*];done)|(simp[*];omega)
    rw[d];exact⟨D,a.A0⟩
   simp at t;refine K ?_;refine EU JZ D D<|K ?_;refine AG Bs 1 D<|Jj D D D<|AZ AF 1 1 D D D<|Jj D D D<|Gx D D (fun F=>?_) fun F=>?_
   ·
    refine K ?_;refine Af (S8 SY)<|U<|Bk 2 0 5 D D D<|?_;refine K ?_;refine Gl Bs 2 D D D fun W a=>?_;have d:Fr.choose l b=.error 55:=by rw[Fr.VV f g];first|(simp[*];done)|(simp[*];omega)
    rw[d];exact⟨D,a.A0⟩
   refine K ?_;refine U<|BP O7 D (fun w a=>M8 _ _ l w ((Bx h) w a) hl)<|K ?_;refine J9 D (fun G=>?_) fun G=>?_
   ·
    refine K ?_;refine Af (S8 SY)<|U<|Bk 2 0 5 D D D<|?_;refine K ?_;refine Gl Bs 2 D D D fun W a=>?_;have d:Fr.choose l b=.error 55:=by rw[Fr.VV f g];first|(simp[*];done)|(simp[*];omega)
    rw[d];exact⟨D,a.A0⟩
   refine K ?_;refine Af (S8 SY)<|U<|Bk 2 0 5 D D D<|?_;refine K ?_;refine Gl Bs 2 D D D fun W a=>?_;have d:Fr.choose l b=.error 4:=by rw[Fr.VV f g];first|(simp[*];done)|(simp[*];omega)
   rw[d];exact⟨D,a.A0⟩
  |some y=>
   have E:=Fr.k7 (m_ f);have B:=Fr.k7 (m_ g);refine K ?_;refine U<|Ba LM D (fun w a=>(EP _ _ l w ((Bx h) w a) hl).mono fun e W q=>(⟨q.1 _ f,q.2.2⟩:_∧_)) fun _ e W a ⟨he,J⟩=>⟨_,_,he,a.below J,?_⟩
   refine Jd D<|Bc D D<|Bc D D<|U<|Bw SY fun o=>U<|Bk 0 0 5 D D D<|?_;refine K ?_;refine U<|Ba LM D (fun w a=>(EP _ _ b w ((Bx i) w a) j).mono fun e W q=>(⟨q.1 _ g,q.2.2⟩:_∧_)) fun _ e W a ⟨he,J⟩=>⟨_,_,he,a.below J,?_⟩
   refine Jd D<|Bc D D<|Bc D D<|U<|Bw SY fun p=>U<|Bk 0 0 5 D D D<|?_;refine K ?_;refine EU JZ D D<|K ?_;refine EU JZ D D<|K ?_;cases n:Fr.Ed x y with
   |none=>
    refine K ?_;refine Af (BN Bs 1 D D)<|Af (BN Bs 0 D D)<|U<|Ba Yb D (fun w a=>(KI x y w JY JY).mono fun e W q=>(⟨q.2.1 n,q.2.2⟩:_∧_)) fun _ e W a ⟨he,J⟩=>⟨_,_,he,a.below J,?_⟩
    refine Bc D D<|Bc D D<|U<|Bk 2 0 5 D D D<|?_;refine K ?_;refine Gl Bs 2 D D D fun W a=>?_;have d:Fr.choose l b=.error 4:=by unfold Fr.choose;rw[f,g];simp only[n]
    rw[d];exact⟨D,a.A0⟩
   |some z=>
    refine K ?_;refine Af (BN Bs 1 D D)<|Af (BN Bs 0 D D)<|U<|Ba Yb D (fun w a=>(KI x y w JY JY).mono fun e W q=>(⟨q.1 _ n,q.2.2⟩:_∧_)) fun _ e W a ⟨he,J⟩=>⟨_,_,he,a.below J,?_⟩
    refine Bc D D<|Bc D D<|U<|Bk 2 0 5 D D D<|?_;refine K ?_;refine Gl Bs 2 D D D fun W a=>?_;have d:Fr.choose l b=.ok z:=by unfold Fr.choose;rw[f,g];simp only[n]
    rw[d];exact⟨D,a.A0⟩
theorem KR(q:Option Addr)(c:Nat)(l:rG)(w:World){s:Fr.Bu}(a:Fr.DP l=some s)(b:View w (.slice q 256 c) 256 1 (bv l))(hl:l.length=256):
 Calls lp 71 #[.slice q 256 c] w fun e w'=>e=.returned (.tuple #[rS (Z1 s),E 0])∧Below w.heap.size w w':=(EP q c l w b hl).mono fun e W q=>⟨q.1 _ a,q.2.2⟩
theorem IX(q:Option Addr)(c:Nat)(l:rG)(w:World)(a:Fr.DP l=none)(b:View w (.slice q 256 c) 256 1 (bv l))(hl:l.length=256):
 Calls lp 71 #[.slice q 256 c] w fun e w'=>∃x:Int,e=.returned (.tuple #[rS SY,.int .i64 x])∧x≠0∧Below w.heap.size w w':=(EP q c l w b hl).mono fun e W q=>(let⟨k,h1,d⟩:=q.2.1 a;⟨k,d,JY,q.2.2⟩)
theorem XX(n:Nat)(w:World):Calls lp 104 #[E n] w (sM w (.bool (decide (2≤n∧n<4096)))):=by
 have h:=MM (K0 n w);rw[←nR]at h;exact h
theorem WZ(n:Nat)(w:World):Calls lp 105 #[E n] w (sM w (.bool (decide (1≤n∧n≤3)))):=by
 have h:=MM (M9 n w);rw[←nR]at h;exact h
def Fr.seaL(l:rG):List UInt8:=l++[(UInt32.ofNat (At.sum l)).toUInt8,((UInt32.ofNat (At.sum l))>>>8).toUInt8,((UInt32.ofNat (At.sum l))>>>16).toUInt8,((UInt32.ofNat (At.sum l))>>>24).toUInt8]
theorem bX(p:Nat)(q:Option Addr)(c:Nat)(l:rG)(w:World)(a:View w (.slice q 256 c) 256 1 (bv l))(hl:l.length=256)(i:Fr.CZ p l=true):Calls lp 73 #[E p,I q 256 c] w fun e W=>∃j k,e=.returned (.tuple #[E ((l.getD 0 0).toNat),.slice j (0+(6+(l.getD 1 0).toNat - 6)) k,E 0])∧W.ownsRow w.heap.size 5 1 (.slice j (0+(6+(l.getD 1 0).toNat - 6)) k) (0+(6+(l.getD 1 0).toNat - 6)) (bv ((l.drop 6).take (6+(l.getD 1 0).toNat - 6)))∧Below w.heap.size w W:=by
 have y:=(l.getD 1 0).toNat_lt;have z:=(l.getD 0 0).toNat_lt;simp only[Fr.CZ,Kq,decide_eq_true_eq]at i;obtain⟨⟨⟨⟨⟨⟨m,n⟩,o⟩,r,s⟩,A⟩,hle⟩,t⟩:=i;refine Cg w SU D 52<|K ?_;refine U<|BP Po D (fun w b=>XX p w)<|?_
 rcases Ln (decide (2≤p∧p<4096))with d|d
 ·
  have u:=of_decide_eq_true d;refine CR 10 D (congrArg Value.bool d)<|Af (Te D)<|K ?_;refine Cr B7 D<|Ci D D D<|K ?_;refine U<|BP fA D (fun w b=>IY _ 252 _ l w ((Bx a) w b) hl)<|?_
  rcases Ln (decide (At.C5 l 252=0))with f|f
  ·
   have v:=of_decide_eq_true f;refine CR 16 D (congrArg Value.bool f)<|Af (Te D)<|K ?_;refine GR<|zs (AA D)<|zs (Dj A3 0 0 (Bx a) D D)<|zs (Fj BV 0 (Bx a) D)<|zs (Gg BV AF D)<|zs (AA D)<|zs (Dj A3 1 1 (Bx a) D D)<|zs (Fj BV 1 (Bx a) D)<|zs (Gg BV AF D)<|zs (Ck D)<|zs (Ck D)<|CS<|K ?_;refine U<|BP Qo D (fun w b=>WZ ((l.getD 0 0).toNat) w)<|?_
   rcases Ln (decide (1≤((l.getD 0 0).toNat)∧((l.getD 0 0).toNat)≤3))with g|g
   ·
    have x:=of_decide_eq_true g;refine CR 28 D (congrArg Value.bool g)<|Af (Te D)<|K ?_;refine HF JY D D<|K ?_;refine Af (Fi A3 2 256 (Bx a) D (.some D) .none)<|U<|BP Z5 D (fun w b=>MM (KA _ _ _ 4 (l.drop 2) w ((Db 2 256 (Bx a) (DV (by rw[J3];have:(l).length=256:=hl;omega))) w b) (by have:(l).length=256:=hl;simp only[J3];omega) JY JY))<|Jd D<|Ci JY D D<|K ?_;refine B6 (p:=6) D D<|Af (Fi A3 (6+((l.getD 1 0).toNat)) 252 (Bx a) D (.some D) (.some D))<|U<|BP o1 D (fun w b=>MM (LU _ _ _ ((l.drop (6+((l.getD 1 0).toNat))).take (252 - (6+((l.getD 1 0).toNat)))) w ((Db (6+((l.getD 1 0).toNat)) 252 (Bx a) D) w b) (by have:(l).length=256:=hl;simp only[FX,J3];omega)))<|?_
    rcases Ln (Fr.CN ((l.drop (6+((l.getD 1 0).toNat))).take (252 - (6+((l.getD 1 0).toNat)))))with h|h
    ·
     refine CR 44 D (congrArg Value.bool h)<|Af (Te D)<|K ?_;refine B6 (p:=6) D D<|Af (Fi A3 6 (6+((l.getD 1 0).toNat)) (Bx a) D (.some D) (.some D))<|U<|Dr 5 1 (bv [])<|DI A3 0 (bv ((l.drop 6).take ((6+((l.getD 1 0).toNat)) - 6))) D D D (Db 6 (6+((l.getD 1 0).toNat)) (Bx a) D) (Eo _) (EL (by have:(l).length=256:=hl;simp only[FX,J3];omega)) D fun B C=>K ?_;refine Gz D D D fun W b=>?_;exact⟨_,_,D,b.DQ 0,b.A0⟩
    refine CR 44 D (congrArg Value.bool h)<|?_;exfalso;rw[t]at h;cases h
   have x:=of_decide_eq_false g;refine CR 28 D (congrArg Value.bool g)<|?_;exfalso;exact of_decide_eq_false g ⟨r,s⟩
  have v:=of_decide_eq_false f;refine CR 16 D (congrArg Value.bool f)<|?_;exfalso;exact of_decide_eq_false f o
 have u:=of_decide_eq_false d;refine CR 10 D (congrArg Value.bool d)<|?_;exfalso;exact of_decide_eq_false d ⟨m,n⟩
theorem Lp(p:Nat)(q:Option Addr)(c:Nat)(l:rG)(w:World)(f:View w (.slice q 256 c) 256 1 (bv l))(hl:l.length=256)(a:Fr.CZ p l=true):Calls lp 73 #[E p,I q 256 c] w fun e W=>
 ∃b d,e=.returned (.tuple #[E (l.getD 0 0).toNat,.slice b (G.load l).length d,E 0])∧W.ownsRow w.heap.size 5 1 (.slice b (G.load l).length d) (G.load l).length (bv (G.load l))∧Below w.heap.size w W:=by
 have h:=bX p q c l w f hl a;have i:=(l.getD 1 0).toNat_lt;simp only[Fr.CZ,Kq,decide_eq_true_eq]at a;obtain⟨⟨⟨⟨⟨⟨j,k⟩,m⟩,n,o⟩,r⟩,hle⟩,s⟩:=a;have e:0+(6+(l.getD 1 0).toNat - 6)=(G.load l).length:=by unfold G.load;rw[FX,J3,hl];omega
 have g:(l.drop 6).take (6+(l.getD 1 0).toNat - 6)=G.load l:=by unfold G.load;rw[Zm]
 rw[e,g]at h;exact h
theorem Xl(p:Nat)(q:Option Addr)(c:Nat)(l:rG)(w:World)(b:View w (.slice q 256 c) 256 1 (bv l))(hl:l.length=256)(i:Fr.CZ p l=false):Calls lp 73 #[E p,I q 256 c] w fun e W=>∃k:Nat,k≠0∧e=.returned (.tuple #[E 0,I none 0 0,E k])∧Below w.heap.size w W:=by
 have s:=(l.getD 1 0).toNat_lt;have t:=(l.getD 0 0).toNat_lt;refine Cg w SU D 52<|K ?_;refine U<|BP Po D (fun w a=>XX p w)<|?_
 rcases Ln (decide (2≤p∧p<4096))with d|d
 ·
  have j:=of_decide_eq_true d;refine CR 10 D (congrArg Value.bool d)<|Af (Te D)<|K ?_;refine Cr B7 D<|Ci D D D<|K ?_;refine U<|BP fA D (fun w a=>IY _ 252 _ l w ((Bx b) w a) hl)<|?_
  rcases Ln (decide (At.C5 l 252=0))with f|f
  ·
   have m:=of_decide_eq_true f;refine CR 16 D (congrArg Value.bool f)<|Af (Te D)<|K ?_;refine GR<|zs (AA D)<|zs (Dj A3 0 0 (Bx b) D D)<|zs (Fj BV 0 (Bx b) D)<|zs (Gg BV AF D)<|zs (AA D)<|zs (Dj A3 1 1 (Bx b) D D)<|zs (Fj BV 1 (Bx b) D)<|zs (Gg BV AF D)<|zs (Ck D)<|zs (Ck D)<|CS<|K ?_;refine U<|BP Qo D (fun w a=>WZ ((l.getD 0 0).toNat) w)<|?_
   rcases Ln (decide (1≤((l.getD 0 0).toNat)∧((l.getD 0 0).toNat)≤3))with g|g
   ·
    have n:=of_decide_eq_true g;refine CR 28 D (congrArg Value.bool g)<|Af (Te D)<|K ?_;refine Mp D D<|K ?_;refine Cz D (fun o=>?_) fun o=>?_
    ·
     refine K ?_;refine Gz D D D fun W a=>?_;exact⟨51,JZ,D,a.A0⟩
    refine K ?_;refine Af (Fi A3 2 256 (Bx b) D (.some D) .none)<|U<|BP Z5 D (fun w a=>MM (KA _ _ _ 4 (l.drop 2) w ((Db 2 256 (Bx b) (DV (by rw[J3];have:(l).length=256:=hl;omega))) w a) (by have:(l).length=256:=hl;simp only[J3];omega) JY JY))<|Jd D<|JU D D<|K ?_;refine HI D (fun r=>?_) fun r=>?_
    ·
     refine K ?_;refine Gz D D D fun W a=>?_;exact⟨54,JZ,D,a.A0⟩
    refine K ?_;refine B6 (p:=6) D D<|Af (Fi A3 (6+((l.getD 1 0).toNat)) 252 (Bx b) D (.some D) (.some D))<|U<|BP o1 D (fun w a=>MM (LU _ _ _ ((l.drop (6+((l.getD 1 0).toNat))).take (252 - (6+((l.getD 1 0).toNat)))) w ((Db (6+((l.getD 1 0).toNat)) 252 (Bx b) D) w a) (by have:(l).length=256:=hl;simp only[FX,J3];omega)))<|?_
    rcases Ln (Fr.CN ((l.drop (6+((l.getD 1 0).toNat))).take (252 - (6+((l.getD 1 0).toNat)))))with h|h
    ·
     refine CR 44 D (congrArg Value.bool h)<|Af (Te D)<|K ?_;refine B6 (p:=6) D D<|Af (Fi A3 6 (6+((l.getD 1 0).toNat)) (Bx b) D (.some D) (.some D))<|U<|Dr 5 1 (bv [])<|DI A3 0 (bv ((l.drop 6).take ((6+((l.getD 1 0).toNat)) - 6))) D D D (Db 6 (6+((l.getD 1 0).toNat)) (Bx b) D) (Eo _) (EL (by have:(l).length=256:=hl;simp only[FX,J3];omega)) D fun u v=>K ?_;refine Gz D D D fun W a=>?_;exfalso;rw[gC]at i;apply i;simp only[Fr.CZ,Kq,decide_eq_true_eq];refine⟨⟨⟨⟨⟨⟨?_,?_⟩,?_⟩,?_,?_⟩,?_⟩,?_⟩,?_⟩<;>first|assumption|omega
    refine CR 44 D (congrArg Value.bool h)<|Af (Te D)<|K ?_;refine Gz D D D fun W a=>?_;exact⟨53,JZ,D,a.A0⟩
   have n:=of_decide_eq_false g;refine CR 28 D (congrArg Value.bool g)<|Af (Te D)<|K ?_;refine Gz D D D fun W a=>?_;exact⟨50,JZ,D,a.A0⟩
  have m:=of_decide_eq_false f;refine CR 16 D (congrArg Value.bool f)<|Af (Te D)<|K ?_;refine Gz D D D fun W a=>?_;exact⟨52,JZ,D,a.A0⟩
 have j:=of_decide_eq_false d;refine CR 10 D (congrArg Value.bool d)<|Af (Te D)<|K ?_;refine Gz D D D fun W a=>?_;exact⟨54,JZ,D,a.A0⟩
theorem et(q:Option Addr)(m c:Nat)(l:rG)(w:World)(b:View w (.slice q m c) m 1 (bv l))(hl:l.length=m)(hm:m≤4096):Calls lp 97 #[I q m c] w fun e W=>∃d f,e=.returned (.slice d (0+m+4) f)∧W.ownsRow w.heap.size 5 1 (.slice d (0+m+4) f) (0+m+4) (bv (Fr.seaL l))∧Below w.heap.size w W:=by
 refine Cg w hK D 28<|K ?_;refine U<|BP p7 D (fun w a=>aA _ _ _ l w ((Bx b) w a) hl)<|K ?_;refine Cr B7 D<|B6 (q:=4) D D<|U<|Tr A3 (m+4) D D (xs:=bv []) D fun g=>K ?_;refine U<|DI A3 0 (bv l) D D D (Bx b) (Eo _) (EL hl) D fun h i=>K ?_;refine Af (Lj Wz BV D)<|Jd D<|Af (KO 8 D D)<|Af (Lj Wz BV D)<|Jd D<|Af (KO 16 D D)<|Af (Lj Wz BV D)<|Jd D<|Af (KO 24 D D)<|Af (Lj Wz BV D)<|U<|RY 5 [(0,(Be .u8 ((UInt32.ofNat (At.sum l)).toUInt8.toNat))),(1,(Be .u8 (((UInt32.ofNat (At.sum l))>>>8).toUInt8.toNat))),(2,(Be .u8 (((UInt32.ofNat (At.sum l))>>>16).toUInt8.toNat))),(3,(Be .u8 (((UInt32.ofNat (At.sum l))>>>24).toUInt8.toNat)))] (bv [(UInt32.ofNat (At.sum l)).toUInt8,((UInt32.ofNat (At.sum l))>>>8).toUInt8,((UInt32.ofNat (At.sum l))>>>16).toUInt8,((UInt32.ofNat (At.sum l))>>>24).toUInt8]) D fun j=>U<|DI (m:=4) A3 1 (bv (l++([(UInt32.ofNat (At.sum l)).toUInt8,((UInt32.ofNat (At.sum l))>>>8).toUInt8,((UInt32.ofNat (At.sum l))>>>16).toUInt8,((UInt32.ofNat (At.sum l))>>>24).toUInt8]))) D D D (BZ 0) (Eo _) (EL (l':=[(UInt32.ofNat (At.sum l)).toUInt8,((UInt32.ofNat (At.sum l))>>>8).toUInt8,((UInt32.ofNat (At.sum l))>>>16).toUInt8,((UInt32.ofNat (At.sum l))>>>24).toUInt8]) D) D fun k n=>A7 ?_;exact fun W a=>⟨_,_,D,a.DQ 1,a.A0⟩
theorem YV(q:Option Addr)(c p:Nat)(l:rG)(w:World)(a:View w (.slice q 256 c) 256 1 (bv l))(hl:l.length=256):
 Calls Tryz.prog 73 #[.int .i64 p,.slice q 256 c] w fun e w'=>∃k B1,∃x:Int,e=.returned (.tuple #[k,B1,.int .i64 x])∧decide (x=0)=Fr.CZ p l∧Below w.heap.size w w':=by
 cases b:Fr.CZ p l with
 |true=>exact(Lp p q c l w a hl b).mono fun e W ⟨d,f,he,_,J⟩=>⟨_,_,0,he,D,J⟩
 |false=>exact(Xl p q c l w a hl b).mono fun e W ⟨k,g,he,J⟩=>⟨_,_,k,he,decide_eq_false JY,J⟩
