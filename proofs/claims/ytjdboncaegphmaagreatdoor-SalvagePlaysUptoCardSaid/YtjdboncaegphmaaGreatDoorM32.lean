/- Laws and walks on the road to SalvagePlays (part M32). No conditions beyond each law's own. -/
import Derived.Test.YtjdboncaegphmaaGreatDoorM31
set_option linter.unusedVariables false
namespace Go.Proofs.YtjdboncaegphmaaGreatDoor
open Go.RowKit
set_option maxRecDepth 100000
set_option maxHeartbeats 2000000
theorem BF.Pp{z:BF}{p:Nat}{m:Bf}(h:z.Z p=some m):(z.AW p).getD G.DJ=m.AW:=by unfold BF.AW;rw[h];rfl
theorem BF.ZR{z:BF}{p:Nat}{m:Bf}(h:z.Z p=some m):∃k,z.FN[p]? =some k∧z.DS[p]? =some m∧(k=1∨k=2):=by
 unfold BF.Z at h;split at h
 ·rename_i k x a b;split at h
  ·rename_i c;cases h;exact⟨k,a,b,c⟩
  ·cases h
 ·cases h
theorem c0{nd:Nat→Option G.Dh}{A:List (G.Ae×Nat)}{n:G.Dh}{r:G.Ae}(h:n.Bd=1):BM.jK nd A n r=A.any (fun x=>decide (((nd x.2).getD G.DJ).Bd=1)&&decide (((nd x.2).getD G.DJ).k=n.k)&&decide (((nd x.2).getD G.DJ).val=n.val)):=by unfold BM.jK;rw[if_pos h]
theorem Tm{nd:Nat→Option G.Dh}{A:List (G.Ae×Nat)}{n:G.Dh}{r:G.Ae}(h:¬n.Bd=1):BM.jK nd A n r=(!decide (BM.atR A r=0)&&decide (((nd (BM.atR A r)).getD G.DJ).Bd=2)&&decide (((nd (BM.atR A r)).getD G.DJ).l=n.l)&&decide (((nd (BM.atR A r)).getD G.DJ).r=n.r)):=by unfold BM.jK;rw[if_neg h]
theorem ka{A:List (G.Ae×Nat)}{r:G.Ae}(h:BM.atR A r≠0):∃u∈A,u.2=BM.atR A r:=by
 unfold BM.atR at h⊢;cases a:A.find? (fun x=>decide (x.1.b=r.b)&&decide (r.b≤L4 x.1.k.l r.k.l))with
 |none=>rw[a]at h;exact absurd D h
 |some u=>exact⟨u,oo a,D⟩
theorem rn(o:Nat)(z:BF)(T Au:BX)(fr A4:Nat)(h t:BX)(sp:Bool)(A:List (G.Ae×Nat))(p k:Nat)(x:Bf)(r:G.Ae)(w:World)(M:BE [Ez z T Au,Gb z,s4 o z fr A4 h t sp,sZ h A] w)(j:tG z)(aq:A.length≤549755813888)(N:z.FN[p]? =some k)(H:z.DS[p]? =some x)(P:k=1∨k=2)(ar:p<z.FN.length)(Q:∀u∈A,∃m,z.Z u.2=some m):Calls Tryz.prog 169 #[S o,E p,Value.agg (flat [bv r.k.l]),E r.b] w fun e W=>e=.returned (.bool (BM.jK z.AW A x.AW r))∧Sat (A6 [Ez z T Au,Gb z,s4 o z fr A4 h t sp,sZ h A]) w [Ez z T Au,Gb z,s4 o z fr A4 h t sp,sZ h A] W:=by
 have au:=j.vr;have aw:=j.vB;have ay:=j.n;have az:=j.w;have aA:=j.Bd _ _ _ N H P;have aB:=(j.nd _ _ (BF.lk N H P)).1.v;have af:(A.map I9).length=h.n:=I3 YR JZ (M.at_ 3 _ D);rw[MU]at af;refine Cb M p6 D 123 fun F hF=>Je<|Jh<|U<|Cv D fun aC=>K ?_;refine By D<|AG sV 0 D<|AZ Zc 3 0 D D D<|By D<|AG sT 6 D<|AZ IA 1 6 D D D<|Jd D<|Af (Dj MF p (p*102) (tq 2) D D)<|Af (LH Bv QR p 0 9 (Xz x) H (tq 2) D D)<|U<|Bw VF fun R=>U<|Bk 0 0 9 D D D<|?_;refine K ?_;refine AG Bv 0 D<|AZ AF 0 0 D D D<|E2 D D<|Jg<|Jf<|Cz D (fun ag=>?_) fun ag=>?_
 ·
  refine K ?_;refine Af (BN CI 1 D D)<|Jd D<|U<|Ba Qy D (fun w c=>qS o z fr A4 h t sp A r w (c.Ad [4,5]) JY) fun _ e W c ⟨g,he,B,q⟩=>⟨_,_,he,c.As [4,5] [0,1,2,3] q,?_⟩
  refine Af (Io YA 1 D D D AF)<|K ?_
  by_cases aD:g.p=0
  ·
   refine GR<|zs (AA D)<|zs (GY JY D D)<|zs (AA D)<|Dp D D D D<|Dp D D D D<|Dp D D D D<|Dp D D D D<|Dp D D D D<|Dp D D D D<|Dp D D D D<|Dp D D D D<|Dp D D D D<|Dp D D D D<|Dp D D D D<|zs (EK D D)<|zs (AA D)<|Dp D D D D<|Dp D D D D<|Dp D D D D<|Dp D D D D<|Dp D D D D<|Dp D D D D<|Dp D D D D<|Dp D D D D<|Dp D D D D<|Dp D D D D<|Dp D D D D<|Dp D D D D<|Dp D D D D<|Dp D D D D<|zs (EK D D)<|zs (AA D)<|Dp D D D D<|Dp D D D D<|Dp D D D D<|Dp D D D D<|Dp D D D D<|Dp D D D D<|Dp D D D D<|Dp D D D D<|Dp D D D D<|Dp D D D D<|Dp D D D D<|Dp D D D D<|Dp D D D D<|Dp D D D D<|zs (EK D D)<|zs (Ck D)<|CS<|A7 ?_;intro W c;subst hF;exact⟨CT (by rw[Tm (show¬x.AW.Bd=1 by show¬x.Bd=1;omega),decide_eq_true (show BM.atR A r=0 by omega)];rfl),c.pick [4,5,0,1]⟩
  ·
   obtain⟨u,hu,ah⟩:=ka (A:=A) (r:=r) JY;obtain⟨m,f⟩:=Q u hu;rw[ah,←B]at f;obtain⟨X,C,hm,L⟩:=BF.ZR f;have ai:=j.Bd _ _ _ C hm L;have aj:=(EH.1 hm).1;refine GR<|zs (AA D)<|zs (Hp JY D D)<|zs (AA D)<|CX D D D<|zs (AA D)<|CX D D D<|zs (Bp D)<|CX D D D<|zs (AS sV 0 D)<|CX D D D<|zs (Bb Zc 0 0 D D D)<|CX D D D<|zs (Bp D)<|CX D D D<|zs (AS sT 5 D)<|CX D D D<|zs (Bb Lc 4 5 D D D)<|CX D D D<|zs (AA D)<|CX D D D<|zs (Dj G0 g.p g.p (iu 5) D D)<|CX D D D<|zs (J1 AF Gj g.p C (iu 5) D D)<|CX D D D<|?_
   by_cases Y:((X:Nat):Int)=((2:Nat):Int)
   ·
    refine zs (OY Y D D)<|zs (D' D D)<|zs (AA D)<|CX D D D<|zs (AA D)<|CX D D D<|zs (Bp D)<|CX D D D<|zs (AS sV 0 D)<|CX D D D<|zs (Bb Zc 0 0 D D D)<|CX D D D<|zs (Bp D)<|CX D D D<|zs (AS sT 6 D)<|CX D D D<|zs (Bb IA 4 6 D D D)<|CX D D D<|zs (AA D)<|CX D D D<|zs (Dj MF g.p (g.p*102) (tq 5) D D)<|CX D D D<|zs (Nd Bv (g.p*102+1) D)<|CX D D D<|zs (Q8 AF QR g.p 1 hm (tq 5) D D D)<|CX D D D<|zs (AS Bv 1 D)<|CX D D D<|zs (Bb AF 2 1 D D D)<|CX D D D<|?_
    by_cases aa:((m.l:Nat):Int)=((x.l:Nat):Int)
    ·
     refine zs (OY aa D D)<|zs (D' D D)<|zs (AA D)<|CX D D D<|zs (AA D)<|CX D D D<|zs (Bp D)<|CX D D D<|zs (AS sV 0 D)<|CX D D D<|zs (Bb Zc 0 0 D D D)<|CX D D D<|zs (Bp D)<|CX D D D<|zs (AS sT 6 D)<|CX D D D<|zs (Bb IA 4 6 D D D)<|CX D D D<|zs (AA D)<|CX D D D<|zs (Dj MF g.p (g.p*102) (tq 5) D D)<|CX D D D<|zs (Nd Bv (g.p*102+2) D)<|CX D D D<|zs (Q8 AF QR g.p 2 hm (tq 5) D D D)<|CX D D D<|zs (AS Bv 2 D)<|CX D D D<|zs (Bb AF 2 2 D D D)<|CX D D D<|?_
     by_cases ab:((m.r:Nat):Int)=((x.r:Nat):Int)
     ·
      refine zs (OY ab D D)<|zs (D' D D)<|zs (Ck D)<|CS<|A7 ?_;intro W c;subst hF;exact⟨CT (by rw[Tm (show¬x.AW.Bd=1 by show¬x.Bd=1;omega),decide_eq_false (show¬BM.atR A r=0 by omega),←B,BF.Pp f];rw[decide_eq_true (show m.AW.Bd=2 by show m.Bd=2;omega),decide_eq_true (show m.AW.l=x.AW.l by show m.l=x.l;omega),decide_eq_true (show m.AW.r=x.AW.r by show m.r=x.r;omega)];rfl),c.pick [4,5,0,1]⟩
     refine zs (M6 ab D D)<|zs (D' D D)<|zs (Ck D)<|CS<|A7 ?_;intro W c;subst hF;exact⟨CT (by rw[Tm (show¬x.AW.Bd=1 by show¬x.Bd=1;omega),decide_eq_false (show¬BM.atR A r=0 by omega),←B,BF.Pp f];first|(rw[decide_eq_false (show¬m.AW.Bd=2 by show¬m.Bd=2;omega)];rfl)|(rw[decide_eq_false (show¬m.AW.l=x.AW.l by show¬m.l=x.l;omega),tH];rfl)|(rw[decide_eq_false (show¬m.AW.r=x.AW.r by show¬m.r=x.r;omega),tH])),c.pick [4,5,0,1]⟩
    refine zs (M6 aa D D)<|zs (D' D D)<|zs (AA D)<|Dp D D D D<|Dp D D D D<|Dp D D D D<|Dp D D D D<|Dp D D D D<|Dp D D D D<|Dp D D D D<|Dp D D D D<|Dp D D D D<|Dp D D D D<|Dp D D D D<|Dp D D D D<|Dp D D D D<|Dp D D D D<|zs (EK D D)<|zs (Ck D)<|CS<|A7 ?_;intro W c;subst hF;exact⟨CT (by rw[Tm (show¬x.AW.Bd=1 by show¬x.Bd=1;omega),decide_eq_false (show¬BM.atR A r=0 by omega),←B,BF.Pp f];first|(rw[decide_eq_false (show¬m.AW.Bd=2 by show¬m.Bd=2;omega)];rfl)|(rw[decide_eq_false (show¬m.AW.l=x.AW.l by show¬m.l=x.l;omega),tH];rfl)|(rw[decide_eq_false (show¬m.AW.r=x.AW.r by show¬m.r=x.r;omega),tH])),c.pick [4,5,0,1]⟩
   refine zs (M6 Y D D)<|zs (D' D D)<|zs (AA D)<|Dp D D D D<|Dp D D D D<|Dp D D D D<|Dp D D D D<|Dp D D D D<|Dp D D D D<|Dp D D D D<|Dp D D D D<|Dp D D D D<|Dp D D D D<|Dp D D D D<|Dp D D D D<|Dp D D D D<|Dp D D D D<|zs (EK D D)<|zs (AA D)<|Dp D D D D<|Dp D D D D<|Dp D D D D<|Dp D D D D<|Dp D D D D<|Dp D D D D<|Dp D D D D<|Dp D D D D<|Dp D D D D<|Dp D D D D<|Dp D D D D<|Dp D D D D<|Dp D D D D<|Dp D D D D<|zs (EK D D)<|zs (Ck D)<|CS<|A7 ?_;intro W c;subst hF;exact⟨CT (by rw[Tm (show¬x.AW.Bd=1 by show¬x.Bd=1;omega),decide_eq_false (show¬BM.atR A r=0 by omega),←B,BF.Pp f];first|(rw[decide_eq_false (show¬m.AW.Bd=2 by show¬m.Bd=2;omega)];rfl)|(rw[decide_eq_false (show¬m.AW.l=x.AW.l by show¬m.l=x.l;omega),tH];rfl)|(rw[decide_eq_false (show¬m.AW.r=x.AW.r by show¬m.r=x.r;omega),tH])),c.pick [4,5,0,1]⟩
 refine K ?_;refine DL (fun ak a W=>∃(i:Nat),ak=A.length - i+0∧AH 123 a (Jb (Jb (Jb Jk 0 (S o)) 9 (S R)) 11 (E i))∧Sat F w [O R (Xz x) 138,Ez z T Au,Gb z,s4 o z fr A4 h t sp,sZ h A] W∧i≤A.length∧(A.take i).any (fun u=>decide (((z.AW u.2).getD G.DJ).Bd=1)&&decide (((z.AW u.2).getD G.DJ).k=x.k)&&decide (((z.AW u.2).getD G.DJ).val=x.s.v))=false) (fun a W d c=>⟨0,D,AY d,c.pick [0,2,3,4,5],F2 _,D⟩) ?_;rintro _ a W ⟨i,rfl,d,c,V,I⟩;revert a W;refine K ?_;refine By D<|AG sV 3 D<|AZ Sz 3 3 D D D<|Cr Sz D<|Ej D D<|Jg<|Jf<|Cz D (fun al=>?_) fun al=>?_
 ·
  obtain⟨y,ad⟩:∃y,(A.map I9)[i]? =some y:=⟨_,F3 (by rw[MU];omega)⟩
  obtain⟨u,hu,an⟩:=mC ad;obtain⟨m,f⟩:=Q u (ta hu);obtain⟨X,C,hm,L⟩:=BF.ZR f;have ai:=j.Bd _ _ _ C hm L;rw[show u.2=y.p from congrArg IU.p an]at hm C;have aj:=(EH.1 hm).1;have aE:=(j.nd _ _ f).1.v;refine K ?_;refine CQ [0,1,2,3,4]<|Ab 0 D (AA D)<|Ab 1 D (Bp D)<|Ab 2 D (AS sV 0 D)<|Ab 3 D (Bb Zc 3 0 D D D)<|Ab 4 D (Bp D)<|Ab 5 D (AS sT 6 D)<|Ab 6 D (Bb IA 1 6 D D D)<|Ab 7 D (AA D)<|Ab 8 D (Bp D)<|Ab 9 D (AS sV 3 D)<|Ab 10 D (Bb Sz 3 3 D D D)<|Ab 11 D (AA D)<|Ab 12 D (Dj PN i (i*66) (BZ 4) D D)<|Ab 13 D (Nd YA (i*66+1) D)<|Ab 14 D (Q8 AF YR i 1 ad (BZ 4) D D D)<|Ab 15 D (Dj MF y.p (y.p*102) (tq 2) D D)<|Ab 16 D (LH Bv QR y.p 0 9 (Xz m) hm (tq 2) D D)<|Bh 17 D<|Bw VF fun aF=>A8 [1,2,3,4,5]<|Bh 18 D<|Bk 0 0 9 D D D<|?_;refine A8 [1,2,3,4,5]<|Cm<|Jf<|Je<|Jh<|AG Bv 0 D<|AZ AF 0 0 D D D<|Gx D D (fun ao=>?_) fun ao=>?_
  ·
   refine K ?_;refine AG Bv 69 D<|Jj D D D<|Af (DH CI 0 7 1 [bv m.k.l] D D)<|Jj D D D<|AG Bv 69 D<|Jj D D D<|Af (DH CI 1 7 1 [bv x.k.l] D D)<|Jj D D D<|?_;refine oV D D (fun ae=>?_) fun ae=>?_
   ·
    refine K ?_;refine AG Bv 101 D<|Jj D D D<|AZ B7 0 8 D D D<|Jj D D D<|Af (fun _ _ d c=>Lk d A3 BV Ho D ((n4 3 hm) _ c) D)<|Jj D D D<|AG Bv 101 D<|Jj D D D<|AZ B7 1 8 D D D<|Jj D D D<|Af (fun _ _ d c=>Lk d A3 BV Ho D ((n4 3 H) _ c) D)<|Jj D D D<|?_
    by_cases J:m.s.v=x.s.v
    ·
     refine Af (bm (fun _ _ d c=>UU d D D _ D) (decide_eq_true J))<|A7 ?_;intro W c;subst hF;exact⟨CT (by rw[c0 (show x.AW.Bd=1 by show x.Bd=1;omega)];exact(qb hu (by rw[BF.Pp f];rw[decide_eq_true (show m.AW.Bd=1 by show m.Bd=1;omega),decide_eq_true (show m.AW.k=x.AW.k from Jc.ext (by assumption)),decide_eq_true (show m.AW.val=x.AW.val from J)];rfl)).symm),c.pick [2,3,4,5]⟩
    refine Af (bm (fun _ _ d c=>UU d D D _ D) (decide_eq_false J))<|K ?_;refine B6 (q:=1) D D<|K ?_;exact fun a W d c=>⟨_,JY,i+1,D,AY d,c.pick [1,2,3,4,5],JY,nm I hu (by rw[BF.Pp f];rw[decide_eq_false (show¬m.AW.val=x.s.v from J),tH])⟩
   refine K ?_;refine B6 (q:=1) D D<|K ?_;exact fun a W d c=>⟨_,JY,i+1,D,AY d,c.pick [1,2,3,4,5],JY,nm I hu (by rw[BF.Pp f];rw[decide_eq_false (show¬m.AW.k=x.k from fun q=>ae (congrArg Jc.l q)),tH];rfl)⟩
  refine K ?_;refine B6 (q:=1) D D<|K ?_;exact fun a W d c=>⟨_,JY,i+1,D,AY d,c.pick [1,2,3,4,5],JY,nm I hu (by rw[BF.Pp f];rw[decide_eq_false (show¬m.AW.Bd=1 by show¬m.Bd=1;omega)];rfl)⟩
 refine A7 ?_;intro W c;subst hF;exact⟨CT (by rw[c0 (show x.AW.Bd=1 by show x.Bd=1;omega)];exact(rA I JY).symm),c.pick [1,2,3,4]⟩
theorem lK{Bo Dg:Type}{f:Bo→Bool}{g:Bo→Dg}{N A:List Bo}{i:Nat}{u:Bo}{y:Dg}(hu:A[i]? =some u)(a:g u=y)(b:f u=true):(N++(A.take i).filter f).map g++[y]=(N++(A.take (i+1)).filter f).map g:=by
 rw[Ol,hu,lL,←C9,l8 (l₁:=N++(A.take i).filter f),Option.toList_some,List.filter_cons_of_pos b,l3,List.map_singleton,a]
theorem qP{Bo Dg:Type}{f:Bo→Bool}{g:Bo→Dg}{N A:List Bo}{i:Nat}{u:Bo}(hu:A[i]? =some u)(a:f u=false):(N++(A.take i).filter f).map g=(N++(A.take (i+1)).filter f).map g:=by
 rw[Ol,hu,lL,Option.toList_some,List.filter_cons_of_neg (by rw[a];decide),l3,Ha]
theorem rb(N:List (G.Ae×Nat))(x:G.Ae×Nat):N.map I9++[I9 x]=(N++[x]).map I9:=by rw[l8];rfl
def tU(A:List (G.Ae×Nat))(x:Bf)(p:Nat)(r:G.Ae):List (G.Ae×Nat):=if x.Bd=1 then [(r,p)]else A.filter (fun u=>BM.te r u.1)
theorem rq(g:Nat)(z:BF)(T Au:BX)(fr A4:Nat)(f h:BX)(sp:Bool)(A:List (G.Ae×Nat))(N:List (G.Ae×Nat))(p k:Nat)(x:Bf)(r:G.Ae)(w:World)(M:BE [Ez z T Au,Gb z,s4 g z fr A4 f h sp,sZ f A,sZ h N] w)(B:tG z)(ao:A.length≤549755813888)(R:z.FN[p]? =some k)(Z:z.DS[p]? =some x)(aa:k=1∨k=2)(aq:p<z.FN.length)(au:N.length≤549755813888):Calls Tryz.prog 142 #[S g,E p,Value.agg (flat [bv r.k.l]),E r.b] w fun e W=>∃X:BX,e=.returned (.tuple #[])∧Sat (A6 [Ez z T Au,Gb z,s4 g z fr A4 f h sp,sZ f A,sZ h N]) w [Ez z T Au,Gb z,s4 g z fr A4 f X sp,sZ f A,sZ X (N++tU A x p r)] W:=by
 have av:=B.vr;have ax:=B.vB;have az:=B.n;have aA:=B.w;have aB:=B.Bd _ _ _ R Z aa;have ab:(N.map I9).length=h.n:=I3 YR JZ (M.at_ 4 _ D);rw[MU]at ab;have ad:(A.map I9).length=f.n:=I3 YR JZ (M.at_ 3 _ D);rw[MU]at ad;refine Cb M Vq D 72 fun F hF=>Je<|Jh<|U<|Cv D fun o=>K ?_;refine By D<|AG sV 0 D<|AZ Zc 3 0 D D D<|By D<|AG sT 5 D<|AZ Lc 1 5 D D D<|Jd D<|Af (Dj G0 p p (iu 2) D D)<|Af (J1 AF Gj p R (iu 2) D D)<|E2 D D<|Jg<|Jf<|Cz D (fun ae=>?_) fun ae=>?_
 ·
  refine Je<|Hj (fun a W=>∃(t:Option Addr) (v:Nat),AH 72 a (Jb (Jb (Jb Jk 0 (S g)) 3 (E r.b)) 6 (S o))∧Sat F w [O o [bv r.k.l] 48,Ez z T Au,Gb z,s4 g z fr A4 f ⟨t,h.n+1,v⟩ sp,sZ f A,Ae 217 66 (I t (h.n+1) v) (h.n+1) (Aq I6 (N.map I9++([(⟨r.b,p,r.k,CU⟩:IU)])))] W) ?_ ?_
  ·
   refine CQ [0,1,2]<|Ab 0 D (AA D)<|Ab 1 D (AA D)<|Ab 2 D (Bp D)<|Ab 3 D (AS sV 4 D)<|Ab 5 D (AA D)<|Ab 6 D (AA D)<|Ab 7 D (BN CI 0 D D)<|Ab 8 D (ar YA [(0,1),(1,1),(2,32),(34,32)] [[E 0],[E 0],Ak 32,Ak 32] [[E r.b],[E p],bv r.k.l,Ak 32])<|Gy 4 9 D D ?_ ?_
   ·
    refine IK (Bb Sz 3 4 D D D)<|A8 [0,1,2]<|Bh 9 D<|Ey PN (Aq I6 [(⟨r.b,p,r.k,CU⟩:IU)]) D (tg D) Oz fun aC=>A8 [1,2,3]<|Bh 10 D<|DI (m:=1) PN 6 (Aq I6 (N.map I9++([(⟨r.b,p,r.k,CU⟩:IU)]))) D D D (BZ 0) (HJ VQ _) (H0 YR D) D fun t v=>A8 [1,2,3]<|Ab 11 D (Bp D)<|Ab 12 D (AS sV 4 D)<|Bh 13 D<|Cq 4 4 D D D<|?_;refine A8 [1,2,3]<|Cm<|?_;exact fun a W d c=>⟨t,v,AY d,c.pick [1,2,3,4,5,6]⟩
   refine Ey PN (Aq I6 [(⟨r.b,p,r.k,CU⟩:IU)]) D (tg D) Oz fun aD=>A8 [1,2,3]<|Bh 4 D<|IK (Bb Sz 4 4 D D D)<|A8 [1,2,3]<|Bh 10 D<|DI (m:=1) PN 6 (Aq I6 (N.map I9++([(⟨r.b,p,r.k,CU⟩:IU)]))) D D D (BZ 0) (HJ VQ _) (H0 YR D) D fun af ag=>A8 [1,2,3]<|Ab 11 D (Bp D)<|Ab 12 D (AS sV 4 D)<|Bh 13 D<|Cq 4 4 D D D<|?_;refine A8 [1,2,3]<|Cm<|?_;exact fun a W d c=>⟨af,ag,AY d,c.pick [1,2,3,4,5,6]⟩
  rintro a W ⟨t,v,d,c⟩;revert a W;refine Tf 5 (Aq I6 (N.map I9++([(⟨r.b,p,r.k,CU⟩:IU)]))) (Aq I6 ((N++[(r,p)]).map I9)) (congrArg (Aq I6) (rb N (r,p)))<|Jf<|Jq<|JI<|Ff fun W c=>?_;subst hF;exact⟨⟨t,h.n+1,v⟩,D,by unfold tU;rw[if_pos JY];exact c.pick [1,2,3,4,5]⟩
 refine K ?_;refine Tf 5 (Aq I6 (N.map I9)) (Aq I6 ((N++(A.take 0).filter (fun u=>BM.te r u.1)).map I9)) (by rw[Jaa,l3,Ha])<|DL (fun ah a W=>∃(i:Nat) (J:Option Addr) (L:Nat) (j:Nat),ah=A.length - i+0∧AH 72 a (Jb (Jb (Jb (Jb Jk 0 (S g)) 3 (E r.b)) 6 (S o)) 8 (E i))∧Sat F w [O o [bv r.k.l] 48,Ez z T Au,Gb z,s4 g z fr A4 f ⟨J,j,L⟩ sp,sZ f A,Ae 217 66 (I J j L) j (Aq I6 ((N++(A.take i).filter (fun u=>BM.te r u.1)).map I9))] W∧i≤A.length∧j≤N.length+i) (fun a W d c=>⟨0,_,_,_,D,AY d,c.pick [0,1,2,3,4,5],F2 _,JY⟩) ?_;rintro _ a W ⟨i,J,L,j,rfl,d,c,V,aE⟩;revert a W;refine K ?_;refine By D<|AG sV 3 D<|AZ Sz 3 3 D D D<|Cr Sz D<|Ej D D<|Jg<|Jf<|Cz D (fun ai=>?_) fun ai=>?_
 ·
  obtain⟨y,Y⟩:∃y,(A.map I9)[i]? =some y:=⟨_,F3 (by rw[MU];omega)⟩
  obtain⟨u,hu,P⟩:=mC Y;have aF:u.1.b=y.b:=congrArg IU.b P;have Q:u.1.k=y.k:=congrArg IU.k P;refine K ?_;refine By D<|AG sV 3 D<|AZ Sz 3 3 D D D<|Jd D<|Af (Dj PN i (i*66) (BZ 4) D D)<|Af (LH YA YR i 0 4 [[E y.b],[E y.p],bv y.k.l,bv y.s.l] Y (BZ 4) D D)<|U<|Bw [[E 0],[E 0],Ak 32,Ak 32] fun aG=>U<|Bk 0 0 4 D D D<|?_;refine K ?_;refine AG YA 0 D<|AZ AF 0 0 D D D<|Jd D<|Pm D D (fun aj=>?_) fun aj=>?_
  ·
   refine K ?_;refine AG YA 2 D<|Jj D D D<|Af (DH CI 0 2 1 [bv y.k.l] D D)<|Jj D D D<|Af (BN CI 1 D D)<|Jj D D D<|U<|BP aZ D (fun w c=>mY y.k r.k w)<|K ?_;refine Pm D D (fun ak=>?_) fun ak=>?_
   ·
    refine K ?_;refine Hj (fun a W=>∃(C:Option Addr) (H:Nat),AH 72 a (Jb (Jb (Jb (Jb Jk 0 (S g)) 3 (E r.b)) 6 (S o)) 8 (E i))∧Sat F w [O o [bv r.k.l] 48,Ez z T Au,Gb z,s4 g z fr A4 f ⟨C,j+1,H⟩ sp,sZ f A,Ae 217 66 (I C (j+1) H) (j+1) (Aq I6 ((N++(A.take i).filter (fun u=>BM.te r u.1)).map I9++([y])))] W) ?_ ?_
    ·
     refine CQ [0,1,2,3]<|Ab 0 D (AA D)<|Ab 1 D (AA D)<|Ab 2 D (Bp D)<|Ab 3 D (AS sV 4 D)<|Ab 5 D (BN YA 0 D D)<|Gy 4 6 D D ?_ ?_
     ·
      refine IK (Bb Sz 4 4 D D D)<|A8 [0,1,2,3]<|Bh 6 D<|Ey PN (Aq I6 [y]) D (tg D) Oz fun aH=>A8 [1,2,3,4]<|Bh 7 D<|DI (m:=1) PN 7 (Aq I6 ((N++(A.take i).filter (fun u=>BM.te r u.1)).map I9++([y]))) D D D (BZ 0) (HJ VQ _) (H0 YR D) D fun C H=>A8 [1,2,3,4]<|Ab 8 D (Bp D)<|Ab 9 D (AS sV 4 D)<|Bh 10 D<|Cq 5 4 D D D<|?_;refine A8 [1,2,3,4]<|Cm<|?_;exact fun a W d c=>⟨C,H,AY d,c.pick [2,3,4,5,6,7]⟩
     refine Ey PN (Aq I6 [y]) D (tg D) Oz fun aI=>A8 [1,2,3,4]<|Bh 4 D<|IK (Bb Sz 5 4 D D D)<|A8 [1,2,3,4]<|Bh 7 D<|DI (m:=1) PN 7 (Aq I6 ((N++(A.take i).filter (fun u=>BM.te r u.1)).map I9++([y]))) D D D (BZ 0) (HJ VQ _) (H0 YR D) D fun al an=>A8 [1,2,3,4]<|Ab 8 D (Bp D)<|Ab 9 D (AS sV 4 D)<|Bh 10 D<|Cq 5 4 D D D<|?_;refine A8 [1,2,3,4]<|Cm<|?_;exact fun a W d c=>⟨al,an,AY d,c.pick [2,3,4,5,6,7]⟩
    rintro a W ⟨C,H,d,c⟩;revert a W;refine Tf 5 (Aq I6 ((N++(A.take i).filter (fun u=>BM.te r u.1)).map I9++([y]))) (Aq I6 ((N++(A.take (i+1)).filter (fun u=>BM.te r u.1)).map I9)) (congrArg (Aq I6) (lK hu P (by show BM.te r u.1=true;unfold BM.te;rw[Q,Kq,decide_eq_true_iff,decide_eq_true_iff];omega)))<|K ?_;refine B6 (q:=1) D D<|K ?_;exact fun a W d c=>⟨_,JY,i+1,_,_,_,D,AY d,c.pick [0,1,2,3,4,5],JY,JY⟩
   refine Tf 6 (Aq I6 ((N++(A.take i).filter (fun u=>BM.te r u.1)).map I9)) (Aq I6 ((N++(A.take (i+1)).filter (fun u=>BM.te r u.1)).map I9)) (congrArg (Aq I6) (qP hu (by show BM.te r u.1=false;unfold BM.te;rw[Q,lB,decide_eq_false_iff_not,decide_eq_false_iff_not];omega)))<|K ?_;refine B6 (q:=1) D D<|K ?_;exact fun a W d c=>⟨_,JY,i+1,_,_,_,D,AY d,c.pick [1,2,3,4,5,6],JY,JY⟩
  refine Tf 6 (Aq I6 ((N++(A.take i).filter (fun u=>BM.te r u.1)).map I9)) (Aq I6 ((N++(A.take (i+1)).filter (fun u=>BM.te r u.1)).map I9)) (congrArg (Aq I6) (qP hu (by show BM.te r u.1=false;unfold BM.te;rw[Q,lB,decide_eq_false_iff_not,decide_eq_false_iff_not];omega)))<|K ?_;refine B6 (q:=1) D D<|K ?_;exact fun a W d c=>⟨_,JY,i+1,_,_,_,D,AY d,c.pick [1,2,3,4,5,6],JY,JY⟩
 refine K ?_;refine Jt<|Ff fun W c=>?_;subst hF;rw[DV (show A.length≤i by omega)]at c;exact⟨⟨J,j,L⟩,D,by unfold tU;rw[if_neg JY];exact c.pick [1,2,3,4,5]⟩
theorem kU(z:BF)(T Au:BX)(p b:Nat)(Ce:List Kx)(w:World)(d:BE [Ez z T Au,Ae 237 2 (I Au.p Au.n Au.c) Au.n (Aq BQ Ce)] w)(j:Au.n≤1048576:=by first|omega|decide):Calls lp 109 #[S z.Q,E p,E b] w fun e W=>∃a:BX,∃f,e=.returned (.tuple #[])∧a.n=Au.n+1∧Sat (A6 [Ez z T Au,Ae 237 2 (I Au.p Au.n Au.c) Au.n (Aq BQ Ce)]) w [Ez z T a,Ae 237 2 (I a.p a.n a.c) a.n (Aq BQ f)] W:=by
 refine Cb d Re D 18 fun F hF=>K ?_;refine By D<|AG sT 10 D<|AZ Mi 0 10 D D D<|Jd D<|Jd D<|Af (S8 [[E p],[E b]])<|U<|Ey XS (Aq BQ [(⟨p,b⟩:Kx)]) D (tg D) Oz fun k=>U<|DI (m:=1) XS 2 (Aq BQ (Ce++([(⟨p,b⟩:Kx)]))) D D D (BZ 0) (HJ aV _) (H0 cP D) D fun g h=>By D<|AG sT 10 D<|U<|Cq 1 10 D D D<|?_;refine Jg<|Jt<|Ff fun W i=>?_;subst hF;exact⟨⟨g,Au.n+1,h⟩,_,D,D,i.pick [1,2]⟩
theorem lF(b:Nat)(z:BF)(T:BX)(fr A4:Nat)(c d:BX)(p f:Nat)(w:World)(i:BE [Ez z T AE,s4 b z fr A4 c d false] w):Calls lp 140 #[S b,E p,E f] w fun e W=>∃g:BX,e=.returned (.tuple #[])∧g.n=1∧Sat (A6 [Ez z T AE,s4 b z fr A4 c d false]) w [Ez z T g,s4 b z fr A4 c d true] W:=by
 refine Cb i kq D 16 fun F hF=>K ?_;refine By D<|AG sV 0 D<|AZ Zc 1 0 D D D<|Jd D<|Jd D<|U<|Dr 237 2 (Aq BQ [])<|?_;refine Ba Re D (fun w a=>kU z T AE p f ([]) w (a.Ad [1,0])) fun _ e W a ⟨h,k,he,j,q⟩=>⟨_,_,he,a.As [1,0] [2] q,?_⟩
 have l:h.n=1:=j;refine K ?_;refine By D<|AG sV 5 D<|U<|Cq 2 5 D D D<|?_;refine Jg<|Jt<|Ff fun W a=>?_;subst hF;exact⟨h,D,JY,a.pick [0,2]⟩
theorem pI(r:G.Ae)(w:World)(J:r.b<256):Calls lp 168 #[rS [bv r.k.l],E r.b] w (sM w (rS [bv ((G.under r 1).k).l])):=by
 refine Cg w oi D 18<|Je<|Jh<|U<|Cv D fun f=>U<|Bw [Ak 32] fun g=>K ?_;refine Af (Iy (q:=8) D D)<|Jd D<|Af (Iy (q:=8) D D)<|Af (D9 Tryz.underlying48 1 (r.b/8) (r.b/8) D D)<|Af (K3 Tryz.underlying5 1 0 (r.b/8) D D D)<|Jd D<|Af (GG (q:=8) D D)<|Af (Gg Tryz.underlying3 Tryz.underlying127 D)<|Af (fun _ _ c a=>IG c (k:=.u8) (p:=128) (n:=r.b % 8) (r:=(UInt8.ofNat (1*2^(7 - r.b % 8))).toNat) D D (by simp only[IntKind.bits];omega) (qy JY))<|Af (ah D D)<|Af (D9 Tryz.underlying48 1 (r.b/8) (r.b/8) D D)<|U<|eQ 1 0 (r.b/8) ((r.k.l.getD (r.b/8) 0)|||(UInt8.ofNat (1*2^(7 - r.b % 8)))) D D D fun d e=>K ?_;refine Af (BN CI 1 D D)<|U<|Bk 0 0 1 D D D<|?_;refine Jg<|Jf<|Jq<|Fq CI 0 D D fun W a=>?_;rw[show d=(G.under r 1).k from Jc.ext e];exact⟨D,a.A0⟩
theorem Sat.tE{F:Nat→Prop}{w0 w:World}{H H1:List Atom}(h:Sat F w0 H w)(b:Ld w0)(c:∀k,Zs k→¬F k)(BI:List Nat)(e:BI.map (fun i=>H[i]?)=H1.map some:=by exact rfl)(d:BI.Nodup:=by decide):∀k,Zs k→¬A6 H1 k:=by
 rintro k a ⟨p,A,f,g⟩
 rcases(h.pick BI e d).u4 p A f k g with q|q
 ·exact c k a q
 ·have:=b.lt a;omega
section
variable {z:BF} {A N DT TL:List (G.Ae×Nat)} {r:G.Ae} {s s1 s2:G.B4} {p h:Nat} {x:Bf} {AJ:List (G.Ae×Nat)} {AO:List (Jc×Nat)} {fr:Nat}
theorem tG.nN(a:tG z):z.AW 0=none:=by
 cases e:z.Z 0 with
 |none=>unfold BF.AW;rw[e];rfl
 |some x=>have:=(a.nd 0 x e).2.1;omega
theorem KG.left(h:KG z N r s)(J:r.b<256):KG z N ⟨r.b+1,r.k⟩ s:=by
 rw[←jT];exact⟨h.vl,h.ap.under h.wf J JZ,h.wf.under J JZ,h.A4⟩
def UQ(z:BF)(r:G.Ae)(c:Nat)(y:Nat)(X:List (G.Ae×Nat)):Prop:=X.Perm (if c=0 then []else BM.sub z.AW (257 - (r.b+1)) c (G.under r y))
theorem UQ.dU{c y:Nat}(h:UQ z r c y DT)(hr:BM.s8 r)(J:r.b<256)(a:y<2):∀u∈DT,BM.Ng (G.under r y) u.1:=by
 intro u hu;have:=h.mem_iff.1 hu;split at this
 ·cases this
 ·exact(BM.tQ _ _ _ (hr.under J a) (by show 257 - (r.b+1)+(r.b+1)=257;omega) u this).2
theorem KG.right(h:KG z N r s)(J:r.b<256){c:Nat}(a:UQ z r c 0 DT)(hr:BM.L' z.AW s1.rows s1.Fz (N++DT))(d:s1.A4≤2097152):KG z (N++DT) (G.under r 1) s1:=
 ⟨hr,h.ap.left h.wf J (a.dU h.wf J JZ),h.wf.under J JZ,d⟩
theorem UQ.zero{y:Nat}:UQ z r 0 y []:=by unfold UQ;rw[if_pos D]
theorem UQ.some{c y:Nat}(a:¬c=0)(h:DT.Perm (BM.sub z.AW (257 - (r.b+1)) c (G.under r y))):UQ z r c y DT:=by unfold UQ;rwa[if_neg a]
theorem mX(j:tG z)(f:KG z N r s)(g:z.Z p=.some x)(k:BM.jL x.AW r)(J:x.Bd=1∨r.b<256)(h1:UQ z r x.l 0 DT)(c:UQ z r x.r 1 TL)(hl:BM.L' z.AW s2.rows s2.Fz (N++DT++TL)):
 (DT++TL++[(r,p)]).Perm (BM.sub z.AW (257 - r.b) p r)∧BM.L' z.AW (G.note s2 r p x.AW).rows (G.note s2 r p x.AW).Fz (N++(DT++TL++[(r,p)])):=by
 have d:z.AW p=.some x.AW:=by unfold BF.AW;rw[g];rfl
 have hw:=f.wf;have h:257 - r.b=(257 - (r.b+1))+1:=by have:=hw.1;omega
 rw[show N++(DT++TL++[(r,p)])=(N++DT++TL)++[(r,p)]by simp only[C9]];unfold G.note
 by_cases a:x.Bd=1
 ·have i:=(j.nd _ _ g).1.z a;rw[i.1]at h1;rw[i.2.1]at c;unfold UQ at h1 c;rw[if_pos D]at h1 c;obtain rfl:=h1.eq_nil;obtain rfl:=c.eq_nil;rw[h,BM.lx d a,if_pos (show x.AW.Bd=1 from a)];simp only[Ha,Hg]at hl⊢;exact⟨List.Perm.refl _,hl.leaf hw d a k f.ap⟩
 ·have J:=J.resolve_left a;rw[h,BM.nC d a,if_neg (show¬x.AW.Bd=1 from a)];refine⟨(List.perm_append_singleton _ _).trans (List.Perm.cons _ (List.Perm.append h1 c)),hl.ER hw d a ?_⟩;intro u hu e
  rcases GM.1 hu with q|q
  ·rcases GM.1 q with q|q
   ·exact(f.ap u q).1 (e▸BM.Ng.refl _)
   ·have:=(h1.dU hw J JZ u q).1;rw[e]at this;have:r.b+1≤r.b:=this;omega
  ·have:=(c.dU hw J JZ u q).1;rw[e]at this;have:r.b+1≤r.b:=this;omega
theorem cc(a:W6 z AJ AO A)(f:KG z N r s){k:Nat}(t:h+r.b=257)(i:z.Z p=.some x)(v:BM.jL x.AW r)(Ad:BM.tP z.AW A p x.AW r=true):
 (tU A x p r).Perm (BM.sub z.AW (257 - r.b) p r)∧BM.L' z.AW (G.Bn z.AW h p r s).rows (G.Bn z.AW h p r s).Fz (N++tU A x p r):=by
 have j:z.AW p=.some x.AW:=by unfold BF.AW;rw[i];rfl
 have hw:=f.wf;have l:257 - r.b=h:=JY;have key:∀u∈BM.sub z.AW h p r,∃n,z.AW u.2=.some n∧BM.jL n u.1:=by
  unfold BM.tP at Ad
  by_cases c:x.Bd=1
  ·intro u hu;obtain⟨g,rfl⟩:∃g,h=g+1:=⟨h - 1,by have:=hw.1;omega⟩
   rw[BM.lx j c,YU]at hu;subst hu;exact⟨_,j,v⟩
  ·rw[if_neg (show¬x.AW.Bd=1 from c),BM.l5 a.vl hw]at Ad;have Ad:=of_decide_eq_true Ad;have m:p≠0:=fun e=>by have:=(a.ok.nd _ _ i).2.1;omega
   have o:G.get AJ r=.some p:=by
    cases e:G.get AJ r with
    |none=>rw[e]at Ad;exact absurd Ad.symm m
    |some q=>rw[e]at Ad;exact congrArg Option.some Ad
   have hm:=(a.vl.row r p).1 o;intro u hu;rw[←l]at hu;have hu:=(a.As.keeps hm).mem_iff.2 hu;exact(a.vl.wf u (kf.1 hu).1).2
 have perm:(tU A x p r).Perm (BM.sub z.AW h p r):=by
  unfold tU
  by_cases c:x.Bd=1
  ·obtain⟨g,rfl⟩:∃g,h=g+1:=⟨h - 1,by have:=hw.1;omega⟩
   rw[if_pos c,BM.lx j c]
  ·rw[if_neg c];unfold BM.tP at Ad;rw[if_neg (show¬x.AW.Bd=1 from c),BM.l5 a.vl hw]at Ad;have Ad:=of_decide_eq_true Ad;have m:p≠0:=fun e=>by have:=(a.ok.nd _ _ i).2.1;omega
   have o:G.get AJ r=.some p:=by
    cases e:G.get AJ r with
    |none=>rw[e]at Ad;exact absurd Ad.symm m
    |some q=>rw[e]at Ad;exact congrArg Option.some Ad
   rw[←l];exact a.As.keeps ((a.vl.row r p).1 o)
 rw[l];exact⟨perm,(BM.jU h p r s N t hw f.ap key f.vl).perm (fun u=>by rw[GM,GM,perm.mem_iff])⟩
theorem lZ(a:W6 z AJ AO A)(hr:BM.s8 r)(b:z.Z p=.some x):BM.tP z.AW A p x.AW r=G.G8 (B0 z.w z.Z AJ AO fr) p x.AW r:=
 BM.jw (W:=z.w) (fr:=fr) a.vl hr (by unfold BF.AW;rw[b];rfl) (fun e=>by have:=(a.ok.nd _ _ b).2.1;omega)
theorem jx(a:W6 z AJ AO A)(hr:BM.s8 r):BM.jK z.AW A x.AW r=G.Ik (B0 z.w z.Z AJ AO fr) x.AW r:=
 BM.q1 (W:=z.w) (fr:=fr) a.vl hr a.ok.nN
theorem W6.mc(b:W6 z AJ AO A):∀u∈A,∃m,z.Z u.2=.some m:=fun u hu=>by
 obtain⟨_,n,a,_⟩:=b.vl.wf u hu;unfold BF.AW at a;cases e:z.Z u.2 with
 |none=>rw[e]at a;cases a
 |some m=>exact⟨m,D⟩
end
