/- Laws and walks on the road to SalvagePlays (part M29). No conditions beyond each law's own. -/
import Derived.Test.YtjdboncaegphmaaGreatDoorM28
set_option linter.unusedVariables false
namespace Go.Proofs.YtjdboncaegphmaaGreatDoor
open Go.RowKit
set_option maxRecDepth 100000
set_option maxHeartbeats 2000000
attribute [local irreducible] G.through AL.bare
theorem ea(Q:Nat)(z:Dl)(C g B:BX)(Av Bt:Nat)(Z:Nat→Option Bf)(Ax:Nat→Option B9)(As u:List Nat)(t:Nat)(v1 v2:Value)(AJ:List (G.Ae×Nat))(AO:List (Jc×Nat))(i:Nat)(x xa:B9)(w:World)(y:BE ((NY Q z C g B Av Z Bt Ax As u++[O t [[v1],[v2]] 265,AQ 273 AM v1 (G.get AJ),AQ 48 AP v2 (G.get AO)])) w)(aa:CG w)(aN:∀k,CB k→¬A6 ((NY Q z C g B Av Z Bt Ax As u++[O t [[v1],[v2]] 265,AQ 273 AM v1 (G.get AJ),AQ 48 AP v2 (G.get AO)])) k)(hw:z.w≤32)(CM:∀p x,Z p=some x→Ge x∧2≤p∧p≤4096)(M:Ax (G.at_ As i)=some x)(L:Ax (G.at_ As 1)=some xa)(bh:C.n≤4096)(ak:∀q∈As,q≤4096)(V:2≤i)(bj:g.n+1=i)(bk:i≤4096)(bl:x.v≤1099511627776)(bm:xa.f≤1099511627776)(bn:x.r≤4096)(bo:x.c≤4096)(aO:u[i - 2]? =some t)(hOr:∀q p,G.get AJ q=some p→∃c,EX Z (257 - q.b) p q.b c)(aw:∀k p,G.get AO k=some p→∃x,Z p=some x):Calls Tryz.prog 158 #[S Q,E i] w fun e W=>(∀o',G.version z.w (fun p=>(Z p).map Bf.AW) (fun p=>(Ax p).getD G.DX) As (AJ,AO) i=some o'→∃ah ad ay az aA,e=.returned (.bool true)∧ad.n=g.n+1∧Sat (A6 ((NY Q z C g B Av Z Bt Ax As u++[O t [[v1],[v2]] 265,AQ 273 AM v1 (G.get AJ),AQ 48 AP v2 (G.get AO)]))) w (Ay Q z C ad AE ah::(jM z ah Av Z Bt Ax C As++[Ae 261 1 (I ad.p ad.n ad.c) ad.n (Aq CC (u++[ay])),O ay [[az],[aA]] 265,AQ 273 AM az (G.get o'.1),AQ 48 AP aA (G.get o'.2)])) W)∧(G.version z.w (fun p=>(Z p).map Bf.AW) (fun p=>(Ax p).getD G.DX) As (AJ,AO) i=none→∃T aP ah,e=.returned (.bool false)∧1≤T.n∧T.n≤1048576∧Sat (A6 ((NY Q z C g B Av Z Bt Ax As u++[O t [[v1],[v2]] 265,AQ 273 AM v1 (G.get AJ),AQ 48 AP v2 (G.get AO)]))) w (Ay Q z C g T ah::(jM z ah Av Z Bt Ax C As++[Ae 237 2 (I T.p T.n T.c) T.n (Aq BQ aP)])) W):=by
 have ae:∀F,A6 ((NY Q z C g B Av Z Bt Ax As u++[O t [[v1],[v2]] 265,AQ 273 AM v1 (G.get AJ),AQ 48 AP v2 (G.get AO)]))=F→∀k,CB k→¬F k:=fun F hF k aQ q=>aN k aQ (hF▸q);have bp:=Lx ak (i - 1);have bq:=Lx ak i;have br:=Lx ak 1;refine Cb y Xp D 150 fun F hF=>K ?_;refine U<|Cx Qf D [0,4] (H1:=[Ay Q z C g AE B,Ae 3 1 (I C.p C.n C.c) C.n (Aq Bm As)]) (fun w y=>HX Q z C g AE B i As w y)<|K ?_;refine Hj (fun a W=>∃(H:Nat),AH 150 a (Jb (Jb (Jb (Jb (Jb (Jb Jk 0 (S Q)) 1 (E i)) 4 (C' false)) 5 (E (G.at_ As i))) 6 (S H)) 7 (E xa.f))∧Sat F w (O H (ab x) 142::(NY Q z C g B Av Z Bt Ax As u++[O t [[v1],[v2]] 265,AQ 273 AM v1 (G.get AJ),AQ 48 AP v2 (G.get AO)])) W) ?_ ?_
 ·
  refine CQ [0,1,2,3,4,5,6,7,8]<|Ab 0 D (AA D)<|Ab 1 D (Bp D)<|Ab 2 D (AS Tryz.underlying189 7 D)<|Ab 3 D (Bb Tryz.underlying186 0 7 D D D)<|Ab 4 D (AA D)<|Ab 5 D (GN Tryz.underlying186 (fun w d=>d.mp 3) Fg Fe (a:=(G.at_ As i)) (Fb JY) D D KQ (by rw[M]))<|Ab 6 D (AA D)<|Ab 7 D (Bp D)<|Ab 8 D (AS Tryz.underlying189 7 D)<|Ab 9 D (Bb Tryz.underlying186 0 7 D D D)<|Ab 10 D (AA D)<|Gy 11 14 D D ?_ ?_
  ·
   refine Cx Tryz.func159 D [0,4] (H1:=[Ay Q z C g AE B,Ae 3 1 (I C.p C.n C.c) C.n (Aq Bm As)]) (fun w y=>HX Q z C g AE B 1 As w y)<|A8 [0,1,2,3,4,5,6,7,8]<|Ab 12 D (GN Tryz.underlying186 (fun w d=>d.mp 3) Fg Fe (a:=(G.at_ As 1)) (Fb JY) D D KQ (by rw[L]))<|Ab 13 D (Io Tryz.underlying142 1 D D D Tryz.underlying3)<|Bh 14 D<|Bw Yc fun H=>A8 [1,2,3,4,5,6,7,8,9]<|Bh 15 D<|Bk 0 0 7 D D D<|?_;refine A8 [1,2,3,4,5,6,7,8,9]<|Ab 16 D (Ck D)<|Cm<|?_;exact fun a W j d=>⟨H,AY j,d.pick [0,1,2,3,4,5,6,7,8,9]⟩
  refine Bw Yc fun H=>A8 [1,2,3,4,5,6,7,8,9]<|Bh 11 D<|Cx Tryz.func159 D [1,5] (H1:=[Ay Q z C g AE B,Ae 3 1 (I C.p C.n C.c) C.n (Aq Bm As)]) (fun w y=>HX Q z C g AE B 1 As w y)<|A8 [1,2,3,4,5,6,7,8,9]<|Ab 12 D (GN Tryz.underlying186 (fun w d=>d.mp 3) Fg Fe (a:=(G.at_ As 1)) (Fb JY) D D KQ (by rw[L]))<|Ab 13 D (Io Tryz.underlying142 1 D D D Tryz.underlying3)<|Bh 15 D<|Bk 0 0 7 D D D<|?_;refine A8 [1,2,3,4,5,6,7,8,9]<|Ab 16 D (Ck D)<|Cm<|?_;exact fun a W j d=>⟨H,AY j,d.pick [0,1,2,3,4,5,6,7,8,9]⟩
 rintro a W ⟨H,j,d⟩;revert a W;refine Jf<|Je<|Jh<|Jd D<|Js D<|Jg<|Jf<|Gq (fun a W=>∃(ai:Nat),AH 150 a (Jb (Jb (Jb (Jb (Jb (Jb (Jb Jk 0 (S Q)) 1 (E i)) 4 (C' false)) 5 (E (G.at_ As i))) 6 (S H)) 7 (E xa.f)) 8 (E ai))∧Sat F w (O H (ab x) 142::(NY Q z C g B Av Z Bt Ax As u++[O t [[v1],[v2]] 265,AQ 273 AM v1 (G.get AJ),AQ 48 AP v2 (G.get AO)])) W∧(ai=if 0<xa.f then xa.f+i - 1 else i)) ?_ ?_
 ·
  refine K ?_;refine Mp D D<|Jg<|Jf<|Cz D (fun aR=>?_) fun aR=>?_
  ·
   refine K ?_;refine B6 D D<|Es (q:=1) D D<|K ?_;exact fun a W j d=>⟨(xa.f+i) - 1,AY j,d.pick [0,1,2,3,4,5,6,7,8,9],by first|rw[if_pos JY]|rw[if_neg JY]⟩
  refine Jy<|Jf<|?_;exact fun a W j d=>⟨i,AY j,d.pick [0,1,2,3,4,5,6,7,8,9],by first|rw[if_pos JY]|rw[if_neg JY]⟩
 rintro a W ⟨ai,j,d,R⟩;revert a W;refine Je<|Je<|G9<|AR (AS sP 1 D)<|AR (Bb AF 0 1 D D D)<|AR (AA D)<|?_
 by_cases aB:((x.f:Nat):Int)=((xa.f:Nat):Int)
 ·
  refine AR (GY aB D D)<|AR (AA D)<|B2 D D D<|AR (AS sP 0 D)<|B2 D D D<|AR (Bb AF 0 0 D D D)<|B2 D D D<|AR (AA D)<|B2 D D D<|?_
  by_cases aC:((x.v:Nat):Int)=((ai:Nat):Int)
  ·
   refine AR (GY aC D D)<|AR (EK D D)<|AR (AA D)<|B2 D D D<|AR (AS sP 2 D)<|B2 D D D<|AR (Bb AF 0 2 D D D)<|B2 D D D<|AR (AA D)<|B2 D D D<|AR (AA D)<|B2 D D D<|AR (HS (q:=1) D D)<|B2 D D D<|KK Qf D [1,5] (H1:=[Ay Q z C g AE B,Ae 3 1 (I C.p C.n C.c) C.n (Aq Bm As)]) (fun w y=>HX Q z C g AE B (i - 1) As w y)<|B2 D D D<|?_
   by_cases aD:((x.uU:Nat):Int)=((G.at_ As (i - 1):Nat):Int)
   ·
    refine AR (GY aD D D)<|AR (EK D D)<|AR (AA D)<|B2 D D D<|AR (AS sP 3 D)<|B2 D D D<|AR (Bb AF 0 3 D D D)<|B2 D D D<|AR (AA D)<|B2 D D D<|AR (AA D)<|B2 D D D<|AR (AA D)<|B2 D D D<|AR (HS (q:=1) D D)<|B2 D D D<|AR (Na D D (i&&&(i - 1)) D)<|B2 D D D<|KK Qf D [1,5] (H1:=[Ay Q z C g AE B,Ae 3 1 (I C.p C.n C.c) C.n (Aq Bm As)]) (fun w y=>HX Q z C g AE B (i&&&(i - 1)) As w y)<|B2 D D D<|?_
    by_cases aE:((x.uW:Nat):Int)=((G.at_ As (i&&&(i - 1)):Nat):Int)
    ·
     refine AR (GY aE D D)<|AR (EK D D)<|Er<|K ?_;refine Af (S8 [[Value.map none],[Value.map none]])<|U<|Cv D fun aS=>U<|K5 273 AM Am fun N=>U<|K5 48 AP Am fun P=>Af (S8 (TQ N P))<|U<|Cv D fun A=>Jd D<|Jd D<|Es (q:=1) D D<|U<|Cx Qf D [5,9] (H1:=[Ay Q z C g AE B,Ae 3 1 (I C.p C.n C.c) C.n (Aq Bm As)]) (fun w y=>HX Q z C g AE B (i - 1) As w y)<|Af (Mn D D (((max 1 (G.at_ As (i - 1))):Nat):Int))<|B6 (q:=1) D D<|Af (S8 [[S Q],[S aS],[S A],[E ((max 1 (G.at_ As (i - 1)))+1)],[E 0]])<|U<|Cv D fun Ac=>K ?_;refine QD JY D D<|K ?_;refine By D<|AG Kp 9 D<|AZ kE 6 9 D D D<|Jd D<|Es (q:=2) D D<|Af (Dj J8 (i - 2) (i - 2) (BZ 11) D D)<|Af (J1 ax O1 (i - 2) aO (BZ 11) D D)<|By D<|AG KW 1 D<|U<|Cq 0 1 D D D<|?_;refine K ?_;refine By D<|AG KW 3 D<|AZ AF 0 3 D D D<|By D<|AG KW 4 D<|U<|Cq 0 4 D D D<|?_;refine Jg<|?_;refine I_ 3 (Ap Tryz.prog 273 AM Am N 0 (G.get (⟨max 1 (G.at_ As (i - 1))+1,[],[]⟩:G.B4).rows)) D D<|I_ 2 (Ap Tryz.prog 48 AP Am P 0 (G.get (⟨max 1 (G.at_ As (i - 1))+1,[],[]⟩:G.B4).Fz)) D D<|Jf<|Gq (fun a W=>∃(J:G.B4) (al:Nat) (an:Nat) (X:BX),AH 150 a (Jb (Jb (Jb (Jb Jk 0 (S Q)) 5 (E (G.at_ As i))) 6 (S H)) 9 (S Ac))∧Sat F w (O Ac [[S Q],[S t],[S A],[E ((max 1 (G.at_ As (i - 1)))+1)],[E J.A4]] 267::O A (TQ N P) 265::Ap Tryz.prog 48 AP Am P an (G.get J.Fz)::Ap Tryz.prog 273 AM Am N al (G.get J.rows)::O H (ab x) 142::(NY Q z C g X Av Z Bt Ax As u++[O t [[v1],[v2]] 265,AQ 273 AM v1 (G.get AJ),AQ 48 AP v2 (G.get AO)])) W∧Hq z.w Z As (AJ,AO) i x=some J) ?_ ?_
     ·
      refine Je<|Jh<|AG sP 4 D<|AZ AF 5 4 D D D<|E2 D D<|Jg<|Jf<|Cz D (fun aT=>?_) fun aT=>?_
      ·
       refine Je<|CQ [0,1,2,3,4,5,8,9,10,11,12,13,14]<|Ab 0 D (AS sP 6 D)<|Ab 1 D (DH Nl 5 6 1 [bv x.s.l] D D)<|Ab 2 D (AA D)<|Bh 3 D<|?_;refine Ba kl D (fun w d=>N4 Q z C g AE B 256 w (d.Ad [6,7]) (aa.sat d (ae F hF)) (d.Eb aa (ae F hF) [6,7])) fun _ e W d ⟨he,ao,q⟩=>⟨_,_,he,d.As [6,7] [0,1,2,3,4,5,8,9,10,11,12,13,14] q,?_⟩
       refine A8 [2,3,4,5,6,7,8,9,10,11,12,13,14]<|?_;refine Ab 4 D (fun _ _ j d=>Qj j x.s.h (AL.bare z.w 256).h D D _ D)<|Cm<|Jf<|HI D (fun aU=>?_) fun aU=>?_
       ·
        refine K ?_;refine U<|Dr 237 2 (Aq BQ [])<|?_;refine Ba P1 D (fun w d=>EZ Q z C g AE ao (G.at_ As i) 171 ([]) w (d.Ad [1,0])) fun _ e W d ⟨aF,aV,he,aW,q⟩=>⟨_,_,he,d.As [1,0] [2,3,4,5,6,7,8,9,10,11,12,13,14,15] q,?_⟩
        have bu:aF.n=1:=aW;refine A7 ?_;intro W d;subst hF;have o:G.version z.w (fun p=>(Z p).map Bf.AW) (fun p=>(Ax p).getD G.DX) As (AJ,AO) i=none:=by
         rw[GC M L];rw[if_pos ⟨JY,by rw[←R];omega,JY,JY⟩];unfold Hq;rw[if_pos JY,if_neg (fun aX=>by have:=congrArg Jc.l aX;contradiction)];rfl
        refine⟨fun o' ho=>(by rw[o]at ho;cases ho),fun _=>?_⟩;exact⟨aF,aV,ao,D,JY,JY,d.pick [0,2,9,10,11,1]⟩
       refine Jy<|Jf<|?_;exact fun a W j d=>⟨(⟨max 1 (G.at_ As (i - 1))+1,[],[]⟩:G.B4),0,0,ao,AY j,d.pick [2,3,4,5,7,0,1,8,9,10,11,12,13,14],(by unfold Hq;rw[if_pos JY,if_pos (by apply Jc.ext;first|assumption|(apply Classical.byContradiction;assumption))])⟩
      refine Je<|?_;cases aj:G.through (B0 z.w Z AJ AO (max 1 (G.at_ As (i - 1))+1)) 4097 x.r (G.at_ As i) x.c x.s ⟨0,CU⟩ (⟨max 1 (G.at_ As (i - 1))+1,[],[]⟩:G.B4)with
      |none=>
       refine Jh<|Jd D<|AG sP 4 D<|AZ AF 5 4 D D D<|Jd D<|AG sP 5 D<|AZ AF 5 5 D D D<|AG sP 6 D<|Af (DH Nl 5 6 1 [bv x.s.l] D D)<|Af (ar ZY [(0,1),(1,1),(2,1),(3,32)] [[E 0],[E 0],[E 0],Ak 32] [[E x.r],[E (G.at_ As i)],[E x.c],bv x.s.l])<|Af (S8 [[E 0],Ak 32])<|U<|Ba XB D (fun w d=>(Qg Q Ac t A N P v1 v2 z C g Av Z AJ AO (max 1 (G.at_ As (i - 1))+1) hw CM hOr aw 4097 B x.r (G.at_ As i) x.c 0 0 257 x.s ⟨0,CU⟩ (⟨max 1 (G.at_ As (i - 1))+1,[],[]⟩:G.B4) w (d.Ad [6,7,8,0,12,13,14,1,3,2]) (aa.sat d (ae F hF)) (d.Eb aa (ae F hF) [6,7,8,0,12,13,14,1,3,2]) JY D JY JY JY JY JY (by show(max 1 (G.at_ As (i - 1))+1)≤2097152;omega)).mono fun e W q=>q.2 aj) fun _ e W d ⟨aY,aZ,a0,he,bw,bx,q⟩=>⟨_,_,he,d.As [6,7,8,0,12,13,14,1,3,2] [4,5,9,10,11] q,?_⟩
       refine Af (Te D)<|A7 ?_;intro W d;subst hF;have o:G.version z.w (fun p=>(Z p).map Bf.AW) (fun p=>(Ax p).getD G.DX) As (AJ,AO) i=none:=by
        rw[GC M L];rw[if_pos ⟨JY,by rw[←R];omega,JY,JY⟩];unfold Hq;rw[if_neg JY];first|(rw[show G.through _ _ _ _ _ _ _ _=none from aj];rfl)|rfl
       refine⟨fun o' ho=>(by rw[o]at ho;cases ho),fun _=>?_⟩;exact⟨aY,aZ,a0,D,JY,JY,d.pick [0,1,2,6,7,3]⟩
      |some a1=>
       refine Jh<|Jd D<|AG sP 4 D<|AZ AF 5 4 D D D<|Jd D<|AG sP 5 D<|AZ AF 5 5 D D D<|AG sP 6 D<|Af (DH Nl 5 6 1 [bv x.s.l] D D)<|Af (ar ZY [(0,1),(1,1),(2,1),(3,32)] [[E 0],[E 0],[E 0],Ak 32] [[E x.r],[E (G.at_ As i)],[E x.c],bv x.s.l])<|Af (S8 [[E 0],Ak 32])<|U<|Ba XB D (fun w d=>(Qg Q Ac t A N P v1 v2 z C g Av Z AJ AO (max 1 (G.at_ As (i - 1))+1) hw CM hOr aw 4097 B x.r (G.at_ As i) x.c 0 0 257 x.s ⟨0,CU⟩ (⟨max 1 (G.at_ As (i - 1))+1,[],[]⟩:G.B4) w (d.Ad [6,7,8,0,12,13,14,1,3,2]) (aa.sat d (ae F hF)) (d.Eb aa (ae F hF) [6,7,8,0,12,13,14,1,3,2]) JY D JY JY JY JY JY (by show(max 1 (G.at_ As (i - 1))+1)≤2097152;omega)).mono fun e W q=>q.1 _ aj) fun _ e W d ⟨a2,a3,a4,he,bz,bA,bB,q⟩=>⟨_,_,he,d.As [6,7,8,0,12,13,14,1,3,2] [4,5,9,10,11] q,?_⟩
       refine Af (Te D)<|K ?_;exact fun a W j d=>⟨a1,a3,a4,a2,AY j,d.pick [3,7,9,8,11,0,1,2,12,13,14,4,5,6],(by unfold Hq;rw[if_neg JY];first|exact aj|rfl)⟩
     rintro a W ⟨J,al,an,X,j,d,aG⟩;revert a W;refine K ?_;refine By D<|AG KW 4 D<|AZ AF 0 4 D D D<|Jd D<|JU D D<|Jg<|Jf<|HI D (fun a5=>?_) fun a5=>?_
     ·
      refine K ?_;refine By D<|AG KW 4 D<|AZ AF 0 4 D D D<|U<|Dr 237 2 (Aq BQ [])<|?_;refine Ba P1 D (fun w d=>EZ Q z C g AE X J.A4 172 ([]) w (d.Ad [6,0])) fun _ e W d ⟨aH,a6,he,a7,q⟩=>⟨_,_,he,d.As [6,0] [1,2,3,4,5,7,8,9,10,11,12,13,14] q,?_⟩
      have bC:aH.n=1:=a7;refine A7 ?_;intro W d;subst hF;have o:G.version z.w (fun p=>(Z p).map Bf.AW) (fun p=>(Ax p).getD G.DX) As (AJ,AO) i=none:=by
       rw[GC M L];rw[if_pos ⟨JY,by rw[←R];omega,JY,JY⟩,aG];simp only[s3];exact if_neg JY
      refine⟨fun o' ho=>(by rw[o]at ho;cases ho),fun _=>?_⟩;exact⟨aH,a6,X,D,JY,JY,d.pick [0,7,8,9,10,1]⟩
     refine Jy<|Jf<|Je<|Hj (fun a W=>∃(af:Option Addr) (ag:Nat),AH 150 a Jk∧Sat F w (O Ac [[S Q],[S t],[S A],[E ((max 1 (G.at_ As (i - 1)))+1)],[E J.A4]] 267::O A (TQ N P) 265::Ap Tryz.prog 48 AP Am P an (G.get J.Fz)::Ap Tryz.prog 273 AM Am N al (G.get J.rows)::O H (ab x) 142::Ay Q z C ⟨af,g.n+1,ag⟩ AE X::(jM z X Av Z Bt Ax C As++[Ae 261 1 (I af (g.n+1) ag) (g.n+1) (Aq CC (u++([A]))),O t [[v1],[v2]] 265,AQ 273 AM v1 (G.get AJ),AQ 48 AP v2 (G.get AO)])) W) ?_ ?_
     ·
      refine CQ [0,1,2,3,4,6,7,8,11,12,13]<|Ab 0 D (AA D)<|Ab 1 D (AA D)<|Ab 2 D (Bp D)<|Ab 3 D (AS Kp 9 D)<|Ab 5 D (AA D)<|Ab 6 D (Bp D)<|Ab 7 D (AS KW 2 D)<|Ab 8 D (Bb ax 0 2 D D D)<|Gy 4 9 D D ?_ ?_
      ·
       refine IK (Bb kE 5 9 D D D)<|A8 [0,1,2,3,4,6,7,8,11,12,13]<|Bh 9 D<|Ey J8 (Aq CC [A]) D D D fun bD=>A8 [1,2,3,4,5,7,8,9,12,13,14]<|Bh 10 D<|DI (m:=1) J8 11 (Aq CC (u++([A]))) D D D (BZ 0) (HJ Px _) (H0 O1 D) D fun af ag=>A8 [1,2,3,4,5,7,8,9,12,13,14]<|Ab 11 D (Bp D)<|Ab 12 D (AS Kp 9 D)<|Bh 13 D<|Cq 6 9 D D D<|?_;refine A8 [1,2,3,4,5,7,8,9,12,13,14]<|Cm<|?_;exact fun a W j d=>⟨af,ag,AY j,d.pick [1,2,3,4,5,6,7,8,9,10,11,12,13,14]⟩
      refine Ey J8 (Aq CC [A]) D D D fun bE=>A8 [1,2,3,4,5,7,8,9,12,13,14]<|Bh 4 D<|IK (Bb kE 6 9 D D D)<|A8 [1,2,3,4,5,7,8,9,12,13,14]<|Bh 10 D<|DI (m:=1) J8 11 (Aq CC (u++([A]))) D D D (BZ 0) (HJ Px _) (H0 O1 D) D fun a8 a9=>A8 [1,2,3,4,5,7,8,9,12,13,14]<|Ab 11 D (Bp D)<|Ab 12 D (AS Kp 9 D)<|Bh 13 D<|Cq 6 9 D D D<|?_;refine A8 [1,2,3,4,5,7,8,9,12,13,14]<|Cm<|?_;exact fun a W j d=>⟨a8,a9,AY j,d.pick [1,2,3,4,5,6,7,8,9,10,11,12,13,14]⟩
     rintro a W ⟨af,ag,j,d⟩;revert a W;refine A7 ?_;intro W d;subst hF;have o:G.version z.w (fun p=>(Z p).map Bf.AW) (fun p=>(Ax p).getD G.DX) As (AJ,AO) i=some (J.rows,J.Fz):=by rw[GC M L,if_pos ⟨JY,by rw[←R];omega,JY,JY⟩,aG];simp only[s3];exact if_pos JY
     refine⟨fun o' ho=>?_,fun aI=>by rw[o]at aI;cases aI⟩;rw[o]at ho;cases ho;refine⟨X,⟨af,g.n+1,ag⟩,A,.map (some N),.map (some P),D,D,?_⟩;exact((d.QM 3 D).QM 2 D).pick [5,6,7,8,9,10,1,3,2]
    refine AR (Hp aE D D)<|AR (EK D D)<|Er<|K ?_;refine U<|Dr 237 2 (Aq BQ [])<|?_;refine Ba P1 D (fun w d=>EZ Q z C g AE B (G.at_ As i) 173 ([]) w (d.Ad [2,0])) fun _ e W d ⟨aJ,a_,he,a',q⟩=>⟨_,_,he,d.As [2,0] [1,3,4,5,6,7,8,9,10] q,?_⟩
    have bF:aJ.n=1:=a';refine A7 ?_;intro W d;subst hF;have o:G.version z.w (fun p=>(Z p).map Bf.AW) (fun p=>(Ax p).getD G.DX) As (AJ,AO) i=none:=by
     rw[GC M L];exact if_neg (by rintro⟨aq,Y,au,av⟩;rw[←R]at Y;omega)
    refine⟨fun o' ho=>(by rw[o]at ho;cases ho),fun _=>?_⟩;exact⟨aJ,a_,B,D,JY,JY,d.pick [0,3,4,5,6,1]⟩
   refine AR (Hp aD D D)<|AR (EK D D)<|AR (AA D)<|Bq D D D D<|Bq D D D D<|Bq D D D D<|Bq D D D D<|Bq D D D D<|Bq D D D D<|Bq D D D D<|Bq D D D D<|Bq D D D D<|AR (D' D D)<|Er<|K ?_;refine U<|Dr 237 2 (Aq BQ [])<|?_;refine Ba P1 D (fun w d=>EZ Q z C g AE B (G.at_ As i) 173 ([]) w (d.Ad [2,0])) fun _ e W d ⟨aK,ba,he,bb,q⟩=>⟨_,_,he,d.As [2,0] [1,3,4,5,6,7,8,9,10] q,?_⟩
   have bG:aK.n=1:=bb;refine A7 ?_;intro W d;subst hF;have o:G.version z.w (fun p=>(Z p).map Bf.AW) (fun p=>(Ax p).getD G.DX) As (AJ,AO) i=none:=by
    rw[GC M L];exact if_neg (by rintro⟨aq,Y,au,av⟩;rw[←R]at Y;omega)
   refine⟨fun o' ho=>(by rw[o]at ho;cases ho),fun _=>?_⟩;exact⟨aK,ba,B,D,JY,JY,d.pick [0,3,4,5,6,1]⟩
  refine AR (Hp aC D D)<|AR (EK D D)<|AR (AA D)<|Bq D D D D<|Bq D D D D<|Bq D D D D<|Bq D D D D<|Bq D D D D<|Bq D D D D<|Bq D D D D<|AR (D' D D)<|AR (AA D)<|Bq D D D D<|Bq D D D D<|Bq D D D D<|Bq D D D D<|Bq D D D D<|Bq D D D D<|Bq D D D D<|Bq D D D D<|Bq D D D D<|AR (D' D D)<|Er<|K ?_;refine U<|Dr 237 2 (Aq BQ [])<|?_;refine Ba P1 D (fun w d=>EZ Q z C g AE B (G.at_ As i) 173 ([]) w (d.Ad [2,0])) fun _ e W d ⟨aL,bc,he,bd,q⟩=>⟨_,_,he,d.As [2,0] [1,3,4,5,6,7,8,9,10] q,?_⟩
  have bH:aL.n=1:=bd;refine A7 ?_;intro W d;subst hF;have o:G.version z.w (fun p=>(Z p).map Bf.AW) (fun p=>(Ax p).getD G.DX) As (AJ,AO) i=none:=by
   rw[GC M L];exact if_neg (by rintro⟨aq,Y,au,av⟩;rw[←R]at Y;omega)
  refine⟨fun o' ho=>(by rw[o]at ho;cases ho),fun _=>?_⟩;exact⟨aL,bc,B,D,JY,JY,d.pick [0,3,4,5,6,1]⟩
 refine AR (Hp aB D D)<|AR (AA D)<|Bq D D D D<|Bq D D D D<|Bq D D D D<|Bq D D D D<|AR (D' D D)<|AR (AA D)<|Bq D D D D<|Bq D D D D<|Bq D D D D<|Bq D D D D<|Bq D D D D<|Bq D D D D<|Bq D D D D<|AR (D' D D)<|AR (AA D)<|Bq D D D D<|Bq D D D D<|Bq D D D D<|Bq D D D D<|Bq D D D D<|Bq D D D D<|Bq D D D D<|Bq D D D D<|Bq D D D D<|AR (D' D D)<|Er<|K ?_;refine U<|Dr 237 2 (Aq BQ [])<|?_;refine Ba P1 D (fun w d=>EZ Q z C g AE B (G.at_ As i) 173 ([]) w (d.Ad [2,0])) fun _ e W d ⟨aM,bf,he,bg,q⟩=>⟨_,_,he,d.As [2,0] [1,3,4,5,6,7,8,9,10] q,?_⟩
 have bI:aM.n=1:=bg;refine A7 ?_;intro W d;subst hF;have o:G.version z.w (fun p=>(Z p).map Bf.AW) (fun p=>(Ax p).getD G.DX) As (AJ,AO) i=none:=by
  rw[GC M L];exact if_neg (by rintro⟨aq,Y,au,av⟩;rw[←R]at Y;omega)
 refine⟨fun o' ho=>(by rw[o]at ho;cases ho),fun _=>?_⟩;exact⟨aM,bf,B,D,JY,JY,d.pick [0,3,4,5,6,1]⟩
end Go.Proofs.YtjdboncaegphmaaGreatDoor
namespace Go.Proofs.YtjdboncaegphmaaGreatDoor
set_option maxRecDepth 100000
set_option maxHeartbeats 2000000
def FB(Z:Nat→Option Bf)(m:List (G.Ae×Nat)):Prop:=∀q p,G.get m q=some p→∃c,EX Z (257 - q.b) p q.b c
def F7(Z:Nat→Option Bf)(m:List (Jc×Nat)):Prop:=∀k p,G.get m k=some p→∃x,Z p=some x
section
variable {Z:Nat→Option Bf}
theorem FB.put{m:List (G.Ae×Nat)}{r:G.Ae}{p:Nat}(h:FB Z m)(d:∃c,EX Z (257 - r.b) p r.b c):FB Z (G.put m r p):=by
 intro q f a;rw[G.OZ]at a
 by_cases e:r=q
 ·rw[if_pos e]at a;cases a;subst e;exact d
 ·rw[if_neg e]at a;exact h q f a
theorem F7.put{m:List (Jc×Nat)}{k:Jc}{p:Nat}(h:F7 Z m)(b:∃x,Z p=some x):F7 Z (G.put m k p):=by
 intro q c a;rw[G.OZ]at a
 by_cases e:k=q
 ·rw[if_pos e]at a;cases a;exact b
 ·rw[if_neg e]at a;exact h q c a
theorem Yh{s:G.B4}{r:G.Ae}{p:Nat}{x:Bf}(h1:FB Z s.rows)(a:F7 Z s.Fz)(d:∃c,EX Z (257 - r.b) p r.b c)(e:Z p=some x):FB Z (G.note s r p x.AW).rows∧F7 Z (G.note s r p x.AW).Fz:=by
 refine⟨h1.put d,?_⟩;unfold G.note;simp only;split
 ·exact a.put ⟨x,e⟩
 ·exact a
theorem dn:∀(f p c:Nat) (r:G.Ae) (s:G.B4),f+r.b=257→EX Z f p r.b c→FB Z s.rows→F7 Z s.Fz→FB Z (G.Bn (fun p=>(Z p).map Bf.AW) f p r s).rows∧F7 Z (G.Bn (fun p=>(Z p).map Bf.AW) f p r s).Fz:=by
 intro f
 induction f with
 |zero=>intro p c r s o a;exact a.elim
 |succ f j=>
  intro p c r s o a h1 q;have t:∃c,EX Z (257 - r.b) p r.b c:=⟨c,by rw[show 257 - r.b=f+1 by omega];exact a⟩
  obtain⟨x,k,u,v,h⟩:=a;have d:=Yh h1 q t k;have m:(fun p=>(Z p).map Bf.AW) p=some x.AW:=by simp only[k];rfl
  rcases h with⟨g, -⟩|⟨g,J, -,hl,hr⟩
  ·rw[XD m (show x.AW.Bd=1 from g)];exact d
  ·rw[SP m (show¬x.AW.Bd=1 from g)];have n:∀s1,s1=(if x.AW.l=0 then G.note s r p x.AW else G.Bn (fun p=>(Z p).map Bf.AW) f x.AW.l (G.under r 0) (G.note s r p x.AW))→FB Z s1.rows∧F7 Z s1.Fz:=by
    intro s1 e;subst e;split
    ·exact d
    ·rename_i i;exact j _ _ _ _ (by show f+(r.b+1)=257;omega) (hl i) d.1 d.2
   split
   ·exact n _ D
   ·rename_i i;have:=n _ D;exact j _ _ _ _ (by show f+(r.b+1)=257;omega) (hr i) this.1 this.2
theorem cv{W:Nat}{AJ:List (G.Ae×Nat)}{AO:List (Jc×Nat)}{fr:Nat}(CM:∀p x,Z p=some x→Ge x∧2≤p∧p≤4096)(hOr:FB Z AJ):∀(f Ar Bg c:Nat) (w:Jc) (r:G.Ae) (s m:G.B4),r.b≤256→G.through (B0 W Z AJ AO fr) f Ar Bg c w r s=some m→FB Z s.rows→F7 Z s.Fz→EX Z (257 - r.b) Ar r.b c∧FB Z m.rows∧F7 Z m.Fz:=by
 intro f
 induction f with
 |zero=>intro Ar Bg c w r s m J h;cases h
 |succ f y=>
  intro Ar Bg c w r s m J h h1 u;cases n:G.E7 (B0 W Z AJ AO fr) Ar Bg c r with
  |false=>rw[Td n]at h;cases h
  |true=>
   cases g:Z Ar with
   |none=>rw[Qc g]at n;cases n
   |some x=>
    rw[Kg g n]at h;cases a:HO (B0 W Z AJ AO fr) f Ar x.AW r s with
    |none=>rw[a]at h;cases h
    |some E=>
     rw[a]at h;simp only[s3]at h;have F:E=m:=by
      split at h
      ·cases h;rfl
      ·cases h
     subst F;have hl:=n;rw[Ic g]at hl;have hl:=of_decide_eq_true hl;have v:=(CM _ _ g).1;have K:=(CM _ _ g).2;unfold HO at a
     by_cases C:Ar<(B0 W Z AJ AO fr).fr
     ·rw[if_pos C]at a;split at a
      ·rename_i Ad;cases a;have t:=Rs CM hOr g n Ad (show 257 - r.b+r.b=257 by omega);exact⟨t,dn _ _ _ _ _ JY t h1 u⟩
      ·cases a
     ·rw[if_neg C]at a;unfold Fh at a;cases i:(if x.AW.l=0 then some s else G.through (B0 W Z AJ AO fr) f x.AW.l Ar x.AW.lc x.AW.ls (G.under r 0) s)with
      |none=>rw[i]at a;cases a
      |some s1=>
       rw[i]at a;simp only[s3]at a;cases o:(if x.AW.r=0 then some s1 else G.through (B0 W Z AJ AO fr) f x.AW.r Ar x.AW.rc x.AW.rs (G.under r 1) s1)with
       |none=>rw[o]at a;cases a
       |some s2=>
        rw[o]at a;simp only[s3]at a;split at a
        ·cases a;have D:(¬x.l=0→r.b<256→EX Z (257 - (r.b+1)) x.l (r.b+1) x.lc)∧(x.l=0∨r.b<256→FB Z s1.rows∧F7 Z s1.Fz):=by
          by_cases d:x.AW.l=0
          ·rw[if_pos d]at i;cases i;exact⟨fun j=>absurd d j,fun _=>⟨h1,u⟩⟩
          ·rw[if_neg d]at i;refine⟨fun _ k=>(y _ _ _ _ (G.under r 0) _ _ (by show r.b+1≤256;omega) i h1 u).1,fun k=>(y _ _ _ _ (G.under r 0) _ _ (by show r.b+1≤256;rcases k with q|q;exact absurd q d;omega) i h1 u).2⟩
         have H:x.l=0∨r.b<256:=by
          rcases hl.2 with⟨e, -⟩|⟨-, -,q⟩
          ·exact .inl (v.z e).1
          ·exact .inr q
         have I:x.r=0∨r.b<256:=by
          rcases hl.2 with⟨e, -⟩|⟨-, -,q⟩
          ·exact .inl (v.z e).2.1
          ·exact .inr q
         have A:=D.2 H;have B:(¬x.r=0→r.b<256→EX Z (257 - (r.b+1)) x.r (r.b+1) x.rc)∧(FB Z s2.rows∧F7 Z s2.Fz):=by
          by_cases d:x.AW.r=0
          ·rw[if_pos d]at o;cases o;exact⟨fun j=>absurd d j,A⟩
          ·rw[if_neg d]at o;have k:r.b<256:=I.resolve_left d;have:=y _ _ _ _ (G.under r 1) _ _ (by show r.b+1≤256;omega) o A.1 A.2;exact⟨fun _ _=>this.1,this.2⟩
         have t:EX Z (257 - r.b) Ar r.b c:=by
          rw[show 257 - r.b=(257 - (r.b+1))+1 by omega];refine⟨x,g,?_,JY,?_⟩
          ·rcases hl.2 with⟨-,q, -⟩|⟨e,q, -⟩
           ·omega
           ·have:=v.b (v.Bd.resolve_left e);omega
          ·rcases hl.2 with⟨e,q, -⟩|⟨e,q,k⟩
           ·exact .inl ⟨e,q⟩
           ·exact .inr ⟨e,k,q,fun j=>D.1 j k,fun j=>B.1 j k⟩
         exact⟨t,Yh B.2.1 B.2.2 ⟨c,t⟩ g⟩
        ·cases a
theorem SZ{Bo:Type}{p:Prop}[Decidable p]{a:Option Bo}{b:Bo}(h:(if p then a else none)=some b):p∧a=some b:=by
 by_cases q:p
 ·rw[if_pos q]at h;exact⟨q,h⟩
 ·rw[if_neg q]at h;cases h
theorem FB.nil:FB Z []:=fun q p h=>by cases h
theorem F7.nil:F7 Z []:=fun k p h=>by cases h
theorem Vt{W:Nat}{Ax:Nat→Option B9}{As:List Nat}{o o':G.Shape}{i:Nat}{x xa:B9}(CM:∀p x,Z p=some x→Ge x∧2≤p∧p≤4096)(b:Ax (G.at_ As i)=some x)(c:Ax (G.at_ As 1)=some xa)(ho:FB Z o.1)(h:G.version W (fun p=>(Z p).map Bf.AW) (fun p=>(Ax p).getD G.DX) As o i=some o'):FB Z o'.1∧F7 Z o'.2:=by
 rw[GC b c]at h;have h:=(SZ h).2;cases hr:Hq W Z As o i x with
 |none=>rw[hr]at h;cases h
 |some s=>
  rw[hr]at h;have h:=(SZ (show(if s.A4=G.at_ As i then some (s.rows,s.Fz)else none)=some o' from h)).2;cases h;unfold Hq at hr
  by_cases a:x.r=0
  ·rw[if_pos a]at hr;cases(SZ hr).2;exact⟨FB.nil,F7.nil⟩
  ·rw[if_neg a]at hr;exact(cv CM ho _ _ _ _ _ _ _ _ (by show 0≤256;omega) hr FB.nil F7.nil).2
end
