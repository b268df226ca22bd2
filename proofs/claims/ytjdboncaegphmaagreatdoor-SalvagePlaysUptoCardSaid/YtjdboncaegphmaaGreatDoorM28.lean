/- Laws and walks on the road to SalvagePlays (part M28). No conditions beyond each law's own. -/
import Derived.Test.YtjdboncaegphmaaGreatDoorM27
set_option linter.unusedVariables false
namespace Go.Proofs.YtjdboncaegphmaaGreatDoor
open Go.RowKit
set_option maxRecDepth 100000
set_option maxHeartbeats 2000000
theorem Rh{N:Nat}{f:BW}{F:Nat→Prop}{w0:World}{H:List Atom}{A5:Act→World→Prop}(k:TypeId){Bo:Type}(Ca:Bo→Value)(h:AT N f F w0 (AQ k Ca (.map none) (fun _=>none)::H) A5):AT N f F w0 H A5:=fun a w b c=>h a w b (c.new (Cn _ _) (.inl ⟨D,fun _=>rfl⟩) (fun k e=>by cases e))
theorem Sat.QM{F:Nat→Prop}{w0 w:World}{H:List Atom}{k b n:Nat}{Bo:Type}{Ca:Bo→Value}{Z:Bo→Option Nat}(h:Sat F w0 H w)(i:Nat)(V:H[i]? =some (Ap Tryz.prog k Ca Am b n Z)):Sat F w0 (H.set i (AQ k Ca (.map (some b)) Z)) w:=h.set i V (C7.refl _ _) (.inr ⟨b,n,D,h.mp i V⟩) (fun j e=>.inl (by cases e;rfl))
theorem Lx{As:List Nat}(h:∀q∈As,q≤4096)(i:Nat):G.at_ As i≤4096:=by
 unfold G.at_;split
 ·rename_i b;rw[Dm];cases a:As[i - 1]? with
  |none=>exact F2 _
  |some q=>exact h q (ta a)
 ·exact F2 _
def Hq(W:Nat)(Z:Nat→Option Bf)(As:List Nat)(o:G.Shape)(i:Nat)(x:B9):Option G.B4:=if x.r=0 then(if x.s=AL.bare W 256 then some ⟨max 1 (G.at_ As (i - 1))+1,[],[]⟩else none)else G.through (B0 W Z o.1 o.2 (max 1 (G.at_ As (i - 1))+1)) 4097 x.r (G.at_ As i) x.c x.s ⟨0,CU⟩ ⟨max 1 (G.at_ As (i - 1))+1,[],[]⟩
theorem GC{W:Nat}{Z:Nat→Option Bf}{Ax:Nat→Option B9}{As:List Nat}{o:G.Shape}{i:Nat}{x xa:B9}(a:Ax (G.at_ As i)=some x)(b:Ax (G.at_ As 1)=some xa):G.version W (fun p=>(Z p).map Bf.AW) (fun p=>(Ax p).getD G.DX) As o i=if x.f=xa.f∧x.v=(if 0<xa.f then xa.f+i - 1 else i)∧x.uU=G.at_ As (i - 1)∧x.uW=G.at_ As (i&&&(i - 1))then(Hq W Z As o i x).bind (fun s=>if s.A4=G.at_ As i then some (s.rows,s.Fz)else none)else none:=by
 unfold G.version Hq;simp only[a,b,QW];rfl
attribute [local irreducible] G.through AL.bare
theorem aj(Q:Nat)(z:Dl)(C g B:BX)(Av Bt:Nat)(Z:Nat→Option Bf)(Ax:Nat→Option B9)(As y:List Nat)(i:Nat)(x xa:B9)(w:World)(t:BE (NY Q z C g B Av Z Bt Ax As y) w)(aa:CG w)(aO:∀k,CB k→¬A6 (NY Q z C g B Av Z Bt Ax As y) k)(hw:z.w≤32)(CM:∀p x,Z p=some x→Ge x∧2≤p∧p≤4096)(L:Ax (G.at_ As i)=some x)(J:Ax (G.at_ As 1)=some xa)(bg:C.n≤4096)(al:∀q∈As,q≤4096)(V:i=1)(bh:g.n+1=i)(bj:i≤4096)(bk:x.v≤1099511627776)(bl:xa.f≤1099511627776)(bm:x.r≤4096)(bn:x.c≤4096):Calls Tryz.prog 158 #[S Q,E i] w fun e W=>(∀o',G.version z.w (fun p=>(Z p).map Bf.AW) (fun p=>(Ax p).getD G.DX) As ([],[]) i=some o'→∃ah ad ay az aA,e=.returned (.bool true)∧ad.n=g.n+1∧Sat (A6 (NY Q z C g B Av Z Bt Ax As y)) w (Ay Q z C ad AE ah::(jM z ah Av Z Bt Ax C As++[Ae 261 1 (I ad.p ad.n ad.c) ad.n (Aq CC (y++[ay])),O ay [[az],[aA]] 265,AQ 273 AM az (G.get o'.1),AQ 48 AP aA (G.get o'.2)])) W)∧(G.version z.w (fun p=>(Z p).map Bf.AW) (fun p=>(Ax p).getD G.DX) As ([],[]) i=none→∃R aP ah,e=.returned (.bool false)∧1≤R.n∧R.n≤1048576∧Sat (A6 (NY Q z C g B Av Z Bt Ax As y)) w (Ay Q z C g R ah::(jM z ah Av Z Bt Ax C As++[Ae 237 2 (I R.p R.n R.c) R.n (Aq BQ aP)])) W):=by
 have ae:∀F,A6 (NY Q z C g B Av Z Bt Ax As y)=F→∀k,CB k→¬F k:=fun F hF k aQ q=>aO k aQ (hF▸q);have bo:=Lx al (i - 1);have bp:=Lx al i;have bq:=Lx al 1;have hOr:∀q p,G.get ([]:List (G.Ae×Nat)) q=some p→∃c,EX Z (257 - q.b) p q.b c:=fun q p h=>by cases h
 have aB:∀k p,G.get ([]:List (Jc×Nat)) k=some p→∃x,Z p=some x:=fun k p h=>by cases h
 refine Cb t Xp D 150 fun F hF=>K ?_;refine U<|Cx Qf D [0,4] (H1:=[Ay Q z C g AE B,Ae 3 1 (I C.p C.n C.c) C.n (Aq Bm As)]) (fun w t=>HX Q z C g AE B i As w t)<|K ?_;refine Hj (fun a W=>∃(A:Nat),AH 150 a (Jb (Jb (Jb (Jb (Jb (Jb Jk 0 (S Q)) 1 (E i)) 4 (C' false)) 5 (E (G.at_ As i))) 6 (S A)) 7 (E xa.f))∧Sat F w (O A (ab x) 142::NY Q z C g B Av Z Bt Ax As y) W) ?_ ?_
 ·
  refine CQ [0,1,2,3,4,5]<|Ab 0 D (AA D)<|Ab 1 D (Bp D)<|Ab 2 D (AS Tryz.underlying189 7 D)<|Ab 3 D (Bb Tryz.underlying186 0 7 D D D)<|Ab 4 D (AA D)<|Ab 5 D (GN Tryz.underlying186 (fun w d=>d.mp 3) Fg Fe (a:=(G.at_ As i)) (Fb JY) D D KQ (by rw[L]))<|Ab 6 D (AA D)<|Ab 7 D (Bp D)<|Ab 8 D (AS Tryz.underlying189 7 D)<|Ab 9 D (Bb Tryz.underlying186 0 7 D D D)<|Ab 10 D (AA D)<|Gy 11 14 D D ?_ ?_
  ·
   refine Cx Tryz.func159 D [0,4] (H1:=[Ay Q z C g AE B,Ae 3 1 (I C.p C.n C.c) C.n (Aq Bm As)]) (fun w t=>HX Q z C g AE B 1 As w t)<|A8 [0,1,2,3,4,5]<|Ab 12 D (GN Tryz.underlying186 (fun w d=>d.mp 3) Fg Fe (a:=(G.at_ As 1)) (Fb JY) D D KQ (by rw[J]))<|Ab 13 D (Io Tryz.underlying142 1 D D D Tryz.underlying3)<|Bh 14 D<|Bw Yc fun A=>A8 [1,2,3,4,5,6]<|Bh 15 D<|Bk 0 0 7 D D D<|?_;refine A8 [1,2,3,4,5,6]<|Ab 16 D (Ck D)<|Cm<|?_;exact fun a W j d=>⟨A,AY j,d.pick [0,1,2,3,4,5,6]⟩
  refine Bw Yc fun A=>A8 [1,2,3,4,5,6]<|Bh 11 D<|Cx Tryz.func159 D [1,5] (H1:=[Ay Q z C g AE B,Ae 3 1 (I C.p C.n C.c) C.n (Aq Bm As)]) (fun w t=>HX Q z C g AE B 1 As w t)<|A8 [1,2,3,4,5,6]<|Ab 12 D (GN Tryz.underlying186 (fun w d=>d.mp 3) Fg Fe (a:=(G.at_ As 1)) (Fb JY) D D KQ (by rw[J]))<|Ab 13 D (Io Tryz.underlying142 1 D D D Tryz.underlying3)<|Bh 15 D<|Bk 0 0 7 D D D<|?_;refine A8 [1,2,3,4,5,6]<|Ab 16 D (Ck D)<|Cm<|?_;exact fun a W j d=>⟨A,AY j,d.pick [0,1,2,3,4,5,6]⟩
 rintro a W ⟨A,j,d⟩;revert a W;refine Jf<|Je<|Jh<|Jd D<|Js D<|Jg<|Jf<|Gq (fun a W=>∃(ai:Nat),AH 150 a (Jb (Jb (Jb (Jb (Jb (Jb (Jb Jk 0 (S Q)) 1 (E i)) 4 (C' false)) 5 (E (G.at_ As i))) 6 (S A)) 7 (E xa.f)) 8 (E ai))∧Sat F w (O A (ab x) 142::NY Q z C g B Av Z Bt Ax As y) W∧(ai=if 0<xa.f then xa.f+i - 1 else i)) ?_ ?_
 ·
  refine K ?_;refine Mp D D<|Jg<|Jf<|Cz D (fun aR=>?_) fun aR=>?_
  ·
   refine K ?_;refine B6 D D<|Es (q:=1) D D<|K ?_;exact fun a W j d=>⟨(xa.f+i) - 1,AY j,d.pick [0,1,2,3,4,5,6],by first|rw[if_pos JY]|rw[if_neg JY]⟩
  refine Jy<|Jf<|?_;exact fun a W j d=>⟨i,AY j,d.pick [0,1,2,3,4,5,6],by first|rw[if_pos JY]|rw[if_neg JY]⟩
 rintro a W ⟨ai,j,d,P⟩;revert a W;refine Je<|Je<|G9<|AR (AS sP 1 D)<|AR (Bb AF 0 1 D D D)<|AR (AA D)<|?_
 by_cases aC:((x.f:Nat):Int)=((xa.f:Nat):Int)
 ·
  refine AR (GY aC D D)<|AR (AA D)<|B2 D D D<|AR (AS sP 0 D)<|B2 D D D<|AR (Bb AF 0 0 D D D)<|B2 D D D<|AR (AA D)<|B2 D D D<|?_
  by_cases aD:((x.v:Nat):Int)=((ai:Nat):Int)
  ·
   refine AR (GY aD D D)<|AR (EK D D)<|AR (AA D)<|B2 D D D<|AR (AS sP 2 D)<|B2 D D D<|AR (Bb AF 0 2 D D D)<|B2 D D D<|AR (AA D)<|B2 D D D<|AR (AA D)<|B2 D D D<|AR (HS (q:=1) D D)<|B2 D D D<|KK Qf D [1,5] (H1:=[Ay Q z C g AE B,Ae 3 1 (I C.p C.n C.c) C.n (Aq Bm As)]) (fun w t=>HX Q z C g AE B (i - 1) As w t)<|B2 D D D<|?_
   by_cases aE:((x.uU:Nat):Int)=((G.at_ As (i - 1):Nat):Int)
   ·
    refine AR (GY aE D D)<|AR (EK D D)<|AR (AA D)<|B2 D D D<|AR (AS sP 3 D)<|B2 D D D<|AR (Bb AF 0 3 D D D)<|B2 D D D<|AR (AA D)<|B2 D D D<|AR (AA D)<|B2 D D D<|AR (AA D)<|B2 D D D<|AR (HS (q:=1) D D)<|B2 D D D<|AR (Na D D (i&&&(i - 1)) D)<|B2 D D D<|KK Qf D [1,5] (H1:=[Ay Q z C g AE B,Ae 3 1 (I C.p C.n C.c) C.n (Aq Bm As)]) (fun w t=>HX Q z C g AE B (i&&&(i - 1)) As w t)<|B2 D D D<|?_
    by_cases aF:((x.uW:Nat):Int)=((G.at_ As (i&&&(i - 1)):Nat):Int)
    ·
     refine AR (GY aF D D)<|AR (EK D D)<|Er<|K ?_;refine Af (S8 [[Value.map none],[Value.map none]])<|U<|Cv D fun T=>U<|K5 273 AM Am fun M=>U<|K5 48 AP Am fun N=>Af (S8 (TQ M N))<|U<|Cv D fun u=>Jd D<|Jd D<|Es (q:=1) D D<|U<|Cx Qf D [5,9] (H1:=[Ay Q z C g AE B,Ae 3 1 (I C.p C.n C.c) C.n (Aq Bm As)]) (fun w t=>HX Q z C g AE B (i - 1) As w t)<|Af (Mn D D (((max 1 (G.at_ As (i - 1))):Nat):Int))<|B6 (q:=1) D D<|Af (S8 [[S Q],[S T],[S u],[E ((max 1 (G.at_ As (i - 1)))+1)],[E 0]])<|U<|Cv D fun Ac=>K ?_;refine HF JY D D<|K ?_;refine By D<|AG KW 3 D<|AZ AF 0 3 D D D<|By D<|AG KW 4 D<|U<|Cq 0 4 D D D<|?_;refine Jg<|?_;refine Rh 48 AP<|Rh 273 AM<|I_ 1 (AQ 48 AP (Value.map none) (G.get [])) D D<|I_ 0 (AQ 273 AM (Value.map none) (G.get [])) D D<|I_ 5 (Ap Tryz.prog 273 AM Am M 0 (G.get (⟨max 1 (G.at_ As (i - 1))+1,[],[]⟩:G.B4).rows)) D D<|I_ 4 (Ap Tryz.prog 48 AP Am N 0 (G.get (⟨max 1 (G.at_ As (i - 1))+1,[],[]⟩:G.B4).Fz)) D D<|Jf<|Gq (fun a W=>∃(H:G.B4) (an:Nat) (ao:Nat) (X:BX),AH 150 a (Jb (Jb (Jb (Jb Jk 0 (S Q)) 5 (E (G.at_ As i))) 6 (S A)) 9 (S Ac))∧Sat F w (AQ 273 AM (Value.map none) (G.get [])::AQ 48 AP (Value.map none) (G.get [])::O Ac [[S Q],[S T],[S u],[E ((max 1 (G.at_ As (i - 1)))+1)],[E H.A4]] 267::O u (TQ M N) 265::Ap Tryz.prog 48 AP Am N ao (G.get H.Fz)::Ap Tryz.prog 273 AM Am M an (G.get H.rows)::O T [[Value.map none],[Value.map none]] 265::O A (ab x) 142::NY Q z C g X Av Z Bt Ax As y) W∧Hq z.w Z As ([],[]) i x=some H) ?_ ?_
     ·
      refine Je<|Jh<|AG sP 4 D<|AZ AF 7 4 D D D<|E2 D D<|Jg<|Jf<|Cz D (fun aS=>?_) fun aS=>?_
      ·
       refine Je<|CQ [0,1,2,3,4,5,6,7,10,11,12,13]<|Ab 0 D (AS sP 6 D)<|Ab 1 D (DH Nl 7 6 1 [bv x.s.l] D D)<|Ab 2 D (AA D)<|Bh 3 D<|?_;refine Ba kl D (fun w d=>N4 Q z C g AE B 256 w (d.Ad [8,9]) (aa.sat d (ae F hF)) (d.Eb aa (ae F hF) [8,9])) fun _ e W d ⟨he,aq,q⟩=>⟨_,_,he,d.As [8,9] [0,1,2,3,4,5,6,7,10,11,12,13] q,?_⟩
       refine A8 [2,3,4,5,6,7,8,9,10,11,12,13]<|?_;refine Ab 4 D (fun _ _ j d=>Qj j x.s.h (AL.bare z.w 256).h D D _ D)<|Cm<|Jf<|HI D (fun aT=>?_) fun aT=>?_
       ·
        refine K ?_;refine U<|Dr 237 2 (Aq BQ [])<|?_;refine Ba P1 D (fun w d=>EZ Q z C g AE aq (G.at_ As i) 171 ([]) w (d.Ad [1,0])) fun _ e W d ⟨aG,aU,he,aV,q⟩=>⟨_,_,he,d.As [1,0] [2,3,4,5,6,7,8,9,10,11,12,13,14] q,?_⟩
        have bt:aG.n=1:=aV;refine A7 ?_;intro W d;subst hF;have o:G.version z.w (fun p=>(Z p).map Bf.AW) (fun p=>(Ax p).getD G.DX) As ([],[]) i=none:=by
         rw[GC L J];rw[if_pos ⟨JY,by rw[←P];omega,JY,JY⟩];unfold Hq;rw[if_pos JY,if_neg (fun aW=>by have:=congrArg Jc.l aW;contradiction)];rfl
        refine⟨fun o' ho=>(by rw[o]at ho;cases ho),fun _=>?_⟩;exact⟨aG,aU,aq,D,JY,JY,d.pick [0,2,11,12,13,1]⟩
       refine Jy<|Jf<|?_;exact fun a W j d=>⟨(⟨max 1 (G.at_ As (i - 1))+1,[],[]⟩:G.B4),0,0,aq,AY j,d.pick [2,3,4,5,6,7,8,9,0,1,10,11,12,13],(by unfold Hq;rw[if_pos JY,if_pos (by apply Jc.ext;first|assumption|(apply Classical.byContradiction;assumption))])⟩
      refine Je<|?_;cases ak:G.through (B0 z.w Z [] [] (max 1 (G.at_ As (i - 1))+1)) 4097 x.r (G.at_ As i) x.c x.s ⟨0,CU⟩ (⟨max 1 (G.at_ As (i - 1))+1,[],[]⟩:G.B4)with
      |none=>
       refine Jh<|Jd D<|AG sP 4 D<|AZ AF 7 4 D D D<|Jd D<|AG sP 5 D<|AZ AF 7 5 D D D<|AG sP 6 D<|Af (DH Nl 7 6 1 [bv x.s.l] D D)<|Af (ar ZY [(0,1),(1,1),(2,1),(3,32)] [[E 0],[E 0],[E 0],Ak 32] [[E x.r],[E (G.at_ As i)],[E x.c],bv x.s.l])<|Af (S8 [[E 0],Ak 32])<|U<|Ba XB D (fun w d=>(Qg Q Ac T u M N (.map none) (.map none) z C g Av Z [] [] (max 1 (G.at_ As (i - 1))+1) hw CM hOr aB 4097 B x.r (G.at_ As i) x.c 0 0 257 x.s ⟨0,CU⟩ (⟨max 1 (G.at_ As (i - 1))+1,[],[]⟩:G.B4) w (d.Ad [8,9,10,2,6,0,1,3,5,4]) (aa.sat d (ae F hF)) (d.Eb aa (ae F hF) [8,9,10,2,6,0,1,3,5,4]) JY D JY JY JY JY JY (by show(max 1 (G.at_ As (i - 1))+1)≤2097152;omega)).mono fun e W q=>q.2 ak) fun _ e W d ⟨aX,aY,aZ,he,bu,bw,q⟩=>⟨_,_,he,d.As [8,9,10,2,6,0,1,3,5,4] [7,11,12,13] q,?_⟩
       refine Af (Te D)<|A7 ?_;intro W d;subst hF;have o:G.version z.w (fun p=>(Z p).map Bf.AW) (fun p=>(Ax p).getD G.DX) As ([],[]) i=none:=by
        rw[GC L J];rw[if_pos ⟨JY,by rw[←P];omega,JY,JY⟩];unfold Hq;rw[if_neg JY];first|(rw[show G.through _ _ _ _ _ _ _ _=none from ak];rfl)|rfl
       refine⟨fun o' ho=>(by rw[o]at ho;cases ho),fun _=>?_⟩;exact⟨aX,aY,aZ,D,JY,JY,d.pick [0,1,2,5,6,3]⟩
      |some a0=>
       refine Jh<|Jd D<|AG sP 4 D<|AZ AF 7 4 D D D<|Jd D<|AG sP 5 D<|AZ AF 7 5 D D D<|AG sP 6 D<|Af (DH Nl 7 6 1 [bv x.s.l] D D)<|Af (ar ZY [(0,1),(1,1),(2,1),(3,32)] [[E 0],[E 0],[E 0],Ak 32] [[E x.r],[E (G.at_ As i)],[E x.c],bv x.s.l])<|Af (S8 [[E 0],Ak 32])<|U<|Ba XB D (fun w d=>(Qg Q Ac T u M N (.map none) (.map none) z C g Av Z [] [] (max 1 (G.at_ As (i - 1))+1) hw CM hOr aB 4097 B x.r (G.at_ As i) x.c 0 0 257 x.s ⟨0,CU⟩ (⟨max 1 (G.at_ As (i - 1))+1,[],[]⟩:G.B4) w (d.Ad [8,9,10,2,6,0,1,3,5,4]) (aa.sat d (ae F hF)) (d.Eb aa (ae F hF) [8,9,10,2,6,0,1,3,5,4]) JY D JY JY JY JY JY (by show(max 1 (G.at_ As (i - 1))+1)≤2097152;omega)).mono fun e W q=>q.1 _ ak) fun _ e W d ⟨a1,a2,a3,he,bx,bz,bA,q⟩=>⟨_,_,he,d.As [8,9,10,2,6,0,1,3,5,4] [7,11,12,13] q,?_⟩
       refine Af (Te D)<|K ?_;exact fun a W j d=>⟨a0,a2,a3,a1,AY j,d.pick [5,6,3,7,9,8,4,10,0,1,2,11,12,13],(by unfold Hq;rw[if_neg JY];first|exact ak|rfl)⟩
     rintro a W ⟨H,an,ao,X,j,d,aH⟩;revert a W;refine K ?_;refine By D<|AG KW 4 D<|AZ AF 2 4 D D D<|Jd D<|JU D D<|Jg<|Jf<|HI D (fun a4=>?_) fun a4=>?_
     ·
      refine K ?_;refine By D<|AG KW 4 D<|AZ AF 2 4 D D D<|U<|Dr 237 2 (Aq BQ [])<|?_;refine Ba P1 D (fun w d=>EZ Q z C g AE X H.A4 172 ([]) w (d.Ad [9,0])) fun _ e W d ⟨aI,a5,he,a6,q⟩=>⟨_,_,he,d.As [9,0] [1,2,3,4,5,6,7,8,10,11,12,13,14] q,?_⟩
      have bB:aI.n=1:=a6;refine A7 ?_;intro W d;subst hF;have o:G.version z.w (fun p=>(Z p).map Bf.AW) (fun p=>(Ax p).getD G.DX) As ([],[]) i=none:=by
       rw[GC L J];rw[if_pos ⟨JY,by rw[←P];omega,JY,JY⟩,aH];simp only[s3];exact if_neg JY
      refine⟨fun o' ho=>(by rw[o]at ho;cases ho),fun _=>?_⟩;exact⟨aI,a5,X,D,JY,JY,d.pick [0,10,11,12,13,1]⟩
     refine Jy<|Jf<|Je<|Hj (fun a W=>∃(af:Option Addr) (ag:Nat),AH 150 a Jk∧Sat F w (AQ 273 AM (Value.map none) (G.get [])::AQ 48 AP (Value.map none) (G.get [])::O Ac [[S Q],[S T],[S u],[E ((max 1 (G.at_ As (i - 1)))+1)],[E H.A4]] 267::O u (TQ M N) 265::Ap Tryz.prog 48 AP Am N ao (G.get H.Fz)::Ap Tryz.prog 273 AM Am M an (G.get H.rows)::O T [[Value.map none],[Value.map none]] 265::O A (ab x) 142::Ay Q z C ⟨af,g.n+1,ag⟩ AE X::(jM z X Av Z Bt Ax C As++[Ae 261 1 (I af (g.n+1) ag) (g.n+1) (Aq CC (y++([u])))])) W) ?_ ?_
     ·
      refine CQ [0,1,2,3,4,5,6,7,9,10,11]<|Ab 0 D (AA D)<|Ab 1 D (AA D)<|Ab 2 D (Bp D)<|Ab 3 D (AS Kp 9 D)<|Ab 5 D (AA D)<|Ab 6 D (Bp D)<|Ab 7 D (AS KW 2 D)<|Ab 8 D (Bb ax 2 2 D D D)<|Gy 4 9 D D ?_ ?_
      ·
       refine IK (Bb kE 8 9 D D D)<|A8 [0,1,2,3,4,5,6,7,9,10,11]<|Bh 9 D<|Ey J8 (Aq CC [u]) D D D fun bC=>A8 [1,2,3,4,5,6,7,8,10,11,12]<|Bh 10 D<|DI (m:=1) J8 14 (Aq CC (y++([u]))) D D D (BZ 0) (HJ Px _) (H0 O1 D) D fun af ag=>A8 [1,2,3,4,5,6,7,8,10,11,12]<|Ab 11 D (Bp D)<|Ab 12 D (AS Kp 9 D)<|Bh 13 D<|Cq 9 9 D D D<|?_;refine A8 [1,2,3,4,5,6,7,8,10,11,12]<|Cm<|?_;exact fun a W j d=>⟨af,ag,AY j,d.pick [1,2,3,4,5,6,7,8,9,10,11,12,13,14]⟩
      refine Ey J8 (Aq CC [u]) D D D fun bD=>A8 [1,2,3,4,5,6,7,8,10,11,12]<|Bh 4 D<|IK (Bb kE 9 9 D D D)<|A8 [1,2,3,4,5,6,7,8,10,11,12]<|Bh 10 D<|DI (m:=1) J8 14 (Aq CC (y++([u]))) D D D (BZ 0) (HJ Px _) (H0 O1 D) D fun a7 a8=>A8 [1,2,3,4,5,6,7,8,10,11,12]<|Ab 11 D (Bp D)<|Ab 12 D (AS Kp 9 D)<|Bh 13 D<|Cq 9 9 D D D<|?_;refine A8 [1,2,3,4,5,6,7,8,10,11,12]<|Cm<|?_;exact fun a W j d=>⟨a7,a8,AY j,d.pick [1,2,3,4,5,6,7,8,9,10,11,12,13,14]⟩
     rintro a W ⟨af,ag,j,d⟩;revert a W;refine A7 ?_;intro W d;subst hF;have o:G.version z.w (fun p=>(Z p).map Bf.AW) (fun p=>(Ax p).getD G.DX) As ([],[]) i=some (H.rows,H.Fz):=by rw[GC L J,if_pos ⟨JY,by rw[←P];omega,JY,JY⟩,aH];simp only[s3];exact if_pos JY
     refine⟨fun o' ho=>?_,fun aJ=>by rw[o]at aJ;cases aJ⟩;rw[o]at ho;cases ho;refine⟨X,⟨af,g.n+1,ag⟩,u,.map (some M),.map (some N),D,D,?_⟩;exact((d.QM 5 D).QM 4 D).pick [8,9,10,11,12,13,3,5,4]
    refine AR (Hp aF D D)<|AR (EK D D)<|Er<|K ?_;refine U<|Dr 237 2 (Aq BQ [])<|?_;refine Ba P1 D (fun w d=>EZ Q z C g AE B (G.at_ As i) 173 ([]) w (d.Ad [2,0])) fun _ e W d ⟨aK,a9,he,a_,q⟩=>⟨_,_,he,d.As [2,0] [1,3,4,5,6,7] q,?_⟩
    have bE:aK.n=1:=a_;refine A7 ?_;intro W d;subst hF;have o:G.version z.w (fun p=>(Z p).map Bf.AW) (fun p=>(Ax p).getD G.DX) As ([],[]) i=none:=by
     rw[GC L J];exact if_neg (by rintro⟨au,Y,av,aw⟩;rw[←P]at Y;omega)
    refine⟨fun o' ho=>(by rw[o]at ho;cases ho),fun _=>?_⟩;exact⟨aK,a9,B,D,JY,JY,d.pick [0,3,4,5,6,1]⟩
   refine AR (Hp aE D D)<|AR (EK D D)<|AR (AA D)<|Bq D D D D<|Bq D D D D<|Bq D D D D<|Bq D D D D<|Bq D D D D<|Bq D D D D<|Bq D D D D<|Bq D D D D<|Bq D D D D<|AR (D' D D)<|Er<|K ?_;refine U<|Dr 237 2 (Aq BQ [])<|?_;refine Ba P1 D (fun w d=>EZ Q z C g AE B (G.at_ As i) 173 ([]) w (d.Ad [2,0])) fun _ e W d ⟨aL,a',he,ba,q⟩=>⟨_,_,he,d.As [2,0] [1,3,4,5,6,7] q,?_⟩
   have bF:aL.n=1:=ba;refine A7 ?_;intro W d;subst hF;have o:G.version z.w (fun p=>(Z p).map Bf.AW) (fun p=>(Ax p).getD G.DX) As ([],[]) i=none:=by
    rw[GC L J];exact if_neg (by rintro⟨au,Y,av,aw⟩;rw[←P]at Y;omega)
   refine⟨fun o' ho=>(by rw[o]at ho;cases ho),fun _=>?_⟩;exact⟨aL,a',B,D,JY,JY,d.pick [0,3,4,5,6,1]⟩
  refine AR (Hp aD D D)<|AR (EK D D)<|AR (AA D)<|Bq D D D D<|Bq D D D D<|Bq D D D D<|Bq D D D D<|Bq D D D D<|Bq D D D D<|Bq D D D D<|AR (D' D D)<|AR (AA D)<|Bq D D D D<|Bq D D D D<|Bq D D D D<|Bq D D D D<|Bq D D D D<|Bq D D D D<|Bq D D D D<|Bq D D D D<|Bq D D D D<|AR (D' D D)<|Er<|K ?_;refine U<|Dr 237 2 (Aq BQ [])<|?_;refine Ba P1 D (fun w d=>EZ Q z C g AE B (G.at_ As i) 173 ([]) w (d.Ad [2,0])) fun _ e W d ⟨aM,bb,he,bc,q⟩=>⟨_,_,he,d.As [2,0] [1,3,4,5,6,7] q,?_⟩
  have bG:aM.n=1:=bc;refine A7 ?_;intro W d;subst hF;have o:G.version z.w (fun p=>(Z p).map Bf.AW) (fun p=>(Ax p).getD G.DX) As ([],[]) i=none:=by
   rw[GC L J];exact if_neg (by rintro⟨au,Y,av,aw⟩;rw[←P]at Y;omega)
  refine⟨fun o' ho=>(by rw[o]at ho;cases ho),fun _=>?_⟩;exact⟨aM,bb,B,D,JY,JY,d.pick [0,3,4,5,6,1]⟩
 refine AR (Hp aC D D)<|AR (AA D)<|Bq D D D D<|Bq D D D D<|Bq D D D D<|Bq D D D D<|AR (D' D D)<|AR (AA D)<|Bq D D D D<|Bq D D D D<|Bq D D D D<|Bq D D D D<|Bq D D D D<|Bq D D D D<|Bq D D D D<|AR (D' D D)<|AR (AA D)<|Bq D D D D<|Bq D D D D<|Bq D D D D<|Bq D D D D<|Bq D D D D<|Bq D D D D<|Bq D D D D<|Bq D D D D<|Bq D D D D<|AR (D' D D)<|Er<|K ?_;refine U<|Dr 237 2 (Aq BQ [])<|?_;refine Ba P1 D (fun w d=>EZ Q z C g AE B (G.at_ As i) 173 ([]) w (d.Ad [2,0])) fun _ e W d ⟨aN,bd,he,bf,q⟩=>⟨_,_,he,d.As [2,0] [1,3,4,5,6,7] q,?_⟩
 have bH:aN.n=1:=bf;refine A7 ?_;intro W d;subst hF;have o:G.version z.w (fun p=>(Z p).map Bf.AW) (fun p=>(Ax p).getD G.DX) As ([],[]) i=none:=by
  rw[GC L J];exact if_neg (by rintro⟨au,Y,av,aw⟩;rw[←P]at Y;omega)
 refine⟨fun o' ho=>(by rw[o]at ho;cases ho),fun _=>?_⟩;exact⟨aN,bd,B,D,JY,JY,d.pick [0,3,4,5,6,1]⟩
