/- Laws and walks on the road to SalvagePlays (part M33). No conditions beyond each law's own. -/
import Derived.Test.YtjdboncaegphmaaGreatDoorM32
set_option linter.unusedVariables false
namespace Go.Proofs.YtjdboncaegphmaaGreatDoor
open Go.RowKit
set_option maxRecDepth 100000
set_option maxHeartbeats 2000000
theorem l0(N DT TL:List (G.Ae×Nat))(x:G.Ae×Nat):(N++DT++TL).map I9++[I9 x]=(N++(DT++TL++[x])).map I9:=by
 rw[rb];simp only[C9]
theorem r7(j:Nat)(z:BF)(T:BX)(fr:Nat)(i:BX)(A:List (G.Ae×Nat))(AJ:List (G.Ae×Nat))(AO:List (Jc×Nat))(Y:W6 z AJ AO A)(f:Nat)(af:∀(Ar Bg c h:Nat) (aw:Jc) (r:G.Ae) (s:G.B4) (t:BX) (N:List (G.Ae×Nat)) (w:World) (aj:BE (bU z T j fr s.A4 i t A N) w) (Df:Ld w) (hQ:∀k,Zs k→¬A6 (bU z T j fr s.A4 i t A N) k) (y:KG z N r s) (bh:Bg≤z.FN.length) (bj:Bg≤f) (aQ:h+r.b=257) (h1:1≤h) (ak:N.length+h*c≤549755813888),Calls Tryz.prog 112 #[S j,E Ar,E Bg,E c,Value.agg (flat [bv aw.l]),Value.agg (flat [bv r.k.l]),E r.b] w fun e W=>kQ z T j fr s.A4 i t A N (G.through (B0 z.w z.Z AJ AO fr) f Ar Bg c aw r s) (BM.sub z.AW (257 - r.b) Ar r) (h*c) w e W)(p h k:Nat)(x:Bf)(r:G.Ae)(s:G.B4)(t:BX)(N:List (G.Ae×Nat))(w:World)(aj:BE (bU z T j fr s.A4 i t A N) w)(Df:Ld w)(hQ:∀k,Zs k→¬A6 (bU z T j fr s.A4 i t A N) k)(y:KG z N r s)(B:z.FN[p]? =some k)(ag:z.DS[p]? =some x)(ax:k=1∨k=2)(aR:p<z.FN.length)(bk:p≤f)(aQ:h+r.b=257)(h1:1≤h)(J:x.Bd=1∨r.b<256)(aS:BM.jL x.AW r)(ak:N.length+((h - 1)*x.lc+(h - 1)*x.rc+1)≤549755813888):Calls Tryz.prog 143 #[S j,E p,Value.agg (flat [bv r.k.l]),E r.b] w fun e W=>kQ z T j fr s.A4 i t A N (Fh (B0 z.w z.Z AJ AO fr) f p x.AW r s) (BM.sub z.AW (257 - r.b) p r) ((h - 1)*x.lc+(h - 1)*x.rc+1) w e W:=by
 have ah:=Y.ok;have bl:=ah.vr;have bn:=ah.vB;have bp:=ah.n;have bq:=ah.w;have ay:=BF.lk B ag ax;have az:=(ah.nd _ _ ay).1;have br:(x.l=0∧x.r=0)∨r.b<256:=J.elim (fun q=>.inl ⟨(az.z q).1,(az.z q).2.1⟩) .inr;refine Cb aj YT D 102 fun F hF=>Je<|Jh<|U<|Cv D fun aa=>Jg<|Jf<|Je<|?_;cases g:(if x.AW.l=0 then some s else G.through (B0 z.w z.Z AJ AO fr) f x.AW.l p x.AW.lc x.AW.ls (G.under r 0) s)with
 |none=>
  have H:¬x.l=0:=fun q=>by rw[if_pos (show x.AW.l=0 from q)]at g;cases g
  have R:=g;rw[if_neg (show¬x.AW.l=0 from H),jT]at R;refine K ?_;refine By D<|AG sV 0 D<|AZ Zc 3 0 D D D<|By D<|AG sT 6 D<|AZ IA 1 6 D D D<|Jd D<|Af (Dj MF p (p*102) (tq 2) D D)<|Af (LH Bv QR p 0 9 (Xz x) ag (tq 2) D D)<|U<|Bw VF fun V=>U<|Bk 0 0 9 D D D<|?_;refine K ?_;refine K ?_;refine AG Bv 1 D<|AZ AF 0 1 D D D<|Ix JY D D<|K ?_;refine AG Bv 1 D<|AZ AF 0 1 D D D<|Jd D<|AG Bv 3 D<|AZ AF 0 3 D D D<|AG Bv 5 D<|Af (DH Nl 0 5 1 [bv x.ls.l] D D)<|Af (BN CI 1 D D)<|Jd D<|B6 (q:=1) D D<|U<|Ba Vo D (fun w d=>(af x.l p x.lc (h - 1) x.ls (⟨r.b+1,r.k⟩) s t N w (d.Ad [2,3,4,5,6]) (Df.sat d) (d.tE Df (fun k B q=>hQ k B (hF▸q)) [2,3,4,5,6]) (y.left JY) JY JY (by show h - 1+(r.b+1)=257;omega) JY JY).mono fun e W q=>q.2 R) fun _ e W d ⟨aA,aB,aC,he,bs,bt,q⟩=>⟨_,_,he,d.As [2,3,4,5,6] [0,1] q,?_⟩
  refine K ?_;refine K ?_;refine AG Bv 2 D<|AZ AF 3 2 D D D<|Li D D (fun aT=>?_) fun aT=>?_
  ·
   refine K ?_;refine By D<|AG sV 5 D<|AZ PW 2 5 D D D<|K ?_;refine Ff fun W d=>?_;subst hF;have C:Fh (B0 z.w z.Z AJ AO fr) f p x.AW r s=none:=by unfold Fh;rw[g];rfl
   exact⟨fun L g=>(by rw[C]at g;cases g),fun _=>⟨aA,aB,aC,rfl,JY,JY,d.pick [0,1,2]⟩⟩
  refine K ?_;refine By D<|Jj D D D<|AG sV 5 D<|Jj D D D<|AZ PW 2 5 D D D<|Jj D D D<|Af (Te D)<|K ?_;refine By D<|AG sV 5 D<|AZ PW 2 5 D D D<|K ?_;refine Ff fun W d=>?_;subst hF;have C:Fh (B0 z.w z.Z AJ AO fr) f p x.AW r s=none:=by unfold Fh;rw[g];rfl
  exact⟨fun L g=>(by rw[C]at g;cases g),fun _=>⟨aA,aB,aC,rfl,JY,JY,d.pick [0,1,2]⟩⟩
 |some s1=>
  cases P:(if x.AW.r=0 then some s1 else G.through (B0 z.w z.Z AJ AO fr) f x.AW.r p x.AW.rc x.AW.rs (G.under r 1) s1)with
  |none=>
   have ab:¬x.r=0:=fun q=>by rw[if_pos (show x.AW.r=0 from q)]at P;cases P
   have ai:=P;rw[if_neg (show¬x.AW.r=0 from ab)]at ai;refine K ?_;refine By D<|AG sV 0 D<|AZ Zc 3 0 D D D<|By D<|AG sT 6 D<|AZ IA 1 6 D D D<|Jd D<|Af (Dj MF p (p*102) (tq 2) D D)<|Af (LH Bv QR p 0 9 (Xz x) ag (tq 2) D D)<|U<|Bw VF fun V=>U<|Bk 0 0 9 D D D<|?_;refine Jg<|Jf<|Gq (fun a W=>∃(DT:List (G.Ae×Nat)) (u:BX),AH 102 a (Jb (Jb (Jb (Jb (Jb Jk 0 (S j)) 1 (E p)) 3 (E r.b)) 6 (S aa)) 8 (S V))∧Sat F w [O V (Xz x) 138,O aa [bv r.k.l] 48,Ez z T AE,Gb z,s4 j z fr s1.A4 i u false,sZ i A,sZ u (N++DT)] W∧UQ z r x.l 0 DT∧DT.length≤(h - 1)*x.lc∧BM.L' z.AW s1.rows s1.Fz (N++DT)∧s1.A4≤2097152∧u.n≤549755813888) ?_ ?_
   ·
    refine Je<|?_
    by_cases H:x.l=0
    ·
     have X:s=s1:=by rw[if_pos (show x.AW.l=0 from H)]at g;exact Option.some.inj g
     refine FO 4 [[S z.Q],[E fr],[E s1.A4],[I i.p i.n i.c],[I t.p t.n t.c],[C' false]] D (by rw[X])<|Tf 6 (Aq I6 (N.map I9)) (Aq I6 ((N++[]).map I9)) (by rw[Ha])<|Jh<|AG Tryz.underlying138 1 D<|AZ Tryz.underlying3 0 1 D D D<|Ci JY D D<|K ?_;exact fun a W o d=>⟨[],t,AY o,d.pick [0,1,2,3,4,5,6],by rw[H];exact UQ.zero,F2 _,by rw[Ha,←X];exact y.vl,X▸y.A4,by have M:=I3 YR JZ (d.rw 6);simp only[MU,Gd,RH]at M;have:=ak;omega⟩
    ·
     have R:=g;rw[if_neg (show¬x.AW.l=0 from H),jT]at R;refine K ?_;refine AG Bv 1 D<|AZ AF 0 1 D D D<|Ix JY D D<|K ?_;refine AG Bv 1 D<|AZ AF 0 1 D D D<|Jd D<|AG Bv 3 D<|AZ AF 0 3 D D D<|AG Bv 5 D<|Af (DH Nl 0 5 1 [bv x.ls.l] D D)<|Af (BN CI 1 D D)<|Jd D<|B6 (q:=1) D D<|U<|Ba Vo D (fun w d=>(af x.l p x.lc (h - 1) x.ls (⟨r.b+1,r.k⟩) s t N w (d.Ad [2,3,4,5,6]) (Df.sat d) (d.tE Df (fun k B q=>hQ k B (hF▸q)) [2,3,4,5,6]) (y.left JY) JY JY (by show h - 1+(r.b+1)=257;omega) JY JY).mono fun e W q=>q.1 _ R) fun _ e W d ⟨aV,aW,he,aD,aE,aF,aX,q⟩=>⟨_,_,he,d.As [2,3,4,5,6] [0,1] q,?_⟩
     refine Jg<|Jf<|?_;exact fun a W o d=>⟨aW,aV,AY o,d.pick [5,6,0,1,2,3,4],UQ.some H (by first|exact aD|(rw[jT];exact aD)),aE,by first|exact aF|(rw[C9]at*;exact aF),aX,by have M:=I3 YR JZ (d.rw 4);simp only[MU,Gd]at M;have:=aE;omega⟩
   rintro a W ⟨DT,u,o,d,NY,aY,al,an,aZ⟩;revert a W;refine Je<|Je<|K ?_;refine AG Bv 2 D<|AZ AF 0 2 D D D<|Ix JY D D<|K ?_;refine By D<|Jj D D D<|AG sV 5 D<|Jj D D D<|AZ PW 4 5 D D D<|Jj D D D<|Af (Te D)<|K ?_;refine Af (BN CI 1 D D)<|Jd D<|U<|BP oi D (fun w d=>pI r w JY)<|U<|Bw [Ak 32] fun a0=>U<|Bk 0 0 1 D D D<|?_;refine K ?_;refine AG Bv 2 D<|AZ AF 1 2 D D D<|Jd D<|AG Bv 4 D<|AZ AF 1 4 D D D<|AG Bv 37 D<|Af (DH Nl 1 6 1 [bv x.rs.l] D D)<|Af (BN CI 0 D D)<|Jd D<|B6 (q:=1) D D<|U<|Ba Vo D (fun w d=>(af x.r p x.rc (h - 1) x.rs (G.under r 1) s1 u (N++DT) w (d.Ad [3,4,5,6,7]) (Df.sat d) (d.tE Df (fun k B q=>hQ k B (hF▸q)) [3,4,5,6,7]) (y.right JY NY al an) JY JY (by show h - 1+(r.b+1)=257;omega) JY (by rw[Gd];omega)).mono fun e W q=>q.2 ai) fun _ e W d ⟨a1,a2,a3,he,bu,bw,q⟩=>⟨_,_,he,d.As [3,4,5,6,7] [0,1,2] q,?_⟩
   refine K ?_;refine By D<|AG sV 5 D<|AZ PW 2 5 D D D<|K ?_;refine Ff fun W d=>?_;subst hF;have C:Fh (B0 z.w z.Z AJ AO fr) f p x.AW r s=none:=by unfold Fh;rw[g];simp only[s3];rw[P];rfl
   exact⟨fun L g=>(by rw[C]at g;cases g),fun _=>⟨a1,a2,a3,rfl,JY,JY,d.pick [0,1,2]⟩⟩
  |some s2=>
   refine K ?_;refine By D<|AG sV 0 D<|AZ Zc 3 0 D D D<|By D<|AG sT 6 D<|AZ IA 1 6 D D D<|Jd D<|Af (Dj MF p (p*102) (tq 2) D D)<|Af (LH Bv QR p 0 9 (Xz x) ag (tq 2) D D)<|U<|Bw VF fun V=>U<|Bk 0 0 9 D D D<|?_;refine Jg<|Jf<|Gq (fun a W=>∃(DT:List (G.Ae×Nat)) (u:BX),AH 102 a (Jb (Jb (Jb (Jb (Jb Jk 0 (S j)) 1 (E p)) 3 (E r.b)) 6 (S aa)) 8 (S V))∧Sat F w [O V (Xz x) 138,O aa [bv r.k.l] 48,Ez z T AE,Gb z,s4 j z fr s1.A4 i u false,sZ i A,sZ u (N++DT)] W∧UQ z r x.l 0 DT∧DT.length≤(h - 1)*x.lc∧BM.L' z.AW s1.rows s1.Fz (N++DT)∧s1.A4≤2097152∧u.n≤549755813888) ?_ ?_
   ·
    refine Je<|?_
    by_cases H:x.l=0
    ·
     have X:s=s1:=by rw[if_pos (show x.AW.l=0 from H)]at g;exact Option.some.inj g
     refine FO 4 [[S z.Q],[E fr],[E s1.A4],[I i.p i.n i.c],[I t.p t.n t.c],[C' false]] D (by rw[X])<|Tf 6 (Aq I6 (N.map I9)) (Aq I6 ((N++[]).map I9)) (by rw[Ha])<|Jh<|AG Tryz.underlying138 1 D<|AZ Tryz.underlying3 0 1 D D D<|Ci JY D D<|K ?_;exact fun a W o d=>⟨[],t,AY o,d.pick [0,1,2,3,4,5,6],by rw[H];exact UQ.zero,F2 _,by rw[Ha,←X];exact y.vl,X▸y.A4,by have M:=I3 YR JZ (d.rw 6);simp only[MU,Gd,RH]at M;have:=ak;omega⟩
    ·
     have R:=g;rw[if_neg (show¬x.AW.l=0 from H),jT]at R;refine K ?_;refine AG Bv 1 D<|AZ AF 0 1 D D D<|Ix JY D D<|K ?_;refine AG Bv 1 D<|AZ AF 0 1 D D D<|Jd D<|AG Bv 3 D<|AZ AF 0 3 D D D<|AG Bv 5 D<|Af (DH Nl 0 5 1 [bv x.ls.l] D D)<|Af (BN CI 1 D D)<|Jd D<|B6 (q:=1) D D<|U<|Ba Vo D (fun w d=>(af x.l p x.lc (h - 1) x.ls (⟨r.b+1,r.k⟩) s t N w (d.Ad [2,3,4,5,6]) (Df.sat d) (d.tE Df (fun k B q=>hQ k B (hF▸q)) [2,3,4,5,6]) (y.left JY) JY JY (by show h - 1+(r.b+1)=257;omega) JY JY).mono fun e W q=>q.1 _ R) fun _ e W d ⟨a4,a5,he,aG,aH,aI,a6,q⟩=>⟨_,_,he,d.As [2,3,4,5,6] [0,1] q,?_⟩
     refine Jg<|Jf<|?_;exact fun a W o d=>⟨a5,a4,AY o,d.pick [5,6,0,1,2,3,4],UQ.some H (by first|exact aG|(rw[jT];exact aG)),aH,by first|exact aI|(rw[C9]at*;exact aI),a6,by have M:=I3 YR JZ (d.rw 4);simp only[MU,Gd]at M;have:=aH;omega⟩
   rintro a W ⟨DT,u,o,d,NY,aY,al,an,aZ⟩;revert a W;refine Gq (fun a W=>∃(TL:List (G.Ae×Nat)) (v:BX),AH 102 a (Jb (Jb (Jb (Jb (Jb Jk 0 (S j)) 1 (E p)) 3 (E r.b)) 6 (S aa)) 8 (S V))∧Sat F w [O V (Xz x) 138,O aa [bv r.k.l] 48,Ez z T AE,Gb z,s4 j z fr s2.A4 i v false,sZ i A,sZ v (N++DT++TL)] W∧UQ z r x.r 1 TL∧TL.length≤(h - 1)*x.rc∧BM.L' z.AW s2.rows s2.Fz (N++DT++TL)∧s2.A4≤2097152∧v.n≤549755813888) ?_ ?_
   ·
    refine Je<|?_
    by_cases ab:x.r=0
    ·
     have aq:s1=s2:=by rw[if_pos (show x.AW.r=0 from ab)]at P;exact Option.some.inj P
     refine FO 4 [[S z.Q],[E fr],[E s2.A4],[I i.p i.n i.c],[I u.p u.n u.c],[C' false]] D (by rw[aq])<|Tf 6 (Aq I6 ((N++DT).map I9)) (Aq I6 ((N++DT++[]).map I9)) (by rw[Ha])<|Jh<|AG Tryz.underlying138 2 D<|AZ Tryz.underlying3 0 2 D D D<|Ci JY D D<|K ?_;exact fun a W o d=>⟨[],u,AY o,d.pick [0,1,2,3,4,5,6],by rw[ab];exact UQ.zero,F2 _,by rw[Ha,←aq];exact al,aq▸an,by have M:=I3 YR JZ (d.rw 6);simp only[MU,Gd,RH]at M;have:=ak;omega⟩
    ·
     have ai:=P;rw[if_neg (show¬x.AW.r=0 from ab)]at ai;refine K ?_;refine AG Bv 2 D<|AZ AF 0 2 D D D<|Ix JY D D<|K ?_;refine By D<|Jj D D D<|AG sV 5 D<|Jj D D D<|AZ PW 4 5 D D D<|Jj D D D<|Af (Te D)<|K ?_;refine Af (BN CI 1 D D)<|Jd D<|U<|BP oi D (fun w d=>pI r w JY)<|U<|Bw [Ak 32] fun a0=>U<|Bk 0 0 1 D D D<|?_;refine K ?_;refine AG Bv 2 D<|AZ AF 1 2 D D D<|Jd D<|AG Bv 4 D<|AZ AF 1 4 D D D<|AG Bv 37 D<|Af (DH Nl 1 6 1 [bv x.rs.l] D D)<|Af (BN CI 0 D D)<|Jd D<|B6 (q:=1) D D<|U<|Ba Vo D (fun w d=>(af x.r p x.rc (h - 1) x.rs (G.under r 1) s1 u (N++DT) w (d.Ad [3,4,5,6,7]) (Df.sat d) (d.tE Df (fun k B q=>hQ k B (hF▸q)) [3,4,5,6,7]) (y.right JY NY al an) JY JY (by show h - 1+(r.b+1)=257;omega) JY (by rw[Gd];omega)).mono fun e W q=>q.1 _ ai) fun _ e W d ⟨a7,a8,he,aJ,aK,aL,a9,q⟩=>⟨_,_,he,d.As [3,4,5,6,7] [0,1,2] q,?_⟩
     refine Jg<|Jf<|?_;exact fun a W o d=>⟨a8,a7,AY o,d.pick [6,7,0,1,2,3,4],UQ.some ab (by first|exact aJ|(rw[jT];exact aJ)),aK,by first|exact aL|(rw[C9]at*;exact aL),a9,by have M:=I3 YR JZ (d.rw 4);simp only[MU,Gd]at M;have:=aK;omega⟩
   rintro a W ⟨TL,v,o,d,G1,bx,a_,bz,bA⟩;revert a W;refine K ?_;refine By D<|AG sV 5 D<|AZ PW 4 5 D D D<|K ?_;refine Af (BN CI 1 D D)<|Jd D<|U<|Cx p6 D [2,3,4,5] (H1:=[Ez z T AE,Gb z,s4 j z fr s2.A4 i v false,sZ i A]) (fun w aj=>((rn j z T AE fr s2.A4 i v false A p k x r w aj Y.ok Y.len B ag ax aR Y.mc).mono fun e W q=>⟨q.1.trans (congrArg (fun b=>Ending.returned (.bool b)) (jx (fr:=fr) Y y.wf)),q.2⟩))<|K ?_;refine By D<|AG sV 2 D<|AZ AF 4 2 D D D<|Li D D (fun au=>?_) fun au=>?_
   ·
    refine K ?_;refine J9 D (fun ao=>?_) fun ao=>?_
    ·
     refine K ?_;refine U<|Ba kq D (fun w d=>lF j z T fr s2.A4 i v p 172 w (d.Ad [2,4])) fun _ e W d ⟨aM,he,a',q⟩=>⟨_,_,he,d.As [2,4] [0,1,3,5,6] q,?_⟩
     have bB:aM.n=1:=a';refine K ?_;refine Ff fun W d=>?_;subst hF;have C:Fh (B0 z.w z.Z AJ AO fr) f p x.AW r s=none:=by unfold Fh;rw[g];simp only[s3];rw[P];simp only[s3];exact if_neg (fun q=>by obtain⟨ba,av⟩:=q;first|omega|(rw[av]at ao;cases ao))
     exact⟨fun L g=>(by rw[C]at g;cases g),fun _=>⟨aM,s2.A4,v,rfl,JY,JY,d.pick [0,4,1]⟩⟩
    refine K ?_;refine By D<|AG sV 2 D<|AZ AF 4 2 D D D<|B6 (q:=1) D D<|By D<|AG sV 2 D<|U<|Cq 4 2 D D D<|?_;refine Jg<|Jf<|?_;refine Hj (fun a W=>∃(ad:Option Addr) (ae:Nat),AH 102 a Jk∧Sat F w [Ez z T AE,Gb z,s4 j z fr (s2.A4+1) i ⟨ad,v.n+1,ae⟩ false,sZ i A,Ae 217 66 (I ad (v.n+1) ae) (v.n+1) (Aq I6 ((N++DT++TL).map I9++([(⟨r.b,p,r.k,CU⟩:IU)])))] W) ?_ ?_
    ·
     refine CQ [0,1,2,3]<|Ab 0 D (AA D)<|Ab 1 D (AA D)<|Ab 2 D (Bp D)<|Ab 3 D (AS sV 4 D)<|Ab 5 D (AA D)<|Ab 6 D (AA D)<|Ab 7 D (BN CI 1 D D)<|Ab 8 D (ar YA [(0,1),(1,1),(2,32),(34,32)] [[E 0],[E 0],Ak 32,Ak 32] [[E r.b],[E p],bv r.k.l,Ak 32])<|Gy 4 9 D D ?_ ?_
     ·
      refine IK (Bb Sz 4 4 D D D)<|A8 [0,1,2,3]<|Bh 9 D<|Ey PN (Aq I6 [(⟨r.b,p,r.k,CU⟩:IU)]) D (tg D) Oz fun bC=>A8 [1,2,3,4]<|Bh 10 D<|DI (m:=1) PN 7 (Aq I6 ((N++DT++TL).map I9++([(⟨r.b,p,r.k,CU⟩:IU)]))) D D D (BZ 0) (HJ VQ _) (H0 YR D) D fun ad ae=>A8 [1,2,3,4]<|Ab 11 D (Bp D)<|Ab 12 D (AS sV 4 D)<|Bh 13 D<|Cq 5 4 D D D<|?_;refine A8 [1,2,3,4]<|Cm<|?_;exact fun a W o d=>⟨ad,ae,AY o,d.pick [3,4,5,6,7]⟩
     refine Ey PN (Aq I6 [(⟨r.b,p,r.k,CU⟩:IU)]) D (tg D) Oz fun bD=>A8 [1,2,3,4]<|Bh 4 D<|IK (Bb Sz 5 4 D D D)<|A8 [1,2,3,4]<|Bh 10 D<|DI (m:=1) PN 7 (Aq I6 ((N++DT++TL).map I9++([(⟨r.b,p,r.k,CU⟩:IU)]))) D D D (BZ 0) (HJ VQ _) (H0 YR D) D fun bb bc=>A8 [1,2,3,4]<|Ab 11 D (Bp D)<|Ab 12 D (AS sV 4 D)<|Bh 13 D<|Cq 5 4 D D D<|?_;refine A8 [1,2,3,4]<|Cm<|?_;exact fun a W o d=>⟨bb,bc,AY o,d.pick [3,4,5,6,7]⟩
    rintro a W ⟨ad,ae,o,d⟩;revert a W;refine Tf 4 (Aq I6 ((N++DT++TL).map I9++([(⟨r.b,p,r.k,CU⟩:IU)]))) (Aq I6 ((N++(DT++TL++[(r,p)])).map I9)) (congrArg (Aq I6) (l0 N DT TL (r,p)))<|Jt<|Ff fun W d=>?_;subst hF;have C:Fh (B0 z.w z.Z AJ AO fr) f p x.AW r s=some {G.note s2 r p x.AW with A4:=s2.A4+1}:=by unfold Fh;rw[g];simp only[s3];rw[P];simp only[s3];rw[if_pos ⟨JY,ao⟩]
    obtain⟨bd,bf⟩:=mX Y.ok y ay aS J NY G1 a_;refine⟨fun L aN=>?_,fun aO=>by rw[C]at aO;cases aO⟩;rw[C]at aN;cases aN;exact⟨⟨ad,v.n+1,ae⟩,DT++TL++[(r,p)],D,bd,by simp only[Gd,List.length_singleton];omega,bf,by show s2.A4+1≤2097152;omega,d.pick [0,1,2,3,4]⟩
   refine K ?_;refine U<|Ba kq D (fun w d=>lF j z T fr s2.A4 i v p 172 w (d.Ad [2,4])) fun _ e W d ⟨aP,he,bg,q⟩=>⟨_,_,he,d.As [2,4] [0,1,3,5,6] q,?_⟩
   have bE:aP.n=1:=bg;refine K ?_;refine Ff fun W d=>?_;subst hF;have C:Fh (B0 z.w z.Z AJ AO fr) f p x.AW r s=none:=by unfold Fh;rw[g];simp only[s3];rw[P];simp only[s3];exact if_neg (fun q=>by obtain⟨ba,av⟩:=q;first|omega|(rw[av]at au;cases au))
   exact⟨fun L g=>(by rw[C]at g;cases g),fun _=>⟨aP,s2.A4,v,rfl,JY,JY,d.pick [0,4,1]⟩⟩
theorem se{z:BF}{AJ:List (G.Ae×Nat)}{AO:List (Jc×Nat)}{fr Ar Bg c:Nat}{r:G.Ae}{x:Bf}(a:z.Z Ar=some x)(hw:BM.s8 r)(hl:G.E7 (B0 z.w z.Z AJ AO fr) Ar Bg c r=true):Ar<Bg∧BM.jL x.AW r∧(x.Bd=1∨r.b<256):=by
 rw[Ic a]at hl;have hl:=of_decide_eq_true hl;refine⟨hl.1,fun d i V=>?_,hl.2.elim (fun q=>.inl q.1) (fun q=>.inr q.2.2)⟩
 rcases hl.2 with q|q
 ·have:=q.2.2;rw[BM.jY,P5 hw.1]at this;exact this i V
 ·exact absurd d q.1
theorem r1{z:BF}{A N:List (G.Ae×Nat)}{AJ:List (G.Ae×Nat)}{AO:List (Jc×Nat)}{fr Ar Bg c h:Nat}{r:G.Ae}{s:G.B4}{x:Bf}(a:W6 z AJ AO A)(e:KG z N r s)(d:z.Z Ar=some x)(hl:G.E7 (B0 z.w z.Z AJ AO fr) Ar Bg c r=true)(Ad:G.G8 (B0 z.w z.Z AJ AO fr) Ar x.AW r=true)(f:h+r.b=257)(h1:1≤h):(tU A x Ar r).length≤h*c:=by
 have g:=se d e.wf hl;have i:=(cc (N:=N) (s:=s) (k:=0) a e f d g.2.1 ((lZ (fr:=fr) a e.wf d).trans Ad)).1;rw[i.length_eq,show 257 - r.b=h by omega];exact BM.mU h Ar r.b c r (Rs a.ok.nd a.vF d hl Ad f h1)
theorem sl(a:Nat)(z:BF)(T:BX)(fr:Nat)(g:BX)(A:List (G.Ae×Nat))(AJ:List (G.Ae×Nat))(AO:List (Jc×Nat))(p:W6 z AJ AO A)(f Ar Bg c h:Nat)(m:Jc)(r:G.Ae)(s:G.B4)(d:BX)(N:List (G.Ae×Nat))(w:World)(o:BE (bU z T a fr s.A4 g d A N) w)(x:Bg≤z.FN.length)(t:G.E7 (B0 z.w z.Z AJ AO fr) Ar Bg c r=false):Calls Tryz.prog 112 #[S a,E Ar,E Bg,E c,Value.agg (flat [bv m.l]),Value.agg (flat [bv r.k.l]),E r.b] w fun e W=>kQ z T a fr s.A4 g d A N (G.through (B0 z.w z.Z AJ AO fr) f Ar Bg c m r s) (BM.sub z.AW (257 - r.b) Ar r) (h*c) w e W:=by
 have j:=p.ok;have C:=j.vr;have I:=j.vB;have M:=j.n;have O:=j.w;refine Cb o Vo D 73 fun F hF=>Je<|Jh<|U<|Cv D fun P=>U<|Cv D fun Q=>K ?_;refine Af (BN CI 0 D D)<|Jd D<|U<|Cx YZ D [2,3,4] (H1:=[Ez z T AE,Gb z,s4 a z fr s.A4 g d false]) (fun w o=>((oL a z T AE fr s.A4 g d AJ AO Ar Bg c r w o p.ok x).mono fun e W q=>⟨q.1.trans (by rw[t]),q.2⟩))<|K ?_;refine Af (Te D)<|K ?_;refine U<|Ba kq D (fun w i=>lF a z T fr s.A4 g d Bg 170 w (i.Ad [2,4])) fun _ e W i ⟨u,he,y,q⟩=>⟨_,_,he,i.As [2,4] [0,1,3,5,6] q,?_⟩
 have R:u.n=1:=y;refine K ?_;refine Ff fun W i=>?_;subst hF;have B:G.through (B0 z.w z.Z AJ AO fr) f Ar Bg c m r s=none:=by exact Td t
 exact⟨fun L v=>(by rw[B]at v;cases v),fun _=>⟨u,s.A4,d,rfl,JY,JY,i.pick [0,4,1]⟩⟩
theorem n0(i:Nat)(z:BF)(T:BX)(fr:Nat)(g:BX)(A:List (G.Ae×Nat))(AJ:List (G.Ae×Nat))(AO:List (Jc×Nat))(m:W6 z AJ AO A)(f:Nat)(aq:∀(Ar Bg c h:Nat) (o:Jc) (r:G.Ae) (s:G.B4) (j:BX) (N:List (G.Ae×Nat)) (w:World) (B:BE (bU z T i fr s.A4 g j A N) w) (Df:Ld w) (hQ:∀k,Zs k→¬A6 (bU z T i fr s.A4 g j A N) k) (C:KG z N r s) (al:Bg≤z.FN.length) (aB:Bg≤f) (af:h+r.b=257) (h1:1≤h) (aC:N.length+h*c≤549755813888),Calls Tryz.prog 112 #[S i,E Ar,E Bg,E c,Value.agg (flat [bv o.l]),Value.agg (flat [bv r.k.l]),E r.b] w fun e W=>kQ z T i fr s.A4 g j A N (G.through (B0 z.w z.Z AJ AO fr) f Ar Bg c o r s) (BM.sub z.AW (257 - r.b) Ar r) (h*c) w e W)(Ar Bg c h k:Nat)(o:Jc)(x:Bf)(r:G.Ae)(s:G.B4)(j:BX)(N:List (G.Ae×Nat))(w:World)(B:BE (bU z T i fr s.A4 g j A N) w)(Df:Ld w)(hQ:∀k,Zs k→¬A6 (bU z T i fr s.A4 g j A N) k)(C:KG z N r s)(al:Bg≤z.FN.length)(aB:Bg≤f+1)(af:h+r.b=257)(h1:1≤h)(aC:N.length+h*c≤549755813888)(H:G.E7 (B0 z.w z.Z AJ AO fr) Ar Bg c r=true)(u:z.FN[Ar]? =some k)(Y:z.DS[Ar]? =some x)(ab:k=1∨k=2)(ag:Ar<z.FN.length):Calls Tryz.prog 112 #[S i,E Ar,E Bg,E c,Value.agg (flat [bv o.l]),Value.agg (flat [bv r.k.l]),E r.b] w fun e W=>kQ z T i fr s.A4 g j A N (G.through (B0 z.w z.Z AJ AO fr) (f+1) Ar Bg c o r s) (BM.sub z.AW (257 - r.b) Ar r) (h*c) w e W:=by
 have ah:=m.ok;have aS:=ah.vr;have aU:=ah.vB;have aW:=ah.n;have aX:=ah.w;have t:=BF.lk u Y ab;have an:=(ah.nd _ _ t).1;have ad:=se t C.wf H;have aY:=ad.2.2;have aZ:=Vk an t H h1;refine Cb B Vo D 73 fun F hF=>Je<|Jh<|U<|Cv D fun ar=>U<|Cv D fun au=>Jg<|Jf<|Je<|?_;cases M:HO (B0 z.w z.Z AJ AO fr) f Ar x.AW r s with
 |none=>
  refine K ?_;refine Af (BN CI 0 D D)<|Jd D<|U<|Cx YZ D [2,3,4] (H1:=[Ez z T AE,Gb z,s4 i z fr s.A4 g j false]) (fun w B=>((oL i z T AE fr s.A4 g j AJ AO Ar Bg c r w B m.ok al).mono fun e W q=>⟨q.1.trans (by rw[H]),q.2⟩))<|K ?_;refine Af (Te D)<|K ?_
  by_cases ai:Ar<fr
  ·
   have y:=M;unfold HO at y;rw[if_pos (show Ar<(B0 z.w z.Z AJ AO fr).fr from ai)]at y;have Ad:G.G8 (B0 z.w z.Z AJ AO fr) Ar x.AW r=false:=by cases e:G.G8 (B0 z.w z.Z AJ AO fr) Ar x.AW r with
    |false=>rfl
    |true=>rw[if_pos e]at y;cases y
   refine K ?_;refine By D<|AG sV 1 D<|AZ AF 4 1 D D D<|IS JY D D<|K ?_;refine Af (BN CI 0 D D)<|Jd D<|U<|Cx oe D [2,3,4,5] (H1:=[Ez z T AE,Gb z,s4 i z fr s.A4 g j false,sZ g A]) (fun w B=>((qF i z T AE fr s.A4 g j false A Ar k x r w B m.ok m.len u Y ab ag).mono fun e W q=>⟨q.1.trans (congrArg (fun b=>Ending.returned (.bool b)) ((lZ (fr:=fr) m C.wf t).trans Ad)),q.2⟩))<|K ?_;refine Af (Te D)<|K ?_;refine U<|Ba kq D (fun w d=>lF i z T fr s.A4 g j Bg 172 w (d.Ad [2,4])) fun _ e W d ⟨av,he,aD,q⟩=>⟨_,_,he,d.As [2,4] [0,1,3,5,6] q,?_⟩
   have a0:av.n=1:=aD;refine K ?_;refine Ff fun W d=>?_;subst hF;have P:G.through (B0 z.w z.Z AJ AO fr) (f+1) Ar Bg c o r s=none:=by rw[Kg t H,M];rfl
   exact⟨fun L R=>(by rw[P]at R;cases R),fun _=>⟨av,s.A4,j,rfl,JY,JY,d.pick [0,4,1]⟩⟩
  ·
   have aa:=M;unfold HO at aa;rw[if_neg (show¬Ar<(B0 z.w z.Z AJ AO fr).fr from ai)]at aa;refine K ?_;refine By D<|AG sV 1 D<|AZ AF 4 1 D D D<|ET JY D D<|K ?_;refine Af (BN CI 0 D D)<|Jd D<|U<|Ba YT D (fun w d=>(r7 i z T fr g A AJ AO m f aq Ar h k x r s j N w (d.Ad [2,3,4,5,6]) (Df.sat d) (d.tE Df (fun k u q=>hQ k u (hF▸q)) [2,3,4,5,6]) C u Y ab ag JY af h1 ad.2.2 ad.2.1 JY).mono fun e W q=>q.2 aa) fun _ e W d ⟨aE,aF,aG,he,a1,a2,q⟩=>⟨_,_,he,d.As [2,3,4,5,6] [0,1] q,?_⟩
   refine Jg<|Jf<|Je<|CQ [2,3,4]<|Ab 0 D (AA D)<|Ab 1 D (Bp D)<|Ab 2 D (AS sV 5 D)<|Ab 3 D (Bb PW 0 5 D D D)<|Ab 4 D (Te D)<|Ab 5 D (AA D)<|C3 6 D D D D D D D<|C3 7 D D D D D D D<|C3 8 D D D D D D D<|C3 9 D D D D D D D<|C3 10 D D D D D D D<|C3 11 D D D D D D D<|C3 12 D D D D D D D<|C3 13 D D D D D D D<|C3 14 D D D D D D D<|C3 15 D D D D D D D<|Ab 16 D (EK D D)<|Cm<|K ?_;refine Jt<|Ff fun W d=>?_;subst hF;have P:G.through (B0 z.w z.Z AJ AO fr) (f+1) Ar Bg c o r s=none:=by rw[Kg t H,M];rfl
   exact⟨fun L R=>(by rw[P]at R;cases R),fun _=>⟨aE,aF,aG,rfl,JY,JY,d.pick [0,1,2]⟩⟩
 |some J=>
  refine K ?_;refine Af (BN CI 0 D D)<|Jd D<|U<|Cx YZ D [2,3,4] (H1:=[Ez z T AE,Gb z,s4 i z fr s.A4 g j false]) (fun w B=>((oL i z T AE fr s.A4 g j AJ AO Ar Bg c r w B m.ok al).mono fun e W q=>⟨q.1.trans (by rw[H]),q.2⟩))<|K ?_;refine Af (Te D)<|Jg<|Jf<|JH D<|Jy<|Jf<|Gq (fun a W=>∃(X:List (G.Ae×Nat)) (ae:BX),AH 73 a (Jb (Jb (Jb (Jb (Jb (Jb Jk 0 (S i)) 1 (E Ar)) 2 (E Bg)) 6 (E r.b)) 11 (S ar)) 12 (S au))∧Sat F w [O au [bv r.k.l] 48,O ar [bv o.l] 136,Ez z T AE,Gb z,s4 i z fr J.A4 g ae false,sZ g A,sZ ae (N++X)] W∧X.Perm (BM.sub z.AW (257 - r.b) Ar r)∧X.length≤h*c∧BM.L' z.AW J.rows J.Fz (N++X)∧J.A4≤2097152) ?_ ?_
  ·
   refine Je<|?_
   by_cases ai:Ar<fr
   ·
    have y:=M;unfold HO at y;rw[if_pos (show Ar<(B0 z.w z.Z AJ AO fr).fr from ai)]at y;have Ad:G.G8 (B0 z.w z.Z AJ AO fr) Ar x.AW r=true:=by cases e:G.G8 (B0 z.w z.Z AJ AO fr) Ar x.AW r with
     |true=>rfl
     |false=>rw[e]at y;cases y
    rw[if_pos Ad]at y;have aw:G.Bn z.AW (257 - r.b) Ar r s=J:=Option.some.inj y;have ax:s.A4=J.A4:=by rw[←aw,NJ]
    have ao:=cc (N:=N) (s:=s) (k:=0) m C af t ad.2.1 ((lZ (fr:=fr) m C.wf t).trans Ad);rw[show h=257 - r.b by omega,aw]at ao;refine K ?_;refine By D<|AG sV 1 D<|AZ AF 4 1 D D D<|IS JY D D<|K ?_;refine Af (BN CI 0 D D)<|Jd D<|U<|Cx oe D [2,3,4,5] (H1:=[Ez z T AE,Gb z,s4 i z fr s.A4 g j false,sZ g A]) (fun w B=>((qF i z T AE fr s.A4 g j false A Ar k x r w B m.ok m.len u Y ab ag).mono fun e W q=>⟨q.1.trans (congrArg (fun b=>Ending.returned (.bool b)) ((lZ (fr:=fr) m C.wf t).trans Ad)),q.2⟩))<|K ?_;refine Af (Te D)<|K ?_;refine Af (BN CI 0 D D)<|Jd D<|U<|Ba Vq D (fun w d=>rq i z T AE fr s.A4 g j false A N Ar k x r w (d.Ad [2,3,4,5,6]) m.ok m.len u Y ab ag JY) fun _ e W d ⟨aj,he,q⟩=>⟨_,_,he,d.As [2,3,4,5,6] [0,1] q,?_⟩
    refine Jg<|FO 2 [[S z.Q],[E fr],[E J.A4],[I g.p g.n g.c],[I aj.p aj.n aj.c],[C' false]] D (by rw[ax])<|Jf<|?_;exact fun a W V d=>⟨tU A x Ar r,aj,AY V,d.pick [5,6,0,1,2,3,4],ao.1,r1 m C t H Ad af h1,ao.2,ax▸C.A4⟩
   ·
    have aa:=M;unfold HO at aa;rw[if_neg (show¬Ar<(B0 z.w z.Z AJ AO fr).fr from ai)]at aa;refine K ?_;refine By D<|AG sV 1 D<|AZ AF 4 1 D D D<|ET JY D D<|K ?_;refine Af (BN CI 0 D D)<|Jd D<|U<|Ba YT D (fun w d=>(r7 i z T fr g A AJ AO m f aq Ar h k x r s j N w (d.Ad [2,3,4,5,6]) (Df.sat d) (d.tE Df (fun k u q=>hQ k u (hF▸q)) [2,3,4,5,6]) C u Y ab ag JY af h1 ad.2.2 ad.2.1 JY).mono fun e W q=>q.1 _ aa) fun _ e W d ⟨aH,aI,he,aJ,aK,aL,aM,q⟩=>⟨_,_,he,d.As [2,3,4,5,6] [0,1] q,?_⟩
    refine Jg<|Jf<|?_;exact fun a W V d=>⟨aI,aH,AY V,d.pick [5,6,0,1,2,3,4],aJ,Eg aK (Vk an t H h1),aL,aM⟩
  rintro a W ⟨X,ae,V,d,aN,aO,aP,aQ⟩;revert a W;refine Je<|CQ [0,1,4,5,6]<|Ab 0 D (AA D)<|Ab 1 D (Bp D)<|Ab 2 D (AS sV 5 D)<|Ab 3 D (Bb PW 2 5 D D D)<|Ab 4 D (Te D)<|Ab 5 D (AA D)<|Dn 6 D D D D (AA D)<|Dn 7 D D D D (Bp D)<|Dn 8 D D D D (AS sV 0 D)<|Dn 9 D D D D (Bb Zc 2 0 D D D)<|Dn 10 D D D D (AA D)<|Dn 11 D D D D (AA D)<|Dn 12 D D D D (HS (p:=256) D D)<|Dn 14 D D D D (BN Nl 1 D D)<|K8 13 D D D D<|?_;refine Ba cS D (fun w d=>ks z T AE Ar (256 - r.b) x w (d.Ad [2,3]) m.ok (Df.sat d) (d.tE Df (fun k u q=>hQ k u (hF▸q)) [2,3]) Y JY an.v) fun _ e W d ⟨he,q⟩=>⟨_,_,he,d.As [2,3] [0,1,4,5,6] q,?_⟩
  refine A8 [2,3,4,5,6]<|?_
  by_cases ak:(G.Hw z.w x.AW (256 - r.b)).l=o.l
  ·
   refine Dn 15 D D D D (bm (fun _ _ V d=>Qj V (G.Hw z.w x.AW (256 - r.b)).h o.h D D _ D) (congrArg Bool.not (decide_eq_true ak)))<|Ab 16 D (D' D D)<|Cm<|K ?_;refine Jt<|Ff fun W d=>?_;subst hF;have P:G.through (B0 z.w z.Z AJ AO fr) (f+1) Ar Bg c o r s=some J:=by rw[Kg t H,M];simp only[s3];exact if_pos (Jc.ext ak)
   refine⟨fun L ay=>?_,fun az=>by rw[P]at az;cases az⟩;rw[P]at ay;cases ay;exact⟨ae,X,D,aN,aO,aP,aQ,d.pick [0,1,4,5,6]⟩
  refine Dn 15 D D D D (bm (fun _ _ V d=>Qj V (G.Hw z.w x.AW (256 - r.b)).h o.h D D _ D) (congrArg Bool.not (decide_eq_false ak)))<|Ab 16 D (D' D D)<|Cm<|K ?_;refine U<|Ba kq D (fun w d=>lF i z T fr J.A4 g ae Bg 171 w (d.Ad [0,4])) fun _ e W d ⟨aA,he,aR,q⟩=>⟨_,_,he,d.As [0,4] [1,2,3,5,6] q,?_⟩
  have a3:aA.n=1:=aR;refine Jg<|Jt<|Ff fun W d=>?_;subst hF;have P:G.through (B0 z.w z.Z AJ AO fr) (f+1) Ar Bg c o r s=none:=by rw[Kg t H,M];simp only[s3];exact if_neg (fun q=>ak (congrArg Jc.l q))
  exact⟨fun L R=>(by rw[P]at R;cases R),fun _=>⟨aA,J.A4,ae,rfl,JY,JY,d.pick [0,2,1]⟩⟩
theorem qx(d:Nat)(z:BF)(T:BX)(fr:Nat)(i:BX)(A:List (G.Ae×Nat))(AJ:List (G.Ae×Nat))(AO:List (Jc×Nat))(p:W6 z AJ AO A):∀(f:Nat),∀(Ar Bg c h:Nat) (g:Jc) (r:G.Ae) (s:G.B4) (a:BX) (N:List (G.Ae×Nat)) (w:World) (m:BE (bU z T d fr s.A4 i a A N) w) (Df:Ld w) (hQ:∀k,Zs k→¬A6 (bU z T d fr s.A4 i a A N) k) (q:KG z N r s) (n:Bg≤z.FN.length) (t:Bg≤f) (u:h+r.b=257) (h1:1≤h) (v:N.length+h*c≤549755813888),Calls Tryz.prog 112 #[S d,E Ar,E Bg,E c,Value.agg (flat [bv g.l]),Value.agg (flat [bv r.k.l]),E r.b] w fun e W=>kQ z T d fr s.A4 i a A N (G.through (B0 z.w z.Z AJ AO fr) f Ar Bg c g r s) (BM.sub z.AW (257 - r.b) Ar r) (h*c) w e W:=by
 intro f
 induction f with
 |zero=>
  intro Ar Bg c h g r s a N w m Df hQ q n t u h1 v;have j:G.E7 (B0 z.w z.Z AJ AO fr) Ar Bg c r=false:=by
   cases o:z.Z Ar with
   |none=>exact Qc o
   |some x=>rw[Ic o];exact decide_eq_false JY
  exact sl d z T fr i A AJ AO p 0 Ar Bg c h g r s a N w m n j
 |succ f B=>
  intro Ar Bg c h g r s a N w m Df hQ q n t u h1 v;cases j:G.E7 (B0 z.w z.Z AJ AO fr) Ar Bg c r with
  |false=>exact sl d z T fr i A AJ AO p (f+1) Ar Bg c h g r s a N w m n j
  |true=>
   cases o:z.Z Ar with
   |none=>rw[Qc o]at j;cases j
   |some x=>
    obtain⟨k,y,C,D⟩:=BF.ZR o;exact n0 d z T fr i A AJ AO p f B Ar Bg c h k g x r s a N w m Df hQ q n t u h1 v j y C D (EH.1 y).1
