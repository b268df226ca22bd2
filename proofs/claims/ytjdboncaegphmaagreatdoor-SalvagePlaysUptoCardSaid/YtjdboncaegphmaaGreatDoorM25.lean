/- Laws and walks on the road to SalvagePlays (part M25). No conditions beyond each law's own. -/
import Derived.Test.YtjdboncaegphmaaGreatDoorM24
set_option linter.unusedVariables false
namespace Go.Proofs.YtjdboncaegphmaaGreatDoor
open Go.RowKit
set_option maxRecDepth 100000
set_option maxHeartbeats 2000000
variable {Ar:Nat}
theorem bF{w:Nat}{k d:Jc}{h:Nat}(a:Ea k.l (255 - h)=0):AL.Gr w k d (h+1)=AL.ER w (AL.Gr w k d h) (AL.bare w h):=by rw[AL.Gr,if_pos a]
theorem iN{w:Nat}{k d:Jc}{h:Nat}(a:¬Ea k.l (255 - h)=0):AL.Gr w k d (h+1)=AL.ER w (AL.bare w h) (AL.Gr w k d h):=by rw[AL.Gr,if_neg a]
theorem K4{A B:Atom}{k:Nat}:A6 [A,B] k↔A.u1 k∨B.u1 k:=by
 constructor
 ·rintro⟨i,X,h,a⟩
  match i,h with
  |0,h=>cases h;exact .inl a
  |1,h=>cases h;exact .inr a
  |i+2,h=>simp at h
 ·rintro(h|h)
  ·exact⟨0,A,D,h⟩
  ·exact⟨1,B,D,h⟩
theorem gi{A:Atom}{k:Nat}:A6 [A] k↔A.u1 k:=⟨NA,fun h=>⟨0,A,D,h⟩⟩
theorem N4(Q:Nat)(z:Dl)(C a Au B:BX)(c:Nat)(w:World)(f:BE [Ay Q z C a Au B,A1 z.w B] w)(i:CG w)(j:∀k,CB k→¬A6 [Ay Q z C a Au B,A1 z.w B] k)(hw:z.w≤32:=by omega)(m:c≤256:=by omega):
 Calls Tryz.prog 171 #[S Q,E c] w fun e W=>e=.returned (.agg (flat [bv (AL.bare z.w c).l]))∧∃n,Sat (A6 [Ay Q z C a Au B,A1 z.w B]) w [Ay Q z C a Au n,A1 z.w n] W:=by
 rcases f.at_ 1 _ rfl with h|⟨b,h,J⟩
 ·subst h;have h1:BE [Ay Q z C a Au AE] w:=((Sat.begin f).pick [0]).hold;have sub:∀k,A6 [Ay Q z C a Au AE] k→A6 [Ay Q z C a Au AE,A1 z.w AE] k:=fun k q=>K4.2 (.inl (gi.1 q));refine(hc Q z C a Au c w h1 i (fun k g q=>j k g (sub k q)) hw m).mono ?_;rintro e W ⟨rfl,AK,q⟩;refine⟨D,⟨some ⟨AK,0,none⟩,257,257⟩,?_⟩;have d:=q.mono sub;exact d.set 1 D (C7.refl _ _) (A':=A1 z.w ⟨some ⟨AK,0,none⟩,257,257⟩) (.inr ⟨AK,D,d.Dq 1⟩) (fun k e=>by cases e;exact .inl D)
 ·subst h;have s1:=(Sat.begin f).set 1 D (C7.refl _ _) (A':=O b [Aq EJ (FP z.w 257)] 136) J (fun k e=>.inl (by cases e;rfl));have h1:=s1.hold;have sub:∀k,A6 [Ay Q z C a Au ⟨some ⟨b,0,none⟩,257,257⟩,O b [Aq EJ (FP z.w 257)] 136] k→A6 [Ay Q z C a Au ⟨some ⟨b,0,none⟩,257,257⟩,A1 z.w ⟨some ⟨b,0,none⟩,257,257⟩] k:=fun k q=>K4.2 ((K4.1 q).imp id (fun e=>by cases e;rfl));refine(dB Q b z C a Au c w h1 i (fun k g q=>j k g (sub k q)) hw m).mono ?_;rintro e W ⟨rfl,q⟩;refine⟨D,⟨some ⟨b,0,none⟩,257,257⟩,?_⟩;have d:=q.mono sub;exact d.set 1 D (C7.refl _ _) (A':=A1 z.w ⟨some ⟨b,0,none⟩,257,257⟩) (.inr ⟨b,D,d.Dq 1⟩) (fun k e=>by cases e;exact .inl D)
theorem br(Q:Nat)(z:Dl)(C c Au B:BX)(d Av:Nat)(Z:Nat→Option Bf)(x:Bf)(w:World)(t:BE [Ay Q z C c Au B,A1 z.w B,AN z.AU Av Z] w)(u:Z Ar=some x)(g:CG w)(y:∀k,CB k→¬A6 [Ay Q z C c Au B,A1 z.w B,AN z.AU Av Z] k)(hw:z.w≤32)(J:d≤256)(L:x.s.v.length≤4096):Calls Tryz.prog 194 #[S Q,Value.agg (flat (Xz x)),E d] w fun e W=>e=.returned (.agg (flat [bv (AL.Gr z.w x.k (AL.leaf z.w x.k x.s.v) d).l]))∧∃m,Sat (A6 [Ay Q z C c Au B,A1 z.w B,AN z.AU Av Z]) w [Ay Q z C c Au m,A1 z.w m,AN z.AU Av Z] W:=by
 have j:∀F,A6 [Ay Q z C c Au B,A1 z.w B,AN z.AU Av Z]=F→∀k,CB k→¬F k:=fun F hF k A q=>y k A (hF▸q);refine Cb t U2 D 45 fun F hF=>Je<|Jh<|U<|Cv D fun n=>U<|Bw [Ak 32] fun o=>K ?_;refine By D<|AG Kp 1 D<|AG Bs 1 D<|AZ AF 2 1 D D D<|K ?_;refine AG Bv 69 D<|Af (DH CI 1 7 1 [bv x.k.l] D D)<|AG Bv 101 D<|AZ B7 1 8 D D D<|U<|BP p5 D (fun w b=>hn z.w x.k _ _ _ x.s.v w (g.sat b (j F hF)) ((OC 4 u) w b) D JY JY)<|U<|Bw [Ak 32] fun r=>U<|Bk 0 0 1 D D D<|?_;refine K ?_;refine FO 0 [bv (AL.Gr z.w x.k (AL.leaf z.w x.k x.s.v) 0).l] D D<|DL (fun G a W=>∃(i:Nat) (Di:BX),G=d - i∧AH 45 a (Jb (Jb (Jb (Jb (Jb (Jb (Jb Jk 0 (S Q)) 4 (S n)) 6 (S o)) 7 (E z.w)) 8 (S r)) 22 (E d)) 23 (E i))∧Sat F w [O r [bv (AL.Gr z.w x.k (AL.leaf z.w x.k x.s.v) i).l] 136,O o [Ak 32] 136,O n (Xz x) 138,Ay Q z C c Au Di,A1 z.w Di,AN z.AU Av Z] W∧i≤d) (fun a W f b=>⟨0,B,D,AY f,b.pick [0,1,2,3,4,5],JY⟩) ?_;rintro _ a W ⟨i,Di,rfl,f,b,V⟩;revert a W;refine Je<|Jh<|Ej D D<|Jg<|Jf<|Je<|Cz D (fun H=>?_) fun H=>?_
 ·
  refine K ?_;refine U<|Ba kl D (fun w b=>N4 Q z C c Au Di i w (b.Ad [3,4]) (g.sat b (j F hF)) (b.Eb g (j F hF) [3,4])) fun _ e W b ⟨he,K9,q⟩=>⟨_,_,he,b.As [3,4] [0,1,2,5] q,?_⟩
  refine U<|Bw [Ak 32] fun M=>U<|Bk 0 0 1 D D D<|?_;refine K ?_;refine AG Bv 69 D<|Af (DH CI 5 7 1 [bv x.k.l] D D)<|Jd D<|Es (p:=255) D D<|U<|BP qd D (fun w b=>eY x.k (255 - i) w JY)<|E2 D D<|Jg<|Jf<|Cz D (fun I=>?_) fun I=>?_
  ·
   refine Jh<|Jd D<|Af (BN Nl 3 D D)<|Af (BN Nl 0 D D)<|U<|BP R2 D (fun w b=>Oh z.w (AL.Gr z.w x.k (AL.leaf z.w x.k x.s.v) i) (AL.bare z.w i) w (g.sat b (j F hF)))<|U<|Bk 3 0 1 D D D<|?_;refine Jg<|?_;refine FO 3 [bv (AL.Gr z.w x.k (AL.leaf z.w x.k x.s.v) (i+1)).l] D (by rw[bF (k:=x.k) (h:=i) JY];rfl)<|JA<|Jf<|Jh<|B6 (q:=1) D D<|K ?_;exact fun a W f b=>⟨_,JY,i+1,K9,D,AY f,b.pick [3,4,5,1,2,6],JY⟩
  refine Jh<|Jd D<|Af (BN Nl 0 D D)<|Af (BN Nl 3 D D)<|U<|BP R2 D (fun w b=>Oh z.w (AL.bare z.w i) (AL.Gr z.w x.k (AL.leaf z.w x.k x.s.v) i) w (g.sat b (j F hF)))<|U<|Bk 3 0 1 D D D<|?_;refine Jg<|?_;refine FO 3 [bv (AL.Gr z.w x.k (AL.leaf z.w x.k x.s.v) (i+1)).l] D (by rw[iN (k:=x.k) (h:=i) JY];rfl)<|JA<|Jf<|Jh<|B6 (q:=1) D D<|K ?_;exact fun a W f b=>⟨_,JY,i+1,K9,D,AY f,b.pick [3,4,5,1,2,6],JY⟩
 obtain rfl:i=d:=JY;refine K ?_;refine Af (BN Nl 0 D D)<|U<|Bk 1 0 1 D D D<|?_;refine Jg<|Jf<|Jq<|Fq Nl 1 D D fun W b=>?_;subst hF;exact⟨D,Di,b.pick [3,4,5]⟩
theorem hN(Q:Nat)(z:Dl)(C b Au B:BX)(c Av:Nat)(Z:Nat→Option Bf)(x:Bf)(w:World)(i:BE [Ay Q z C b Au B,A1 z.w B,AN z.AU Av Z] w)(j:Z Ar=some x)(f:CG w)(m:∀k,CB k→¬A6 [Ay Q z C b Au B,A1 z.w B,AN z.AU Av Z] k)(hw:z.w≤32)(n:c≤256)(o:x.s.v.length≤4096)(d:x.Bd=1):Calls Tryz.prog 182 #[S Q,Value.agg (flat (Xz x)),E c] w fun e W=>e=.returned (.agg (flat [bv (G.Hw z.w x.AW c).l]))∧∃g,Sat (A6 [Ay Q z C b Au B,A1 z.w B,AN z.AU Av Z]) w [Ay Q z C b Au g,A1 z.w g,AN z.AU Av Z] W:=by
 have h:∀F,A6 [Ay Q z C b Au B,A1 z.w B,AN z.AU Av Z]=F→∀k,CB k→¬F k:=fun F hF k d q=>m k d (hF▸q);refine Cb i Sl D 42 fun F hF=>Je<|Jh<|U<|Cv D fun p=>U<|Bw [Ak 32] fun r=>K ?_;refine AG Bv 0 D<|AZ AF 1 0 D D D<|EU JY D D<|K ?_;refine Af (BN Bv 1 D D)<|Jd D<|U<|Ba U2 D (fun w a=>br Q z C b Au B c Av Z x w (a.Ad [2,3,4]) j (f.sat a (h F hF)) (a.Eb f (h F hF) [2,3,4]) JY JY JY) fun _ e W a ⟨he,Di,q⟩=>⟨_,_,he,a.As [2,3,4] [0,1] q,?_⟩
 refine U<|Bk 3 0 1 D D D<|?_;refine K ?_;refine Fq Nl 3 D D fun W a=>?_;subst hF;exact⟨by show Ending.returned (Value.agg (flat [bv (AL.Gr z.w x.k (AL.leaf z.w x.k x.s.v) c).l]))=_;unfold G.Hw;rw[if_pos (show x.AW.Bd=1 from d)];rfl,_,a.pick [0,1,2]⟩
theorem de(Q:Nat)(z:Dl)(C h Au B:BX)(d Av:Nat)(Z:Nat→Option Bf)(x:Bf)(w:World)(v:BE [Ay Q z C h Au B,A1 z.w B,AN z.AU Av Z] w)(M:Z Ar=some x)(m:CG w)(y:∀k,CB k→¬A6 [Ay Q z C h Au B,A1 z.w B,AN z.AU Av Z] k)(hw:z.w≤32)(N:d≤256)(h1:1≤d)(s:¬x.Bd=1):Calls Tryz.prog 182 #[S Q,Value.agg (flat (Xz x)),E d] w fun e W=>e=.returned (.agg (flat [bv (G.Hw z.w x.AW d).l]))∧∃u,Sat (A6 [Ay Q z C h Au B,A1 z.w B,AN z.AU Av Z]) w [Ay Q z C h Au u,A1 z.w u,AN z.AU Av Z] W:=by
 have n:∀F,A6 [Ay Q z C h Au B,A1 z.w B,AN z.AU Av Z]=F→∀k,CB k→¬F k:=fun F hF k s q=>y k s (hF▸q);refine Cb v Sl D 42 fun F hF=>Je<|Jh<|U<|Cv D fun i=>U<|Bw [Ak 32] fun j=>K ?_;refine AG Bv 0 D<|AZ AF 1 0 D D D<|Gi JY D D<|K ?_;refine Hj (fun a W=>∃(f:Nat) (g:Nat),AH 42 a (Jb (Jb (Jb (Jb (Jb (Jb Jk 0 (S Q)) 2 (E d)) 4 (S i)) 6 (S j)) 7 (S f)) 8 (S g))∧Sat F w [O g [bv x.rs.l] 136,O f [bv x.ls.l] 136,O j [Ak 32] 136,O i (Xz x) 138,Ay Q z C h Au B,A1 z.w B,AN z.AU Av Z] W) ?_ ?_
 ·
  refine CQ [0,1,2,3,4]<|Ab 0 D (AS Bv 5 D)<|Ab 1 D (DH Nl 1 5 1 [bv x.ls.l] D D)<|Ab 2 D (AS Bv 37 D)<|Ab 3 D (DH Nl 1 6 1 [bv x.rs.l] D D)<|Gy 4 5 D D ?_ ?_
  ·
   refine Bw [Ak 32] fun f=>A8 [1,2,3,4,5]<|Bh 5 D<|Bw [Ak 32] fun g=>A8 [2,3,4,5,6]<|Bh 6 D<|Bk 1 0 1 D D D<|?_;refine A8 [2,3,4,5,6]<|Bh 7 D<|Bk 0 0 1 D D D<|?_;refine A8 [2,3,4,5,6]<|Cm<|?_;exact fun a W c b=>⟨f,g,AY c,b.pick [0,1,2,3,4,5,6]⟩
  refine Bw [Ak 32] fun g=>A8 [1,2,3,4,5]<|Bh 4 D<|Bw [Ak 32] fun f=>A8 [2,3,4,5,6]<|Bh 6 D<|Bk 0 0 1 D D D<|?_;refine A8 [2,3,4,5,6]<|Bh 7 D<|Bk 1 0 1 D D D<|?_;refine A8 [2,3,4,5,6]<|Cm<|?_;exact fun a W c b=>⟨f,g,AY c,b.pick [1,0,2,3,4,5,6]⟩
 rintro a W ⟨f,g,c,b⟩;revert a W;refine Jf<|Gq (fun a W=>∃(dl:Jc) (o:BX),AH 42 a (Jb (Jb (Jb (Jb (Jb (Jb Jk 0 (S Q)) 2 (E d)) 4 (S i)) 6 (S j)) 7 (S f)) 8 (S g))∧Sat F w [O g [bv x.rs.l] 136,O f [bv dl.l] 136,O j [Ak 32] 136,O i (Xz x) 138,Ay Q z C h Au o,A1 z.w o,AN z.AU Av Z] W∧(dl=if x.l=0 then AL.bare z.w (d - 1)else x.ls)) ?_ ?_
 ·
  refine Je<|Jh<|AG Bv 1 D<|AZ AF 3 1 D D D<|E2 D D<|Jg<|Jf<|Cz D (fun A=>?_) fun A=>?_
  ·
   refine K ?_;refine Es (q:=1) D D<|U<|Ba kl D (fun w b=>N4 Q z C h Au B (d - 1) w (b.Ad [4,5]) (m.sat b (n F hF)) (b.Eb m (n F hF) [4,5])) fun _ e W b ⟨he,K9,q⟩=>⟨_,_,he,b.As [4,5] [0,1,2,3,6] q,?_⟩
   refine U<|Bk 3 0 1 D D D<|?_;refine Jg<|Jf<|?_;exact fun a W c b=>⟨AL.bare z.w (d - 1),K9,AY c,b.pick [2,3,4,5,0,1,6],by first|rw[if_pos JY]|rw[if_neg JY]⟩
  refine Jy<|Jf<|?_;exact fun a W c b=>⟨x.ls,B,AY c,b.pick [0,1,2,3,4,5,6],by first|rw[if_pos JY]|rw[if_neg JY]⟩
 rintro a W ⟨dl,o,c,b,H⟩;revert a W;refine Gq (fun a W=>∃(p:Jc) (t:BX),AH 42 a (Jb (Jb (Jb (Jb (Jb (Jb Jk 0 (S Q)) 2 (E d)) 4 (S i)) 6 (S j)) 7 (S f)) 8 (S g))∧Sat F w [O g [bv p.l] 136,O f [bv dl.l] 136,O j [Ak 32] 136,O i (Xz x) 138,Ay Q z C h Au t,A1 z.w t,AN z.AU Av Z] W∧(p=if x.r=0 then AL.bare z.w (d - 1)else x.rs)) ?_ ?_
 ·
  refine Je<|Jh<|AG Bv 2 D<|AZ AF 3 2 D D D<|E2 D D<|Jg<|Jf<|Cz D (fun I=>?_) fun I=>?_
  ·
   refine K ?_;refine Es (q:=1) D D<|U<|Ba kl D (fun w b=>N4 Q z C h Au o (d - 1) w (b.Ad [4,5]) (m.sat b (n F hF)) (b.Eb m (n F hF) [4,5])) fun _ e W b ⟨he,J,q⟩=>⟨_,_,he,b.As [4,5] [0,1,2,3,6] q,?_⟩
   refine U<|Bk 2 0 1 D D D<|?_;refine Jg<|Jf<|?_;exact fun a W c b=>⟨AL.bare z.w (d - 1),J,AY c,b.pick [2,3,4,5,0,1,6],by first|rw[if_pos JY]|rw[if_neg JY]⟩
  refine Jy<|Jf<|?_;exact fun a W c b=>⟨x.rs,o,AY c,b.pick [0,1,2,3,4,5,6],by first|rw[if_pos JY]|rw[if_neg JY]⟩
 rintro a W ⟨p,t,c,b,L⟩;revert a W;refine Je<|DD 7<|zs (AA D)<|zs (Bp D)<|zs (AS Kp 1 D)<|zs (AS Bs 1 D)<|zs (Bb AF 4 1 D D D)<|zs (BN Nl 1 D D)<|zs (BN Nl 0 D D)<|CS<|U<|BP R2 D (fun w b=>Oh z.w dl p w (m.sat b (n F hF)))<|U<|Bk 2 0 1 D D D<|?_;refine Jg<|Jf<|Jq<|Fq Nl 2 D D fun W b=>?_;subst hF;exact⟨by unfold G.Hw;rw[if_neg (show¬x.AW.Bd=1 from s)];rw[H,L];rfl,_,b.pick [4,5,6]⟩
theorem U6(Q:Nat)(z:Dl)(C a Au B:BX)(b Av:Nat)(Z:Nat→Option Bf)(x:Bf)(w:World)(c:BE [Ay Q z C a Au B,A1 z.w B,AN z.AU Av Z] w)(d:Z Ar=some x)(f:CG w)(g:∀k,CB k→¬A6 [Ay Q z C a Au B,A1 z.w B,AN z.AU Av Z] k)(hw:z.w≤32)(i:b≤256)(m:x.s.v.length≤4096)(n:x.Bd=1∨1≤b):Calls Tryz.prog 182 #[S Q,Value.agg (flat (Xz x)),E b] w fun e W=>e=.returned (.agg (flat [bv (G.Hw z.w x.AW b).l]))∧∃j,Sat (A6 [Ay Q z C a Au B,A1 z.w B,AN z.AU Av Z]) w [Ay Q z C a Au j,A1 z.w j,AN z.AU Av Z] W:=by
 by_cases h:x.Bd=1
 ·exact hN Q z C a Au B b Av Z x w c d f g hw i m h
 ·exact de Q z C a Au B b Av Z x w c d f g hw i JY h
theorem ep{P:Program}{a:Act}{w:World}{N:Nat}{f:BW}{dst:Option Tmp}{ty:TypeId}{pos:String}{An:Array Edge}{g:Option (Nat×Bool)}(b:AH N a f){t u:TypeId}{x y:Operand}{k':IntKind}{p n:Nat}(c:Aj f x=some (.int .u8 p))(d:Aj f y=some (.int k' n))(e:n≤8):CD P a w ⟨dst,.binOp .shl t x y u,ty,pos,An,g⟩ (.int .u8 (((UInt8.ofNat (p*2^n)).toNat:Nat):Int)) w:=Kc b c d e (H5 _)
theorem cL{x n:Nat}(a:x≤1):UInt8.ofNat ((UInt8.ofNat x).toNat*2^n)=UInt8.ofNat (x*2^n):=by
 match x,a with
 |0,_=>rfl
 |1,_=>rfl
def B0(W:Nat)(Z:Nat→Option Bf)(AJ:List (G.Ae×Nat))(AO:List (Jc×Nat))(fr:Nat):G.Env:=⟨W,fun p=>(Z p).map Bf.AW,AJ,AO,fr⟩
theorem Qc{W:Nat}{Z:Nat→Option Bf}{AJ:List (G.Ae×Nat)}{AO:List (Jc×Nat)}{fr Bg c:Nat}{r:G.Ae}(a:Z Ar=none):G.E7 (B0 W Z AJ AO fr) Ar Bg c r=false:=by
 unfold G.E7 B0;simp only[a,Option.map_none]
theorem Ic{W:Nat}{Z:Nat→Option Bf}{AJ:List (G.Ae×Nat)}{AO:List (Jc×Nat)}{fr Bg c:Nat}{r:G.Ae}{x:Bf}(a:Z Ar=some x):G.E7 (B0 W Z AJ AO fr) Ar Bg c r=decide (Ar<Bg∧(x.Bd=1∧c=1∧r.b≤AL.J5 x.k.l r.k.l∨¬x.Bd=1∧c=x.lc+x.rc∧r.b<256)):=by
 unfold G.E7 B0;simp only[a,Ph,show x.AW.Bd=x.Bd from D,show x.AW.k=x.k from D,show x.AW.lc=x.lc from D,show x.AW.rc=x.rc from D]
 by_cases h:x.Bd=1<;>simp[h]
theorem M4(r:G.Ae)(x:Nat)(w:World)(J:r.b<256:=by omega)(c:x≤1:=by omega):Calls lp 192 #[rS [[E r.b],bv r.k.l],E x] w (sM w (rS [[E (G.under r x).b],bv (G.under r x).k.l])):=by
 refine Cg w T5 D 26<|Je<|Jh<|U<|Cv D fun g=>U<|Bw [[E 0],Ak 32] fun h=>Jg<|Jf<|Je<|DD 16<|zs (AS LS 0 D)<|zs (Bb AF 1 0 D D D)<|zs (Iy (q:=8) D D)<|zs (AS LS 1 D)<|zs (D9 CI 1 (r.b/8) (1+r.b/8) D D)<|zs (K3 BV 1 1 (r.b/8) D D D)<|zs (AA D)<|zs (Iv AF BV D)<|zs (AS LS 0 D)<|zs (Bb AF 1 0 D D D)<|zs (GG (q:=8) D D)<|zs (HS (p:=7) D D)<|zs (fun _ _ d a=>ep d D D JY)<|zs (ah D D)<|zs (AS LS 1 D)<|zs (D9 CI 1 (r.b/8) (1+r.b/8) D D)<|CS<|U<|eQ 1 1 (r.b/8) ((r.k.l.getD (r.b/8) 0)|||(UInt8.ofNat ((UInt8.ofNat x).toNat*2^(7 - r.b % 8)))) D D D fun e f=>K ?_;refine AG LS 0 D<|AZ AF 1 0 D D D<|B6 (q:=1) D D<|AG LS 0 D<|U<|Cq 1 0 D D D<|?_;refine K ?_;refine Af (BN LS 1 D D)<|U<|Bk 0 0 2 D D D<|?_;refine Jg<|Jf<|Jq<|Fq LS 0 D D fun W a=>?_;exact⟨by rw[show e=(G.under r x).k from Jc.ext (by rw[f];unfold G.under;rw[cL c])];rfl,a.A0⟩
theorem gp(Q Ac d f:Nat)(z:Dl)(C g Au B:BX)(Av:Nat)(Z:Nat→Option Bf)(AJ:List (G.Ae×Nat))(AO:List (Jc×Nat))(fr A4 Ar Bg c:Nat)(j:Jc)(r:G.Ae)(w:World)(m:BE [Ay Q z C g Au B,AN z.AU Av Z,O Ac [[S Q],[S d],[S f],[E fr],[E A4]] 267] w)(n:Ar≤1048576)(i:Z Ar=none):Calls lp 179 #[S Ac,rS [[E Ar],[E Bg],[E c],bv j.l],rS [[E r.b],bv r.k.l]] w fun e W=>e=.returned (.bool (G.E7 (B0 z.w Z AJ AO fr) Ar Bg c r))∧Sat (A6 [Ay Q z C g Au B,AN z.AU Av Z,O Ac [[S Q],[S d],[S f],[E fr],[E A4]] 267]) w [Ay Q z C g Au B,AN z.AU Av Z,O Ac [[S Q],[S d],[S f],[E fr],[E A4]] 267] W:=by
 refine Cb m VI D 60 fun F hF=>Je<|Jh<|U<|Cv D fun o=>U<|Cv D fun p=>K ?_;refine CQ [0,1,2,3,4]<|Ab 0 D (AA D)<|Ab 1 D (Bp D)<|Ab 2 D (AS KW 0 D)<|Ab 3 D (Bb Ig 4 0 D D D)<|Ab 4 D (Bp D)<|Ab 5 D (AS Kp 6 D)<|Ab 6 D (Bb tr 2 6 D D D)<|Ab 7 D (AS ZY 0 D)<|Ab 8 D (Bb AF 1 0 D D D)<|Ab 9 D (NM tr (fun w h=>h.KP 3) Fg Fe (a:=Ar) (Fb JY) D D J_ (by rw[i]))<|Ab 10 D (AA D)<|Ab 11 D (El D D)<|Ab 12 D (El D D)<|Bh 13 D<|Bw VF fun q=>A8 [1,2,3,4,5]<|Bh 14 D<|Bk 0 0 9 D D D<|?_;refine A8 [1,2,3,4,5]<|Ab 15 D (Ck D)<|Cm<|K ?_;refine Af (Te D)<|A7 ?_;intro W h;subst hF;exact⟨CT (Qc i).symm,h.pick [3,4,5]⟩
theorem gP(Q Ac g h:Nat)(z:Dl)(C i Au B:BX)(Av:Nat)(Z:Nat→Option Bf)(AJ:List (G.Ae×Nat))(AO:List (Jc×Nat))(fr A4 Ar Bg c:Nat)(n:Jc)(r:G.Ae)(x:Bf)(w:World)(o:BE [Ay Q z C i Au B,AN z.AU Av Z,O Ac [[S Q],[S g],[S h],[E fr],[E A4]] 267] w)(u:Ar≤1048576)(f:Z Ar=some x)(v:x.lc≤4294967296)(y:x.rc≤4294967296):Calls lp 179 #[S Ac,rS [[E Ar],[E Bg],[E c],bv n.l],rS [[E r.b],bv r.k.l]] w fun e W=>e=.returned (.bool (G.E7 (B0 z.w Z AJ AO fr) Ar Bg c r))∧Sat (A6 [Ay Q z C i Au B,AN z.AU Av Z,O Ac [[S Q],[S g],[S h],[E fr],[E A4]] 267]) w [Ay Q z C i Au B,AN z.AU Av Z,O Ac [[S Q],[S g],[S h],[E fr],[E A4]] 267] W:=by
 refine Cb o VI D 60 fun F hF=>Je<|Jh<|U<|Cv D fun A=>U<|Cv D fun H=>K ?_;refine CQ [0,1,2,3,4]<|Ab 0 D (AA D)<|Ab 1 D (Bp D)<|Ab 2 D (AS KW 0 D)<|Ab 3 D (Bb Ig 4 0 D D D)<|Ab 4 D (Bp D)<|Ab 5 D (AS Kp 6 D)<|Ab 6 D (Bb tr 2 6 D D D)<|Ab 7 D (AS ZY 0 D)<|Ab 8 D (Bb AF 1 0 D D D)<|Ab 9 D (NM tr (fun w d=>d.KP 3) Fg Fe (a:=Ar) (Fb JY) D D J_ (by rw[f]))<|Ab 10 D (AA D)<|Ab 11 D (El D D)<|Ab 12 D (El D D)<|Bh 13 D<|Bw VF fun I=>A8 [1,2,3,4,5]<|Bh 14 D<|Bk 0 0 9 D D D<|?_;refine A8 [1,2,3,4,5]<|Ab 15 D (Ck D)<|Cm<|K ?_;refine Af (Te D)<|K ?_;refine AG ZY 0 D<|Jj D D D<|AZ AF 2 0 D D D<|Jj D D D<|AG ZY 1 D<|Jj D D D<|AZ AF 2 1 D D D<|Jj D D D<|Pm D D (fun p=>?_) fun p=>?_
 ·
  refine A7 ?_;intro W d;subst hF;exact⟨CT (by rw[Ic f];exact(decide_eq_false JY).symm),d.pick [3,4,5]⟩
 refine K ?_;refine AG Bv 0 D<|AZ AF 0 0 D D D<|E2 D D<|Jg<|Jf<|Cz D (fun q=>?_) fun q=>?_
 ·
  refine Je<|G9<|AR (AS ZY 2 D)<|AR (Bb AF 2 2 D D D)<|?_
  by_cases j:((c:Nat):Int)=((1:Nat):Int)
  ·
   refine AR (OY j D D)<|AR (AA D)<|B2 D D D<|AR (AS Bv 69 D)<|B2 D D D<|AR (DH CI 0 7 1 [bv x.k.l] D D)<|B2 D D D<|AR (AS LS 1 D)<|B2 D D D<|AR (DH CI 1 1 1 [bv r.k.l] D D)<|B2 D D D<|MB Uy D (fun w d=>cT x.k r.k w)<|B2 D D D<|AR (AS LS 0 D)<|B2 D D D<|AR (Bb AF 1 0 D D D)<|B2 D D D<|?_
   by_cases m:((r.b:Nat):Int)≤((AL.J5 x.k.l r.k.l:Nat):Int)
   ·
    refine AR (Xo m D D)<|AR (D' D D)<|AR (Ck D)<|Er<|A7 ?_;intro W d;subst hF;exact⟨CT (by rw[Ic f];exact(decide_eq_true JY).symm),d.pick [3,4,5]⟩
   refine AR (Wp m D D)<|AR (D' D D)<|AR (Ck D)<|Er<|A7 ?_;intro W d;subst hF;exact⟨CT (by rw[Ic f];exact(decide_eq_false JY).symm),d.pick [3,4,5]⟩
  refine AR (M6 j D D)<|AR (AA D)<|Bq D D D D<|Bq D D D D<|Bq D D D D<|Bq D D D D<|Bq D D D D<|Bq D D D D<|Bq D D D D<|Bq D D D D<|AR (EK D D)<|AR (Ck D)<|Er<|A7 ?_;intro W d;subst hF;exact⟨CT (by rw[Ic f];exact(decide_eq_false JY).symm),d.pick [3,4,5]⟩
 refine K ?_;refine AG ZY 2 D<|AZ AF 2 2 D D D<|AG Bv 3 D<|AZ AF 0 3 D D D<|AG Bv 4 D<|AZ AF 0 4 D D D<|B6 D D<|Gx D D (fun s=>?_) fun s=>?_
 ·
  refine K ?_;refine AG LS 0 D<|Jj D D D<|AZ AF 1 0 D D D<|Jj D D D<|GV D D (fun t=>?_) fun t=>?_
  ·
   refine A7 ?_;intro W d;subst hF;exact⟨CT (by rw[Ic f];exact(decide_eq_true JY).symm),d.pick [3,4,5]⟩
  refine A7 ?_;intro W d;subst hF;exact⟨CT (by rw[Ic f];exact(decide_eq_false JY).symm),d.pick [3,4,5]⟩
 refine A7 ?_;intro W d;subst hF;exact⟨CT (by rw[Ic f];exact(decide_eq_false JY).symm),d.pick [3,4,5]⟩
theorem I_{N:Nat}{f:BW}{F:Nat→Prop}{w0:World}{H:List Atom}{A5:Act→World→Prop}(i:Nat){A:Atom}(A':Atom)(V:H[i]? =some A)(e:A=A')(h:AT N f F w0 (H.set i A') A5):AT N f F w0 H A5:=by
 subst e;have:H.set i A=H:=by
  obtain⟨l,q⟩:=EH.1 V;rw[←q,nM]
 rw[this]at h;exact h
theorem MT{Bo:Type}[DecidableEq Bo](m:List (Bo×Nat))(a:Bo)(x:Nat):CF (G.get m) a x=G.get (G.put m a x):=by
 funext b
 rw[G.OZ];unfold CF
 by_cases h:b=a
 ·rw[if_pos h,if_pos h.symm]
 ·rw[if_neg h,if_neg (fun q=>h q.symm)]
def EX(Z:Nat→Option Bf):Nat→Nat→Nat→Nat→Prop
 |0,_,_,_=>False
 |f+1,p,b,c=>∃x,Z p=some x∧1≤c∧p≤1048576∧(x.Bd=1∧c=1∨¬x.Bd=1∧b<256∧c=x.lc+x.rc∧(¬x.l=0→EX Z f x.l (b+1) x.lc)∧(¬x.r=0→EX Z f x.r (b+1) x.rc))
theorem XD{nd:Nat→Option G.Dh}{f p:Nat}{r:G.Ae}{s:G.B4}{n:G.Dh}(h:nd p=some n)(a:n.Bd=1):G.Bn nd (f+1) p r s=G.note s r p n:=by
 rw[G.Bn];simp only[h,QW,if_pos a]
theorem SP{nd:Nat→Option G.Dh}{f p:Nat}{r:G.Ae}{s:G.B4}{n:G.Dh}(h:nd p=some n)(a:¬n.Bd=1):G.Bn nd (f+1) p r s=if n.r=0 then(if n.l=0 then G.note s r p n else G.Bn nd f n.l (G.under r 0) (G.note s r p n))else G.Bn nd f n.r (G.under r 1) (if n.l=0 then G.note s r p n else G.Bn nd f n.l (G.under r 0) (G.note s r p n)):=by
 rw[G.Bn];simp only[h,QW,if_neg a]
theorem cX(Q Ac n d g h:Nat)(z:Dl)(C o Au B:BX)(Av:Nat)(Z:Nat→Option Bf)(fr A4:Nat)(f:Nat)(p c i j:Nat)(r:G.Ae)(s:G.B4)(x:Bf)(w:World)(A:BE (Ay Q z C o Au B::AN z.AU Av Z::O Ac [[S Q],[S n],[S d],[E fr],[E A4]] 267::O d (TQ g h) 265::I1 g i s h j) w)(I:r.b≤256)(q:Z p=some x)(t:x.Bd=1)(J:p≤1048576)(H:c=1)(L:i≤1099511627776)(M:j≤1099511627776):Calls Tryz.prog 180 #[S Ac,E p,Value.agg (flat [[E r.b],bv r.k.l])] w fun e W=>∃v y,e=.returned (.tuple #[])∧v≤i+(f+1)*c∧y≤j+(f+1)*c∧Sat (A6 (Ay Q z C o Au B::AN z.AU Av Z::O Ac [[S Q],[S n],[S d],[E fr],[E A4]] 267::O d (TQ g h) 265::I1 g i s h j)) w [Ay Q z C o Au B,AN z.AU Av Z,O Ac [[S Q],[S n],[S d],[E fr],[E A4]] 267,O d (TQ g h) 265,Ap Tryz.prog 273 AM Am g v (G.get (G.Bn (fun p=>(Z p).map Bf.AW) (f+1) p r s).rows),Ap Tryz.prog 48 AP Am h y (G.get (G.Bn (fun p=>(Z p).map Bf.AW) (f+1) p r s).Fz)] W:=by
 subst H;rw[Q6];refine Cb A Vl D 56 fun F hF=>Je<|Jh<|U<|Cv D fun N=>K ?_;refine By D<|AG KW 0 D<|AZ Ig 3 0 D D D<|By D<|AG Kp 6 D<|AZ tr 1 6 D D D<|Jd D<|Af (GN tr (fun w m=>m.KP 2) Fg Fe (a:=p) (Fb JY) D D J_ (by rw[q]))<|U<|Bw VF fun P=>U<|Bk 0 0 9 D D D<|?_;refine Jg<|Jf<|Je<|DD 9<|zs (AA D)<|zs (Bp D)<|zs (AS KW 2 D)<|zs (Bb ax 4 2 D D D)<|zs (Bp D)<|zs (AS e9 0 D)<|zs (Bb YW 5 0 D D D)<|zs (BN LS 1 D D)<|zs (AA D)<|CS<|U<|KS 6 YW D Lb Le (a:=r) (Lg JY) (u:=p) D D D<|K ?_;refine AG Bv 0 D<|AZ AF 0 0 D D D<|EU JY D D<|K ?_;refine DD 10<|zs (AA D)<|zs (Bp D)<|zs (AS KW 2 D)<|zs (Bb ax 4 2 D D D)<|zs (Bp D)<|zs (AS e9 1 D)<|zs (Bb O8 5 1 D D D)<|zs (AS Bv 69 D)<|zs (DH CI 0 7 1 [bv x.k.l] D D)<|zs (AA D)<|CS<|U<|KS 7 O8 D FR O5 (a:=x.k) OB (u:=p) D D D<|K ?_;refine Ff fun W m=>?_;subst hF;rw[MT,MT]at m;rw[XD (show(fun p=>(Z p).map Bf.AW) p=some x.AW from by simp only[q];rfl) (show x.AW.Bd=1 from t)];exact⟨i+1,j+1,D,JY,JY,by unfold G.note;rw[if_pos (show x.AW.Bd=1 from t)];exact m.pick [2,3,4,5,6,7]⟩
theorem Z0(Q Ac o i g h:Nat)(z:Dl)(C t Au B:BX)(Av:Nat)(Z:Nat→Option Bf)(fr A4:Nat)(f:Nat)(M:∀(p c j m:Nat) (r:G.Ae) (s:G.B4) (w:World) (N:BE (Ay Q z C t Au B::AN z.AU Av Z::O Ac [[S Q],[S o],[S i],[E fr],[E A4]] 267::O i (TQ g h) 265::I1 g j s h m) w) (ad:f+r.b=257) (aj:EX Z f p r.b c) (P:j+f*c≤1099511627776) (R:m+f*c≤1099511627776),Calls Tryz.prog 180 #[S Ac,E p,AM r] w fun e W=>∃y A,e=.returned (.tuple #[])∧y≤j+f*c∧A≤m+f*c∧Sat (A6 (Ay Q z C t Au B::AN z.AU Av Z::O Ac [[S Q],[S o],[S i],[E fr],[E A4]] 267::O i (TQ g h) 265::I1 g j s h m)) w [Ay Q z C t Au B,AN z.AU Av Z,O Ac [[S Q],[S o],[S i],[E fr],[E A4]] 267,O i (TQ g h) 265,Ap Tryz.prog 273 AM Am g y (G.get (G.Bn (fun p=>(Z p).map Bf.AW) f p r s).rows),Ap Tryz.prog 48 AP Am h A (G.get (G.Bn (fun p=>(Z p).map Bf.AW) f p r s).Fz)] W)(p c j m:Nat)(r:G.Ae)(s:G.B4)(x:Bf)(w:World)(N:BE (Ay Q z C t Au B::AN z.AU Av Z::O Ac [[S Q],[S o],[S i],[E fr],[E A4]] 267::O i (TQ g h) 265::I1 g j s h m) w)(ad:f+r.b=256)(I:Z p=some x)(L:¬x.Bd=1)(J:r.b<256)(ak:p≤1048576)(ae:c=x.lc+x.rc)(T:1≤c)(af:¬x.l=0→EX Z f x.l (r.b+1) x.lc)(ag:¬x.r=0→EX Z f x.r (r.b+1) x.rc)(P:j+(f+1)*c≤1099511627776)(R:m+(f+1)*c≤1099511627776):Calls Tryz.prog 180 #[S Ac,E p,Value.agg (flat [[E r.b],bv r.k.l])] w fun e W=>∃y A,e=.returned (.tuple #[])∧y≤j+(f+1)*c∧A≤m+(f+1)*c∧Sat (A6 (Ay Q z C t Au B::AN z.AU Av Z::O Ac [[S Q],[S o],[S i],[E fr],[E A4]] 267::O i (TQ g h) 265::I1 g j s h m)) w [Ay Q z C t Au B,AN z.AU Av Z,O Ac [[S Q],[S o],[S i],[E fr],[E A4]] 267,O i (TQ g h) 265,Ap Tryz.prog 273 AM Am g y (G.get (G.Bn (fun p=>(Z p).map Bf.AW) (f+1) p r s).rows),Ap Tryz.prog 48 AP Am h A (G.get (G.Bn (fun p=>(Z p).map Bf.AW) (f+1) p r s).Fz)] W:=by
 subst ae;rw[iO,fC,jW]at P R⊢;refine Cb N Vl D 56 fun F hF=>Je<|Jh<|U<|Cv D fun V=>K ?_;refine By D<|AG KW 0 D<|AZ Ig 3 0 D D D<|By D<|AG Kp 6 D<|AZ tr 1 6 D D D<|Jd D<|Af (GN tr (fun w d=>d.KP 2) Fg Fe (a:=p) (Fb JY) D D J_ (by rw[I]))<|U<|Bw VF fun X=>U<|Bk 0 0 9 D D D<|?_;refine Jg<|Jf<|Je<|DD 9<|zs (AA D)<|zs (Bp D)<|zs (AS KW 2 D)<|zs (Bb ax 4 2 D D D)<|zs (Bp D)<|zs (AS e9 0 D)<|zs (Bb YW 5 0 D D D)<|zs (BN LS 1 D D)<|zs (AA D)<|CS<|U<|KS 6 YW D Lb Le (a:=r) (Lg JY) (u:=p) D D D<|Jg<|?_;refine I_ 6 (Ap Tryz.prog 273 AM Am g (j+1) (G.get (G.note s r p x.AW).rows)) D (by rw[MT];rfl)<|I_ 7 (Ap Tryz.prog 48 AP Am h m (G.get (G.note s r p x.AW).Fz)) D (by unfold G.note;rw[if_neg (show¬x.AW.Bd=1 from L)])<|K ?_;refine AG Bv 0 D<|AZ AF 0 0 D D D<|Gi JY D D<|Jg<|Jf<|JH D<|Jy<|Jf<|Gq (fun a W=>∃(s2:G.B4) (n:Nat) (v:Nat),AH 56 a (Jb (Jb (Jb Jk 0 (S Ac)) 5 (S V)) 6 (S X))∧Sat F w (O X (Xz x) 138::O V [[E r.b],bv r.k.l] 273::Ay Q z C t Au B::AN z.AU Av Z::O Ac [[S Q],[S o],[S i],[E fr],[E A4]] 267::O i (TQ g h) 265::I1 g n s2 h v) W∧s2=(if x.AW.l=0 then(G.note s r p x.AW)else G.Bn (fun p=>(Z p).map Bf.AW) f x.AW.l (G.under r 0) (G.note s r p x.AW))∧(n≤j+1+f*x.lc∧v≤m+f*x.lc)) ?_ ?_
 ·
  refine Je<|Jh<|AG Bv 1 D<|AZ AF 0 1 D D D<|JU D D<|Jg<|Jf<|HI D (fun T=>?_) fun T=>?_
  ·
   refine CQ [0,1,2,3,4,5]<|Ab 0 D (AA D)<|Ab 1 D (AS Bv 1 D)<|Ab 2 D (Bb AF 0 1 D D D)<|Ab 3 D (BN LS 1 D D)<|Bh 4 D<|BP T5 D (fun w d=>M4 r 0 w)<|A8 [0,1,2,3,4,5]<|Bh 5 D<|?_;refine Ba Vl D (fun w d=>M x.l x.lc (j+1) m (G.under r 0) (G.note s r p x.AW) w (d.Ad [2,3,4,5,6,7]) (by show f+(r.b+1)=257;omega) (af JY) JY JY) fun _ e W d ⟨n,ah,he,al,an,q⟩=>⟨_,_,he,d.As [2,3,4,5,6,7] [0,1] q,?_⟩
   refine A8 [6,7,0,1,2,3]<|Cm<|Jf<|?_;exact fun a W H d=>⟨G.Bn (fun p=>(Z p).map Bf.AW) f x.l (G.under r 0) (G.note s r p x.AW),n,ah,AY H,d.pick [6,7,0,1,2,3,4,5],by first|rw[if_pos (show x.AW.l=0 by show x.l=0;omega)]|rw[if_neg (show¬x.AW.l=0 by show¬x.l=0;omega)];rfl,by constructor<;>omega⟩
  refine Jy<|Jf<|?_;exact fun a W H d=>⟨G.note s r p x.AW,j+1,m,AY H,d.pick [0,1,2,3,4,5,6,7],by first|rw[if_pos (show x.AW.l=0 by show x.l=0;omega)]|rw[if_neg (show¬x.AW.l=0 by show¬x.l=0;omega)];rfl,by constructor<;>omega⟩
 rintro a W ⟨s2,n,v,H,d,Y,ao⟩;revert a W;refine Je<|Jh<|AG Bv 2 D<|AZ AF 0 2 D D D<|JU D D<|Jg<|Jf<|HI D (fun ai=>?_) fun ai=>?_
 ·
  refine CQ [0,1,2,3,4,5]<|Ab 0 D (AA D)<|Ab 1 D (AS Bv 2 D)<|Ab 2 D (Bb AF 0 2 D D D)<|Ab 3 D (BN LS 1 D D)<|Bh 4 D<|BP T5 D (fun w d=>M4 r 1 w)<|A8 [0,1,2,3,4,5]<|Bh 5 D<|?_;refine Ba Vl D (fun w d=>M x.r x.rc n v (G.under r 1) s2 w (d.Ad [2,3,4,5,6,7]) (by show f+(r.b+1)=257;omega) (ag JY) JY JY) fun _ e W d ⟨aa,ab,he,aq,ar,q⟩=>⟨_,_,he,d.As [2,3,4,5,6,7] [0,1] q,?_⟩
  refine A8 [6,7,0,1,2,3]<|Cm<|Jt<|Ff fun W d=>?_;subst hF;rw[SP (show(fun p=>(Z p).map Bf.AW) p=some x.AW from by simp only[I];rfl) (show¬x.AW.Bd=1 from L),←Y]
  first
   |(rw[if_pos (show x.AW.r=0 by show x.r=0;omega)];exact⟨aa,ab,rfl,JY,JY,d.pick [0,1,2,3,4,5]⟩)
   |(rw[if_neg (show¬x.AW.r=0 by show¬x.r=0;omega)];exact⟨aa,ab,rfl,JY,JY,d.pick [0,1,2,3,4,5]⟩)
 refine Jy<|Jt<|Ff fun W d=>?_;subst hF;rw[SP (show(fun p=>(Z p).map Bf.AW) p=some x.AW from by simp only[I];rfl) (show¬x.AW.Bd=1 from L),←Y]
 first
  |(rw[if_pos (show x.AW.r=0 by show x.r=0;omega)];exact⟨n,v,rfl,JY,JY,d.pick [2,3,4,5,6,7]⟩)
  |(rw[if_neg (show¬x.AW.r=0 by show¬x.r=0;omega)];exact⟨n,v,rfl,JY,JY,d.pick [2,3,4,5,6,7]⟩)
theorem Vc(Q Ac k a d g:Nat)(z:Dl)(C l Au B:BX)(Av:Nat)(Z:Nat→Option Bf)(fr A4:Nat):∀(f:Nat) (p c i j:Nat) (r:G.Ae) (s:G.B4) (w:World) (m:BE (Ay Q z C l Au B::AN z.AU Av Z::O Ac [[S Q],[S k],[S a],[E fr],[E A4]] 267::O a (TQ d g) 265::I1 d i s g j) w) (t:f+r.b=257) (n:EX Z f p r.b c) (u:i+f*c≤1099511627776) (v:j+f*c≤1099511627776),Calls Tryz.prog 180 #[S Ac,E p,AM r] w fun e W=>∃y A,e=.returned (.tuple #[])∧y≤i+f*c∧A≤j+f*c∧Sat (A6 (Ay Q z C l Au B::AN z.AU Av Z::O Ac [[S Q],[S k],[S a],[E fr],[E A4]] 267::O a (TQ d g) 265::I1 d i s g j)) w [Ay Q z C l Au B,AN z.AU Av Z,O Ac [[S Q],[S k],[S a],[E fr],[E A4]] 267,O a (TQ d g) 265,Ap Tryz.prog 273 AM Am d y (G.get (G.Bn (fun p=>(Z p).map Bf.AW) f p r s).rows),Ap Tryz.prog 48 AP Am g A (G.get (G.Bn (fun p=>(Z p).map Bf.AW) f p r s).Fz)] W:=by
 intro f
 induction f with
 |zero=>intro p c i j r s w m t n;exact n.elim
 |succ f H=>
  intro p c i j r s w m t n u v;obtain⟨x,D,I,F,h⟩:=n
  rcases h with⟨o,q⟩|⟨o,J,q,hl,hr⟩
  ·exact cX Q Ac k a d g z C l Au B Av Z fr A4 f p c i j r s x w m JY D o F q JY JY
  ·exact Z0 Q Ac k a d g z C l Au B Av Z fr A4 f H p c i j r s x w m JY D o J F q I hl hr u v
