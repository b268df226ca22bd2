/- Laws and walks on the road to SalvagePlays (part M46). No conditions beyond each law's own. -/
import Derived.Test.YtjdboncaegphmaaGreatDoorM45
set_option linter.unusedVariables false
namespace Go.Proofs.YtjdboncaegphmaaGreatDoor
open Go.RowKit
set_option maxRecDepth 100000
set_option maxHeartbeats 2000000
def Nu(u:Fr.Bu)(g:Nat)(L:List Nat):Fr.Bu:=if 2≤g then⟨u.w,g,L.getD (g - 2) 0+1,L.getD (g - 2) 0,u.p⟩else⟨u.w,g,2,0,u.p⟩
theorem qC(u:Fr.Bu)(g:Nat)(q:Option Addr)(m c:Nat)(L:List Nat)(w:World)(h:DA w)(b:View w (I q m c) m 1 (Aq Bm L))(s:L.length=m)(t:g≤1048576∧u.p≤1048576)(l:∀x∈L,x≤1048576)(v:2≤g→g - 2<m):Calls lp 70 #[rS (Z1 u),E g,I q m c] w fun e W=>∃i j,e=.returned (I i 256 j)∧W.ownsRow w.heap.size 5 1 (I i 256 j) 256 (bv (Ref.EC (Nu u g L)))∧Below w.heap.size w W:=by
 refine Cg w R4 D 31<|Je<|Jh<|U<|Cv D fun y=>K ?_;refine AG Bs 0 D<|AZ AF 0 0 D D D<|Jd D<|AG Bs 4 D<|AZ AF 0 4 D D D<|Af (S8 [[E u.w],[E g],[E 2],[E 0],[E u.p]])<|U<|Bw SY fun z=>U<|Bk 0 0 5 D D D<|?_;refine K ?_
 by_cases k:2≤g
 ·
  obtain⟨x,d⟩:∃x,L[g - 2]? =some x:=⟨_,F3 JY⟩
  have A:=l _ (ta d);have n:L.getD (g - 2) 0=x:=by rw[Dm,d];rfl
  refine K ?_;refine TK JY D D<|K ?_;refine Es (q:=2) D D<|Af (Dj G0 (g - 2) (g - 2) (Bx b) D D)<|Af (J1 AF Gj (g - 2) d (Bx b) D D)<|B6 (q:=1) D D<|AG Bs 2 D<|U<|Cq 0 2 D D D<|?_;refine K ?_;refine Es (q:=2) D D<|Af (Dj G0 (g - 2) (g - 2) (Bx b) D D)<|Af (J1 AF Gj (g - 2) d (Bx b) D D)<|AG Bs 3 D<|U<|Cq 0 3 D D D<|?_;refine K ?_;refine Af (BN Bs 0 D D)<|U<|Ba VL D (fun w a=>Ww ⟨u.w,g,x+1,x,u.p⟩ w (h.below a.A0 (Br _))) fun _ e W a ⟨B,C,he,o,J⟩=>⟨_,_,he,a.own o J,?_⟩
  refine A7 ?_;intro W a;have f:Nu u g L=⟨u.w,g,x+1,x,u.p⟩:=by unfold Nu;rw[if_pos k,n]
  rw[f];exact⟨_,_,D,a.DQ 0,a.A0⟩
 ·
  refine K ?_;refine NB JY D D<|K ?_;refine Af (BN Bs 0 D D)<|U<|Ba VL D (fun w a=>Ww ⟨u.w,g,2,0,u.p⟩ w (h.below a.A0 (Br _))) fun _ e W a ⟨F,G,he,r,J⟩=>⟨_,_,he,a.own r J,?_⟩
  refine A7 ?_;intro W a;have f:Nu u g L=⟨u.w,g,2,0,u.p⟩:=by unfold Nu;rw[if_neg k]
  rw[f];exact⟨_,_,D,a.DQ 0,a.A0⟩
def GD(n:Nat):Nat:=if n % 256=0 then(if n/256<3∨4096<n/256 then 40 else 0)else 42
theorem ju(q:Option Addr)(n c:Nat)(l:rG)(w:World)(g:n≠0→View w (I q n c) n 1 (bv l))(hl:l.length=n)(m:n≤1099511627776:=by omega):Calls lp 24 #[I q n c] w fun e W=>(GD n≠0→e=.returned (.tuple #[I none 0 0,E (GD n)]))∧(GD n=0→∃d f,e=.returned (.tuple #[I d n f,E 0])∧W.ownsRow w.heap.size 5 1 (I d n f) n (bv l))∧Below w.heap.size w W:=by
 refine Cg w Xd D 20<|K ?_;refine Cr B7 D<|Af (GG (q:=256) D D)<|JU D D<|Jg<|Jf<|HI D (fun i=>?_) fun i=>?_
 ·
  refine A7 ?_;intro W a;have b:GD n=42:=by unfold GD;rw[if_neg JY]
  exact⟨fun _=>(by rw[b];rfl),fun h=>JY,a.A0⟩
 refine K ?_;refine Cr B7 D<|Af (Iy (q:=256) D D)<|K ?_;refine GV D D (fun j=>?_) fun j=>?_
 ·
  refine A7 ?_;intro W a;have b:GD n=40:=by unfold GD;rw[if_pos JY,if_pos JY]
  exact⟨fun _=>(by rw[b];rfl),fun h=>JY,a.A0⟩
 refine K ?_;refine Kl D D (fun k=>?_) fun k=>?_
 ·
  refine A7 ?_;intro W a;have b:GD n=40:=by unfold GD;rw[if_pos JY,if_pos JY]
  exact⟨fun _=>(by rw[b];rfl),fun h=>JY,a.A0⟩
 refine K ?_;refine U<|Dr 5 1 (bv [])<|DI A3 0 (bv l) D D D (Bx (g JY)) (Eo _) (EL hl) D fun o p=>A7 ?_;intro W a;have b:GD n=0:=by unfold GD;rw[if_pos JY,if_neg JY]
 rw[IC]at a⊢;exact⟨fun h=>absurd b h,fun _=>⟨_,_,D,a.DQ 0⟩,a.A0⟩
def sY(l:rG):Except Nat Fr.Bu:=match Fr.choose (AI l 0) (AI l 1)with
 |.ok s=>if s.p=l.length/256 then .ok s else .error 4
 |.error k=>.error k
theorem nw{a b:rG}{k:Nat}(h:Fr.choose a b=.error k):k=4∨k=55:=by
 unfold Fr.choose at h
 repeat' split at h
 all_goals first|(cases h;omega)|cases h
theorem jG(q:Option Addr)(n c:Nat)(l:rG)(w:World)(m:DA w)(f:View w (I q n c) n 1 (bv l))(hl:l.length=n)(t:512≤n∧n≤1048576:=by omega):Calls lp 26 #[I q n c] w fun e W=>(∀s,sY l=.ok s→e=.returned (.tuple #[rS (Z1 s),E 0]))∧(∀k,sY l=.error k→e=.returned (.tuple #[rS SY,E k]))∧Below w.heap.size w W:=by
 refine Cg w Pd D 26<|Je<|Jh<|U<|Bw SY fun o=>K ?_;cases i:Fr.choose (AI l 0) (AI l 1)with
 |ok p=>
  refine Hj (fun a W=>∃d,AH 26 a (Jb (Jb (Jb (Jb (Jb Jk 0 (I q n c)) 2 (S o)) 3 (E 0)) 4 (S d)) 5 (E 0))∧Sat C1 w [O d (Z1 p) 70,O o SY 70] W) ?_ ?_
  ·
   refine CQ []<|Ab 0 D (AA D)<|Ab 1 D (Fi A3 0 256 (Bx f) rfl .none (.some D))<|Ab 2 D (AA D)<|Ab 3 D (Fi A3 256 512 (Bx f) D (.some D) (.some D))<|Gy 4 8 D D ?_ ?_
   ·
    refine Ba Mh D (fun w b=>(gR _ _ _ _ (AI l 0) (AI l 1) w (m.below b.A0 (Br _)) ((Lr 0 (Bx f)) w b) En ((Lr 1 (Bx f)) w b) En).mono fun e W q=>(⟨q.1 _ i,q.2.2⟩:_∧_)) fun _ e W b ⟨he,J⟩=>⟨_,_,he,b.below J,?_⟩
    refine A8 []<|Ab 5 D (AA D)<|Ab 6 D (El D D)<|Ab 7 D (El D D)<|Bh 8 D<|Bw SY fun d=>A8 []<|Bh 9 D<|Bk 0 0 5 D D D<|?_;refine A8 []<|Ab 10 D (Ck D)<|Cm<|?_;exact fun a W g b=>⟨d,AY g,b.pick [0,1]⟩
   refine Bw SY fun d=>A8 []<|Bh 4 D<|?_;refine Ba Mh D (fun w b=>(gR _ _ _ _ (AI l 0) (AI l 1) w (m.below b.A0 (Br _)) ((Lr 0 (Bx f)) w b) En ((Lr 1 (Bx f)) w b) En).mono fun e W q=>(⟨q.1 _ i,q.2.2⟩:_∧_)) fun _ e W b ⟨he,J⟩=>⟨_,_,he,b.below J,?_⟩
   refine A8 []<|Ab 5 D (AA D)<|Ab 6 D (El D D)<|Ab 7 D (El D D)<|Bh 9 D<|Bk 0 0 5 D D D<|?_;refine A8 []<|Ab 10 D (Ck D)<|Cm<|?_;exact fun a W g b=>⟨d,AY g,b.pick [0,1]⟩
  rintro a W ⟨d,g,b⟩;revert a W;refine K ?_;refine Ci JY D D<|K ?_;refine AG Bs 4 D<|AZ AF 0 4 D D D<|Jd D<|Cr B7 D<|Af (Iy (q:=256) D D)<|JU D D<|Jg<|Jf<|HI D (fun r=>?_) fun r=>?_
  ·
   refine Je<|Jh<|Af (S8 SY)<|U<|Bk 1 0 5 D D D<|?_;refine K ?_;refine Gl Bs 1 D D D fun W b=>?_;have j:sY l=.error 4:=by unfold sY;rw[i];show(if _ then _ else _)=_;rw[if_neg JY]
   exact⟨fun s h=>(by rw[j]at h;cases h),fun k h=>(by rw[j]at h;cases h;rfl),b.A0⟩
  refine K ?_;refine Af (BN Bs 0 D D)<|U<|Bk 1 0 5 D D D<|?_;refine K ?_;refine Gl Bs 1 D D D fun W b=>?_;have j:sY l=.ok p:=by unfold sY;rw[i];show(if _ then _ else _)=_;rw[if_pos JY]
  exact⟨fun s h=>(by rw[j]at h;cases h;rfl),fun k h=>(by rw[j]at h;cases h),b.A0⟩
 |error k=>
  have u:=nw i;refine Hj (fun a W=>∃d,AH 26 a (Jb (Jb (Jb (Jb (Jb Jk 0 (I q n c)) 2 (S o)) 3 (E 0)) 4 (S d)) 5 (E k))∧Sat C1 w [O d SY 70,O o SY 70] W) ?_ ?_
  ·
   refine CQ []<|Ab 0 D (AA D)<|Ab 1 D (Fi A3 0 256 (Bx f) rfl .none (.some D))<|Ab 2 D (AA D)<|Ab 3 D (Fi A3 256 512 (Bx f) D (.some D) (.some D))<|Gy 4 8 D D ?_ ?_
   ·
    refine Ba Mh D (fun w b=>(gR _ _ _ _ (AI l 0) (AI l 1) w (m.below b.A0 (Br _)) ((Lr 0 (Bx f)) w b) En ((Lr 1 (Bx f)) w b) En).mono fun e W q=>(⟨q.2.1 _ i,q.2.2⟩:_∧_)) fun _ e W b ⟨he,J⟩=>⟨_,_,he,b.below J,?_⟩
    refine A8 []<|Ab 5 D (AA D)<|Ab 6 D (El D D)<|Ab 7 D (El D D)<|Bh 8 D<|Bw SY fun d=>A8 []<|Bh 9 D<|Bk 0 0 5 D D D<|?_;refine A8 []<|Ab 10 D (Ck D)<|Cm<|?_;exact fun a W g b=>⟨d,AY g,b.pick [0,1]⟩
   refine Bw SY fun d=>A8 []<|Bh 4 D<|?_;refine Ba Mh D (fun w b=>(gR _ _ _ _ (AI l 0) (AI l 1) w (m.below b.A0 (Br _)) ((Lr 0 (Bx f)) w b) En ((Lr 1 (Bx f)) w b) En).mono fun e W q=>(⟨q.2.1 _ i,q.2.2⟩:_∧_)) fun _ e W b ⟨he,J⟩=>⟨_,_,he,b.below J,?_⟩
   refine A8 []<|Ab 5 D (AA D)<|Ab 6 D (El D D)<|Ab 7 D (El D D)<|Bh 9 D<|Bk 0 0 5 D D D<|?_;refine A8 []<|Ab 10 D (Ck D)<|Cm<|?_;exact fun a W g b=>⟨d,AY g,b.pick [0,1]⟩
  rintro a W ⟨d,g,b⟩;revert a W;refine K ?_;refine Ix JY D D<|K ?_;refine Af (S8 SY)<|Jd D<|U<|Bk 1 0 5 D D D<|?_;refine K ?_;refine Gl Bs 1 D D D fun W b=>?_;have j:sY l=.error k:=by unfold sY;rw[i]
  exact⟨fun s h=>(by rw[j]at h;cases h),fun k h=>(by rw[j]at h;cases h;rfl),b.A0⟩
def Lv(z:BF)(i:Nat):Nat×Nat:=if i=0 then(0,0)else((z.Em (G.at_ z.KE 1)).f,(z.Em (G.at_ z.KE i)).v)
theorem qB{z:BF}{i q Ll:Nat}{y s6:B9}(V:¬i=0)(a:z.KE[0]? =some Ll)(b:z.rs[Ll]? =some s6)(c:z.KE[i - 1]? =some q)(d:z.rs[q]? =some y):Lv z i=(s6.f,y.v):=by
 unfold Lv;have h:=dI c;rw[show i - 1+1=i by omega]at h;rw[if_neg V,dI a,h,tu b,tu d]
theorem pt(z:BF)(T Au:BX)(il:rG)(p i:Nat)(w:World)(j:BE [Ez z T Au,Gb z] w)(g:tv il p z)(V:i≤z.KE.length)(k:z.KE.length≤4096):Calls Tryz.prog 37 #[S z.Q,E i] w fun e W=>e=.returned (.tuple #[E (Lv z i).1,E (Lv z i).2])∧Sat (A6 [Ez z T Au,Gb z]) w [Ez z T Au,Gb z] W:=by
 refine Cb j Lm D 36 fun F hF=>K ?_
 by_cases h:i=0
 ·
  refine K ?_;refine EU JY D D<|A7 ?_;intro W a;subst hF;exact⟨by unfold Lv;rw[if_pos h];rfl,a.pick [0,1]⟩
 ·
  obtain⟨q,b⟩:∃q,z.KE[i - 1]? =some q:=⟨_,F3 JY⟩
  obtain⟨Ll,c⟩:∃q,z.KE[0]? =some q:=⟨_,F3 JY⟩
  obtain⟨y,d,_,_⟩:=g.TO (ta b);obtain⟨s6,f,_,_⟩:=g.TO (ta c);have l:=(EH.1 d).1;have m:=(EH.1 f).1;refine K ?_;refine Gi JY D D<|K ?_;refine GR<|zs (AA D)<|zs (Bp D)<|zs (AS sT 7 D)<|zs (Bb W2 0 7 D D D)<|zs (AA D)<|zs (Bp D)<|zs (AS sT 8 D)<|zs (Bb Lc 0 8 D D D)<|zs (Dj G0 0 0 (a8 1) D D)<|zs (J1 AF Gj 0 c (a8 1) D D)<|zs (Dj TT Ll (Ll*38) (ik 1) D D)<|zs (Nd sP (Ll*38+1) D)<|zs (Q8 AF Wh Ll 1 f (ik 1) D D D)<|zs (AA D)<|zs (Bp D)<|zs (AS sT 7 D)<|zs (Bb W2 0 7 D D D)<|zs (AA D)<|zs (Bp D)<|zs (AS sT 8 D)<|zs (Bb Lc 0 8 D D D)<|zs (AA D)<|zs (HS (q:=1) D D)<|zs (Dj G0 (i - 1) (i - 1) (a8 1) D D)<|zs (J1 AF Gj (i - 1) b (a8 1) D D)<|zs (Dj TT q (q*38) (ik 1) D D)<|zs (Nd sP (q*38) D)<|zs (Q8 AF Wh q 0 d (ik 1) D D D)<|zs (Ck D)<|zs (Ck D)<|CS<|A7 ?_;intro W a;subst hF;exact⟨by rw[qB h c f b d],a.pick [0,1]⟩
theorem rJ{a:rG}{s:Fr.Bu}(h:Fr.DP a=some s):Fr.DE s=true:=by
 unfold Fr.DP at h;split at h
 ·split at h
  ·split at h
   ·rename_i b;cases h;exact b
   ·cases h
  ·cases h
 ·cases h
theorem sN{x y z:Fr.Bu}(a:Fr.DE x=true)(b:Fr.DE y=true)(h:Fr.Ed x y=some z):Fr.DE z=true:=by
 unfold Fr.Ed at h
 repeat' split at h
 all_goals first|(cases h;first|exact a|exact b)|(cases h;done)
theorem oA{a b:rG}{s:Fr.Bu}(h:Fr.choose a b=.ok s):Fr.DE s=true:=by
 cases c:Fr.DP a with
 |none=>unfold Fr.choose at h;rw[c]at h;simp only at h;(repeat' split at h);all_goals cases h
 |some x=>
  cases d:Fr.DP b with
  |none=>unfold Fr.choose at h;rw[c,d]at h;simp only at h;(repeat' split at h);all_goals cases h
  |some y=>
   cases e:Fr.Ed x y with
   |none=>unfold Fr.choose at h;rw[c,d]at h;simp only[e]at h;cases h
   |some z=>unfold Fr.choose at h;rw[c,d]at h;simp only[e]at h;cases h;exact sN (rJ c) (rJ d) e
theorem hA{l:rG}{s:Fr.Bu}(h:sY l=.ok s):s.p=l.length/256∧Fr.DE s=true∧Fr.choose (AI l 0) (AI l 1)=.ok s:=by
 unfold sY at h;split at h
 ·rename_i s2 e;split at h
  ·rename_i a;cases h;exact⟨a,oA e,e⟩
  ·cases h
 ·cases h
theorem me{l:rG}{s:Fr.Bu}{n:Nat}(h:sY l=.ok s)(hl:l.length=n):s.w≤32∧s.m≤4096∧s.m*256≤n:=by
 obtain⟨h1,a,_⟩:=hA h;unfold Fr.DE at a;simp only[Kq,decide_eq_true_eq]at a;have:=a.1.1.1.1.1.1.2;have:=a.1.1.1.2;have:=a.1.2;rw[hl]at h1;omega
theorem jo{l:rG}{k:Nat}(h:sY l=.error k):k=4∨k=55:=by
 unfold sY at h;split at h
 ·split at h
  ·cases h
  ·cases h;exact .inl D
 ·rename_i e;cases h;exact nw e
theorem ff{n:Nat}(h:GD n=0):768≤n∧n≤1048576:=by
 unfold GD at h;split at h
 ·split at h
  ·cases h
  ·omega
 ·cases h
theorem kM(q:Option Addr)(n c:Nat)(l:rG)(w:World)(f:DA w)(Df:Ld w)(g:n≠0→View w (I q n c) n 1 (bv l))(hl:l.length=n)(y:n≤1099511627776:=by omega):Calls lp 36 #[I q n c] w fun e W=>(GD n≠0→e=.returned (.tuple #[.pointer none,E 0,E (GD n)])∧Below w.heap.size w W)∧(GD n=0→(∀k,sY l=.error k→e=.returned (.tuple #[.pointer none,E 0,E k])∧Below w.heap.size w W)∧∀u,sY l=.ok u→∃z:BF,∃T:BX,∃Au p,e=.returned (.tuple #[S z.Q,E T.n,E 0])∧aO l u z T.n p∧Sat C1 w [Ez z T Au,Gb z] W):=by
 refine Cg w FW D 34<|K ?_
 by_cases b:GD n=0
 ·
  have A:768≤n∧n≤1048576:=ff b;refine K ?_;refine U<|Ba Xd D (fun w a=>(ju _ _ _ l w (fun r=>(Bx (g JY)) w a) hl).mono fun e W q=>(let⟨i,j,h1,s⟩:=q.2.1 b;⟨i,j,h1,s,q.2.2⟩:∃i j,_∧_∧_)) fun _ e W a ⟨B,m,he,t,J⟩=>⟨_,_,he,a.own t J,?_⟩
  refine Jd D<|Bc D D<|Bc D D<|K ?_;refine Ci JY D D<|K ?_;cases d:sY l with
  |ok v=>
   have o:=me d hl;refine K ?_;refine U<|Ba Pd D (fun w a=>(jG _ _ _ l w (f.below a.A0 (Br _)) ((BZ 0) w a) hl).mono fun e W q=>(⟨q.1 _ d,q.2.2⟩:_∧_)) fun _ e W a ⟨he,J⟩=>⟨_,_,he,a.below J,?_⟩
   refine Jd D<|Bc D D<|Bc D D<|U<|Bw SY fun x=>U<|Bk 0 0 5 D D D<|?_;refine K ?_;refine Ci JY D D<|K ?_;refine Af (BN Bs 0 D D)<|U<|Ba SI D (fun w a=>uo _ _ _ l v w (f.below a.A0 (Br _)) (Df.sat a) ((BZ 1) w a) hl o.1 o.2) fun _ e W a ⟨z,T,Au,p,he,hQ,q⟩=>⟨_,_,he,a.Nk q,?_⟩
   refine Jd D<|Bc D D<|Bc D D<|K ?_;refine Gz D D D fun W a=>?_;exact⟨fun h=>absurd b h,fun _=>⟨fun m h=>(by cases h),fun u h=>(by cases h;exact⟨z,T,Au,p,D,hQ,a.pick [0,1]⟩)⟩⟩
  |error k=>
   have C:=jo d;refine K ?_;refine U<|Ba Pd D (fun w a=>(jG _ _ _ l w (f.below a.A0 (Br _)) ((BZ 0) w a) hl).mono fun e W q=>(⟨q.2.1 _ d,q.2.2⟩:_∧_)) fun _ e W a ⟨he,J⟩=>⟨_,_,he,a.below J,?_⟩
   refine Jd D<|Bc D D<|Bc D D<|U<|Bw SY fun x=>U<|Bk 0 0 5 D D D<|?_;refine K ?_;refine Ix JY D D<|K ?_;refine Gz D D D fun W a=>?_;exact⟨fun h=>absurd b h,fun _=>⟨fun m h=>(by cases h;exact⟨D,a.A0⟩),fun u h=>(by cases h)⟩⟩
 ·
  refine K ?_;refine U<|Ba Xd D (fun w a=>(ju _ _ _ l w (fun r=>(Bx (g JY)) w a) hl).mono fun e W q=>(⟨q.1 b,q.2.2⟩:_∧_)) fun _ e W a ⟨he,J⟩=>⟨_,_,he,a.below J,?_⟩
  refine Jd D<|Bc D D<|Bc D D<|K ?_;refine Ix JY D D<|K ?_;refine Gz D D D fun W a=>?_;exact⟨fun _=>⟨D,a.A0⟩,fun h=>absurd h b⟩
def sW(l:rG)(n:Nat):Option Fr.Bu:=match Fr.DP l with
 |some x=>if x.p=n/256 then some x else none
 |none=>none
def lH:Option Fr.Bu→Option Fr.Bu→Except Nat Fr.Bu
 |some x,some y=>if x.g<y.g then .ok y else .ok x
 |some x,none=>.ok x
 |none,some y=>.ok y
 |none,none=>.error 4
def s0(l:rG):Except Nat Fr.Bu:=match Fr.choose (AI l 0) (AI l 1)with
 |.error k=>if k=4 then lH (sW (AI l 0) l.length) (sW (AI l 1) l.length)else sY l
 |.ok _=>sY l
theorem pE(q:Option Addr)(n c:Nat)(l:rG)(w:World)(m:DA w)(f:View w (I q n c) n 1 (bv l))(hl:l.length=n)(R:512≤n∧n≤1048576):Calls lp 43 #[I q n c] w fun e W=>(∀s,s0 l=.ok s→e=.returned (.tuple #[rS (Z1 s),E 0]))∧(∀k,s0 l=.error k→e=.returned (.tuple #[rS SY,E k]))∧Below w.heap.size w W:=by
 refine Cg w XV D 78<|Je<|Jh<|U<|Bw SY fun y=>K ?_;cases g:Fr.choose (AI l 0) (AI l 1)with
 |ok T=>
  refine Hj (fun a W=>AH 78 a (Jb (Jb (Jb (Jb Jk 0 (I q n c)) 2 (S y)) 3 (E 0)) 5 (E 0))∧Sat C1 w [O y SY 70] W) ?_ ?_
  ·
   refine CQ []<|Ab 0 D (AA D)<|Ab 1 D (Fi A3 0 256 (Bx f) rfl .none (.some D))<|Ab 2 D (AA D)<|Ab 3 D (Fi A3 256 512 (Bx f) D (.some D) (.some D))<|Gy 4 8 D D ?_ ?_
   ·
    refine Ba Mh D (fun w b=>(gR _ _ _ _ (AI l 0) (AI l 1) w (m.below b.A0 (Br _)) ((Lr 0 (Bx f)) w b) En ((Lr 1 (Bx f)) w b) En).mono fun e W q=>(⟨q.1 _ g,q.2.2⟩:_∧_)) fun _ e W b ⟨he,J⟩=>⟨_,_,he,b.below J,?_⟩
    refine A8 []<|Ab 5 D (AA D)<|Ab 6 D (El D D)<|Ab 7 D (El D D)<|Bh 8 D<|Bw SY fun z=>A8 []<|Bh 9 D<|Bk 0 0 5 D D D<|?_;refine A8 []<|Ab 10 D (Ck D)<|Cm<|?_;exact fun a W p b=>⟨AY p,b.pick [1]⟩
   refine Bw SY fun z=>A8 []<|Bh 4 D<|?_;refine Ba Mh D (fun w b=>(gR _ _ _ _ (AI l 0) (AI l 1) w (m.below b.A0 (Br _)) ((Lr 0 (Bx f)) w b) En ((Lr 1 (Bx f)) w b) En).mono fun e W q=>(⟨q.1 _ g,q.2.2⟩:_∧_)) fun _ e W b ⟨he,J⟩=>⟨_,_,he,b.below J,?_⟩
   refine A8 []<|Ab 5 D (AA D)<|Ab 6 D (El D D)<|Ab 7 D (El D D)<|Bh 9 D<|Bk 0 0 5 D D D<|?_;refine A8 []<|Ab 10 D (Ck D)<|Cm<|?_;exact fun a W p b=>⟨AY p,b.pick [1]⟩
  rintro a W ⟨p,b⟩;revert a W;refine K ?_;refine Ix JY D D<|K ?_;cases v:sY l with
  |ok C=>
   refine K ?_;refine U<|Ba Pd D (fun w b=>(jG _ _ _ l w (m.below b.A0 (Br _)) ((Bx f) w b) hl).mono fun e W q=>(⟨q.1 _ v,q.2.2⟩:_∧_)) fun _ e W b ⟨he,J⟩=>⟨_,_,he,b.below J,?_⟩
   refine Bc D D<|Bc D D<|U<|Bk 0 0 5 D D D<|?_;refine K ?_;refine Gl Bs 0 D D D fun W b=>?_;have d:s0 l=sY l:=by unfold s0;rw[g]
   rw[v]at d;exact⟨fun s h=>(by rw[d]at h;cases h;rfl),fun r h=>(by rw[d]at h;cases h),b.A0⟩
  |error F=>
   refine K ?_;refine U<|Ba Pd D (fun w b=>(jG _ _ _ l w (m.below b.A0 (Br _)) ((Bx f) w b) hl).mono fun e W q=>(⟨q.2.1 _ v,q.2.2⟩:_∧_)) fun _ e W b ⟨he,J⟩=>⟨_,_,he,b.below J,?_⟩
   refine Bc D D<|Bc D D<|U<|Bk 0 0 5 D D D<|?_;refine K ?_;refine Gl Bs 0 D D D fun W b=>?_;have d:s0 l=sY l:=by unfold s0;rw[g]
   rw[v]at d;exact⟨fun s h=>(by rw[d]at h;cases h),fun r h=>(by rw[d]at h;cases h;rfl),b.A0⟩
 |error k=>
  have V:=nw g
  by_cases t:k=4
  ·
   refine Hj (fun a W=>AH 78 a (Jb (Jb (Jb (Jb Jk 0 (I q n c)) 2 (S y)) 3 (E 0)) 5 (E k))∧Sat C1 w [O y SY 70] W) ?_ ?_
   ·
    refine CQ []<|Ab 0 D (AA D)<|Ab 1 D (Fi A3 0 256 (Bx f) rfl .none (.some D))<|Ab 2 D (AA D)<|Ab 3 D (Fi A3 256 512 (Bx f) D (.some D) (.some D))<|Gy 4 8 D D ?_ ?_
    ·
     refine Ba Mh D (fun w b=>(gR _ _ _ _ (AI l 0) (AI l 1) w (m.below b.A0 (Br _)) ((Lr 0 (Bx f)) w b) En ((Lr 1 (Bx f)) w b) En).mono fun e W q=>(⟨q.2.1 _ g,q.2.2⟩:_∧_)) fun _ e W b ⟨he,J⟩=>⟨_,_,he,b.below J,?_⟩
     refine A8 []<|Ab 5 D (AA D)<|Ab 6 D (El D D)<|Ab 7 D (El D D)<|Bh 8 D<|Bw SY fun z=>A8 []<|Bh 9 D<|Bk 0 0 5 D D D<|?_;refine A8 []<|Ab 10 D (Ck D)<|Cm<|?_;exact fun a W p b=>⟨AY p,b.pick [1]⟩
    refine Bw SY fun z=>A8 []<|Bh 4 D<|?_;refine Ba Mh D (fun w b=>(gR _ _ _ _ (AI l 0) (AI l 1) w (m.below b.A0 (Br _)) ((Lr 0 (Bx f)) w b) En ((Lr 1 (Bx f)) w b) En).mono fun e W q=>(⟨q.2.1 _ g,q.2.2⟩:_∧_)) fun _ e W b ⟨he,J⟩=>⟨_,_,he,b.below J,?_⟩
    refine A8 []<|Ab 5 D (AA D)<|Ab 6 D (El D D)<|Ab 7 D (El D D)<|Bh 9 D<|Bk 0 0 5 D D D<|?_;refine A8 []<|Ab 10 D (Ck D)<|Cm<|?_;exact fun a W p b=>⟨AY p,b.pick [1]⟩
   rintro a W ⟨p,b⟩;revert a W;refine K ?_;refine Ci JY D D<|K ?_;cases u:Fr.DP (AI l 0)with
   |none=>
    refine K ?_;refine Af (Fi A3 0 256 (Bx f) rfl .none (.some D))<|U<|Ba V6 D (fun w b=>(KD _ _ (AI l 0) w (m.below b.A0 (Br _)) ((Lr 0 (Bx f)) w b) En).mono fun e W q=>(let⟨k,h1,A⟩:=q.2.1 u;⟨k,A,h1,q.2.2⟩:∃k,_∧_∧_)) fun _ e W b ⟨X,he,Y,J⟩=>⟨_,_,he,b.below J,?_⟩
    refine Jd D<|Bc D D<|Bc D D<|U<|Bw SY fun G=>U<|Bk 0 0 5 D D D<|?_;refine K ?_;cases o:Fr.DP (AI l 1)with
    |none=>
     refine K ?_;refine Af (Fi A3 256 512 (Bx f) D (.some D) (.some D))<|U<|Ba V6 D (fun w b=>(KD _ _ (AI l 1) w (m.below b.A0 (Br _)) ((Lr 1 (Bx f)) w b) En).mono fun e W q=>(let⟨k,h1,A⟩:=q.2.1 o;⟨k,A,h1,q.2.2⟩:∃k,_∧_∧_)) fun _ e W b ⟨Z,he,aa,J⟩=>⟨_,_,he,b.below J,?_⟩
     refine Jd D<|Bc D D<|Bc D D<|U<|Bw SY fun B=>U<|Bk 0 0 5 D D D<|?_;refine K ?_;refine Gi JY D D<|K ?_;refine Gi JY D D<|K ?_;refine Af (S8 SY)<|U<|Bk 2 0 5 D D D<|?_;refine K ?_;refine Gl Bs 2 D D D fun W b=>?_;have i:sW (AI l 0) l.length=none:=by unfold sW;rw[u]
     have j:sW (AI l 1) l.length=none:=by unfold sW;rw[o]
     have d:s0 l=.error 4:=by unfold s0;rw[g];show(if k=4 then _ else _)=_;rw[if_pos t,i,j];rfl
     exact⟨fun s h=>(by rw[d]at h;cases h),fun r h=>(by rw[d]at h;cases h;rfl),b.A0⟩
    |some x=>
     refine K ?_;refine Af (Fi A3 256 512 (Bx f) D (.some D) (.some D))<|U<|Ba V6 D (fun w b=>(KD _ _ (AI l 1) w (m.below b.A0 (Br _)) ((Lr 1 (Bx f)) w b) En).mono fun e W q=>(⟨q.1 _ o,q.2.2⟩:_∧_)) fun _ e W b ⟨he,J⟩=>⟨_,_,he,b.below J,?_⟩
     refine Jd D<|Bc D D<|Bc D D<|U<|Bw SY fun B=>U<|Bk 0 0 5 D D D<|?_;refine K ?_;refine Gi JY D D<|K ?_;refine EU JY D D<|K ?_;refine AG Bs 4 D<|Jj D D D<|AZ AF 0 4 D D D<|K ?_;refine Cr B7 D<|Jj D D D<|Af (Iy (q:=256) D D)<|Jj D D D<|Gx D D (fun H=>?_) fun H=>?_
     ·
      refine K ?_;refine Af (BN Bs 0 D D)<|U<|Bk 2 0 5 D D D<|?_;refine K ?_;refine Gl Bs 2 D D D fun W b=>?_;have i:sW (AI l 0) l.length=none:=by unfold sW;rw[u]
      have j:sW (AI l 1) l.length=some x:=by unfold sW;rw[o];exact if_pos (by rw[hl];omega)
      have d:s0 l=.ok x:=by unfold s0;rw[g];show(if k=4 then _ else _)=_;rw[if_pos t,i,j];rfl
      exact⟨fun s h=>(by rw[d]at h;cases h;rfl),fun r h=>(by rw[d]at h;cases h),b.A0⟩
     refine K ?_;refine Af (S8 SY)<|U<|Bk 2 0 5 D D D<|?_;refine K ?_;refine Gl Bs 2 D D D fun W b=>?_;have i:sW (AI l 0) l.length=none:=by unfold sW;rw[u]
     have j:sW (AI l 1) l.length=none:=by unfold sW;rw[o];exact if_neg (by rw[hl];omega)
     have d:s0 l=.error 4:=by unfold s0;rw[g];show(if k=4 then _ else _)=_;rw[if_pos t,i,j];rfl
     exact⟨fun s h=>(by rw[d]at h;cases h),fun r h=>(by rw[d]at h;cases h;rfl),b.A0⟩
   |some xa=>
    refine K ?_;refine Af (Fi A3 0 256 (Bx f) rfl .none (.some D))<|U<|Ba V6 D (fun w b=>(KD _ _ (AI l 0) w (m.below b.A0 (Br _)) ((Lr 0 (Bx f)) w b) En).mono fun e W q=>(⟨q.1 _ u,q.2.2⟩:_∧_)) fun _ e W b ⟨he,J⟩=>⟨_,_,he,b.below J,?_⟩
    refine Jd D<|Bc D D<|Bc D D<|U<|Bw SY fun G=>U<|Bk 0 0 5 D D D<|?_;refine K ?_;cases o:Fr.DP (AI l 1)with
    |none=>
     refine K ?_;refine Af (Fi A3 256 512 (Bx f) D (.some D) (.some D))<|U<|Ba V6 D (fun w b=>(KD _ _ (AI l 1) w (m.below b.A0 (Br _)) ((Lr 1 (Bx f)) w b) En).mono fun e W q=>(let⟨k,h1,A⟩:=q.2.1 o;⟨k,A,h1,q.2.2⟩:∃k,_∧_∧_)) fun _ e W b ⟨ab,he,ad,J⟩=>⟨_,_,he,b.below J,?_⟩
     refine Jd D<|Bc D D<|Bc D D<|U<|Bw SY fun B=>U<|Bk 0 0 5 D D D<|?_;refine K ?_;refine EU JY D D<|K ?_;refine AG Bs 4 D<|Jj D D D<|AZ AF 1 4 D D D<|K ?_;refine Cr B7 D<|Jj D D D<|Af (Iy (q:=256) D D)<|Jj D D D<|Gx D D (fun L=>?_) fun L=>?_
     ·
      refine K ?_;refine Gi JY D D<|K ?_;refine Af (BN Bs 1 D D)<|U<|Bk 2 0 5 D D D<|?_;refine K ?_;refine Gl Bs 2 D D D fun W b=>?_;have i:sW (AI l 0) l.length=some xa:=by unfold sW;rw[u];exact if_pos (by rw[hl];omega)
      have j:sW (AI l 1) l.length=none:=by unfold sW;rw[o]
      have d:s0 l=.ok xa:=by unfold s0;rw[g];show(if k=4 then _ else _)=_;rw[if_pos t,i,j];rfl
      exact⟨fun s h=>(by rw[d]at h;cases h;rfl),fun r h=>(by rw[d]at h;cases h),b.A0⟩
     refine K ?_;refine Gi JY D D<|K ?_;refine Af (S8 SY)<|U<|Bk 2 0 5 D D D<|?_;refine K ?_;refine Gl Bs 2 D D D fun W b=>?_;have i:sW (AI l 0) l.length=none:=by unfold sW;rw[u];exact if_neg (by rw[hl];omega)
     have j:sW (AI l 1) l.length=none:=by unfold sW;rw[o]
     have d:s0 l=.error 4:=by unfold s0;rw[g];show(if k=4 then _ else _)=_;rw[if_pos t,i,j];rfl
     exact⟨fun s h=>(by rw[d]at h;cases h),fun r h=>(by rw[d]at h;cases h;rfl),b.A0⟩
    |some x=>
     refine K ?_;refine Af (Fi A3 256 512 (Bx f) D (.some D) (.some D))<|U<|Ba V6 D (fun w b=>(KD _ _ (AI l 1) w (m.below b.A0 (Br _)) ((Lr 1 (Bx f)) w b) En).mono fun e W q=>(⟨q.1 _ o,q.2.2⟩:_∧_)) fun _ e W b ⟨he,J⟩=>⟨_,_,he,b.below J,?_⟩
     refine Jd D<|Bc D D<|Bc D D<|U<|Bw SY fun B=>U<|Bk 0 0 5 D D D<|?_;refine K ?_;refine EU JY D D<|K ?_;refine AG Bs 4 D<|Jj D D D<|AZ AF 1 4 D D D<|K ?_;refine Cr B7 D<|Jj D D D<|Af (Iy (q:=256) D D)<|Jj D D D<|Gx D D (fun M=>?_) fun M=>?_
     ·
      refine K ?_;refine EU JY D D<|K ?_;refine AG Bs 4 D<|Jj D D D<|AZ AF 0 4 D D D<|K ?_;refine Cr B7 D<|Jj D D D<|Af (Iy (q:=256) D D)<|Jj D D D<|Gx D D (fun N=>?_) fun N=>?_
      ·
       refine K ?_;refine AG Bs 1 D<|Jj D D D<|AZ AF 0 1 D D D<|Jj D D D<|AG Bs 1 D<|Jj D D D<|AZ AF 1 1 D D D<|Jj D D D<|Kl D D (fun P=>?_) fun P=>?_
       ·
        refine K ?_;refine Af (BN Bs 0 D D)<|U<|Bk 2 0 5 D D D<|?_;refine K ?_;refine Gl Bs 2 D D D fun W b=>?_;have i:sW (AI l 0) l.length=some xa:=by unfold sW;rw[u];exact if_pos (by rw[hl];omega)
        have j:sW (AI l 1) l.length=some x:=by unfold sW;rw[o];exact if_pos (by rw[hl];omega)
        have d:s0 l=.ok x:=by unfold s0;rw[g];show(if k=4 then _ else _)=_;rw[if_pos t,i,j];exact if_pos JY
        exact⟨fun s h=>(by rw[d]at h;cases h;rfl),fun r h=>(by rw[d]at h;cases h),b.A0⟩
       refine K ?_;refine Af (BN Bs 1 D D)<|U<|Bk 2 0 5 D D D<|?_;refine K ?_;refine Gl Bs 2 D D D fun W b=>?_;have i:sW (AI l 0) l.length=some xa:=by unfold sW;rw[u];exact if_pos (by rw[hl];omega)
       have j:sW (AI l 1) l.length=some x:=by unfold sW;rw[o];exact if_pos (by rw[hl];omega)
       have d:s0 l=.ok xa:=by unfold s0;rw[g];show(if k=4 then _ else _)=_;rw[if_pos t,i,j];exact if_neg JY
       exact⟨fun s h=>(by rw[d]at h;cases h;rfl),fun r h=>(by rw[d]at h;cases h),b.A0⟩
      refine K ?_;refine Af (BN Bs 1 D D)<|U<|Bk 2 0 5 D D D<|?_;refine K ?_;refine Gl Bs 2 D D D fun W b=>?_;have i:sW (AI l 0) l.length=some xa:=by unfold sW;rw[u];exact if_pos (by rw[hl];omega)
      have j:sW (AI l 1) l.length=none:=by unfold sW;rw[o];exact if_neg (by rw[hl];omega)
      have d:s0 l=.ok xa:=by unfold s0;rw[g];show(if k=4 then _ else _)=_;rw[if_pos t,i,j];rfl
      exact⟨fun s h=>(by rw[d]at h;cases h;rfl),fun r h=>(by rw[d]at h;cases h),b.A0⟩
     refine K ?_;refine EU JY D D<|K ?_;refine AG Bs 4 D<|Jj D D D<|AZ AF 0 4 D D D<|K ?_;refine Cr B7 D<|Jj D D D<|Af (Iy (q:=256) D D)<|Jj D D D<|Gx D D (fun Q=>?_) fun Q=>?_
     ·
      refine K ?_;refine Af (BN Bs 0 D D)<|U<|Bk 2 0 5 D D D<|?_;refine K ?_;refine Gl Bs 2 D D D fun W b=>?_;have i:sW (AI l 0) l.length=none:=by unfold sW;rw[u];exact if_neg (by rw[hl];omega)
      have j:sW (AI l 1) l.length=some x:=by unfold sW;rw[o];exact if_pos (by rw[hl];omega)
      have d:s0 l=.ok x:=by unfold s0;rw[g];show(if k=4 then _ else _)=_;rw[if_pos t,i,j];rfl
      exact⟨fun s h=>(by rw[d]at h;cases h;rfl),fun r h=>(by rw[d]at h;cases h),b.A0⟩
     refine K ?_;refine Af (S8 SY)<|U<|Bk 2 0 5 D D D<|?_;refine K ?_;refine Gl Bs 2 D D D fun W b=>?_;have i:sW (AI l 0) l.length=none:=by unfold sW;rw[u];exact if_neg (by rw[hl];omega)
     have j:sW (AI l 1) l.length=none:=by unfold sW;rw[o];exact if_neg (by rw[hl];omega)
     have d:s0 l=.error 4:=by unfold s0;rw[g];show(if k=4 then _ else _)=_;rw[if_pos t,i,j];rfl
     exact⟨fun s h=>(by rw[d]at h;cases h),fun r h=>(by rw[d]at h;cases h;rfl),b.A0⟩
  ·
   refine Hj (fun a W=>AH 78 a (Jb (Jb (Jb (Jb Jk 0 (I q n c)) 2 (S y)) 3 (E 0)) 5 (E k))∧Sat C1 w [O y SY 70] W) ?_ ?_
   ·
    refine CQ []<|Ab 0 D (AA D)<|Ab 1 D (Fi A3 0 256 (Bx f) rfl .none (.some D))<|Ab 2 D (AA D)<|Ab 3 D (Fi A3 256 512 (Bx f) D (.some D) (.some D))<|Gy 4 8 D D ?_ ?_
    ·
     refine Ba Mh D (fun w b=>(gR _ _ _ _ (AI l 0) (AI l 1) w (m.below b.A0 (Br _)) ((Lr 0 (Bx f)) w b) En ((Lr 1 (Bx f)) w b) En).mono fun e W q=>(⟨q.2.1 _ g,q.2.2⟩:_∧_)) fun _ e W b ⟨he,J⟩=>⟨_,_,he,b.below J,?_⟩
     refine A8 []<|Ab 5 D (AA D)<|Ab 6 D (El D D)<|Ab 7 D (El D D)<|Bh 8 D<|Bw SY fun z=>A8 []<|Bh 9 D<|Bk 0 0 5 D D D<|?_;refine A8 []<|Ab 10 D (Ck D)<|Cm<|?_;exact fun a W p b=>⟨AY p,b.pick [1]⟩
    refine Bw SY fun z=>A8 []<|Bh 4 D<|?_;refine Ba Mh D (fun w b=>(gR _ _ _ _ (AI l 0) (AI l 1) w (m.below b.A0 (Br _)) ((Lr 0 (Bx f)) w b) En ((Lr 1 (Bx f)) w b) En).mono fun e W q=>(⟨q.2.1 _ g,q.2.2⟩:_∧_)) fun _ e W b ⟨he,J⟩=>⟨_,_,he,b.below J,?_⟩
    refine A8 []<|Ab 5 D (AA D)<|Ab 6 D (El D D)<|Ab 7 D (El D D)<|Bh 9 D<|Bk 0 0 5 D D D<|?_;refine A8 []<|Ab 10 D (Ck D)<|Cm<|?_;exact fun a W p b=>⟨AY p,b.pick [1]⟩
   rintro a W ⟨p,b⟩;revert a W;refine K ?_;refine Ix JY D D<|K ?_;cases v:sY l with
   |ok C=>
    refine K ?_;refine U<|Ba Pd D (fun w b=>(jG _ _ _ l w (m.below b.A0 (Br _)) ((Bx f) w b) hl).mono fun e W q=>(⟨q.1 _ v,q.2.2⟩:_∧_)) fun _ e W b ⟨he,J⟩=>⟨_,_,he,b.below J,?_⟩
    refine Bc D D<|Bc D D<|U<|Bk 0 0 5 D D D<|?_;refine K ?_;refine Gl Bs 0 D D D fun W b=>?_;have d:s0 l=sY l:=by unfold s0;rw[g];exact if_neg t
    rw[v]at d;exact⟨fun s h=>(by rw[d]at h;cases h;rfl),fun r h=>(by rw[d]at h;cases h),b.A0⟩
   |error F=>
    refine K ?_;refine U<|Ba Pd D (fun w b=>(jG _ _ _ l w (m.below b.A0 (Br _)) ((Bx f) w b) hl).mono fun e W q=>(⟨q.2.1 _ v,q.2.2⟩:_∧_)) fun _ e W b ⟨he,J⟩=>⟨_,_,he,b.below J,?_⟩
    refine Bc D D<|Bc D D<|U<|Bk 0 0 5 D D D<|?_;refine K ?_;refine Gl Bs 0 D D D fun W b=>?_;have d:s0 l=sY l:=by unfold s0;rw[g];exact if_neg t
    rw[v]at d;exact⟨fun s h=>(by rw[d]at h;cases h),fun r h=>(by rw[d]at h;cases h;rfl),b.A0⟩
def ke(l:rG)(n:Nat)(BB:UInt32):Prop:=∀t,t<4→l.getD (n+t) 0=((~~~(At.fd (l.take n))^^^BB)>>>(8*t).toUInt32).toUInt8
instance (l:rG) (n:Nat) (BB:UInt32):Decidable (ke l n BB):=by unfold ke;exact inferInstance
theorem qN(q:Option Addr)(m c n:Nat)(BB:UInt32)(l:rG)(w:World)(d:View w (I q m c) m 1 (bv l))(hl:l.length=m)(r:n+4≤m∧m≤1048576):Calls lp 50 #[I q m c,E n,Be .u32 BB.toNat] w (sM w (C' (decide (ke l n BB)))):=by
 refine Cg w Ty D 32<|K ?_;refine Af (Fi A3 0 n (Bx d) rfl .none (.some D))<|U<|BP nt D (fun w b=>qf (sp q 0 c 1) n c (l.take n) w ((Db 0 n (Bx d) (by rw[HE,jS])) w b) (by have:(l).length=m:=hl;simp only[FX];omega) JY)<|Jd D<|Af (J0 D D)<|K ?_;refine DL (fun k a W=>∃i,k=4 - i∧AH 32 a (Jb (Jb (Jb (Jb Jk 0 (I q m c)) 1 (E n)) 7 (Be .u32 (((~~~(At.fd (l.take n)))^^^BB).toNat))) 8 (E i))∧Sat C1 w [] W∧i≤4∧(∀t,t<i→l.getD (n+t) 0=((~~~(At.fd (l.take n))^^^BB)>>>(8*t).toUInt32).toUInt8)) (fun a W e b=>⟨0,D,AY e,b.pick [],JY,fun t h=>absurd h JY⟩) ?_;rintro _ a W ⟨i,rfl,e,b,V,hr⟩;revert a W;refine K ?_;refine Ej D D<|Jg<|Jf<|Cz D (fun o=>?_) fun o=>?_
 ·
  refine K ?_;refine B6 D D<|Af (Dj A3 (n+i) (n+i) (Bx d) D D)<|Af (Fj BV (n+i) (Bx d) D)<|Jd D<|Jd D<|Af (E3 (p:=8) D D)<|Af (Gg AF K1 D)<|Af (KO ((8*i).toUInt32) D D (s_ JY) JY)<|Af (Lj Wz BV D)<|JU D D<|Jg<|Jf<|HI D (fun j=>?_) fun j=>?_
  ·
   have f:¬l.getD (n+i) 0=((~~~(At.fd (l.take n))^^^BB)>>>(8*i).toUInt32).toUInt8:=fun q=>j (by rw[q]);refine A7 ?_;intro W b;rw[show decide (ke l n BB)=false from decide_eq_false (fun h=>f (h i JY))];exact⟨D,b.A0⟩
  have f:l.getD (n+i) 0=((~~~(At.fd (l.take n))^^^BB)>>>(8*i).toUInt32).toUInt8:=M'.1 JY;refine K ?_;refine B6 (q:=1) D D<|K ?_;exact fun a W e b=>⟨_,JY,i+1,D,AY e,b.pick [],JY,fun t h=>(s9 t i).elim (fun g=>hr t g) (fun g=>(show i=t by omega)▸f)⟩
 refine A7 ?_;intro W b;rw[show decide (ke l n BB)=true from decide_eq_true (fun t h=>hr t JY)];exact⟨D,b.A0⟩
