/- Laws and walks on the road to SalvagePlays (part M30). No conditions beyond each law's own. -/
import Derived.Test.YtjdboncaegphmaaGreatDoorM29
set_option linter.unusedVariables false
namespace Go.Proofs.YtjdboncaegphmaaGreatDoor
open Go.RowKit
set_option maxRecDepth 100000
set_option maxHeartbeats 2000000
theorem cW(x:Jc)(i:Nat)(w:World)(V:i≤4611686018427387904):
 Calls lp 152 #[rS [bv x.l],E i] w fun e w'=>e=.returned (.int .i64 ((Ea x.l i:Nat):Int))∧Below w.heap.size w w':=by
 have c:Below w.heap.size w w:=Cn _ _;refine DZ RB D 28 ?_;refine Ao<|AD<|Hf D ?_;intro t g j u m J;have y:=C8 c j;have c:=BG c J;refine AV (v:=(E 0)) D<|Aw<|Ai<|Ao<|Ao<|AD<|Az D<|?_;have n:¬(((i:Nat):Int)<((0:Nat):Int)):=JY;refine Zn n D D<|Az D<|ES D D D<|Az D<|?_
 by_cases d:((255:Nat):Int)<((i:Nat):Int)
 ·
  refine ES D D D<|ko d D D<|I0 D D<|Aw<|Ai<|Gf D<|Ao<|AD<|AV (v:=(E 0)) D<|Aw<|Ai<|C0<|DK<|EE D<|?_;exact⟨by rw[show Ea x.l i=0 from if_pos JY],c⟩
 ·
  refine ES D D D<|jX d D D<|I0 D D<|Aw<|Ai<|FQ D<|CA<|Ai<|Ao<|AD<|Az D<|Qe (q:=8) D D<|E' CI 1 (i/8) (i/8) D D<|D8 BV (Qh m x.h (i/8) JY) D<|Cc (fun _ b=>Ex b (p:=((((x.l.getD (i/8) 0).toNat:Nat):Int):Int)) (r:=(((x.l.getD (i/8) 0).toNat:Nat):Int)) D BV AF (JG ((x.l.getD (i/8) 0).toNat) (RE (Cj _) JZ)))<|AV D<|Aw<|Ai<|Ao<|Ao<|AD<|Az D<|Mz (q:=8) D D<|AV D<|Aw<|Ai<|B'<|?_;intro a b;refine Ec (fun o a W=>∃k v,o=7 - k∧W=g∧AH 28 a (Jb (Jb Jk 5 (E v)) 6 (E k))∧(i % 8≤k∧k≤7)∧Hid (v=(x.l.getD (i/8) 0).toNat/2^(k - i % 8))∧v<256) _ ⟨_,_,D,D,AY b,JY,AX (by rw[XT];simp),Cj _⟩ ?_;rintro _ a _ ⟨k,v,rfl,rfl,b,z,f,A⟩;revert a;refine Ao<|Ao<|AD<|Az D<|D_ (q:=(7:Nat)) D D<|Aw<|Ai<|DU D (fun s=>?_) fun s=>?_
  ·
   refine CA<|Ai<|Ao<|B'<|AD<|Az D<|Qe (q:=2) D D<|AV D<|Aw<|DN<|Ai<|AD<|Az D<|Dz (q:=1) D D<|AV D<|Aw<|Ai<|?_;intro a b;exact⟨_,JY,k+1,_,D,D,AY b,JY,AX (by rw[f.out,tW,show k+1 - i % 8=(k - i % 8)+1 by omega,fW]),JY⟩
  ·
   refine Dv<|BY<|BY<|Ds<|Ai<|Ao<|AD<|Az D<|Mz (q:=2) D D<|AV D<|Aw<|Ai<|C0<|EE D<|?_;exact⟨by rw[show Ea x.l i=v % 2 from by rw[f.out,show k - i % 8=7 - i % 8 by omega];exact if_neg JY],c⟩
theorem mY(x y:Jc)(w:World):
 Calls lp 149 #[rS [bv x.l],rS [bv y.l]] w fun e w'=>e=.returned (.int .i64 ((L4 x.l y.l:Nat):Int))∧Below w.heap.size w w':=by
 have b:Below w.heap.size w w:=Cn _ _;refine DZ aZ D 22 ?_;refine Ao<|AD<|Hf D ?_;intro k s d n H2 J;have t:=C8 b d;have b:=BG b J;refine Hf D ?_;intro m u d n c J;have z:=C8 b d;have A:=C6 H2 d;have H2:=Bl H2 J;have b:=BG b J;refine AV (v:=(E 0)) D<|Aw<|Ai<|Ao<|Ao<|AD<|AV (v:=(E 0)) D<|Aw<|Ai<|B'<|?_;intro a f;refine Ec (fun o a W=>∃i,o=256 - i∧AH 22 a (Jb (Jb (Jb Jk 2 (S k)) 3 (S m)) 5 (E i))∧i≤256∧Hid (∀j,j<i→Ea x.l j=Ea y.l j)∧CY W k [bv x.l] 48∧CY W m [bv y.l] 48∧Below w.heap.size w W) _ ⟨0,D,AY f,F2 _,AX (fun j hj=>JY),H2,c,b⟩ ?_;rintro _ a B ⟨i,rfl,f,V,he,H2,c,b⟩;revert a;refine Ao<|Ao<|AD<|Az D<|D_ (q:=(256:Nat)) D D<|Aw<|Ai<|DU D (fun p=>?_) fun p=>?_
 ·
  refine CA<|Ai<|Ao<|B'<|Ao<|AD<|Ef CI H2 D<|Az D<|CL RB D (cW x i _ JY) ?_;rintro _ C ⟨rfl,g⟩;refine⟨_,D,?_⟩;have H2:=Bl H2 g;have c:=Bl c g;have b:=BG b g;refine AV D<|Aw<|Ai<|Ao<|AD<|Ef CI c D<|Az D<|CL RB D (cW y i _ JY) ?_;rintro _ F ⟨rfl,h⟩;refine⟨_,D,?_⟩;have H2:=Bl H2 h;have c:=Bl c h;have b:=BG b h;refine AV D<|Aw<|Ai<|Ao<|AD<|Az D<|Az D<|Rq D D<|Aw<|Ai<|OM D (fun r=>?_) fun r=>?_
  ·
   refine Ao<|AD<|Az D<|AV D<|Aw<|Ai<|C0<|FE<|DK<|DK<|FE<|DK<|EE D<|?_;exact⟨by rw[pS (i:=i) JY he.out JY],b⟩
  ·
   refine CA<|DN<|Ai<|AD<|Az D<|Dz (q:=1) D D<|AV D<|Aw<|Ai<|?_;intro a f;exact⟨_,JY,i+1,D,AY f,JY,AX (j2 he.out JY),H2,c,b⟩
 ·
  refine Dv<|BY<|BY<|Ds<|Ai<|Ao<|AD<|AV (v:=(E 256)) D<|Aw<|Ai<|C0<|EE D<|?_;exact⟨by rw[rN (fun j hj=>he.out j JY)],b⟩
theorem dA(l:rG)(i:Nat)(h:i<l.length):l.take i++[l.getD i 0]=l.take (i+1):=by
 rw[Ol,F3 h,Dm,F3 h];rfl
theorem ir:∀(l m:rG),l.length=m.length→FT l m=0→l=m:=by
 intro l
 induction l with
 |nil=>intro m h _;match m,h with|[],_=>rfl
 |cons x l b=>
  intro m h a
  match m,h with
  |y::m,h=>
   simp only[Cw,po]at h;unfold FT at a
   by_cases e:x=y
   ·rw[if_pos e]at a;rw[e,b m h a]
   ·rw[if_neg e]at a;split at a<;>omega
theorem Xa:∀(l m:rG),l.length=m.length→FT m l= - FT l m:=by
 intro l
 induction l with
 |nil=>intro m h;match m,h with|[],_=>unfold FT;rfl
 |cons x l a=>
  intro m h
  match m,h with
  |y::m,h=>
   simp only[Cw,po]at h;unfold FT
   by_cases e:x=y
   ·rw[if_pos e,if_pos e.symm];exact a m h
   ·rw[if_neg e,if_neg (Ne.symm e)];have:x.toNat≠y.toNat:=fun q=>e (M'.1 q)
    by_cases q:x.toNat<y.toNat
    ·rw[if_pos q,if_neg JY];rfl
    ·rw[if_neg q,if_pos JY]
variable {A R:List Eh} {B:List MN} {i j:Nat} {x:Eh} {y:MN}
def Gk:List UInt8→Nat
 |[]=>0
 |x::l=>x.toNat*2^(8*l.length)+Gk l
theorem Oy(l:rG):Gk l<2^(8*l.length):=by
 induction l with
 |nil=>simp[Gk]
 |cons x l c=>
  have h1:x.toNat<256:=x.toNat_lt;have a:2^(8*(l.length+1))=256*2^(8*l.length):=by rw[jW,ud,RV]
  simp only[Gk,Cw,a];have b:(x.toNat+1)*2^(8*l.length)≤256*2^(8*l.length):=Xr _ h1;rw[iO,fC]at b;omega
theorem St:∀(l m:rG),l.length=m.length→(FT l m<0↔Gk l<Gk m):=by
 intro l
 induction l with
 |nil=>intro m h;match m,h with|[],_=>simp[FT,Gk]
 |cons x l a=>
  intro m h
  match m,h with
  |y::m,h=>
   simp only[Cw,po]at h;unfold FT;simp only[Gk,h]
   by_cases e:x=y
   ·subst e;rw[if_pos D,a m h];omega
   ·rw[if_neg e];have b:x.toNat≠y.toNat:=fun q=>e (M'.1 q);have hl:=Oy l;have hm:=Oy m;rw[h]at hl
    by_cases q:x.toNat<y.toNat
    ·rw[if_pos q];have:(x.toNat+1)*2^(8*m.length)≤y.toNat*2^(8*m.length):=Xr _ q;rw[iO,fC]at this;constructor
     ·intro _;omega
     ·intro _;decide
    ·rw[if_neg q];have:(y.toNat+1)*2^(8*m.length)≤x.toNat*2^(8*m.length):=Xr _ JY;rw[iO,fC]at this;constructor
     ·intro h;exact absurd h JZ
     ·intro _;omega
theorem Rd:∀(l:rG) (i:Nat),i<8*l.length→Gk l/2^(8*l.length - 1 - i) % 2=(l.getD (i/8) 0).toNat/2^(7 - i % 8) % 2:=by
 intro l
 induction l with
 |nil=>intro i h;simp at h
 |cons x l b=>
  intro i h;simp only[Cw]at h;have J:=Oy l;simp only[Gk,Cw];generalize j:8*l.length=L at*
  rcases s9 i 8 with q|q
  ·have e:8*(l.length+1) - 1 - i=L+(7 - i):=JY;have a:i/8=0:=JY;have h1:i % 8=i:=JY;rw[e,ud,←tW,a,h1];have:(x.toNat*2^L+Gk l)/2^L=x.toNat:=by
    rw[RV,nx (jn _),QA J,tA]
   rw[this];rfl
  ·have e:8*(l.length+1) - 1 - i=L - 1 - (i - 8):=JY;have Ad:∃d r,L - 1 - (i - 8)=d∧L=d+(r+1):=⟨L - 1 - (i - 8),i - 8,D,JY⟩
   obtain⟨d,r,c,f⟩:=Ad;have a:i/8=(i - 8)/8+1:=JY;have h1:i % 8=(i - 8) % 8:=JY;have:=b (i - 8) JY;rw[e,a,h1,ui,←this,c];have g:x.toNat*2^L=2^d*(x.toNat*2^r*2):=by
    rw[f,ud,fW];simp only[RV,Nat.mul_left_comm,Nat.mul_assoc]
   rw[g,nx (jn _),Nat.add_mod,Nat.mul_mod_left,IC,Nat.mod_mod]
theorem ZU(x:Jc)(i:Nat)(h:i<256):Ea x.l i=Gk x.l/2^(255 - i) % 2:=by
 unfold Ea;rw[if_neg JY];have:=Rd x.l i (by rw[x.h];omega);rw[x.h]at this;rw[←this]
theorem Pv(x:Jc)(n:Nat)(h:n<256):Gk x.l/2^(255 - n)=2*(Gk x.l/2^(256 - n))+Ea x.l n:=by
 rw[ZU x n h,show 256 - n=(255 - n)+1 by omega,fW,←tW];omega
theorem Xq(x y:Jc):∀n,n≤256→(∀i,i<n→Ea x.l i=Ea y.l i)→Gk x.l/2^(256 - n)=Gk y.l/2^(256 - n):=by
 intro n
 induction n with
 |zero=>
  intro _ _;have h1:=Oy x.l;have a:=Oy y.l;rw[x.h]at h1;rw[y.h]at a;rw[jS,QA h1,QA a]
 |succ n b=>
  intro c h;have:=b JY (fun i V=>h i JY);rw[show 256 - (n+1)=255 - n by omega,Pv x n JY,Pv y n JY,this,h n JY]
theorem P5{l m:rG}{n:Nat}(a:n≤256):n≤L4 l m↔∀i,i<n→Ea l i=Ea m i:=by
 unfold L4;cases h:(List.range 256).find? (fun i=>Ea l i !=Ea m i)with
 |none=>
  rw[lP]at h;constructor
  ·intro _ i V;simpa using h i (QZ.2 JY)
  ·intro _;exact a
 |some j=>
  rw[mr]at h;obtain⟨h1,c,b⟩:=h;constructor
  ·intro q i V;simpa using b i (by simp at q;omega)
  ·intro q;show n≤j
   rcases s9 j n with r|r
   ·have:=q j r;simp[this]at h1
   ·exact r
theorem fR{x y:Jc}(h:256≤L4 x.l y.l):x.l=y.l:=by
 have h1:=Xq x y 256 (Br _) ((P5 (Br _)).1 h);simp at h1;have a:=St x.l y.l (by rw[x.h,y.h]);have b:=St y.l x.l (by rw[x.h,y.h]);have c:=Xa x.l y.l (by rw[x.h,y.h]);refine ir _ _ (by rw[x.h,y.h]) ?_;rw[h1]at a b;have d:¬FT x.l y.l<0:=fun q=>mS _ (a.1 q);have e:¬FT y.l x.l<0:=fun q=>mS _ (b.1 q);omega
def Kk(L:List Eh):List (List UInt8×List UInt8):=L.map (fun x=>(x.k.l,x.s.v))
end Go.Proofs.YtjdboncaegphmaaGreatDoor
namespace Go.Proofs.YtjdboncaegphmaaGreatDoor.BM
open Go.Proofs.YtjdboncaegphmaaGreatDoor
set_option linter.unusedVariables false
theorem mP(d:Fin 256):d.val≠0→AL.Ov (UInt8.ofNat d.val)<8∧d.val.testBit (7 - AL.Ov (UInt8.ofNat d.val))=true∧∀k:Fin 8,k.val<AL.Ov (UInt8.ofNat d.val)→d.val.testBit (7 - k.val)=false:=by
 revert d;decide+kernel
theorem iU(l:rG){i:Nat}(h:i<256):Ea l i=((l.getD (i/8) 0).toNat.testBit (7 - i % 8)).toNat:=by
 rw[dJ JY,Nat.toNat_testBit]
theorem cG(a b:UInt8)(k:Nat):(a^^^b).toNat.testBit k=(a.toNat.testBit k^^b.toNat.testBit k):=by rw[kA,Nat.testBit_xor]
theorem jY(x y:rG):AL.J5 x y=L4 x y:=by
 have hle:L4 x y≤256:=by
  unfold L4;cases h:(List.range 256).find? (fun i=>Ea x i !=Ea y i)with
  |none=>exact Br _
  |some j=>have:=QZ.1 (oo h);simp only[QW];omega
 have bytes:∀j,x.getD j 0^^^y.getD j 0=0→∀i,i<256→i/8=j→Ea x i=Ea y i:=by
  intro j hj i V e;have:x.getD j 0=y.getD j 0:=UInt8.xor_eq_zero_iff.1 hj;rw[iU x V,iU y V,e,this]
 unfold AL.J5;cases a:(List.range 32).find? (fun i=>decide (x.getD i 0^^^y.getD i 0≠0))with
 |none=>
  rw[lP]at a;refine(Nat.le_antisymm hle ((P5 (Br _)).2 fun i V=>?_)).symm;exact bytes (i/8) (by simpa using a (i/8) (QZ.2 JY)) i V D
 |some j=>
  have hj:=mr.1 a;obtain⟨h1,b,c⟩:=hj;have b:j<32:=QZ.1 b;simp only;generalize Ad:x.getD j 0^^^y.getD j 0=d at h1⊢;have f:d.toNat≠0:=fun q=>by
   have:d=0:=M'.1 q;subst this;exact absurd h1 JZ
  obtain⟨g,J,hl⟩:=mP ⟨d.toNat,Cj d⟩ f;simp only[o9]at g J hl;refine Nat.le_antisymm ((P5 JY).2 fun i V=>?_) ?_
  ·rcases s9 (i/8) j with q|q
   ·exact bytes (i/8) (by simpa using c (i/8) q) i JY D
   ·have e:i/8=j:=JY;have:=hl ⟨i % 8,JY⟩ (by show i % 8<_;omega);rw[←Ad,cG]at this;rw[iU x JY,iU y JY,e];revert this;cases(x.getD j 0).toNat.testBit (7 - i % 8)<;>cases(y.getD j 0).toNat.testBit (7 - i % 8)<;>simp
  ·apply Classical.byContradiction;intro l;have k:8*j+AL.Ov d+1≤L4 x y:=JY;have:=(P5 JY).1 k (8*j+AL.Ov d) JY;rw[iU x JY,iU y JY,show(8*j+AL.Ov d)/8=j by omega,show(8*j+AL.Ov d) % 8=AL.Ov d by omega]at this;rw[←Ad,cG,Ad]at J;revert this J;cases(x.getD j 0).toNat.testBit (7 - AL.Ov d)<;>cases(y.getD j 0).toNat.testBit (7 - AL.Ov d)<;>simp
def s8(r:G.Ae):Prop:=r.b≤256∧∀i,r.b≤i→Ea r.k.l i=0
def Ng(r s:G.Ae):Prop:=r.b≤s.b∧∀i,i<r.b→Ea r.k.l i=Ea s.k.l i
theorem sA{x y:Jc}(h:∀i,i<256→Ea x.l i=Ea y.l i):x=y:=Jc.ext (fR ((P5 (Br _)).2 h))
theorem Ng.refl(r:G.Ae):Ng r r:=⟨Br _,fun _ _=>rfl⟩
theorem Ng.trans{a b c:G.Ae}(h:Ng a b)(d:Ng b c):Ng a c:=⟨Eg h.1 d.1,fun i V=>(h.2 i V).trans (d.2 i (Wb V h.1))⟩
theorem jA{r s:G.Ae}(h:r.b=s.b)(a:r.k=s.k):r=s:=by cases r;cases s;cases h;cases a;rfl
theorem Ng.eq{r s:G.Ae}(hr:s8 r)(a:s8 s)(h:Ng r s)(J:r.b=s.b):r=s:=jA J (sA fun i _=>by
 rcases s9 i r.b with q|q
 ·exact h.2 i q
 ·rw[hr.2 i q,a.2 i JY])
theorem s8.zero:s8 ⟨0,CU⟩:=⟨F2 _,fun i _=>by
 unfold Ea;split
 ·rfl
 ·show((List.replicate 32 (0:UInt8)).getD (i/8) 0).toNat/_ % 2=0;rw[Dm,eg,if_pos JY];simp⟩
section
variable {r s:G.Ae} {x:Nat}
theorem jq(hr:s8 r)(J:r.b<256)(f:x<2)(i:Nat):Ea (G.under r x).k.l i=if i=r.b then x else Ea r.k.l i:=by
 rcases s9 i 256 with V|V
 ·have g:=r.k.h;have hu:(r.k.l.getD (r.b/8) 0|||UInt8.ofNat (x*2^(7 - r.b % 8))).toNat=(r.k.l.getD (r.b/8) 0).toNat|||(x*2^(7 - r.b % 8)):=by
   have c:2^(7 - r.b % 8)≤2^7:=aI JZ JY;have:x*2^(7 - r.b % 8)<256:=by
    have:=l2 (show x≤1 by omega) c;omega
   rw[UInt8.toNat_or,ps,s_ (by simpa using this)]
  have d:(r.k.l.getD (r.b/8) 0).toNat.testBit (7 - r.b % 8)=false:=by
   have:=hr.2 r.b (Br _);rw[iU _ J]at this;revert this;cases(r.k.l.getD (r.b/8) 0).toNat.testBit (7 - r.b % 8)<;>simp
  rw[iU _ V,iU _ V];show(((r.k.l.set (r.b/8) (r.k.l.getD (r.b/8) 0|||UInt8.ofNat (x*2^(7 - r.b % 8)))).getD (i/8) 0).toNat.testBit (7 - i % 8)).toNat=_
  by_cases he:i/8=r.b/8
  ·have e:(r.k.l.set (r.b/8) (r.k.l.getD (r.b/8) 0|||UInt8.ofNat (x*2^(7 - r.b % 8)))).getD (i/8) 0=r.k.l.getD (r.b/8) 0|||UInt8.ofNat (x*2^(7 - r.b % 8)):=by
    rw[he,Dm,oM JY];rfl
   rw[e,hu,Nat.testBit_or,he]
   by_cases a:i=r.b
   ·subst a;rw[if_pos D,d,Bool.false_or]
    rcases(show x=0∨x=1 by omega)with rfl|rfl
    ·simp
    ·simp
   ·rw[if_neg a];have:(x*2^(7 - r.b % 8)).testBit (7 - i % 8)=false:=by
     rcases(show x=0∨x=1 by omega)with rfl|rfl
     ·simp
     ·rw[fC,Nat.testBit_two_pow,decide_eq_false JY]
    rw[this,Bool.or_false]
  ·rw[if_neg (fun q=>he (by rw[q])),Dm,List.getElem?_set_ne (fun q=>he q.symm),←Dm]
 ·rw[T4,T4,if_neg JY]
theorem s8.under(hr:s8 r)(J:r.b<256)(a:x<2):s8 (G.under r x):=⟨by show r.b+1≤256;omega,fun i V=>by
 have V:r.b+1≤i:=V;rw[jq hr J a,if_neg JY];exact hr.2 i JY⟩
theorem Ng.under(hr:s8 r)(J:r.b<256)(a:x<2):Ng r (G.under r x):=⟨by show r.b≤r.b+1;omega,fun i V=>by rw[jq hr J a,if_neg JY]⟩
theorem Ng.bit(hr:s8 r)(J:r.b<256)(a:x<2)(h:Ng (G.under r x) s):r.b<s.b∧Ea s.k.l r.b=x:=by
 have h1:r.b+1≤s.b:=h.1;refine⟨JY,?_⟩;have:=h.2 r.b (by show r.b<r.b+1;omega);rw[jq hr J a,if_pos D]at this;exact this.symm
end
section
variable {nd:Nat→Option G.Dh}
def sub(nd:Nat→Option G.Dh):Nat→Nat→G.Ae→List (G.Ae×Nat)
 |0,_,_=>[]
 |f+1,p,r=>(r,p)::((if((nd p).getD G.DJ).Bd=1∨((nd p).getD G.DJ).l=0 then []else sub nd f ((nd p).getD G.DJ).l (G.under r 0))++(if((nd p).getD G.DJ).Bd=1∨((nd p).getD G.DJ).r=0 then []else sub nd f ((nd p).getD G.DJ).r (G.under r 1)))
theorem lx{n:G.Dh}{p f:Nat}{r:G.Ae}(h:nd p=some n)(a:n.Bd=1):sub nd (f+1) p r=[(r,p)]:=by
 rw[sub];simp only[h,QW,a,true_or,if_true,Ha]
theorem nC{n:G.Dh}{p f:Nat}{r:G.Ae}(h:nd p=some n)(a:¬n.Bd=1):sub nd (f+1) p r=(r,p)::((if n.l=0 then []else sub nd f n.l (G.under r 0))++(if n.r=0 then []else sub nd f n.r (G.under r 1))):=by
 rw[sub];simp only[h,QW,a,false_or]
theorem rv{f p:Nat}{r:G.Ae}{x:G.Ae×Nat}(h:x∈sub nd (f+1) p r):x=(r,p)∨x∈sub nd f ((nd p).getD G.DJ).l (G.under r 0)∨x∈sub nd f ((nd p).getD G.DJ).r (G.under r 1):=by
 rw[sub,tO,GM]at h
 rcases h with h|h|h
 ·exact .inl h
 ·split at h
  ·cases h
  ·exact .inr (.inl h)
 ·split at h
  ·cases h
  ·exact .inr (.inr h)
theorem tQ:∀(f p:Nat) (r:G.Ae),s8 r→f+r.b=257→∀x∈sub nd f p r,s8 x.1∧Ng r x.1:=by
 intro f
 induction f with
 |zero=>intro p r hr d x a;cases a
 |succ f e=>
  intro p r hr d x a;have key:∀(y q:Nat),y<2→x∈sub nd f q (G.under r y)→s8 x.1∧Ng r x.1:=by
   intro y q c h;cases f with
   |zero=>cases h
   |succ f=>
    have h1:=e q (G.under r y) (hr.under JY c) (by show f+1+(r.b+1)=257;omega) x h;exact⟨h1.1,(Ng.under hr JY c).trans h1.2⟩
  rcases rv a with rfl|h|h
  ·exact⟨hr,Ng.refl r⟩
  ·exact key 0 _ JZ h
  ·exact key 1 _ JZ h
def te(r s:G.Ae):Bool:=decide (r.b≤s.b)&&decide (r.b≤L4 s.k.l r.k.l)
theorem p3{r s:G.Ae}(hr:s8 r):te r s=true↔Ng r s:=by
 unfold te Ng;rw[Kq,decide_eq_true_eq,decide_eq_true_eq,P5 hr.1];exact⟨fun h=>⟨h.1,fun i V=>(h.2 i V).symm⟩,fun h=>⟨h.1,fun i V=>(h.2 i V).symm⟩⟩
theorem ql:∀(f p:Nat) (r:G.Ae),s8 r→f+r.b=257→∀a q,(a,q)∈sub nd f p r→(sub nd f p r).filter (fun x=>te a x.1)=sub nd (257 - a.b) q a:=by
 intro f
 induction f with
 |zero=>intro p r hr s a q h;cases h
 |succ f t=>
  intro p r hr s a q h;have u:=tQ (nd:=nd) (f+1) p r hr s;have A:=u _ h
  rcases rv h with e|d|d
  ·cases e;rw[List.filter_eq_self.2 (fun x i=>(p3 hr).2 (u x i).2),show 257 - r.b=f+1 by omega]
  all_goals
   cases f with
   |zero=>cases d
   |succ f=>
    have J:r.b<256:=JY;have w0:=hr.under J (x:=0) JZ;have j:=hr.under J (x:=1) JZ;have f0:f+1+(G.under r 0).b=257:=by show f+1+(r.b+1)=257;omega
    have f1:f+1+(G.under r 1).b=257:=by show f+1+(r.b+1)=257;omega
    have v:∀x,te a x=true→Ng a x:=fun x i=>(p3 A.1).1 i;have self:te a r=false:=by
     apply gC.2;intro Ad;have h1:=(v r Ad).1
     first
      |have w:r.b+1≤a.b:=(tQ (nd:=nd) _ _ _ w0 f0 _ d).2.1
       omega
      |have w:r.b+1≤a.b:=(tQ (nd:=nd) _ _ _ j f1 _ d).2.1
       omega
    have tJ:∀(y k:Nat) (g:Nat) (z:y<2) (n:k<2),y≠k→Ng (G.under r y) a→(sub nd (f+1) g (G.under r k)).filter (fun x=>te a x.1)=[]:=by
     intro y k g z n E Ad;rw[List.filter_eq_nil_iff];intro x i B;have h1:=(Ad.trans (v _ B)).bit hr J z;have w:=(tQ (nd:=nd) _ _ _ (hr.under J n) (by show f+1+(r.b+1)=257;omega) x i).2.bit hr J n;omega
    have i:∀(c:Prop) [Decidable c] (l m:List (G.Ae×Nat)),((if c then l else m).filter (fun x=>te a x.1))=if c then l.filter (fun x=>te a x.1)else m.filter (fun x=>te a x.1):=fun c _ l m=>by split<;>rfl
    rw[sub,tO,GM]at h;rw[sub,List.filter_cons_of_neg (by rw[self];decide),lL,i,i,l3]
    first
     |have Ad:=(tQ (nd:=nd) _ _ _ w0 f0 _ d).2
      have e:=t _ _ w0 f0 a q d;rw[tJ 0 1 _ JZ JZ JZ Ad,ite_self,Ha,e];split
      ·rename_i o
       rcases h with h|h|h
       ·cases h;have:=Ad.1;have:r.b+1≤r.b:=this;omega
       ·rw[if_pos o]at h;cases h
       ·split at h
        ·cases h
        ·have C:=(tQ (nd:=nd) _ _ _ j f1 _ h).2.bit hr J JZ;have D:=Ad.bit hr J JZ;omega
      ·rfl
     |have Ad:=(tQ (nd:=nd) _ _ _ j f1 _ d).2
      have e:=t _ _ j f1 a q d;rw[tJ 1 0 _ JZ JZ JZ Ad,ite_self,Hg,e];split
      ·rename_i o
       rcases h with h|h|h
       ·cases h;have:=Ad.1;have:r.b+1≤r.b:=this;omega
       ·split at h
        ·cases h
        ·have C:=(tQ (nd:=nd) _ _ _ w0 f0 _ h).2.bit hr J JZ;have D:=Ad.bit hr J JZ;omega
       ·rw[if_pos o]at h;cases h
      ·rfl
def jL(n:G.Dh)(r:G.Ae):Prop:=n.Bd=1→∀i,i<r.b→Ea n.k.l i=Ea r.k.l i
structure L' (nd:Nat→Option G.Dh) (rows:List (G.Ae×Nat)) (Fz:List (Jc×Nat)) (R:List (G.Ae×Nat)):Prop where
 row:∀r p,G.get rows r=some p↔(r,p)∈R
 vn:∀k p,G.get Fz k=some p↔∃r n,(r,p)∈R∧nd p=some n∧n.Bd=1∧n.k=k
 wf:∀x∈R,s8 x.1∧∃n,nd x.2=some n∧jL n x.1
theorem L'.nil:L' nd [] [] []:=⟨fun r p=>by simp[G.get],fun k p=>by simp[G.get],fun x h=>by cases h⟩
theorem L'.perm{rows:List (G.Ae×Nat)}{Fz:List (Jc×Nat)}{R R':List (G.Ae×Nat)}(h:L' nd rows Fz R)(e:∀x,x∈R↔x∈R'):L' nd rows Fz R':=
 ⟨fun r p=>(h.row r p).trans (e _),fun k p=>(h.vn k p).trans ⟨fun⟨r,n,a,b⟩=>⟨r,n,(e _).1 a,b⟩,fun⟨r,n,a,b⟩=>⟨r,n,(e _).2 a,b⟩⟩,fun x c=>h.wf x ((e x).2 c)⟩
def bS(nd:Nat→Option G.Dh)(R:List (G.Ae×Nat))(r:G.Ae):Prop:=∀x∈R,¬Ng r x.1∧∀n,nd x.2=some n→n.Bd=1→¬Ng x.1 r
section
variable {rows:List (G.Ae×Nat)} {Fz:List (Jc×Nat)} {R:List (G.Ae×Nat)} {r:G.Ae} {p:Nat} {n:G.Dh}
theorem L'.leaf(h:L' nd rows Fz R)(hr:s8 r)(j:nd p=some n)(l:n.Bd=1)(V:jL n r)(m:bS nd R r):L' nd (G.put rows r p) (G.put Fz n.k p) (R++[(r,p)]):=by
 refine⟨fun a t=>?_,fun k t=>?_,fun x u=>?_⟩
 ·rw[G.OZ,GM,YU]
  by_cases e:r=a
  ·subst e;rw[if_pos D];constructor
   ·intro q;cases q;exact .inr D
   ·rintro(q|q)
    ·exact absurd (Ng.refl r) (m _ q).1
    ·cases q;rfl
  ·rw[if_neg e,h.row];exact⟨.inl,fun q=>q.elim id fun q=>by cases q;exact absurd D e⟩
 ·rw[G.OZ]
  by_cases e:n.k=k
  ·subst e;rw[if_pos D];constructor
   ·intro q;cases q;exact⟨r,n,by simp,j,l,D⟩
   ·rintro⟨a,d,q,c,g,Ca⟩
    rcases GM.1 q with q|q
    ·exfalso;have h1:=m _ q;obtain⟨v,w,o,f⟩:=h.wf _ q;rw[c]at o;cases o;have f:=f g;rw[Ca]at f;have s:=V l
     rcases Nat.le_total r.b a.b with z|z
     ·exact h1.1 ⟨z,fun i V=>(s i V).symm.trans (f i (Wb V z))⟩
     ·exact h1.2 d c g ⟨z,fun i V=>(f i V).symm.trans (s i (Wb V z))⟩
    ·have:=YU.1 q;cases this;rfl
  ·rw[if_neg e,h.vn];constructor
   ·rintro⟨a,d,q,b⟩;exact⟨a,d,S5 _ q,b⟩
   ·rintro⟨a,d,q,c,g,Ca⟩
    rcases GM.1 q with q|q
    ·exact⟨a,d,q,c,g,Ca⟩
    ·have:=YU.1 q;cases this;rw[j]at c;cases c;exact absurd Ca e
 ·rcases GM.1 u with q|q
  ·exact h.wf x q
  ·rw[YU.1 q];exact⟨hr,n,j,V⟩
theorem L'.ER(h:L' nd rows Fz R)(hr:s8 r)(f:nd p=some n)(g:¬n.Bd=1)(j:∀x∈R,x.1≠r):L' nd (G.put rows r p) Fz (R++[(r,p)]):=by
 refine⟨fun a l=>?_,fun k l=>?_,fun x m=>?_⟩
 ·rw[G.OZ,GM,YU]
  by_cases e:r=a
  ·subst e;rw[if_pos D];constructor
   ·intro q;cases q;exact .inr D
   ·rintro(q|q)
    ·exact absurd D (j _ q)
    ·cases q;rfl
  ·rw[if_neg e,h.row];exact⟨.inl,fun q=>q.elim id fun q=>by cases q;exact absurd D e⟩
 ·rw[h.vn];constructor
  ·rintro⟨a,c,q,b⟩;exact⟨a,c,S5 _ q,b⟩
  ·rintro⟨a,c,q,d,i,Ca⟩
   rcases GM.1 q with q|q
   ·exact⟨a,c,q,d,i,Ca⟩
   ·have:=YU.1 q;cases this;rw[f]at d;cases d;exact absurd i g
 ·rcases GM.1 m with q|q
  ·exact h.wf x q
  ·rw[YU.1 q];exact⟨hr,n,f,fun q=>absurd q g⟩
theorem bS.left(a:bS nd R r)(hr:s8 r)(J:r.b<256){X:List (G.Ae×Nat)}(e:∀x∈X,Ng (G.under r 0) x.1):bS nd (R++X) (G.under r 1):=by
 intro x f
 rcases GM.1 f with q|q
 ·refine⟨fun Ad=>(a x q).1 ((Ng.under hr J JZ).trans Ad),fun n c d Ad=>?_⟩
  rcases s9 r.b x.1.b with z|z
  ·have h:x.1.b≤r.b+1:=Ad.1;refine(a x q).1 ⟨JY,fun i V=>?_⟩;have h1:=Ad.2 i JY;rw[jq hr J JZ,if_neg JY]at h1;exact h1.symm
  ·refine(a x q).2 n c d ⟨z,fun i V=>?_⟩;have h1:=Ad.2 i V;rw[jq hr J JZ,if_neg JY]at h1;exact h1
 ·have g:=(e x q).bit hr J JZ;refine⟨fun Ad=>?_,fun n c d Ad=>?_⟩
  ·have:=Ad.bit hr J JZ;omega
  ·have h1:=Ad.2 r.b g.1;rw[jq hr J JZ,if_pos D]at h1;omega
theorem bS.under(a:bS nd R r)(hr:s8 r)(J:r.b<256){y:Nat}(c:y<2):bS nd R (G.under r y):=by
 intro x q;refine⟨fun Ad=>(a x q).1 ((Ng.under hr J c).trans Ad),fun n d e Ad=>?_⟩
 rcases s9 r.b x.1.b with z|z
 ·have f:x.1.b≤r.b+1:=Ad.1;refine(a x q).1 ⟨JY,fun i V=>?_⟩;have h1:=Ad.2 i JY;rw[jq hr J c,if_neg JY]at h1;exact h1.symm
 ·refine(a x q).2 n d e ⟨z,fun i V=>?_⟩;have h1:=Ad.2 i V;rw[jq hr J c,if_neg JY]at h1;exact h1
theorem bS.snoc(h:bS nd R (G.under r 0))(hr:s8 r)(J:r.b<256)(c:nd p=some n)(d:¬n.Bd=1){y:Nat}(i:y<2)(e:bS nd R (G.under r y)):bS nd (R++[(r,p)]) (G.under r y):=by
 intro x f
 rcases GM.1 f with q|q
 ·exact e x q
 ·rw[YU.1 q];refine⟨fun Ad=>?_,fun j a g=>?_⟩
  ·have:r.b+1≤r.b:=Ad.1;omega
  ·rw[c]at a;cases a;exact absurd g d
end
theorem jU:∀(f p:Nat) (r:G.Ae) (s:G.B4) (R:List (G.Ae×Nat)),f+r.b=257→s8 r→bS nd R r→(∀x∈sub nd f p r,∃n,nd x.2=some n∧jL n x.1)→L' nd s.rows s.Fz R→L' nd (G.Bn nd f p r s).rows (G.Bn nd f p r s).Fz (R++sub nd f p r):=by
 intro f
 induction f with
 |zero=>intro p r s R u hr;have:=hr.1;omega
 |succ f k=>
  intro p r s R u hr i j h;obtain⟨n,g,V⟩:=j (r,p) (by rw[sub];exact List.mem_cons_self)
  by_cases d:n.Bd=1
  ·rw[XD g d,lx g d];unfold G.note;rw[if_pos d];exact h.leaf hr g d V i
  ·have e:=nC (f:=f) (r:=r) g d;rw[e]at j⊢;have h1:L' nd (G.note s r p n).rows (G.note s r p n).Fz (R++[(r,p)]):=by
    unfold G.note;rw[if_neg d];exact h.ER hr g d (fun x a q=>(i x a).1 (q▸Ng.refl _))
   rw[SP g d];cases f with
   |zero=>
    have B:r.b=256:=JY;have z:∀q m,G.Bn nd 0 q m=fun s=>s:=fun q m=>rfl;simp only[z,ite_self];have v:∀q o,sub nd 0 q o=[]:=fun q o=>rfl;simp only[v,ite_self,Ha];exact h1
   |succ f=>
    have J:r.b<256:=JY;have w:bS nd (R++[(r,p)]) (G.under r 0):=(i.under hr J JZ).snoc hr J g d JZ (i.under hr J JZ);have hl:L' nd (if n.l=0 then G.note s r p n else G.Bn nd (f+1) n.l (G.under r 0) (G.note s r p n)).rows (if n.l=0 then G.note s r p n else G.Bn nd (f+1) n.l (G.under r 0) (G.note s r p n)).Fz (R++[(r,p)]++(if n.l=0 then []else sub nd (f+1) n.l (G.under r 0))):=by
     by_cases c:n.l=0
     ·rw[if_pos c,if_pos c,Ha];exact h1
     ·rw[if_neg c,if_neg c];exact k _ _ _ _ (by show f+1+(r.b+1)=257;omega) (hr.under J JZ) w (fun x a=>j x (List.mem_cons_of_mem _ (S5 _ (by rw[if_neg c];exact a)))) h1
    have s5:R++(r,p)::((if n.l=0 then []else sub nd (f+1) n.l (G.under r 0))++if n.r=0 then []else sub nd (f+1) n.r (G.under r 1))=R++[(r,p)]++(if n.l=0 then []else sub nd (f+1) n.l (G.under r 0))++(if n.r=0 then []else sub nd (f+1) n.r (G.under r 1)):=by simp
    rw[s5]
    by_cases c:n.r=0
    ·rw[if_pos c,if_pos c,Ha];exact hl
    ·rw[if_neg c,if_neg c];refine k _ _ _ _ (by show f+1+(r.b+1)=257;omega) (hr.under J JZ) ?_ (fun x a=>j x (List.mem_cons_of_mem _ (lU _ (by rw[if_neg c];exact a)))) hl;have y:∀x∈(if n.l=0 then []else sub nd (f+1) n.l (G.under r 0)),Ng (G.under r 0) x.1:=by
      intro x a;split at a
      ·cases a
      ·exact(tQ (nd:=nd) _ _ _ (hr.under J JZ) (by show f+1+(r.b+1)=257;omega) x a).2
     have:=(i.left hr J y)
     intro x a
     rcases GM.1 a with q|q
     ·rcases GM.1 q with q|q
      ·exact this x (S5 _ q)
      ·rw[YU.1 q];refine⟨fun Ad=>?_,fun C t A=>?_⟩
       ·have:r.b+1≤r.b:=Ad.1;omega
       ·rw[g]at t;cases t;exact absurd A d
     ·exact this x (lU _ q)
def atR(A:List (G.Ae×Nat))(r:G.Ae):Nat:=((A.find? (fun x=>decide (x.1.b=r.b)&&decide (r.b≤L4 x.1.k.l r.k.l))).map (·.2)).getD 0
section
variable {AJ:List (G.Ae×Nat)} {AO:List (Jc×Nat)} {A:List (G.Ae×Nat)} {r:G.Ae} {W fr:Nat}
theorem aX(hr:s8 r){x:G.Ae}(a:s8 x):(decide (x.b=r.b)&&decide (r.b≤L4 x.k.l r.k.l))=true↔x=r:=by
 rw[Kq,decide_eq_true_eq,decide_eq_true_eq,P5 hr.1];constructor
 ·rintro⟨h1,c⟩;exact Ng.eq a hr ⟨JY,fun i V=>c i JY⟩ h1
 ·rintro rfl;exact⟨D,fun _ _=>rfl⟩
theorem l5(h:L' nd AJ AO A)(hr:s8 r):atR A r=(G.get AJ r).getD 0:=by
 unfold atR;cases a:A.find? (fun x=>decide (x.1.b=r.b)&&decide (r.b≤L4 x.1.k.l r.k.l))with
 |none=>
  rw[lP]at a;cases c:G.get AJ r with
  |none=>rfl
  |some p=>
   have hm:=(h.row r p).1 c;exact absurd ((aX hr (h.wf _ hm).1).2 D) (a _ hm)
 |some x=>
  have hm:=oo a;have d:=List.find?_some a;have e:=(aX hr (h.wf _ hm).1).1 d;have:G.get AJ r=some x.2:=(h.row r x.2).2 (by rw[←e];exact hm);rw[this];rfl
def tP(nd:Nat→Option G.Dh)(A:List (G.Ae×Nat))(Ar:Nat)(n:G.Dh)(r:G.Ae):Bool:=if n.Bd=1 then A.any (fun x=>decide (x.2=Ar))else decide (atR A r=Ar)
def jK(nd:Nat→Option G.Dh)(A:List (G.Ae×Nat))(n:G.Dh)(r:G.Ae):Bool:=
 if n.Bd=1 then A.any (fun x=>decide (((nd x.2).getD G.DJ).Bd=1)&&decide (((nd x.2).getD G.DJ).k=n.k)&&decide (((nd x.2).getD G.DJ).val=n.val))
 else !decide (atR A r=0)&&decide (((nd (atR A r)).getD G.DJ).Bd=2)&&decide (((nd (atR A r)).getD G.DJ).l=n.l)&&decide (((nd (atR A r)).getD G.DJ).r=n.r)
theorem jw{Ar:Nat}{n:G.Dh}(h:L' nd AJ AO A)(hr:s8 r)(c:nd Ar=some n)(d:Ar≠0):tP nd A Ar n r=G.G8 ⟨W,nd,AJ,AO,fr⟩ Ar n r:=by
 unfold tP G.G8
 by_cases a:n.Bd=1
 ·rw[if_pos a,if_pos a];apply tp.2;rw[pf,decide_eq_true_eq];constructor
  ·rintro⟨x,f,e⟩;have e:=of_decide_eq_true e;have:G.get AO n.k=some Ar:=(h.vn _ _).2 ⟨x.1,n,by rw[←e];exact f,c,a,D⟩;rw[this];rfl
  ·intro e;cases b:G.get AO n.k with
   |none=>rw[b]at e;exact absurd e.symm d
   |some q=>
    rw[b]at e;obtain⟨i,j,hm,_⟩:=(h.vn _ _).1 b;exact⟨_,hm,decide_eq_true e⟩
 ·rw[if_neg a,if_neg a,l5 h hr]
theorem q1{n:G.Dh}(h:L' nd AJ AO A)(hr:s8 r)(f:nd 0=none):jK nd A n r=G.Ik ⟨W,nd,AJ,AO,fr⟩ n r:=by
 unfold jK G.Ik
 by_cases a:n.Bd=1
 ·rw[if_pos a,if_pos a];apply tp.2;rw[pf];constructor
  ·rintro⟨x,c,e⟩;simp only[Kq,decide_eq_true_eq]at e;obtain⟨_,m,hm,_⟩:=h.wf _ c;rw[hm]at e;simp only[QW]at e;have:G.get AO n.k=some x.2:=(h.vn _ _).2 ⟨x.1,m,c,hm,e.1.1,e.1.2⟩;rw[this];simp only[hm,QW];exact decide_eq_true e.2
  ·intro e;cases b:G.get AO n.k with
   |none=>rw[b]at e;cases e
   |some q=>
    rw[b]at e;obtain⟨l,m,hm,i,h1,j⟩:=(h.vn _ _).1 b;refine⟨_,hm,?_⟩;simp only[i,QW]at e⊢;rw[decide_eq_true h1,decide_eq_true j,e];rfl
 ·rw[if_neg a,if_neg a,l5 h hr];simp only
  by_cases d:(G.get AJ r).getD 0=0
  ·rw[d];simp[f,G.DJ]
  ·rw[decide_eq_false d];rfl
end
def ub(nd:Nat→Option G.Dh)(A:List (G.Ae×Nat)):Prop:=A=[]∨∃p,A.Perm (sub nd 257 p ⟨0,CU⟩)
theorem ub.keeps{A:List (G.Ae×Nat)}(h:ub nd A){r:G.Ae}{p:Nat}(hm:(r,p)∈A):(A.filter (fun x=>te r x.1)).Perm (sub nd (257 - r.b) p r):=by
 rcases h with h|⟨q,h⟩
 ·rw[h]at hm;cases hm
 ·have:=h.filter (fun x=>te r x.1);rw[ql 257 q ⟨0,CU⟩ s8.zero D r p (h.mem_iff.1 hm)]at this;exact this
end
theorem mU{Z:Nat→Option Bf}:∀(f p b c:Nat) (r:G.Ae),EX Z f p b c→(sub (fun p=>(Z p).map Bf.AW) f p r).length≤f*c:=by
 intro f
 induction f with
 |zero=>intro p b c r h;exact h.elim
 |succ f e=>
  intro p b c r ⟨x,i,j,_,h⟩;have g:(fun p=>(Z p).map Bf.AW) p=some x.AW:=by simp only[i];rfl
  rcases h with⟨a,rfl⟩|⟨a,_,rfl,hl,hr⟩
  ·rw[lx g a,List.length_singleton];omega
  ·rw[nC g a,Cw,Gd];have k:(if x.AW.l=0 then []else sub (fun p=>(Z p).map Bf.AW) f x.AW.l (G.under r 0)).length≤f*x.lc:=by
    split
    ·exact F2 _
    ·rename_i d;exact e _ _ _ _ (hl d)
   have m:(if x.AW.r=0 then []else sub (fun p=>(Z p).map Bf.AW) f x.AW.r (G.under r 1)).length≤f*x.rc:=by
    split
    ·exact F2 _
    ·rename_i d;exact e _ _ _ _ (hr d)
   rw[iO,fC,jW];omega
end Go.Proofs.YtjdboncaegphmaaGreatDoor.BM
