/- Laws and walks on the road to SalvagePlays (part M49). No conditions beyond each law's own. -/
import Derived.Test.YtjdboncaegphmaaGreatDoorM48
set_option linter.unusedVariables false
namespace Go.Proofs.YtjdboncaegphmaaGreatDoor.G
open Go.Proofs.YtjdboncaegphmaaGreatDoor
set_option linter.unusedVariables false
def Ga(nd:Nat→Option Dh)(N:Nat):Nat→Nat→Prop
 |0,_=>True
 |f+1,p=>p<N∧(((nd p).getD DJ).Bd≠1→(((nd p).getD DJ).l≠0→Ga nd N f ((nd p).getD DJ).l)∧(((nd p).getD DJ).r≠0→Ga nd N f ((nd p).getD DJ).r))
section
variable {nd F4:Nat→Option Dh} {N:Nat}
theorem dt(c:∀q,q<N→nd q=F4 q):∀(f p:Nat) (r:Ae) (s:B4),Ga nd N f p→Bn nd f p r s=Bn F4 f p r s:=by
 intro f
 induction f with
 |zero=>intro p r s _;rfl
 |succ f b=>
  intro p r s h;rw[Bn,Bn];simp only[←c p h.1]
  by_cases a:((nd p).getD DJ).Bd=1
  ·rw[if_pos a,if_pos a]
  ·rw[if_neg a,if_neg a];have d:(if((nd p).getD DJ).l=0 then note s r p ((nd p).getD DJ)else Bn nd f ((nd p).getD DJ).l (under r 0) (note s r p ((nd p).getD DJ)))=(if((nd p).getD DJ).l=0 then note s r p ((nd p).getD DJ)else Bn F4 f ((nd p).getD DJ).l (under r 0) (note s r p ((nd p).getD DJ))):=by
    by_cases hl:((nd p).getD DJ).l=0
    ·rw[if_pos hl,if_pos hl]
    ·rw[if_neg hl,if_neg hl,b _ _ _ ((h.2 a).1 hl)]
   rw[d]
   by_cases hr:((nd p).getD DJ).r=0
   ·rw[if_pos hr,if_pos hr]
   ·rw[if_neg hr,if_neg hr,b _ _ _ ((h.2 a).2 hr)]
def FA(nd:Nat→Option Dh)(N:Nat)(m:List (Ae×Nat)):Prop:=∀q p,get m q=some p→Ga nd N (257 - q.b) p
def Fu(N:Nat)(m:List (Jc×Nat)):Prop:=∀k p,get m k=some p→p<N
theorem FA.put{m:List (Ae×Nat)}{r:Ae}{p:Nat}(h:FA nd N m)(c:Ga nd N (257 - r.b) p):FA nd N (put m r p):=by
 intro q d a;rw[OZ]at a
 by_cases e:r=q
 ·rw[if_pos e]at a;cases a;subst e;exact c
 ·rw[if_neg e]at a;exact h q d a
theorem Fu.put{m:List (Jc×Nat)}{k:Jc}{p:Nat}(h:Fu N m)(b:p<N):Fu N (put m k p):=by
 intro q c a;rw[OZ]at a
 by_cases e:k=q
 ·rw[if_pos e]at a;cases a;exact b
 ·rw[if_neg e]at a;exact h q c a
theorem Yf{s:B4}{r:Ae}{p:Nat}{n:Dh}(h1:FA nd N s.rows)(a:Fu N s.Fz)(c:Ga nd N (257 - r.b) p)(d:p<N):FA nd N (note s r p n).rows∧Fu N (note s r p n).Fz:=by
 refine⟨h1.put c,?_⟩;unfold note;simp only;split
 ·exact a.put d
 ·exact a
theorem eT:∀(f p:Nat) (r:Ae) (s:B4),f+r.b=257→Ga nd N f p→FA nd N s.rows→Fu N s.Fz→FA nd N (Bn nd f p r s).rows∧Fu N (Bn nd f p r s).Fz:=by
 intro f
 induction f with
 |zero=>intro p r s i h h1 d;exact⟨h1,d⟩
 |succ f g=>
  intro p r s i h h1 d;have a:=Yf (n:=(nd p).getD DJ) h1 d (show Ga nd N (257 - r.b) p by rw[show 257 - r.b=f+1 by omega];exact h) h.1;rw[Bn];simp only
  by_cases c:((nd p).getD DJ).Bd=1
  ·rw[if_pos c];exact a
  ·rw[if_neg c];have e:FA nd N (if((nd p).getD DJ).l=0 then note s r p ((nd p).getD DJ)else Bn nd f ((nd p).getD DJ).l (under r 0) (note s r p ((nd p).getD DJ))).rows∧Fu N (if((nd p).getD DJ).l=0 then note s r p ((nd p).getD DJ)else Bn nd f ((nd p).getD DJ).l (under r 0) (note s r p ((nd p).getD DJ))).Fz:=by
    by_cases hl:((nd p).getD DJ).l=0
    ·rw[if_pos hl];exact a
    ·rw[if_neg hl];exact g _ _ _ (by show f+(r.b+1)=257;omega) ((h.2 c).1 hl) a.1 a.2
   by_cases hr:((nd p).getD DJ).r=0
   ·rw[if_pos hr];exact e
   ·rw[if_neg hr];exact g _ _ _ (by show f+(r.b+1)=257;omega) ((h.2 c).2 hr) e.1 e.2
variable {W fr:Nat} {AJ:List (Ae×Nat)} {AO:List (Jc×Nat)}
theorem a5(a:∀q,q<N→nd q=F4 q){Ar Bg c:Nat}{r:Ae}(J:Bg≤N):E7 ⟨W,nd,AJ,AO,fr⟩ Ar Bg c r=E7 ⟨W,F4,AJ,AO,fr⟩ Ar Bg c r:=by
 unfold E7;simp only
 by_cases h:Ar<Bg
 ·rw[a Ar JY]
 ·cases nd Ar<;>cases F4 Ar<;>simp[h]
theorem Y_{Ar Bg c:Nat}{r:Ae}(h:E7 ⟨W,nd,AJ,AO,fr⟩ Ar Bg c r=true):Ar<Bg∧(((nd Ar).getD DJ).Bd≠1→r.b<256):=by
 unfold E7 at h;simp only at h;cases d:nd Ar with
 |none=>rw[d]at h;cases h
 |some n=>
  rw[d]at h;simp only[Kq,decide_eq_true_eq]at h;refine⟨h.1,fun e=>?_⟩;simp only[QW]at e;have a:=h.2;rw[if_neg e]at a;simp only[Kq,decide_eq_true_eq]at a;exact a.2
theorem fy(d:∀q,q<N→nd q=F4 q)(e:0<N)(f:FA nd N AJ)(g:Fu N AO){n:Dh}{r:Ae}(hr:r.b≤256):Ik ⟨W,nd,AJ,AO,fr⟩ n r=Ik ⟨W,F4,AJ,AO,fr⟩ n r:=by
 unfold Ik;simp only
 by_cases a:n.Bd=1
 ·rw[if_pos a,if_pos a];cases c:get AO n.k with
  |none=>rfl
  |some q=>simp only[d q (g _ _ c)]
 ·rw[if_neg a,if_neg a];have:(get AJ r).getD 0<N:=by
   cases c:get AJ r with
   |none=>exact e
   |some q=>
    have:=f _ _ c;rw[show 257 - r.b=(256 - r.b)+1 by omega]at this;exact this.1
  simp only[d _ this]
attribute [local irreducible] Hw Ik G8 Bn note
theorem ee(t:∀q,q<N→nd q=F4 q)(L:0<N)(M:nd 0=none)(w:∀q n,nd q=some n→n.Bd=1→n.l=0∧n.r=0)(F:FA nd N AJ)(O:Fu N AO):∀(f Ar Bg c:Nat) (k:Jc) (r:Ae) (s:B4),Bg≤N→r.b≤256→FA nd N s.rows→Fu N s.Fz→
 through ⟨W,nd,AJ,AO,fr⟩ f Ar Bg c k r s=through ⟨W,F4,AJ,AO,fr⟩ f Ar Bg c k r s∧∀a,through ⟨W,nd,AJ,AO,fr⟩ f Ar Bg c k r s=some a→Ga nd N (257 - r.b) Ar∧FA nd N a.rows∧Fu N a.Fz:=by
 intro f
 induction f with
 |zero=>intro Ar Bg c k r s J hr h1 y;exact⟨D,fun a h=>by cases h⟩
 |succ f P=>
  intro Ar Bg c k r s J hr h1 y;rw[through,through,←a5 t J];cases hl:E7 ⟨W,nd,AJ,AO,fr⟩ Ar Bg c r with
  |false=>simp only[Bool.false_eq_true,if_false];exact⟨trivial,fun a h=>by cases h⟩
  |true=>
   obtain⟨ag,u⟩:=Y_ hl;have z:Ar<N:=JY;obtain⟨n,m⟩:∃n,nd Ar=some n:=by
    cases Q:nd Ar with
    |none=>unfold E7 at hl;simp only[Q]at hl;cases hl
    |some n=>exact⟨n,D⟩
   have R:Ar≠0:=fun e=>by rw[e,M]at m;cases m
   simp only[if_true,←t Ar z,m,QW]at u⊢;have G:(n.l≠0→r.b<256→Ga nd N (257 - (r.b+1)) n.l)→(n.r≠0→r.b<256→Ga nd N (257 - (r.b+1)) n.r)→Ga nd N (257 - r.b) Ar:=by
    intro S T;rw[show 257 - r.b=(257 - (r.b+1))+1 by omega];refine⟨z,?_⟩;rw[m];exact fun i=>⟨fun q=>S q (u i),fun q=>T q (u i)⟩
   have U:∀x:Nat,x≠0→x=n.l∨x=n.r→r.b<256:=by
    intro x v V;refine u (fun i=>?_);have:=w _ _ m i
    rcases V with q|q
    ·exact v (q.trans this.1)
    ·exact v (q.trans this.2)
   have half:∀(x c' b:Nat) (d:Jc) (j:B4),(x=n.l∨x=n.r)→FA nd N j.rows→Fu N j.Fz→(if x=0 then some j else through ⟨W,nd,AJ,AO,fr⟩ f x Ar c' d (under r b) j)=(if x=0 then some j else through ⟨W,F4,AJ,AO,fr⟩ f x Ar c' d (under r b) j)∧∀s1,(if x=0 then some j else through ⟨W,nd,AJ,AO,fr⟩ f x Ar c' d (under r b) j)=some s1→(x≠0→r.b<256→Ga nd N (257 - (r.b+1)) x)∧FA nd N s1.rows∧Fu N s1.Fz:=by
    intro x c' b d j v H I
    by_cases h:x=0
    ·rw[if_pos h,if_pos h];exact⟨D,fun s1 e=>by cases e;exact⟨fun q=>absurd h q,H,I⟩⟩
    ·rw[if_neg h,if_neg h];have ah:=U x h v;have:=P x Ar c' d (under r b) j JY (show r.b+1≤256 by omega) H I;exact⟨this.1,fun s1 e=>⟨fun _ _=>(this.2 s1 e).1,(this.2 s1 e).2⟩⟩
   have key:∀(g A:Option B4),g=A→(∀a,g=some a→Ga nd N (257 - r.b) Ar∧FA nd N a.rows∧Fu N a.Fz)→(g.bind fun a=>if Hw W n (256 - r.b)=k then some a else none)=(A.bind fun a=>if Hw W n (256 - r.b)=k then some a else none)∧∀a,(g.bind fun a=>if Hw W n (256 - r.b)=k then some a else none)=some a→Ga nd N (257 - r.b) Ar∧FA nd N a.rows∧Fu N a.Fz:=by
    intro g A e p;subst e;refine⟨D,fun a h=>?_⟩;cases g with
    |none=>cases h
    |some s1=>
     simp only[s3]at h;split at h
     ·cases h;exact p _ D
     ·cases h
   by_cases K:Ar<fr
   ·simp only[if_pos K]
    by_cases Ad:G8 ⟨W,nd,AJ,AO,fr⟩ Ar n r=true
    ·have B:G8 ⟨W,F4,AJ,AO,fr⟩ Ar n r=true:=by unfold G8 at Ad⊢;exact Ad
     have i:Ga nd N (257 - r.b) Ar:=by
      unfold G8 at Ad
      by_cases i:n.Bd=1
      ·exact G (fun q=>absurd (w _ _ m i).1 q) (fun q=>absurd (w _ _ m i).2 q)
      ·rw[if_neg i]at Ad;have Ad:=of_decide_eq_true Ad;cases p:get AJ r with
       |none=>simp only[p,Option.getD_none]at Ad;exact absurd Ad.symm R
       |some q=>simp only[p,QW]at Ad;subst Ad;exact F _ _ p
     simp only[if_pos Ad,if_pos B];refine key _ _ (by rw[dt t _ _ _ _ i]) (fun a e=>?_);cases e;exact⟨i,eT _ _ _ _ JY i h1 y⟩
    ·have B:¬G8 ⟨W,F4,AJ,AO,fr⟩ Ar n r=true:=by unfold G8 at Ad⊢;exact Ad
     simp only[if_neg Ad,if_neg B,Option.bind_none];exact⟨trivial,fun a e=>by cases e⟩
   ·simp only[if_neg K];obtain⟨X,C⟩:=half n.l n.lc 0 n.ls s (.inl D) h1 y;refine key _ _ ?_ ?_
    ·rw[←X];cases o:(if n.l=0 then some s else through ⟨W,nd,AJ,AO,fr⟩ f n.l Ar n.lc n.ls (under r 0) s)with
     |none=>rfl
     |some s1=>
      simp only[s3];rw[←(half n.r n.rc 1 n.rs s1 (.inr D) (C _ o).2.1 (C _ o).2.2).1,fy t L F O hr]
    ·intro a e;cases o:(if n.l=0 then some s else through ⟨W,nd,AJ,AO,fr⟩ f n.l Ar n.lc n.ls (under r 0) s)with
     |none=>rw[o]at e;cases e
     |some s1=>
      rw[o]at e;simp only[s3]at e;obtain⟨Y,Z,aa⟩:=C _ o;obtain⟨-,ab⟩:=half n.r n.rc 1 n.rs s1 (.inr D) Z aa;cases E:(if n.r=0 then some s1 else through ⟨W,nd,AJ,AO,fr⟩ f n.r Ar n.rc n.rs (under r 1) s1)with
      |none=>rw[E]at e;cases e
      |some s2=>
       rw[E]at e;simp only[s3]at e;obtain⟨ad,ae,af⟩:=ab _ E;have i:=G Y ad;split at e
       ·cases e;exact⟨i,Yf ae af i z⟩
       ·cases e
end
attribute [local irreducible] through
theorem iI{W:Nat}{nd F4:Nat→Option Dh}{N:Nat}{rc rc':Nat→B9}{ch ch':List Nat}{o:Shape}{i:Nat}(u:∀q,q<N→nd q=F4 q)(w:0<N)(x:nd 0=none)(y:∀q n,nd q=some n→n.Bd=1→n.l=0∧n.r=0)(z:FA nd N o.1)(A:Fu N o.2)(B:at_ ch i≤N)(h1:at_ ch i=at_ ch' i)(C:at_ ch 1=at_ ch' 1)(E:at_ ch (i - 1)=at_ ch' (i - 1))(F:at_ ch (i&&&(i - 1))=at_ ch' (i&&&(i - 1)))(EF:rc (at_ ch i)=rc' (at_ ch i))(Ev:rc (at_ ch 1)=rc' (at_ ch 1)):
 version W nd rc ch o i=version W F4 rc' ch' o i∧∀o',version W nd rc ch o i=some o'→FA nd N o'.1∧Fu N o'.2:=by
 unfold version;simp only[←h1,←C,←E,←F,←EF,←Ev]
 by_cases d:(rc (at_ ch i)).f=(rc (at_ ch 1)).f∧(rc (at_ ch i)).v=(if 0<(rc (at_ ch 1)).f then(rc (at_ ch 1)).f+i - 1 else i)∧(rc (at_ ch i)).uU=at_ ch (i - 1)∧(rc (at_ ch i)).uW=at_ ch (i&&&(i - 1))
 ·simp only[if_pos d];have key:∀(g b:Option B4),g=b→(∀a,g=some a→FA nd N a.rows∧Fu N a.Fz)→(g.bind fun s=>if s.A4=at_ ch i then some (s.rows,s.Fz)else none)=(b.bind fun s=>if s.A4=at_ ch i then some (s.rows,s.Fz)else none)∧∀o':Shape,(g.bind fun s=>if s.A4=at_ ch i then some (s.rows,s.Fz)else none)=some o'→FA nd N o'.1∧Fu N o'.2:=by
   intro g b e G;subst e;refine⟨D,fun a h=>?_⟩;cases g with
   |none=>cases h
   |some s1=>
    simp only[s3]at h;split at h
    ·cases h;exact G _ D
    ·cases h
  have j:FA nd N []:=fun q p h=>by cases h
  have m:Fu N []:=fun k p h=>by cases h
  by_cases hr:(rc (at_ ch i)).r=0
  ·simp only[if_pos hr];refine⟨trivial,(key _ _ D (fun a h=>?_)).2⟩;split at h
   ·cases h;exact⟨j,m⟩
   ·cases h
  ·simp only[if_neg hr];have t:=ee (W:=W) (fr:=max 1 (at_ ch (i - 1))+1) u w x y z A 4097 (rc (at_ ch i)).r (at_ ch i) (rc (at_ ch i)).c (rc (at_ ch i)).s ⟨0,CU⟩ ⟨max 1 (at_ ch (i - 1))+1,[],[]⟩ B (by show 0≤256;omega) j m;exact key _ _ t.1 (fun a h=>(t.2 a h).2)
 ·simp only[if_neg d];exact⟨trivial,fun o' h=>by cases h⟩
theorem iq{W:Nat}{nd F4:Nat→Option Dh}{N:Nat}{rc rc':Nat→B9}{ch ch':List Nat}{j:Nat}(c:∀q,q<N→nd q=F4 q)(d:0<N)(f:nd 0=none)(g:∀q n,nd q=some n→n.Bd=1→n.l=0∧n.r=0)(a:∀i,i≤j→at_ ch i=at_ ch' i∧at_ ch i≤N)(b:∀i,1≤i→i≤j→rc (at_ ch i)=rc' (at_ ch i)):
 ∀i,i≤j→EO W nd rc ch i=EO W F4 rc' ch' i∧∀o,EO W nd rc ch i=some o→FA nd N o.1∧Fu N o.2:=by
 intro i
 induction i with
 |zero=>intro _;exact⟨D,fun o h=>by cases h;exact⟨fun q p h=>(by cases h),fun k p h=>(by cases h)⟩⟩
 |succ i m=>
  intro V;obtain⟨e,ho⟩:=m JY;rw[EO,EO,←e];cases s:EO W nd rc ch i with
  |none=>exact⟨D,fun o h=>by cases h⟩
  |some o=>
   simp only[s3];obtain⟨t,u⟩:=ho o s;have hand:(i+1)&&&(i+1 - 1)≤j:=Eg mK JY;exact iI c d f g t u (a _ V).2 (a _ V).1 (a 1 JY).1 (a _ JY).1 (a _ hand).1 (b _ JY V) (b 1 JY JY)
end Go.Proofs.YtjdboncaegphmaaGreatDoor.G
namespace Go.Proofs.YtjdboncaegphmaaGreatDoor
set_option maxRecDepth 100000
set_option maxHeartbeats 2000000
variable {q i:Nat} {L:List Nat}
section
variable {x X:rG} {p m:Nat}
theorem e6{a:Nat}(h:a≤m):∃R,A9 x m=A9 x a++R:=by
 induction m with
 |zero=>exact⟨[],by rw[show a=0 by omega,Ha]⟩
 |succ m b=>
  by_cases e:a=m+1
  ·subst e;exact⟨[],(Ha _).symm⟩
  ·obtain⟨R,Df⟩:=b JY;exact⟨R++(if EA x m=true then [m]else []),by rw[Nj,Df,C9]⟩
theorem fD(h:AI X p=AI x p):EA X p=EA x p:=by unfold EA;rw[h]
theorem g'(h:∀p,2≤p→p<m→AI X p=AI x p):A9 X m=A9 x m:=by
 unfold A9;refine List.filter_congr (fun p a=>?_);have a:=QZ.1 a
 by_cases b:2≤p
 ·exact fD (h p b a)
 ·unfold EA;rw[decide_eq_false b];rfl
theorem YC(h:q∈A9 x m):EA x q=true:=(kf.1 h).2
theorem aq{i:Nat}(V:i<(A9 x m).length):A9 x ((A9 x m).getD i 0+1)=(A9 x m).take (i+1):=by
 have Df:=Ok (l:=x) (p:=m) (Br m);have b:(A9 x m).getD i 0∈A9 x m:=by rw[Dm,F3 V];exact PV V
 generalize f:(A9 x m).getD i 0=q at b;have g:=RD b;obtain⟨R,c⟩:=e6 (x:=x) (a:=q+1) (m:=m) JY;have d:=UX (YC b);have hlen:(A9 x (q+1)).length=(A9 x q).length+1:=by rw[d,Gd];rfl
 have hle:(A9 x q).length<(A9 x m).length:=by rw[c,Gd];omega
 have j:(A9 x m).getD (A9 x q).length 0=q:=by
  rw[c,Dm,V5 JY,d,UP (Br _),XT];rfl
 have e:i=(A9 x q).length:=by
  rcases od i (A9 x q).length with h|h|h
  ·have:=Df.lt h hle;omega
  ·exact h
  ·have:=Df.lt h V;omega
 rw[e,←hlen]
 conv=>rhs;rw[c]
 exact List.take_left.symm
end
section
variable {n W P:Nat} {L:List Nat} {x:rG} {i j:Nat}
theorem Qp{k:Nat}(h:k<i):(L.take i).getD k 0=L.getD k 0:=by
 rw[Dm,Dm,LQ,if_pos h]
theorem VW{l:rG}(h:0<i):Ct n W P L i l=(E0 n W P L i 2).lay 512 ((l.drop 512).take ((L.getD (i - 1) 0+1)*256 - 512)):=by rw[Ct,if_pos h]
theorem Ko(a:0<i):(BL W P L (i+1)).m=L.getD (i - 1) 0+1∧(BL W P L (i+1)).h=L.getD (i - 1) 0:=by
 unfold BL;rw[if_pos JY,show i+1 - 2=i - 1 by omega];exact⟨D,D⟩
end
section
variable {n W P Bz:Nat} {x:rG} {i j:Nat}
structure Fl (n W P Bz:Nat) (x:rG) (i:Nat):Prop where
 hw:1≤W∧W≤32
 uF:3≤P∧P≤4096
 hl:x.length=n
 u2:n=256*P
 hm:Bz≤P
 V:i≤(A9 x Bz).length
theorem Fl.Ir(h:Fl n W P Bz x i):Gv P (A9 x Bz):=Ok h.hm
theorem Fl.OT(h:Fl n W P Bz x i):768≤n:=by have:=h.uF;have:=h.u2;omega
theorem Fl.KY(h:Fl n W P Bz x i){p:Nat}(b:2≤p)(c:p<(BL W P (A9 x Bz) (i+1)).m):AI (Ct n W P (A9 x Bz) i x).l p=AI x p:=by
 by_cases a:0<i
 ·rw[(Ko a).1]at c;exact h7 h.Ir h.hl h.OT h.u2 h.V a b JY
 ·obtain rfl:i=0:=JY;have:(BL W P (A9 x Bz) (0+1)).m=2:=D;omega
theorem Fl.A9(h:Fl n W P Bz x i):A9 (Ct n W P (A9 x Bz) i x).l (BL W P (A9 x Bz) (i+1)).m=(A9 x Bz).take i:=by
 rw[g' (fun p a b=>h.KY a b)]
 by_cases c:0<i
 ·rw[(Ko c).1];have:=aq (x:=x) (m:=Bz) (i:=i - 1) (by have:=h.V;omega);rw[this,show i - 1+1=i by omega]
 ·obtain rfl:i=0:=JY;rw[show(BL W P (Go.Proofs.YtjdboncaegphmaaGreatDoor.A9 x Bz) (0+1)).m=2 from D,UI];rfl
theorem Fl.slot(h:Fl n W P Bz x i)(b:q<2):(∃s,Fr.DP (AI (Ct n W P (Go.Proofs.YtjdboncaegphmaaGreatDoor.A9 x Bz) i x).l q)=some s)∧Fr.CN ((AI (Ct n W P (Go.Proofs.YtjdboncaegphmaaGreatDoor.A9 x Bz) i x).l q).drop 64)=true:=by
 have hlen:=Ni x Bz;have hm:=h.hm;have a:=h.uF;have V:=h.V;rw[Tn h.Ir h.hl h.OT h.u2 h.V b];have c:Fr.DE (BL W P (Go.Proofs.YtjdboncaegphmaaGreatDoor.A9 x Bz) (if q=i % 2 then i else i+1))=true:=S0 h.Ir h.hw h.uF (by split<;>omega) (by split<;>omega);refine⟨⟨_,NX c⟩,?_⟩;rw[WU,N0];decide
end
theorem M0{a k:Nat}(b:a≤L.length:=by omega):G.at_ (L.take a) k=if 1≤k∧k≤a then L.getD (k - 1) 0 else 0:=by
 unfold G.at_;rw[FX,aQ b];split
 ·rw[Qp JY]
 ·rfl
theorem aE{il:rG}{m:Nat}{n:G.Dh}(h:EB il m q=some n)(c:n.Bd=1):n.l=0∧n.r=0:=by
 unfold EB at h;split at h
 ·cases b:G.CW q (AI il q)with
  |nd x=>
   rw[b]at h;cases h;obtain⟨Bd,B1,a⟩:=UG b;unfold G.node at a;split at a
   ·split at a
    ·cases a;exact⟨D,D⟩
    ·cases a
   ·split at a
    ·split at a
     ·cases a;cases c
     ·cases a
    ·cases a
  |no=>rw[b]at h;cases h
  |rc r=>rw[b]at h;cases h
 ·cases h
theorem hH{W:Nat}{nd:Nat→Option G.Dh}{rc:Nat→B9}{ch:List Nat}{n:Nat}{o:G.Shape}(h:G.EO W nd rc ch n=some o){j:Nat}(hj:j≤n):∃o',G.EO W nd rc ch j=some o':=by
 cases a:G.EO W nd rc ch j with
 |none=>rw[YE a n hj]at h;cases h
 |some o'=>exact⟨o',D⟩
theorem XK{Bo:Type}{c:Prop}[Decidable c]{a:Option Bo}{o:Bo}(h:(if c then a else none)=some o):c∧a=some o:=by
 by_cases b:c
 ·rw[if_pos b]at h;exact⟨b,h⟩
 ·rw[if_neg b]at h;cases h
attribute [local irreducible] G.EO
section
variable {n W P Bz:Nat} {x:rG} {i j:Nat}
theorem Fl.down(h:Fl n W P Bz x i)(hj:j≤i):Fl n W P Bz x j:=⟨h.hw,h.uF,h.hl,h.u2,h.hm,by have:=h.V;omega⟩
theorem WB(h:Fl n W P Bz x i)(a:q<2):FC (Ct n W P (A9 x Bz) i x).l q=true:=by
 unfold FC;rw[if_pos a];exact(h.slot a).2
theorem Uw(h:Fl n W P Bz x 0):F1 n W P (A9 x Bz) x 0=true:=by
 unfold F1;rw[NH];have a:=h.A9;have hm:(BL W P (A9 x Bz) (0+1)).m=2:=D;rw[hm]at a⊢;refine⟨fun q b=>WB h b,?_⟩;unfold LA;rw[a];show(match G.EO W _ _ [] 0 with|none=>false|some _=>_)=true;have:G.EO W (EB (Ct n W P (A9 x Bz) 0 x).l 2) (fun p=>(Dy (Ct n W P (A9 x Bz) 0 x).l 2 p).getD G.DX) [] 0=some ([],[]):=by unfold G.EO;rfl
 rw[this];rfl
theorem Y4(h:Fl n W P Bz x i)(hj:j≤i):(BL W P (A9 x Bz) (j+1)).m≤(BL W P (A9 x Bz) (i+1)).m:=by
 by_cases a:0<j
 ·rw[(Ko a).1,(Ko JY).1]
  by_cases e:j=i
  ·subst e;exact Br _
  ·have:=h.Ir.lt (j:=j - 1) (k:=i - 1) JY (by have:=h.V;omega);omega
 ·obtain rfl:j=0:=JY
  by_cases h1:0<i
  ·rw[(Ko h1).1];have:=h.Ir.at_ (j:=i - 1) (by have:=h.V;omega);show 2≤_;omega
  ·obtain rfl:i=0:=JY;exact Br _
theorem TX(h:Fl n W P Bz x i)(hj:j≤i)(a:2≤q)(b:q<(BL W P (A9 x Bz) (j+1)).m):AI (Ct n W P (A9 x Bz) j x).l q=AI (Ct n W P (A9 x Bz) i x).l q:=by
 rw[(h.down hj).KY a b,h.KY a (Wb b (Y4 h hj))]
theorem ZT(h:Fl n W P Bz x i)(hj:j≤i)(f:F1 n W P (A9 x Bz) x i=true):F1 n W P (A9 x Bz) x j=true:=by
 rcases mg j with rfl|g
 ·exact Uw (h.down hj)
 have V:=h.V;have Df:=h.Ir;have s:=h.down hj;have C:=Y4 h hj;unfold F1 at f⊢;rw[NH]at f⊢;obtain⟨h1,d⟩:=f;have w:=h.A9;have y:=s.A9;refine⟨fun q t=>?_,?_⟩
 ·by_cases b:q<2
  ·exact WB s b
  ·have:=h1 q JY;unfold FC at this⊢;rw[if_neg b]at this⊢;unfold IT at this⊢;rw[TX h hj JY t];exact this
 ·unfold LA at d⊢;rw[w]at d;rw[y];have li:((A9 x Bz).take i).length=i:=by rw[FX];omega
  have z:((A9 x Bz).take j).length=j:=by rw[FX];omega
  rw[li]at d;rw[z];cases u:G.EO W (EB (Ct n W P (A9 x Bz) i x).l (BL W P (A9 x Bz) (i+1)).m) (fun p=>(Dy (Ct n W P (A9 x Bz) i x).l (BL W P (A9 x Bz) (i+1)).m p).getD G.DX) ((A9 x Bz).take i) i with
  |none=>rw[u]at d;cases d
  |some o=>
   obtain⟨o',v⟩:=hH u hj;have t:=Df.at_ (j:=j - 1) JY;have A:=(Ko (W:=W) (P:=P) (L:=A9 x Bz) g).1;have B:=(Ko (W:=W) (P:=P) (L:=A9 x Bz) g).2;have Sf:∀k,1≤k→k≤j→(A9 x Bz).getD (k - 1) 0≤(A9 x Bz).getD (j - 1) 0:=fun k a E=>by
    by_cases e:k=j
    ·subst e;exact Br _
    ·exact Nat.le_of_lt (Df.lt JY JY)
   have key:=(G.iq (W:=W) (N:=(A9 x Bz).getD (j - 1) 0) (nd:=EB (Ct n W P (A9 x Bz) i x).l (BL W P (A9 x Bz) (i+1)).m) (F4:=EB (Ct n W P (A9 x Bz) j x).l (BL W P (A9 x Bz) (j+1)).m) (rc:=fun p=>(Dy (Ct n W P (A9 x Bz) i x).l (BL W P (A9 x Bz) (i+1)).m p).getD G.DX) (rc':=fun p=>(Dy (Ct n W P (A9 x Bz) j x).l (BL W P (A9 x Bz) (j+1)).m p).getD G.DX) (ch:=(A9 x Bz).take i) (ch':=(A9 x Bz).take j) (j:=j) ?_ JY (by unfold EB;rw[if_neg JY]) (fun q n h c=>aE h c) ?_ ?_ j (Br _)).1
   ·rw[key]at v;rw[v,M0,if_pos JY,A,B];show(!decide _&&!(decide _&&!decide _))=true;rw[decide_eq_false JY,decide_eq_true g,decide_eq_true JY];rfl
   ·intro q F;unfold EB
    by_cases b:2≤q
    ·rw[if_pos ⟨b,JY⟩,if_pos ⟨b,JY⟩,TX h hj b JY]
    ·rw[if_neg JY,if_neg JY]
   ·intro k c;rw[M0,M0]
    by_cases a:1≤k
    ·rw[if_pos ⟨a,JY⟩,if_pos ⟨a,c⟩];exact⟨D,Sf k a c⟩
    ·rw[if_neg JY,if_neg JY];exact⟨D,F2 _⟩
   ·intro k a c;rw[M0,if_pos ⟨a,JY⟩];have H:=Sf k a c;have r:=Df.at_ (j:=k - 1) JY;show(Dy _ _ _).getD G.DX=(Dy _ _ _).getD G.DX;unfold Dy;rw[if_pos ⟨r.1,JY⟩,if_pos ⟨r.1,JY⟩,TX h hj r.1 JY]
end
section
variable {n i:Nat} {s:Fr.Bu} {x:rG}
theorem D5.LF(h:D5 n s x i):(1≤s.w∧s.w≤32)∧(3≤s.p∧s.p≤4096)∧2≤s.m∧s.m≤s.p:=by
 have a:=h.v;simp only[Fr.DE,Kq,hy,decide_eq_true_eq]at a;omega
theorem D5.cs(h:D5 n s x i):Fl n s.w s.p s.m x i:=⟨h.LF.1,h.LF.2.1,h.len,h.p,h.LF.2.2.2,h.le⟩
theorem D5.clean(h:D5 n s x i):F1 n s.w s.p (A9 x s.m) x i=true:=by
 by_cases a:0<i
 ·have:=h.BU.resolve_left JY;rw[show i - 1+1=i by omega]at this;exact this
 ·obtain rfl:i=0:=JY;exact Uw h.cs
end
section
variable {n p k j:Nat} {x:rG} {s:Fr.Bu} {z:BF}
theorem nu(h:aO x s z k p)(hm:2≤s.m):∃R,A9 x s.m=z.KE++R∧∀q∈R,p≤q:=by
 have e:=h.uF;obtain⟨R,Df⟩:=e6 (x:=x) (a:=p) (m:=s.m) JY;refine⟨R,by rw[Df,h.fr.KE],fun q b=>?_⟩;have c:=(Ok (l:=x) (p:=s.m) (P:=s.m) (Br _)).s;have d:q∈A9 x s.m:=by rw[Df];exact lU _ b
 apply Classical.byContradiction;intro g;have i:=RD d;have f:q∈A9 x p:=by
  unfold A9;exact kf.2 ⟨QZ.2 JY,YC d⟩
 rw[Df,List.pairwise_append]at c;have:=c.2.2 q f q b;omega
theorem ky(h:aO x s z k p)(hm:2≤s.m)(V:i<z.KE.length:=by omega):i<(A9 x s.m).length∧(A9 x s.m).getD i 0=z.KE.getD i 0:=by
 obtain⟨R,Df,_⟩:=nu h hm;rw[Df];exact⟨by rw[Gd];omega,by rw[Dm,Dm,V5 V]⟩
theorem Wl(h:aO x s z k p)(V:i<z.KE.length:=by omega):2≤z.KE.getD i 0∧z.KE.getD i 0<p∧EA x (z.KE.getD i 0)=true∧∃r,Dy x p (z.KE.getD i 0)=some r∧z.rs[z.KE.getD i 0]? =some r:=by
 have hm:z.KE.getD i 0∈z.KE:=by rw[Dm,F3 V];exact PV V
 obtain⟨y,h1,a,_⟩:=h.fr.TO hm;rw[h.fr.KE]at hm⊢;have:=lf hm;rw[h.fr.KE]at h1 a;exact⟨this.1,this.2.1,YC hm,y,a,h1⟩
theorem oC(h:EA x q=true):IT x q=true:=by
 unfold EA at h;unfold IT;rw[Kq]at h;cases a:G.CW q (AI x q)with
 |no=>rw[a]at h;cases h.2
 |nd n=>rfl
 |rc r=>rfl
theorem YG(h1:1≤i)(a:i≤z.KE.length:=by omega):G.at_ z.KE i=z.KE.getD (i - 1) 0:=by unfold G.at_;rw[if_pos ⟨h1,a⟩]
theorem qR(h:aO x s z k p)(a:Fl n s.w s.p s.m x j)(hm:2≤s.m)(o:0<j)(hj:j≤z.KE.length):
 G.EO s.w (EB (Ct n s.w s.p (A9 x s.m) j x).l (BL s.w s.p (A9 x s.m) (j+1)).m) (fun p=>(Dy (Ct n s.w s.p (A9 x s.m) j x).l (BL s.w s.p (A9 x s.m) (j+1)).m p).getD G.DX) ((A9 x s.m).take j) j=G.EO z.w z.AW z.Em z.KE j:=by
 have Df:=a.Ir;have A:=a.V;have t:=(Ko (W:=s.w) (P:=s.p) (L:=A9 x s.m) o).1;have b:=fun i V=>(ky h hm (i:=i) V).2;have B:=Wl h (i:=j - 1);have hle:∀i,1≤i→i≤j→z.KE.getD (i - 1) 0≤z.KE.getD (j - 1) 0:=fun i h1 C=>by
  by_cases e:i=j
  ·subst e;exact Br _
  ·have:=Df.lt (j:=i - 1) (k:=j - 1) JY JY;rw[b _ JY,b _ JY]at this;omega
 rw[b _ JY]at t;rw[h.hw.1];refine((G.iq (W:=s.w) (N:=z.KE.getD (j - 1) 0) (nd:=z.AW) (F4:=EB (Ct n s.w s.p (A9 x s.m) j x).l (BL s.w s.p (A9 x s.m) (j+1)).m) (rc:=z.Em) (rc':=fun p=>(Dy (Ct n s.w s.p (A9 x s.m) j x).l (BL s.w s.p (A9 x s.m) (j+1)).m p).getD G.DX) (ch:=z.KE) (ch':=(A9 x s.m).take j) (j:=j) ?_ JY ?_ ?_ ?_ ?_ j (Br _)).1).symm
 ·intro q c;rw[h.fr.nd q];unfold EB
  by_cases d:2≤q
  ·rw[if_pos ⟨d,JY⟩,if_pos ⟨d,JY⟩,a.KY d JY]
  ·rw[if_neg JY,if_neg JY]
 ·rw[h.fr.nd 0];unfold EB;rw[if_neg JY]
 ·intro q E c u;rw[h.fr.nd q]at c;exact aE c u
 ·intro i V;rw[M0]
  by_cases i1:1≤i
  ·rw[if_pos ⟨i1,V⟩,YG i1,b _ JY];exact⟨D,hle i i1 V⟩
  ·rw[if_neg JY];unfold G.at_;rw[if_neg JY];exact⟨D,F2 _⟩
 ·intro i i1 V;rw[YG i1];obtain⟨f,v,F,r,g,y⟩:=Wl h (i:=i - 1);have:=hle i i1 V;rw[tu y];unfold Dy;rw[if_pos ⟨f,JY⟩,a.KY f JY];unfold Dy at g;rw[if_pos ⟨f,v⟩]at g;rw[g];rfl
theorem sD(h:aO x s z k p)(a:Fl n s.w s.p s.m x j)(hm:2≤s.m)(hj:j≤z.KE.length)(g:j≤k):F1 n s.w s.p (A9 x s.m) x j=true:=by
 rcases mg j with rfl|b
 ·exact Uw a
 have c:=(Ko (W:=s.w) (P:=s.p) (L:=A9 x s.m) b)
 have d:=a.Ir.at_ (j:=j - 1) (by have:=a.V;omega);have l:=a.A9;have r:=Wl h (i:=j - 1);have t:=(ky h hm (i:=j - 1)).2;unfold F1;rw[NH];refine⟨fun q d=>?_,?_⟩
 ·by_cases f:q<2
  ·exact WB a f
  ·unfold FC;rw[if_neg f];have u:=a.KY (p:=q) JY d;have:IT x q=true:=by
    rw[c.1,t]at d
    by_cases e:q=z.KE.getD (j - 1) 0
    ·rw[e];exact oC r.2.2.1
    ·exact h.ok q JY JY
   unfold IT at this⊢;rw[u];exact this
 ·unfold LA;rw[l];have v:((A9 x s.m).take j).length=j:=by rw[FX];have:=a.V;omega
  rw[v,qR h a hm b hj];obtain⟨o,ho⟩:=h.yes;obtain⟨o',y⟩:=hH ho g;rw[y,M0 (by have:=a.V;omega),if_pos JY,c.1,c.2];show(!decide _&&!(decide _&&!decide _))=true;rw[decide_eq_false JY,decide_eq_true b,decide_eq_true JY];rfl
theorem pP(h:aO x s z k p)(a:Fl n s.w s.p s.m x (k+1))(hm:2≤s.m):F1 n s.w s.p (A9 x s.m) x (k+1)=false:=by
 have o:=(Ko (W:=s.w) (P:=s.p) (L:=A9 x s.m) (i:=k+1) JY)
 rw[gC];unfold F1;intro d;rw[NH]at d;obtain⟨h1,b⟩:=d;have r:=a.A9;have hlen:=a.V
 by_cases f:k<z.KE.length
 ·unfold LA at b;rw[r]at b;have t:((A9 x s.m).take (k+1)).length=k+1:=by rw[FX];omega
  rw[t,qR h a hm JY JY,h.no f]at b;cases b
 ·have v:=h.uD;obtain⟨R,Df,u⟩:=nu h hm;have g:(A9 x s.m).getD k 0∈R:=by
   rw[Df,Gd]at hlen;rw[Df,Dm,UP JY,F3 JY];exact PV _
  have y:=u _ g;have A:=RD (l:=x) (p:=s.m) (q:=(A9 x s.m).getD k 0) (by rw[Df];exact lU _ (by rw[←Df];exact g))
  rcases h.uZ with⟨e,_⟩|⟨C,c⟩
  ·omega
  ·have j:p - 1<(BL s.w s.p (A9 x s.m) (k+1+1)).m:=by
    rw[o.1,Yp];omega
   have:=h1 (p - 1) j;unfold FC at this;rw[if_neg JY]at this;unfold IT at this c;rw[a.KY JY j]at this;rw[this]at c;cases c
theorem r'(h:aO x s z k p)(hw:D5 n s x k):G3 (Cl n s x k) (BJ s x k).m (BJ s x k).h=(Lv z k).1∧FD (Cl n s x k) (BJ s x k).m (BJ s x k).h=(Lv z k).2:=by
 have hm:=hw.LF.2.2.1;have j:=hw.cs;cases k with
 |zero=>
  have e:Dy (Cl n s x 0) (BJ s x 0).m (BJ s x 0).h=none:=by
   show Dy _ 2 0=none;unfold Dy;rw[if_neg JY]
  unfold G3 FD Lv;rw[e];exact⟨D,D⟩
 |succ k=>
  have q:=h.uD;have a:=(Ko (W:=s.w) (P:=s.p) (L:=A9 x s.m) (i:=k+1) JY)
  obtain⟨b,t,A,r,c,d⟩:=Wl h (i:=k);have u:=(ky h hm (i:=k)).2;rw[Yp,u]at a;have e:Dy (Cl n s x (k+1)) (BJ s x (k+1)).m (BJ s x (k+1)).h=some r:=by
   show Dy (Ct n s.w s.p (A9 x s.m) (k+1) x).l (BL s.w s.p (A9 x s.m) (k+1+1)).m (BL s.w s.p (A9 x s.m) (k+1+1)).h=some r;rw[a.2];unfold Dy;rw[if_pos ⟨b,by rw[a.1];omega⟩,j.KY b (by rw[a.1];omega)];unfold Dy at c;rw[if_pos ⟨b,t⟩]at c;exact c
  obtain⟨o,ho⟩:=h.yes;rw[G.EO]at ho;cases h1:G.EO z.w z.AW z.Em z.KE k with
  |none=>rw[h1]at ho;cases ho
  |some v=>
   rw[h1]at ho;have ho:G.version z.w z.AW z.Em z.KE v (k+1)=some o:=ho;unfold G.version at ho;obtain⟨y, -⟩:=XK ho;have f:G.at_ z.KE (k+1)=z.KE.getD k 0:=by rw[YG JY,Yp]
   have g:=y.1;rw[f,tu d]at g;unfold G3 FD Lv;rw[e,if_neg JY,f,tu d];exact⟨g,D⟩
theorem ow{W P:Nat}(b:512≤n):(E0 n W P L i 2).l=(if i % 2=0 then Fr.pack (BL W P L i)++Fr.pack (BL W P L (i+1))else Fr.pack (BL W P L (i+1))++Fr.pack (BL W P L i))++List.replicate (n - 512) 0:=by
 show(((Ji.zero n).lay ((i+0) % 2*256) (Fr.pack (BL W P L (i+0)))).lay ((i+1) % 2*256) (Fr.pack (BL W P L (i+1)))).l=_;have c:=Fr.MC (BL W P L i);have a:=Fr.MC (BL W P L (i+1));rw[tA];generalize Fr.pack (BL W P L i)=A at*;generalize Fr.pack (BL W P L (i+1))=B at*
 rcases jZ i with e|e
 ·rw[e,if_pos D,show(i+1) % 2=1 by omega,Ji.NC _ JY,Ji.NC _ JY];show List.take (1*256) (List.take (0*256) (List.replicate n 0)++(A++List.drop (0*256+A.length) (List.replicate n 0)))++(B++List.drop (1*256+B.length) (List.take (0*256) (List.replicate n 0)++(A++List.drop (0*256+A.length) (List.replicate n 0))))=_;rw[kY,Jaa,Hg,RQ,gb JY,show 1*256+B.length=A.length+256 by omega,RZ,kX JY,Hg,RQ,C9]
  congr 3
  omega
 ·rw[e,if_neg JY,show(i+1) % 2=0 by omega,Ji.NC _ JY,Ji.NC _ JY];show List.take (0*256) (List.take (1*256) (List.replicate n 0)++(A++List.drop (1*256+A.length) (List.replicate n 0)))++(B++List.drop (0*256+B.length) (List.take (1*256) (List.replicate n 0)++(A++List.drop (1*256+A.length) (List.replicate n 0))))=_;rw[kY,Jaa,Hg,List.take_replicate,RQ,IC,aQ JY,a,List.drop_left' (by rw[He]),C9]
  congr 3
  omega
theorem m3{W P g:Nat}{u:Fr.Bu}(hw:u.w=W)(a:u.p=P):BL W P L g=Nu u g L:=by
 subst hw a;unfold BL Nu
 by_cases h:1<g
 ·rw[if_pos h,if_pos JY]
 ·rw[if_neg h,if_neg JY]
theorem sC{g:Nat}{u:Fr.Bu}{M:List Nat}(h:2≤g→L.getD (g - 2) 0=M.getD (g - 2) 0):Nu u g L=Nu u g M:=by
 unfold Nu;split
 ·rename_i q;rw[h q]
 ·rfl
theorem nE(h:aO x s z k p)(hw:D5 n s x k)(hj:j≤k):(Ct n s.w s.p (A9 x s.m) j x).l=iB x s z.KE j:=by
 have hm:=hw.LF.2.2.1;have a:=hw.cs;have o:=a.OT;have hl:=a.hl;have f:=h.uD;have Ad:(E0 n s.w s.p (A9 x s.m) j 2).l=sR s j z.KE++List.replicate (n - 512) 0:=by
  rw[ow JY];unfold sR;have e:∀g,g≤j+1→Fr.pack (BL s.w s.p (A9 x s.m) g)=Ref.EC (Nu s g z.KE):=fun g q=>by
   rw[WU,m3 D D,sC (M:=z.KE) (fun r=>(ky h hm).2)]
  rw[e j JY,e (j+1) JY]
 have c:(sR s j z.KE).length=512:=by
  unfold sR;split<;>rw[Gd,Ref.b7,Ref.b7]
 unfold iB kN
 by_cases b:0<j
 ·have he:=SV a.Ir a.u2 (i:=j) (by have:=a.V;omega) b;rw[VW b,(ky h hm (i:=j - 1)).2];rw[(ky h hm (i:=j - 1)).2]at he;have d:((x.drop 512).take ((z.KE.getD (j - 1) 0+1)*256 - 512)).length=(z.KE.getD (j - 1) 0+1)*256 - 512:=by rw[FX,J3];omega
  have e:List.drop (512+((z.KE.getD (j - 1) 0+1)*256 - 512)) (sR s j z.KE++List.replicate (n - 512) 0)=List.replicate (x.length - (z.KE.getD (j - 1) 0+1)*256) 0:=by
   rw[RZ,kX JY,Hg,RQ,c];exact congrArg (fun k=>List.replicate k (0:UInt8)) JY
  rw[if_pos b,Ji.NC _ (by rw[d];omega),Ad,gb c,d,e,C9]
 ·rw[Rt b,if_neg b,Ad,XT,Jaa,Ha,hl]
end
