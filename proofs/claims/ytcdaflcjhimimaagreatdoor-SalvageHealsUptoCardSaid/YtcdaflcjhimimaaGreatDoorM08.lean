/- Laws and walks on the road to SalvageNever and SalvageHeals (part M08). No conditions beyond each law's own. -/
import Derived.Test.YtcdaflcjhimimaaGreatDoorM01
import Derived.Test.YtcdaflcjhimimaaGreatDoorM07
import Derived.Test.YtcdaflcjhimimaaGreatDoorM04
import Derived.Test.YtcdaflcjhimimaaGreatDoorM05
import Derived.Test.YtcdaflcjhimimaaGreatDoorM06
set_option linter.unusedVariables false
namespace Go.Proofs.YtcdaflcjhimimaaGreatDoor
open Go.RowKit
set_option maxRecDepth 100000
set_option maxHeartbeats 1000000
variable {Ck:Type}
theorem ND:∀(l m k:List UInt8),l.length=m.length→m.length=k.length→B' l m≤0→B' m k≤0→B' l k≤0:=by
 intro l
 induction l with
 |nil=>intro m k _ _ _ _;unfold B';exact Int.le_refl _
 |cons x l h=>
  intro m k d f a b
  match m,k,d,f with
  |y::m,z::k,d,f=>
   simp only[List.length_cons,Nat.add_right_cancel_iff]at d f
   unfold B' at a b⊢
   by_cases g:x=y
   ·rw[if_pos g]at a
    subst g
    by_cases c:x=z
    ·rw[if_pos c]at b⊢
     exact h m k d f a b
    ·rw[if_neg c]at b⊢
     exact b
   ·rw[if_neg g]at a
    have i:x.toNat<y.toNat:=by
     by_cases q:x.toNat<y.toNat
     ·exact q
     ·rw[if_neg q]at a;omega
    by_cases c:y=z
    ·subst c
     rw[if_neg g,if_pos i];omega
    ·rw[if_neg c]at b
     have j:y.toNat<z.toNat:=by
      by_cases q:y.toNat<z.toNat
      ·exact q
      ·rw[if_neg q]at b;omega
     rw[if_neg (fun e=>by subst e;omega),if_pos (by omega)];omega
theorem Sp:∀(l m:List UInt8),B' l m≤0∨B' m l≤0:=by
 intro l
 induction l with
 |nil=>intro m;left;unfold B';exact Int.le_refl _
 |cons x l a=>
  intro m
  match m with
  |[]=>left;unfold B';exact Int.le_refl _
  |y::m=>
   unfold B'
   by_cases e:x=y
   ·subst e
    rw[if_pos D,if_pos D]
    exact a m
   ·rw[if_neg e,if_neg (Ne.symm e)]
    have:x.toNat≠y.toNat:=fun q=>e (UInt8.toNat_inj.1 q)
    rcases Nat.lt_or_ge x.toNat y.toNat with q|q
    ·left;rw[if_pos q];omega
    ·right;rw[if_pos (by omega)];omega
theorem X8(a b c:CV)(d:DJ a b=true)(e:DJ b c=true):DJ a c=true:=by
 simp only[DJ,decide_eq_true_eq]at d e⊢
 exact ND _ _ _ (by rw[a.k.h,b.k.h]) (by rw[b.k.h,c.k.h]) d e
theorem Y2(a b:CV):(DJ a b||DJ b a)=true:=by
 simp only[DJ,Bool.or_eq_true,decide_eq_true_eq]
 exact Sp _ _
theorem Vn{A B:List CV}(a:A.Pairwise (fun x y=>DJ x y))(b:B.Pairwise (fun x y=>DJ x y)):(List.merge A B DJ).Pairwise (fun x y=>DJ x y):=
 List.pairwise_merge X8 Y2 A B a b
theorem VH{a:List CV}(h:a.length<2):a.Pairwise (fun x y=>DJ x y):=by
 match a with
 |[]=>exact List.Pairwise.nil
 |[x]=>exact List.pairwise_singleton _ _
 |x::y::l=>simp at h;omega
theorem Te{L A B:List CV}{h:Nat}(c:(A.map GF).Perm ((L.take h).map G0))(d:(B.map GF).Perm ((L.drop h).map G0)):((List.merge A B DJ).map GF).Perm (L.map G0):=by
 have a:=(List.merge_perm_append (le:=DJ) (xs:=A) (ys:=B)).map GF
 rw[List.map_append]at a
 have b:=a.trans (c.append d)
 rw[←List.map_append,List.take_append_drop]at b
 exact b
theorem HO{W:World}{base size n m k:Nat}{e:TypeId}{p:Option Addr}{xs:List Value}(h:n=m)(o:W.ownsRow base e size (.slice p n k) n xs):W.ownsRow base e size (.slice p m k) m xs:=by subst h;exact o
theorem Yc{L:List CV}{n:Nat}{x:CV}(c:L.length=n)(h:L[0]? =some x)(hn:n<2):L=[x]:=by
 match L with
 |[]=>simp at h
 |[y]=>simp at h;rw[h]
 |a::b::l=>simp at c;omega
theorem NK:∀(n:Nat) (q:Option Addr) (c:Nat) (L:List CV) (w:World),n≤1000000000→(n≠0→View w (.slice q n c) n 34 (Al FQ L))→L.length=n→(∀x∈L,B8.Hg w x.s)→(∀x∈L,x.d=false→x.s.v.length≤4096)→
 Calls Tryz.prog 23 #[.slice q n c] w fun e w'=>∃p k,∃R:List CV,e=.returned (.slice p n k)∧w'.ownsRow w.heap.size 96 34 (.slice p n k) n (Al FQ R)∧(R.map GF).Perm (L.map G0)∧R.Pairwise (fun x y=>DJ x y)∧(∀x∈R,B8.ok w' x.s)∧(∀x∈R,∀a,x.s.p=some a→w.heap.size≤a.block)∧Below w.heap.size w w':=by
 intro n
 induction n using Nat.strongRecOn with
 |ind n aj=>
 intro q c L w hn u J X f
 have b:Below w.heap.size w w:=Bu _ _
 refine Bx Kw D 42 ?_
 refine K<|N<|O D<|M<|G<|K<|K<|N<|I D<|BY F1 D<|B5 (q:=(2:Nat)) D D<|M<|G<|Bl D (fun aw=>?_) fun aw=>?_
 ·
  refine K<|N<|O D<|?_
  have own:w.ownsRow w.heap.size 96 34 (.slice none 0 0) 0 (Al FQ []):=World.ownsRow_nil _ _ _ _
  refine M<|G<|K<|K<|N<|O (v:=(E 0)) D<|M<|G<|A2<|?_
  intro a m
  refine Cb (fun ax a W=>∃i,∃C:List CV,∃p Q,ax=n - i∧Ao 42 a (Ja (Ja (Ja Je 0 (F q n c)) 3 (F p i Q)) 4 (E i))∧i≤n∧(i=0→p=none∧Q=0)∧Hid (C.map GF=(L.take i).map G0)∧(∀x∈C,B8.ok W x.s)∧(∀x∈C,∀a,x.s.p=some a→w.heap.size≤a.block)∧W.ownsRow w.heap.size 96 34 (.slice p i Q) i (Al FQ C)∧Below w.heap.size w W) _ ⟨0,_,_,_,D,At m,Nat.zero_le _,fun _=>⟨D,D⟩,Aw D,(fun x f=>by cases f),(fun x f=>by cases f),own,b⟩ ?_
  rintro _ a ay ⟨i,C,p,Q,rfl,m,a2,az,aA,aB,aC,own,b⟩
  revert a
  refine K<|K<|N<|I D<|I D<|BY F1 D<|B5 D D<|M<|G<|Bl D (fun aD=>?_) fun aD=>?_
  ·
   obtain rfl:i=0:=by omega
   obtain⟨rfl,rfl⟩:=az D
   obtain rfl:C=[]:=List.length_eq_zero_iff.1 (DF CI (by decide) own)
   refine AE<|G<|K<|A2<|K<|N<|I D<|I (v:=(E 0)) D<|?_
   obtain⟨a3,ak,rfl⟩:=Ca ((u (by omega)).below b)
   obtain⟨g,S⟩:=getD_some (L:=L) (j:=0) J (by omega)
   have aE:=BJ CI ((u (by omega)).below b) S (o:=ak+0*34)
   refine Cn CH 0 (ak+0*34) D D<|D9 Dj 0 3 [bv g.k.l,[Br g.d],[F g.s.p g.s.v.length g.s.c]] aE D<|?_
   intro aF Y
   have aG:=S
   refine Bj D (fun Aa Z=>B0 Y #[Value.agg (flat [bv g.k.l,[Br g.d],[F g.s.p g.s.v.length g.s.c]])] Qf (YJ g _ (f g (List.mem_of_getElem? S)) ((X g (List.mem_of_getElem? S)).below b D)) ?_)
   rintro _ a4 ⟨z,rfl,aH,r,aa,al⟩
   refine⟨_,D,?_⟩
   intro a m
   have t:w.heap.size≤ay.heap.size:=b.size
   have own:=V own al
   have b:=Ah b al
   have aa:∀a,z.s.p=some a→w.heap.size≤a.block:=fun a A=>Bs t (aa a A)
   refine Z _ _ ?_;revert a
   refine BQ [Av 32,[Br false],[F none 0 0]] ?_
   intro aI a5 an ao aJ B
   have a6:=Bg b an
   have aK:=BM own an
   have aL:∀a,(z.s).p=some a→a.block≠aI:=fun a A=>by have:=B8.ok.lt r a A;omega
   have own:=V own B
   have r:=B8.ok.below r B D
   have b:=Ah b B
   refine Bi 0 3 aJ D D ?_
   intro a7 ao aM ab
   have own:=Ax own ab aK
   have r:=B8.ok.grown r ab aL
   have b:=A1 b ab
   refine M<|G<|N<|I D<|BP Dj aM D<|E8 CH [bv z.k.l,[Br z.d],[F z.s.p z.s.v.length z.s.c]] ?_
   intro a8 ao aN B
   have own:=V own B
   have r:=B8.ok.below r B D
   have b:=Ah b B
   intro aF Y
   refine Bj D (fun Aa Z=>BK Y CH own aN C8 b.size (0+1) (CC ([]) z D (CI _)) ?_)
   intro a a9 a_ a' m aO aq
   have r:=B8.ok.C9 r aq (fun k aP=>by cases aP)
   have b:=Cm b aq own
   refine Z _ _ ?_;revert a
   refine O D<|M<|Bq<|G<|N<|I (v:=(E 0)) D<|U0 1 (p:=0) (q:=1) D D<|O (v:=(E 1)) D<|M<|G<|?_
   intro a m
   exact⟨_,by omega,0+1,_,_,_,D,At m,by omega,fun h=>absurd h (by decide),Aw (by rw[List.take_of_length_le (by omega),Yc J aG (by omega)];simp[aH]),(fun x f=>by simp at f;subst f;exact r),(fun x f=>by simp at f;subst f;exact aa),aO,b⟩
  ·
   refine BO<|AW<|AW<|BN<|G<|K<|N<|I D<|O D<|M<|G<|AA<|AX<|AZ D<|?_
   obtain rfl:n=i:=by omega
   have ar:=aA.out
   rw[List.take_of_length_le (Nat.le_of_eq J)]at ar
   exact⟨_,_,_,D,own,by rw[ar],VH (by have:=DF CI (by decide) own;omega),aB,aC,b⟩
 ·
  refine AE<|G<|K<|N<|I D<|BY F1 D<|FK (q:=2) D D<|O D<|M<|G<|K<|N<|I D<|I D<|?_
  have u:=u (by omega)
  have hcap:=u.cap
  have au:=Kl u (n/2)
  rw[KQ CI]at au
  have aQ:(L.take (n/2)).length=n/2:=by have:=J;simp only[List.length_take];omega
  refine AT (fun _ m=>IW m CH D (n/2) (k:=.i64) D)<|AS Kw D (aj (n/2) (by omega) _ _ _ _ (by omega) (fun _=>au) aQ (fun x f=>X x (List.mem_of_mem_take f)) (fun x h=>f x (List.mem_of_mem_take h))) ?_
  rintro _ aR ⟨ba,bb,aS,rfl,H,aT,aU,P,ad,aV⟩
  refine⟨_,D,?_⟩
  have t:w.heap.size≤w.heap.size:=b.size
  have b:=Ah b aV
  have H:=CB H t
  have ad:∀x∈aS,∀a,x.s.p=some a→w.heap.size≤a.block:=fun x f a A=>Bs t (ad x f a A)
  refine O D<|M<|G<|K<|N<|I D<|I D<|?_
  obtain⟨bc,aW,T,bd⟩:=JY CH u (n/2)
  have T:=T _ u
  rw[Lj CI]at T
  have aX:(L.drop (n/2)).length=n - (n/2):=by have:=J;simp only[List.length_drop];omega
  refine AT (fun _ m=>I_ m D (n/2) (k:=.i64) D aW)<|AS Kw D (aj (n - (n/2)) (by omega) _ _ _ _ (by omega) (fun _=>T.below b) aX (fun x f=>(X x (List.mem_of_mem_drop f)).below b D) (fun x h=>f x (List.mem_of_mem_drop h))) ?_
  rintro _ aY ⟨bf,bg,aZ,rfl,U,a0,a1,ae,af,ag⟩
  refine⟨_,D,?_⟩
  have t:w.heap.size≤aR.heap.size:=b.size
  have H:=V H ag
  have P:=fun x f=>B8.ok.below (P x f) ag D
  have b:=Ah b ag
  have U:=CB U t
  have af:∀x∈aZ,∀a,x.s.p=some a→w.heap.size≤a.block:=fun x f a A=>Bs t (af x f a A)
  refine O D<|M<|G<|K<|N<|I D<|I D<|AS Ps D (Vj _ _ _ _ _ _ _ _ _ (by omega) (View.own H) (DF CI (by decide) H) (View.own U) (DF CI (by decide) U)) ?_
  rintro _ bh ⟨bj,bk,rfl,ah,ai⟩
  refine⟨_,D,?_⟩
  have t:w.heap.size≤aY.heap.size:=b.size
  have P:=fun x f=>B8.ok.below (P x f) ai D
  have ae:=fun x f=>B8.ok.below (ae x f) ai D
  have b:=Ah b ai
  have ah:=CB ah t
  refine O D<|M<|G<|AA<|AZ D<|?_
  have av:n/2+(n - n/2)=n:=by omega
  exact⟨_,_,_,by rw[av],HO av ah,Te aT a0,Vn aU a1,fun x f=>(List.mem_merge.1 f).elim (P x) (ae x),fun x f=>(List.mem_merge.1 f).elim (ad x) (af x),b⟩
def L0(L:List CV):Prop:=L.length≤4096∧(∀x∈L,x.d=false→x.s.v.length≤128)∧(L.map (fun x=>x.k.l)).Nodup
theorem keys_perm{R L:List CV}(h:(R.map GF).Perm (L.map G0)):(R.map (fun x=>x.k.l)).Perm (L.map (fun x=>x.k.l)):=by
 have:=h.map (fun t=>t.1.l)
 rw[List.map_map,List.map_map]at this
 exact this
theorem JG:∀(l m:List UInt8),l.length=m.length→B' l m=0→l=m:=by
 intro l
 induction l with
 |nil=>intro m h _;match m,h with|[],_=>rfl
 |cons x l b=>
  intro m h a
  match m,h with
  |y::m,h=>
   simp only[List.length_cons,Nat.add_right_cancel_iff]at h
   unfold B' at a
   by_cases e:x=y
   ·rw[if_pos e]at a
    rw[e,b m h a]
   ·rw[if_neg e]at a
    split at a<;>omega
theorem I7(l:List UInt8):B' l l=0:=by
 induction l with
 |nil=>unfold B';rfl
 |cons x l a=>unfold B';rw[if_pos D];exact a
theorem JL:∀(l m:List UInt8),l.length=m.length→B' m l= - B' l m:=by
 intro l
 induction l with
 |nil=>intro m h;match m,h with|[],_=>unfold B';rfl
 |cons x l a=>
  intro m h
  match m,h with
  |y::m,h=>
   simp only[List.length_cons,Nat.add_right_cancel_iff]at h
   unfold B'
   by_cases e:x=y
   ·rw[if_pos e,if_pos e.symm];exact a m h
   ·rw[if_neg e,if_neg (Ne.symm e)]
    have:x.toNat≠y.toNat:=fun q=>e (UInt8.toNat_inj.1 q)
    by_cases q:x.toNat<y.toNat
    ·rw[if_pos q,if_neg (by omega)];rfl
    ·rw[if_neg q,if_pos (by omega)]
theorem S8{R:List CV}(d:R.Pairwise (fun x y=>DJ x y))(h:∀i,i+1<R.length→∀x y,R[i]? =some x→R[i+1]? =some y→¬y.k.l=x.k.l):R.Pairwise (fun x y=>B' x.k.l y.k.l<0):=by
 induction R with
 |nil=>exact .nil
 |cons a R o=>
  rw[List.pairwise_cons]at d⊢
  have f:=o d.2 (fun i w x y p r=>h (i+1) (by simp only[List.length_cons];omega) x y (by simpa using p) (by simpa using r))
  refine⟨fun b g=>?_,f⟩
  match R,g,d,h,f with
  |c::R,g,d,h,f=>
   have j:B' a.k.l c.k.l<0:=by
    have m:=d.1 c (by simp)
    have n:=h 0 (by simp) a c D D
    simp only[DJ,decide_eq_true_eq]at m
    have s:B' a.k.l c.k.l≠0:=fun e=>n (JG _ _ (by rw[a.k.h,c.k.h]) e).symm
    omega
   rcases List.mem_cons.1 g with rfl|t
   ·exact j
   ·have m:=(List.pairwise_cons.1 f).1 b t
    have n:=ND a.k.l c.k.l b.k.l (by rw[a.k.h,c.k.h]) (by rw[c.k.h,b.k.h]) (by omega) (by omega)
    have s:B' a.k.l b.k.l≠0:=by
     intro e
     have u:=JG _ _ (by rw[a.k.h,b.k.h]) e
     rw[u]at j
     rcases Sp c.k.l b.k.l with q|q
     ·have:=UC b.k.l c.k.l
      have v:=JL _ _ (show b.k.l.length=c.k.l.length by rw[b.k.h,c.k.h])
      omega
     ·have v:=JL _ _ (show b.k.l.length=c.k.l.length by rw[b.k.h,c.k.h])
      omega
    omega
theorem WI{R:List CV}(h:R.Pairwise (fun x y=>B' x.k.l y.k.l<0)):(R.map (fun x=>x.k.l)).Nodup:=by
 rw[List.Nodup,List.pairwise_map]
 refine h.imp (fun {x y} q e=>?_)
 rw[e,I7]at q
 omega
theorem R2{R:List CV}(a:R.Pairwise (fun x y=>DJ x y))(h:(R.map (fun x=>x.k.l)).Nodup):R.Pairwise (fun x y=>B' x.k.l y.k.l<0):=by
 rw[List.Nodup,List.pairwise_map]at h
 refine a.imp₂ (fun {x y} q e=>?_) h
 simp only[DJ,decide_eq_true_eq]at q
 have:B' x.k.l y.k.l≠0:=fun z=>e (JG _ _ (by rw[x.k.h,y.k.h]) z)
 omega
theorem PR{R L:List CV}{m:Nat}(h:(R.map GF).Perm (L.map G0))(a:∀x∈L,x.d=false→x.s.v.length≤m):∀x∈R,x.s.v.length≤m:=by
 intro x b
 have c:GF x∈L.map G0:=h.mem_iff.1 (List.mem_map_of_mem b)
 obtain⟨y,f,e⟩:=List.mem_map.1 c
 simp only[GF,G0,Prod.mk.injEq]at e
 rw[←e.2.2]
 split
 ·exact Nat.zero_le _
 ·rename_i q
  exact a y f (by simpa using q)
theorem Wv{R L:List CV}{i:Nat}{x y:CV}(h:(R.map GF).Perm (L.map G0))(c:R[i]? =some x)(d:R[i+1]? =some y)(e:y.k.l=x.k.l):¬(L.map (fun x=>x.k.l)).Nodup:=by
 intro q
 have f:=(keys_perm h).nodup_iff.2 q
 have a:(R.map (fun x=>x.k.l))[i]? =some x.k.l:=by rw[List.getElem?_map,c];rfl
 have b:(R.map (fun x=>x.k.l))[i+1]? =some x.k.l:=by rw[List.getElem?_map,d];exact congrArg some e
 obtain⟨g,a⟩:=List.getElem?_eq_some_iff.1 a
 obtain⟨j,b⟩:=List.getElem?_eq_some_iff.1 b
 have:=(List.getElem_inj f (h₀:=g) (h₁:=j)).1 (a.trans b.symm)
 omega
theorem P'(q:Option Addr)(n c:Nat)(L:List CV)(w:World)(hn:n≤1000000000)(J:n≠0→View w (.slice q n c) n 34 (Al FQ L))(Z:L.length=n)(al:∀x∈L,B8.Hg w x.s):
 Calls Tryz.prog 22 #[F q n c,E 4096] w fun e w'=>∃z:Nat,e=.returned (.int .i64 ((z:Nat):Int))∧(z=0↔L0 L)∧Below w.heap.size w w':=by
 have m:Below w.heap.size w w:=Bu _ _
 refine Bx M7 D 53 ?_
 refine K<|N<|O (v:=(E 0)) D<|M<|G<|K<|K<|N<|I D<|BY F1 D<|I (v:=(E 4096)) D<|Ip (q:=(4096:Nat)) D D<|M<|G<|Bl D (fun an=>?_) fun an=>?_
 ·
  refine K<|N<|O (v:=(E 31)) D<|M<|G<|AA<|AX<|AZ D<|?_
  exact⟨_,D,⟨fun h=>absurd h (by decide),fun h=>absurd h.1 (by omega)⟩,m⟩
 ·
  refine AE<|G<|K<|K<|N<|O (v:=(E 0)) D<|M<|G<|A2<|?_
  intro a f
  refine Cb (fun R a W=>∃i,R=n - i∧W=w∧Ao 53 a (Ja (Ja Je 0 (F q n c)) 5 (E i))∧i≤n∧Hid (∀j,j<i→∀x,L[j]? =some x→x.d=false→x.s.v.length≤128)) _ ⟨0,D,D,At f,Nat.zero_le _,Aw (fun j P=>by omega)⟩ ?_
  rintro _ a w ⟨i,rfl,rfl,f,ao,Q⟩
  revert a
  refine K<|K<|N<|I D<|I D<|BY F1 D<|B5 D D<|M<|G<|Bl D (fun aq=>?_) fun aq=>?_
  ·
   refine AE<|G<|K<|A2<|K<|N<|I D<|I D<|?_
   obtain⟨aA,A,rfl⟩:=Ca (J (by omega))
   obtain⟨b,B⟩:=getD_some (L:=L) (j:=i) Z (by omega)
   have aa:=BJ CI (J (by omega)) B (o:=A+i*34)
   refine Cn CH i (A+i*34) D D<|Am Dj (A+i*34+32) D<|?_
   rcases Bool.eq_false_or_eq_true b.d with C|C
   ·
    refine AT (fun _ f=>Fk (D1 f D FP D (Dh [bv b.k.l] (Br b.d) [[F b.s.p b.s.v.length b.s.c]] aa (Jb.row b.k.row Jb.nil))) (congrArg Value.bool C))<|Dn D<|I D<|Ae D D D D<|Ae D D D D<|Ae D D D D<|Ae D D D D<|Ae D D D D<|Ae D D D D<|Ae D D D D<|Ba D D<|M<|G<|BE D<|AE<|Bq<|G<|N<|I D<|A_ (q:=1) D D<|O D<|M<|G<|?_
    intro a f
    exact⟨_,by omega,i+1,D,D,At f,by omega,(Aw (Jn Q.out (fun y t=>by rw[B]at t;cases t;intro Ab;rw[C]at Ab;simp at Ab)))⟩
   ·
    refine AT (fun _ f=>Fk (D1 f D FP D (Dh [bv b.k.l] (Br b.d) [[F b.s.p b.s.v.length b.s.c]] aa (Jb.row b.k.row Jb.nil))) (congrArg Value.bool C))<|Dn D<|I D<|Ad D D D<|I D<|Ad D D D<|I D<|?_
    have ar:=BJ CI (J (by omega)) B (o:=A+i*34)
    refine Ad D D D<|Cn CH i (A+i*34) D D<|Ad D D D<|Am Dj (A+i*34+33) D<|Ad D D D<|Cg Cr (Dh [bv b.k.l,[Br b.d]] (F b.s.p b.s.v.length b.s.c) [] ar (Jb.row b.k.row (Jb.one Jb.nil))) D<|Ad D D D<|BY Cr D<|?_
    by_cases S:((128:Nat):Int)<((b.s.v.length:Nat):Int)
    ·
     refine Ad D D D<|Gp S D D<|Bn D D<|M<|G<|BS D<|K<|N<|O (v:=(E 32)) D<|M<|G<|AA<|C1<|AX<|AX<|C1<|AX<|AZ D<|?_
     exact⟨_,D,⟨fun h=>absurd h (by decide),fun h=>absurd (h.2.1 b (List.mem_of_getElem? B) C) (by omega)⟩,m⟩
    ·
     refine Ad D D D<|FV S D D<|Bn D D<|M<|G<|BE D<|AE<|Bq<|G<|N<|I D<|A_ (q:=1) D D<|O D<|M<|G<|?_
     intro a f
     exact⟨_,by omega,i+1,D,D,At f,by omega,(Aw (Jn Q.out (fun y t=>by rw[B]at t;cases t;intro Ab;have:=S;omega)))⟩
  ·
   refine BO<|AW<|AW<|BN<|G<|K<|N<|I D<|?_
   have ab:∀x∈L,x.d=false→x.s.v.length≤128:=fun x r=>by
    obtain⟨j,P,rfl⟩:=List.getElem_of_mem r
    exact Q.out j (by omega) _ (List.getElem?_eq_getElem P)
   refine AS Kw D (NK _ _ _ _ _ (by omega) J Z (fun x r=>al x r) (fun x r Ab=>Bs (ab x r Ab) (by decide))) ?_
   rintro _ aB ⟨ad,ae,u,rfl,g,af,au,H,ag,av⟩
   refine⟨_,D,?_⟩
   have ah:w.heap.size≤w.heap.size:=m.size
   have m:=Ah m av
   have g:=CB g ah
   have ag:∀x∈u,∀a,x.s.p=some a→w.heap.size≤a.block:=fun x r a aw=>Bs ah (ag x r a aw)
   refine O D<|M<|G<|K<|K<|N<|O (v:=(E 1)) D<|M<|G<|A2<|?_
   intro a f
   refine Cb (fun R a W=>∃i,R=n+1 - i∧Ao 53 a (Ja (Ja Je 6 (F ad n ae)) 7 (E i))∧(1≤i∧i≤n+1)∧Hid (∀j,j<i - 1→∀x y,u[j]? =some x→u[j+1]? =some y→¬y.k.l=x.k.l)∧Below w.heap.size w W∧W.ownsRow w.heap.size 96 34 (.slice ad n ae) n (Al FQ u)∧(∀x∈u,B8.ok W x.s)) _ ⟨1,D,At f,by omega,Aw (fun j P=>by omega),m,g,H⟩ ?_
   rintro _ a aC ⟨i,rfl,f,ao,ai,m,g,H⟩
   revert a
   refine K<|K<|N<|I D<|I D<|BY F1 D<|B5 D D<|M<|G<|Bl D (fun ax=>?_) fun ax=>?_
   ·
    refine AE<|G<|K<|A2<|K<|?_
    intro a f
    refine Gm (by kernel_rfl) (by kernel_rfl) ?_
    intro aD Q T
    have g:=V g T
    have H:=fun x r=>B8.ok.below (H x r) T D
    have m:=Ah m T
    revert a
    refine A3 D<|A3 D<|?_
    obtain⟨aE,rfl⟩:=Ia g
    obtain⟨aj,U⟩:=getD_some (L:=u) (j:=i) (DF CI (by decide) g) (by omega)
    have ay:=BJ CI (View.own g) U (o:=0+i*34)
    refine C0 CH i (0+i*34) D D<|Cx Dj (0+i*34) D<|FG Ce 0 1 [bv aj.k.l] ay D<|A3 D<|A3 D<|HI (q:=1) D D<|?_
    obtain⟨ak,X⟩:=getD_some (L:=u) (j:=i - 1) (DF CI (by decide) g) (by omega)
    have az:=BJ CI (View.own g) X (o:=0+(i - 1)*34)
    refine C0 CH (i - 1) (0+(i - 1)*34) D D<|Cx Dj (0+(i - 1)*34) D<|FG Ce 0 1 [bv ak.k.l] az D<|Cz (fun _ f=>KN f aj.k.h ak.k.h D D _ D)<|Er<|G<|Bl D (fun Y=>?_) fun Y=>?_
    ·
     refine K<|N<|O (v:=(E 33)) D<|M<|G<|AA<|C1<|AX<|AX<|C1<|AX<|AZ D<|?_
     exact⟨_,D,⟨fun h=>absurd h (by decide),fun h=>absurd h.2.2 (Wv af X (by rw[show i - 1+1=i by omega];exact U) Y)⟩,m⟩
    ·
     refine AE<|Bq<|G<|N<|I D<|A_ (q:=1) D D<|O D<|M<|G<|?_
     intro a f
     exact⟨_,by omega,i+1,D,At f,by omega,(Aw (by rw[show i+1 - 1=(i - 1)+1 by omega];exact Jn ai.out (fun x y r t=>by rw[X]at r;cases r;rw[show i - 1+1=i by omega,U]at t;cases t;exact Y))),m,g,H⟩
   ·
    refine BO<|AW<|AW<|BN<|G<|K<|N<|O (v:=(E 0)) D<|M<|G<|AA<|AZ D<|?_
    exact⟨_,D,⟨fun _=>⟨by omega,ab,(keys_perm af).nodup_iff.1 (WI (S8 au (fun j P=>ai.out j (by have:=DF CI (by decide) g;omega))))⟩,fun _=>rfl⟩,m⟩
theorem UP(q:Option Addr)(n c:Nat)(L:List CV)(w:World)(hn:n≤1000000000)(m:n≠0→View w (.slice q n c) n 34 (Al FQ L))(o:L.length=n)(r:∀x∈L,B8.Hg w x.s)(f:L0 L):
 Calls Tryz.prog 12 #[F q n c] w fun e w'=>∃p k,∃R:List CV,e=.returned (.tuple #[.slice p n k,.int .i64 ((0:Nat):Int)])∧w'.ownsRow w.heap.size 96 34 (.slice p n k) n (Al FQ R)∧(R.map GF).Perm (L.map G0)∧R.Pairwise (fun x y=>B' x.k.l y.k.l<0)∧(∀x∈R,B8.ok w' x.s)∧(∀x∈R,∀a,x.s.p=some a→w.heap.size≤a.block)∧(∀x∈R,x.s.v.length≤128)∧Below w.heap.size w w':=by
 have b:Below w.heap.size w w:=Bu _ _
 refine Bx Nk D 14 ?_
 refine K<|N<|O D<|O (v:=(E 0)) D<|M<|G<|K<|N<|I D<|AS M7 D (P' _ _ _ _ _ hn m o r) ?_
 rintro _ u ⟨z,rfl,A,B⟩
 refine⟨_,D,?_⟩
 have b:=Ah b B
 refine O D<|M<|G<|K<|K<|N<|I D<|?_
 have C:(((z:Nat):Int)=((0:Nat):Int)):=by have:=A;simp[f]at this;omega
 refine Dr C D D<|M<|G<|BE D<|AE<|G<|K<|N<|I D<|AS Kw D (NK _ _ _ _ _ (by omega) (fun h=>(m h).below b) o (fun x d=>(r x d).below b D) (fun x d Ab=>Bs (f.2.1 x d Ab) (by decide))) ?_
 rintro _ T ⟨U,V,H,rfl,g,i,J,P,j,Q⟩
 refine⟨_,D,?_⟩
 have t:w.heap.size≤u.heap.size:=b.size
 have b:=Ah b Q
 have g:=CB g t
 have j:∀x∈H,∀a,x.s.p=some a→w.heap.size≤a.block:=fun x d a S=>Bs t (j x d a S)
 refine O D<|M<|G<|K<|N<|I D<|O D<|O (v:=(E 0)) D<|M<|G<|AA<|IA D D<|?_
 exact⟨_,_,_,D,g,i,R2 J ((keys_perm i).nodup_iff.2 f.2.2),P,j,PR i f.2.1,b⟩
theorem T1(q:Option Addr)(n c:Nat)(L:List CV)(w:World)(hn:n≤1000000000)(g:n≠0→View w (.slice q n c) n 34 (Al FQ L))(i:L.length=n)(j:∀x∈L,B8.Hg w x.s)(b:¬L0 L):
 Calls Tryz.prog 12 #[F q n c] w fun e w'=>∃z:Nat,z≠0∧e=.returned (.tuple #[.slice none 0 0,.int .i64 ((z:Nat):Int)])∧Below w.heap.size w w':=by
 have a:Below w.heap.size w w:=Bu _ _
 refine Bx Nk D 14 ?_
 refine K<|N<|O D<|O (v:=(E 0)) D<|M<|G<|K<|N<|I D<|AS M7 D (P' _ _ _ _ _ hn g i j) ?_
 rintro _ m ⟨d,rfl,f,k⟩
 refine⟨_,D,?_⟩
 have a:=Ah a k
 refine O D<|M<|G<|K<|K<|N<|I D<|?_
 have l:¬(((d:Nat):Int)=((0:Nat):Int)):=fun h=>b (f.1 (by omega))
 refine F6 l D D<|M<|G<|BS D<|K<|N<|I D<|O D<|O D<|M<|G<|AA<|AX<|IA D D<|?_
 exact⟨d,fun h=>b (f.1 h),D,a⟩
def Ez(x y:B7):Prop:=B' x.k.l y.k.l<0
def M9(x y:CV):Prop:=B' x.k.l y.k.l<0
theorem L9{x y z:Jd}(c:B' x.l y.l<0)(f:B' y.l z.l<0):B' x.l z.l<0:=by
 have a:=ND x.l y.l z.l (by rw[x.h,y.h]) (by rw[y.h,z.h]) (by omega) (by omega)
 have b:B' x.l z.l≠0:=by
  intro e
  have d:=JG _ _ (by rw[x.h,z.h]) e
  rw[d]at c
  have:=JL y.l z.l (by rw[y.h,z.h])
  omega
 omega
theorem RG{x y:Jd}(h:¬B' x.l y.l<0)(hn:¬x.l=y.l):B' y.l x.l<0:=by
 have:=JL x.l y.l (by rw[x.h,y.h])
 have b:B' x.l y.l≠0:=fun e=>hn (JG _ _ (by rw[x.h,y.h]) e)
 omega
structure F' (A:List B7) (B:List CV) (R:List B7) (i j:Nat):Prop where
 aI:R.Pairwise Ez
 a:∀x∈R,∀y∈A.drop i,B' x.k.l y.k.l<0
 b:∀x∈R,∀y∈B.drop j,B' x.k.l y.k.l<0
 n:R.length≤i+j
 m:∀x∈R,x∈A∨∃y∈B,y.d=false∧x=⟨y.k,y.s⟩
 z:B=[]→R=A.take i
 d:∀x∈A.take i,x∈R∨∃y∈B,y.k.l=x.k.l
theorem F'.nil(A:List B7)(B:List CV):F' A B [] 0 0:=⟨.nil,(fun x a=>by cases a),(fun x a=>by cases a),Be _,(fun x a=>by cases a),fun _=>rfl,fun x a=>by simp at a⟩
theorem QW{r:Ck→Ck→Prop}{R:List Ck}{x:Ck}(h:R.Pairwise r)(d:∀y∈R,r y x):(R++[x]).Pairwise r:=by
 rw[List.pairwise_append]
 exact⟨h,List.pairwise_singleton _ _,fun a e b c=>by simp at c;subst c;exact d a e⟩
theorem QO{L:List Ck}{i:Nat}{x:Ck}(h:L[i]? =some x):x∈L.drop i:=by rw[Ie h];simp
theorem Ml{L:List Ck}{i:Nat}{x:Ck}(h:x∈L.drop (i+1)):x∈L.drop i:=by
 rw[←List.drop_drop]at h
 exact List.mem_of_mem_drop h
theorem Lr{r:Ck→Ck→Prop}{L:List Ck}{i:Nat}{x:Ck}(a:L.Pairwise r)(h:L[i]? =some x):∀y∈L.drop (i+1),r x y:=by
 have:=a.drop (i:=i)
 rw[Ie h]at this
 exact(List.pairwise_cons.1 this).1
variable {A R:List B7} {B:List CV} {i j:Nat} {x:B7} {y:CV}
theorem F'.skip(h:F' A B R i j):F' A B R i (j+1):=⟨h.aI,h.a,fun x c y e=>h.b x c y (Ml e),by have:=h.n;omega,h.m,h.z,h.d⟩
theorem Pb{p:Ck→Prop}{L:List Ck}{i:Nat}{x:Ck}(b:L[i]? =some x)(h:∀z∈L.take i,p z)(c:p x):∀z∈L.take (i+1),p z:=by
 intro z a
 rw[List.take_add_one,b]at a
 rcases List.mem_append.1 a with q|q
 ·exact h z q
 ·simp at q;subst q;exact c
theorem F'.RP(h:F' A B R i j)(f:A[i]? =some x)(c:B[j]? =some y)(he:x.k.l=y.k.l):F' A B R (i+1) j:=⟨h.aI,fun x f y c=>h.a x f y (Ml c),h.b,by have:=h.n;omega,h.m,(fun e=>by rw[e]at c;cases c),Pb f h.d (.inr ⟨y,List.mem_of_getElem? c,he.symm⟩)⟩
theorem F'.KI(h:F' A B R i j)(o:A.Pairwise Ez)(f:A[i]? =some x)(p:∀y∈B.drop j,B' x.k.l y.k.l<0):F' A B (R++[x]) (i+1) j:=by
 refine⟨QW h.aI (fun z c=>h.a z c x (QO f)),?_,?_,by have:=h.n;simp;omega,?_,fun e=>by rw[h.z e,List.take_add_one,f];rfl,Pb f (fun z c=>(h.d z c).elim (fun q=>.inl (List.mem_append_left _ q)) .inr) (.inl (by simp))⟩
 ·intro z c y g
  rcases List.mem_append.1 c with q|q
  ·exact h.a z q y (Ml g)
  ·simp at q;subst q;exact Lr o f y g
 ·intro z c y g
  rcases List.mem_append.1 c with q|q
  ·exact h.b z q y g
  ·simp at q;subst q;exact p y g
 ·intro z c
  rcases List.mem_append.1 c with q|q
  ·exact h.m z q
  ·simp at q;subst q;exact .inl (List.mem_of_getElem? f)
theorem F'.NO(h:F' A B R i j)(g:B.Pairwise M9)(f:B[j]? =some y)(Ab:y.d=false)(o:∀z∈A.drop i,B' y.k.l z.k.l<0):F' A B (R++[⟨y.k,y.s⟩]) i (j+1):=by
 refine⟨QW h.aI (fun z c=>h.b z c y (QO f)),?_,?_,by have:=h.n;simp;omega,?_,(fun e=>by rw[e]at f;cases f),fun z c=>(h.d z c).elim (fun q=>.inl (List.mem_append_left _ q)) .inr⟩
 ·intro z c u hu
  rcases List.mem_append.1 c with q|q
  ·exact h.a z q u hu
  ·simp at q;subst q;exact o u hu
 ·intro z c u hu
  rcases List.mem_append.1 c with q|q
  ·exact h.b z q u (Ml hu)
  ·simp at q;subst q;exact Lr g f u hu
 ·intro z c
  rcases List.mem_append.1 c with q|q
  ·exact h.m z q
  ·simp at q;subst q;exact .inr ⟨y,List.mem_of_getElem? f,Ab,D⟩
theorem Uj(c:B.Pairwise M9)(a:B[j]? =some y)(h:B' x.k.l y.k.l<0):∀z∈B.drop j,B' x.k.l z.k.l<0:=by
 intro z b
 rw[Ie a]at b
 rcases List.mem_cons.1 b with rfl|q
 ·exact h
 ·exact L9 h (Lr c a z q)
theorem Zj(c:A.Pairwise Ez)(a:A[i]? =some x)(h:B' y.k.l x.k.l<0):∀z∈A.drop i,B' y.k.l z.k.l<0:=by
 intro z b
 rw[Ie a]at b
 rcases List.mem_cons.1 b with rfl|q
 ·exact h
 ·exact L9 h (Lr c a z q)
theorem WW(a:A.Pairwise Ez)(b:A[i]? =some x)(h:x.k.l=y.k.l):∀z∈A.drop (i+1),B' y.k.l z.k.l<0:=by
 intro z c
 rw[←h]
 exact Lr a b z c
theorem PX{p:Ck→Prop}{L:List Ck}{i n:Nat}(b:L.length=n)(c:n≤i):∀z∈L.drop i,p z:=by
 intro z a
 rw[List.drop_of_length_le (by omega)]at a
 cases a
theorem Xc(By aG:Option Addr)(U Y AG aH:Nat)(A:List B7)(B:List CV)(w:World)(bG:U+Y≤100000000)(al:View w (.slice By U AG) U 33 (Al FJ A))(aw:A.length=U)(aC:View w (.slice aG Y aH) Y 34 (Al FQ B))(aV:B.length=Y)(aD:∀x∈A,B8.ok w x.s)(aE:∀x∈B,B8.ok w x.s)(ay:A.Pairwise Ez)(hn:(B.map (fun x=>x.k.l)).Nodup)(aW:∀x∈A,x.s.v.length≤128)(aI:∀x∈B,x.s.v.length≤128):
 Calls Tryz.prog 13 #[F By U AG,F aG Y aH] w fun e w'=>∃p k n,∃R:List B7,e=.returned (.slice p n k)∧w'.ownsRow w.heap.size 53 33 (.slice p n k) n (Al FJ R)∧R.Pairwise Ez∧(∀x∈R,B8.ok w' x.s)∧(∀x∈R,x.s.v.length≤128)∧n≤U+Y∧(Y=0→R=A)∧(∀x∈R,x∈A∨(x.k.l∈B.map (fun y=>y.k.l)∧∀a,x.s.p=some a→w.heap.size≤a.block))∧(∀x∈A,x∈R∨x.k.l∈B.map (fun y=>y.k.l))∧Below w.heap.size w w':=by
 have b:Below w.heap.size w w:=Bu _ _
 refine Bx Q4 D 97 ?_
 refine K<|N<|O D<|M<|G<|K<|N<|I D<|AS Kw D (NK _ _ _ _ _ (by omega) (fun _=>aC) aV (fun x S=>(aE x S).z) (fun x S Ab=>Bs (aI x S) (by decide))) ?_
 rintro _ Q ⟨aJ,aK,ai,rfl,ar,az,aX,aY,aF,aZ⟩
 refine⟨_,D,?_⟩
 have aL:w.heap.size≤w.heap.size:=b.size
 have au:=Ah b aZ
 have ar:=CB ar aL
 have aF:∀x∈ai,∀a,x.s.p=some a→w.heap.size≤a.block:=fun x S a a0=>Bs aL (aF x S a a0)
 refine O D<|?_
 have aA:ai.Pairwise M9:=R2 aX ((keys_perm az).nodup_iff.2 hn)
 have a1:∀x∈ai,x.s.v.length≤128:=PR az (fun x S _=>aI x S)
 have b:Below Q.heap.size Q Q:=Bu _ _
 have aM:w.heap.size≤Q.heap.size:=au.size
 have al:=View.below al au
 have aC:=View.below aC au
 have aD:=fun x S=>B8.ok.below (aD x S) au D
 have aE:=fun x S=>B8.ok.below (aE x S) au D
 have ad:=View.own ar
 refine M<|G<|K<|N<|O D<|M<|G<|K<|N<|O (v:=(E 0)) D<|M<|G<|K<|K<|N<|O (v:=(E 0)) D<|M<|G<|A2<|?_
 have own:Q.ownsRow Q.heap.size 53 33 (.slice none 0 0) 0 (Al FJ []):=World.ownsRow_nil _ _ _ _
 intro a g
 refine Cb (fun ax a W=>∃i j af ag P X,ax=Y - j∧Ao 97 a (Ja (Ja (Ja (Ja (Ja (Ja Je 0 (F By U AG)) 4 (F none 0 0)) 5 (F aJ Y aK)) 7 (E i)) 8 (E j)) 6 (F af P ag))∧(i≤U∧j≤Y)∧P≤i+j∧Hid (F' A ai X i j)∧W.ownsRow Q.heap.size 53 33 (.slice af P ag) P (Al FJ X)∧Below Q.heap.size Q W) _ ⟨0,0,_,_,_,_,D,At g,by omega,by omega,Aw (F'.nil _ _),own,b⟩ ?_
 rintro _ a bH ⟨i,j,af,ag,P,X,rfl,g,bI,aN,T,own,b⟩
 revert a
 refine K<|K<|N<|I D<|I D<|BY F1 D<|B5 D D<|M<|G<|Bl D (fun a2=>?_) fun a2=>?_
 ·
  refine AE<|G<|K<|A2<|K<|A2<|?_
  intro a g
  refine Cb (fun ax a W=>∃i af ag P X,ax=U - i∧Ao 97 a (Ja (Ja (Ja (Ja (Ja (Ja Je 0 (F By U AG)) 4 (F none 0 0)) 5 (F aJ Y aK)) 8 (E j)) 7 (E i)) 6 (F af P ag))∧i≤U∧P≤i+j∧Hid (F' A ai X i j)∧W.ownsRow Q.heap.size 53 33 (.slice af P ag) P (Al FJ X)∧Below Q.heap.size Q W) _ ⟨_,_,_,_,_,D,At g,by omega,by omega,T,own,b⟩ ?_
  rintro _ a bJ ⟨i,af,ag,P,X,rfl,g,a3,aN,T,own,b⟩
  revert a
  refine K<|K<|N<|I D<|I D<|BY FB D<|B5 D D<|M<|G<|Bl D (fun a4=>?_) fun a4=>?_
  ·
   refine AE<|G<|A2<|K<|?_
   intro a g
   refine EJ 10 ?_
   intro bK ah H
   have own:=V own H
   have b:=Ah b H
   revert a
   refine A3 D<|A3 D<|?_
   obtain⟨bL,an,rfl⟩:=Ca (al.below b)
   obtain⟨Z,ao⟩:=getD_some (L:=A) (j:=i) aw (by omega)
   have a5:=BJ Ep (al.below b) ao (o:=an+i*33)
   refine C0 DH i (an+i*33) D D<|Cx FE (an+i*33) D<|FG Ce 0 1 [bv Z.k.l] a5 D<|A3 D<|A3 D<|?_
   obtain⟨bM,J,rfl⟩:=Ca (ad.below b)
   obtain⟨t,ae⟩:=getD_some (L:=ai) (j:=j) (DF CI (by decide) ar) (by omega)
   have a6:=BJ CI (ad.below b) ae (o:=J+j*34)
   refine C0 CH j (J+j*34) D D<|Cx Dj (J+j*34) D<|FG Ce 0 1 [bv t.k.l] a6 D<|?_
   intro a g;refine EG ?_;revert a
   refine AS KP D (L8 Z.k t.k _) ?_
   rintro _ bN ⟨rfl,aO⟩
   refine⟨_,D,?_⟩
   have own:=V own aO
   have b:=Ah b aO
   refine O D<|M<|G<|K<|K<|N<|I D<|JT (q:=(0:Nat)) D D<|M<|G<|Bl D (fun a7=>?_) fun a7=>?_
   ·
    refine BO<|AW<|ED<|AW<|BN<|G<|K<|K<|?_
    intro a g
    refine Gm (by kernel_rfl) (by kernel_rfl) ?_
    intro bO ah H
    have own:=V own H
    have b:=Ah b H
    revert a
    refine A3 D<|A3 D<|J_ FB D<|?_
    have a8:(((i:Nat):Int)<((U:Nat):Int)):=by omega
    refine PS a8 D D<|A3 D<|BI D D D<|A3 D<|BI D D D<|A3 D<|?_
    have a9:=BJ Ep (al.below b) ao (o:=an+i*33)
    refine BI D D D<|C0 DH i (an+i*33) D D<|BI D D D<|Cx FE (an+i*33) D<|BI D D D<|FG Ce 0 1 [bv Z.k.l] a9 D<|BI D D D<|A3 D<|BI D D D<|A3 D<|?_
    have a_:=BJ CI (ad.below b) ae (o:=J+j*34)
    refine BI D D D<|C0 CH j (J+j*34) D D<|BI D D D<|Cx Dj (J+j*34) D<|BI D D D<|FG Ce 0 1 [bv t.k.l] a_ D<|?_
    by_cases av:Z.k.l=t.k.l
    ·
     refine BI D D D<|Cz (fun _ g=>KN g Z.k.h t.k.h D D true (decide_eq_true av))<|G' D D<|Er<|G<|BS D<|N<|I D<|A_ (q:=1) D D<|O D<|M<|G<|K<|N<|I D<|I D<|?_
     have a':=BJ CI (ad.below b) ae (o:=J+j*34)
     refine Cn CH j (J+j*34) D D<|Am Dj (J+j*34+32) D<|Cg FP (Dh [bv t.k.l] (Br t.d) [[F t.s.p t.s.v.length t.s.c]] a' (Jb.row t.k.row Jb.nil)) D<|Dn D<|M<|G<|Ej D (fun aP=>?_) fun aP=>?_
     ·
      intro a g
      refine C7 (fun W=>(Below Q.heap.size Q W)) ?_
      intro bP ah H
      have own:=V own H
      have b:=Ah b H
      revert a
      refine A5 0 D (fun W u a g=>by have b:=u;exact Ew g D) b<|A5 1 D (fun W u a g=>by have b:=u;exact Ew g D) b<|A5 2 D (fun W u a g=>by have b:=u;exact Ew g D) b<|A5 3 D (fun W u a g=>by have b:=u;exact Fz g CH D (i:=((j:Nat):Int)) D j (o:=J+j*34)) b<|A5 4 D (fun W u a g=>by have b:=u;exact JA g D Dj D (sz:=31) (o:=J+j*34)) b<|A5 5 D (fun W u a g=>by have b:=u;have ba:=BJ CI (ad.below b) ae (o:=J+j*34);exact H9 g D Ce D (mid:=[bv t.k.l]) (HM [] [bv t.k.l] [[Br t.d],[F t.s.p t.s.v.length t.s.c]] ba D (by first|rfl|omega)) (Cf 32)) b<|A5 6 D (fun W u a g=>by have b:=u;exact Ew g D) b<|A5 7 D (fun W u a g=>by have b:=u;exact Ew g D) b<|A5 8 D (fun W u a g=>by have b:=u;exact Fz g CH D (i:=((j:Nat):Int)) D j (o:=J+j*34)) b<|A5 9 D (fun W u a g=>by have b:=u;exact JA g D Dj D (sz:=0) (o:=J+j*34+33)) b<|A5 10 D (fun W u a g=>by have b:=u;have bb:=BJ CI (ad.below b) ae (o:=J+j*34);exact D1 g D Cr D (Dh [bv t.k.l,[Br t.d]] (F t.s.p t.s.v.length t.s.c) [] bb (Jb.row t.k.row (Jb.one Jb.nil)))) b<|A5 11 D (fun W u a g=>by have b:=u;exact GG g (Bf:=[(0,(Value.agg (flat [bv t.k.l]))),(1,(F t.s.p t.s.v.length t.s.c))]) D (r:=flat [bv t.k.l,[F t.s.p t.s.v.length t.s.c]]) (GI FE (ss:=[Av 32,[F none 0 0]]) (by kernel_rfl) (places:=[(0,32),(32,1)]) (by kernel_rfl) (C2 [] [Av 32] [[F none 0 0]] [bv t.k.l] D Jb.nil (Jb.row (Jg 32) Jb.nil) (Jb.row t.k.row Jb.nil) D (C2 [bv t.k.l] [[F none 0 0]] [] [[F t.s.p t.s.v.length t.s.c]] D (Jb.row t.k.row Jb.nil) (Jb.one Jb.nil) (Jb.one Jb.nil) D D)))) b<|?_
      intro aq aa
      refine A8 12 2 D D ?_
      intro Aa ab
      refine EK aa DH [bv t.k.l,[F t.s.p t.s.v.length t.s.c]] ?_
      intro a bQ g ah bc H
      have own:=V own H
      have b:=Ah b H
      refine ab _ _ b ?_;revert a
      intro aq aa
      refine A8 13 1 D D ?_
      intro Aa ab
      refine BK aa DH own bc C8 b.size (P+1) (CC X (⟨t.k,t.s⟩:B7) D (Ep _)) ?_
      intro a bR bS bT g bd bf
      have b:=Cm b bf own
      refine ab _ _ b ?_;revert a
      refine A5 14 D (fun W u a g=>by have b:=u;exact Kb g D) b<|B_<|Bq<|G<|N<|I D<|A_ (q:=1) D D<|O D<|M<|G<|?_
      intro a g
      exact⟨_,by omega,_,j+1,_,_,_,_,D,At g,by omega,by omega,Aw ((T.out.RP ao ae av).NO aA ae (by simpa using aP) (WW ay ao av)),bd,b⟩
     ·
      refine AE<|Bq<|G<|N<|I D<|A_ (q:=1) D D<|O D<|M<|G<|?_
      intro a g
      exact⟨_,by omega,_,j+1,_,_,_,_,D,At g,by omega,by omega,Aw (T.out.RP ao ae av).skip,own,b⟩
    ·
     refine BI D D D<|Cz (fun _ g=>KN g Z.k.h t.k.h D D false (decide_eq_false av))<|G' D D<|Er<|G<|BE D<|AE<|G<|K<|N<|I D<|I D<|?_
     have bg:=BJ CI (ad.below b) ae (o:=J+j*34)
     refine Cn CH j (J+j*34) D D<|Am Dj (J+j*34+32) D<|Cg FP (Dh [bv t.k.l] (Br t.d) [[F t.s.p t.s.v.length t.s.c]] bg (Jb.row t.k.row Jb.nil)) D<|Dn D<|M<|G<|Ej D (fun aQ=>?_) fun aQ=>?_
     ·
      intro a g
      refine C7 (fun W=>(Below Q.heap.size Q W)) ?_
      intro bU ah H
      have own:=V own H
      have b:=Ah b H
      revert a
      refine A5 0 D (fun W u a g=>by have b:=u;exact Ew g D) b<|A5 1 D (fun W u a g=>by have b:=u;exact Ew g D) b<|A5 2 D (fun W u a g=>by have b:=u;exact Ew g D) b<|A5 3 D (fun W u a g=>by have b:=u;exact Fz g CH D (i:=((j:Nat):Int)) D j (o:=J+j*34)) b<|A5 4 D (fun W u a g=>by have b:=u;exact JA g D Dj D (sz:=31) (o:=J+j*34)) b<|A5 5 D (fun W u a g=>by have b:=u;have bh:=BJ CI (ad.below b) ae (o:=J+j*34);exact H9 g D Ce D (mid:=[bv t.k.l]) (HM [] [bv t.k.l] [[Br t.d],[F t.s.p t.s.v.length t.s.c]] bh D (by first|rfl|omega)) (Cf 32)) b<|A5 6 D (fun W u a g=>by have b:=u;exact Ew g D) b<|A5 7 D (fun W u a g=>by have b:=u;exact Ew g D) b<|A5 8 D (fun W u a g=>by have b:=u;exact Fz g CH D (i:=((j:Nat):Int)) D j (o:=J+j*34)) b<|A5 9 D (fun W u a g=>by have b:=u;exact JA g D Dj D (sz:=0) (o:=J+j*34+33)) b<|A5 10 D (fun W u a g=>by have b:=u;have bj:=BJ CI (ad.below b) ae (o:=J+j*34);exact D1 g D Cr D (Dh [bv t.k.l,[Br t.d]] (F t.s.p t.s.v.length t.s.c) [] bj (Jb.row t.k.row (Jb.one Jb.nil)))) b<|A5 11 D (fun W u a g=>by have b:=u;exact GG g (Bf:=[(0,(Value.agg (flat [bv t.k.l]))),(1,(F t.s.p t.s.v.length t.s.c))]) D (r:=flat [bv t.k.l,[F t.s.p t.s.v.length t.s.c]]) (GI FE (ss:=[Av 32,[F none 0 0]]) (by kernel_rfl) (places:=[(0,32),(32,1)]) (by kernel_rfl) (C2 [] [Av 32] [[F none 0 0]] [bv t.k.l] D Jb.nil (Jb.row (Jg 32) Jb.nil) (Jb.row t.k.row Jb.nil) D (C2 [bv t.k.l] [[F none 0 0]] [] [[F t.s.p t.s.v.length t.s.c]] D (Jb.row t.k.row Jb.nil) (Jb.one Jb.nil) (Jb.one Jb.nil) D D)))) b<|?_
      intro aq aa
      refine A8 12 2 D D ?_
      intro Aa ab
      refine EK aa DH [bv t.k.l,[F t.s.p t.s.v.length t.s.c]] ?_
      intro a bV g ah bk H
      have own:=V own H
      have b:=Ah b H
      refine ab _ _ b ?_;revert a
      intro aq aa
      refine A8 13 1 D D ?_
      intro Aa ab
      refine BK aa DH own bk C8 b.size (P+1) (CC X (⟨t.k,t.s⟩:B7) D (Ep _)) ?_
      intro a bW bX bY g bl bm
      have b:=Cm b bm own
      refine ab _ _ b ?_;revert a
      refine A5 14 D (fun W u a g=>by have b:=u;exact Kb g D) b<|B_<|Bq<|G<|N<|I D<|A_ (q:=1) D D<|O D<|M<|G<|?_
      intro a g
      exact⟨_,by omega,_,j+1,_,_,_,_,D,At g,by omega,by omega,Aw (T.out.NO aA ae (by simpa using aQ) (Zj ay ao (RG (by omega) av))),bl,b⟩
     ·
      refine AE<|Bq<|G<|N<|I D<|A_ (q:=1) D D<|O D<|M<|G<|?_
      intro a g
      exact⟨_,by omega,_,j+1,_,_,_,_,D,At g,by omega,by omega,Aw T.out.skip,own,b⟩
   ·
    refine AE<|G<|K<|N<|I D<|I D<|I D<|?_
    have bn:=BJ Ep (al.below b) ao (o:=an+i*33)
    refine Cn DH i (an+i*33) D D<|D9 FE 0 2 [bv Z.k.l,[F Z.s.p Z.s.v.length Z.s.c]] bn D<|E8 DH [bv Z.k.l,[F Z.s.p Z.s.v.length Z.s.c]] ?_
    intro bZ ah bo H
    have own:=V own H
    have b:=Ah b H
    intro aq aa
    refine Bj D (fun Aa ab=>BK aa DH own bo C8 b.size (P+1) (CC X Z D (Ep _)) ?_)
    intro a b0 b1 b2 g bp bq
    have b:=Cm b bq own
    refine ab _ _ ?_;revert a
    refine O D<|M<|G<|N<|I D<|A_ (q:=1) D D<|O D<|M<|Bq<|G<|?_
    intro a g
    exact⟨_,by omega,i+1,_,_,_,_,D,At g,by omega,by omega,Aw (T.out.KI ay ao (Uj aA ae (by omega))),bp,b⟩
  ·
   refine BO<|AW<|AW<|BN<|G<|K<|K<|?_
   intro a g
   refine Gm (by kernel_rfl) (by kernel_rfl) ?_
   intro b3 ah H
   have own:=V own H
   have b:=Ah b H
   revert a
   refine A3 D<|A3 D<|J_ FB D<|?_
   have br:¬(((i:Nat):Int)<((U:Nat):Int)):=by omega
   refine PQ br D D<|A3 D<|Bo D D D D<|Bo D D D D<|Bo D D D D<|Bo D D D D<|Bo D D D D<|Bo D D D D<|Bo D D D D<|Bo D D D D<|Bo D D D D<|Bo D D D D<|Bo D D D D<|GU D D<|Er<|G<|BE D<|AE<|G<|K<|N<|I D<|I D<|?_
   obtain⟨b4,aj,rfl⟩:=Ca (ad.below b)
   obtain⟨C,aB⟩:=getD_some (L:=ai) (j:=j) (DF CI (by decide) ar) (by omega)
   have bs:=BJ CI (ad.below b) aB (o:=aj+j*34)
   refine Cn CH j (aj+j*34) D D<|Am Dj (aj+j*34+32) D<|Cg FP (Dh [bv C.k.l] (Br C.d) [[F C.s.p C.s.v.length C.s.c]] bs (Jb.row C.k.row Jb.nil)) D<|Dn D<|M<|G<|Ej D (fun aR=>?_) fun aR=>?_
   ·
    intro a g
    refine C7 (fun W=>(Below Q.heap.size Q W)) ?_
    intro b5 ah H
    have own:=V own H
    have b:=Ah b H
    revert a
    refine A5 0 D (fun W u a g=>by have b:=u;exact Ew g D) b<|A5 1 D (fun W u a g=>by have b:=u;exact Ew g D) b<|A5 2 D (fun W u a g=>by have b:=u;exact Ew g D) b<|A5 3 D (fun W u a g=>by have b:=u;exact Fz g CH D (i:=((j:Nat):Int)) D j (o:=aj+j*34)) b<|A5 4 D (fun W u a g=>by have b:=u;exact JA g D Dj D (sz:=31) (o:=aj+j*34)) b<|A5 5 D (fun W u a g=>by have b:=u;have bt:=BJ CI (ad.below b) aB (o:=aj+j*34);exact H9 g D Ce D (mid:=[bv C.k.l]) (HM [] [bv C.k.l] [[Br C.d],[F C.s.p C.s.v.length C.s.c]] bt D (by first|rfl|omega)) (Cf 32)) b<|A5 6 D (fun W u a g=>by have b:=u;exact Ew g D) b<|A5 7 D (fun W u a g=>by have b:=u;exact Ew g D) b<|A5 8 D (fun W u a g=>by have b:=u;exact Fz g CH D (i:=((j:Nat):Int)) D j (o:=aj+j*34)) b<|A5 9 D (fun W u a g=>by have b:=u;exact JA g D Dj D (sz:=0) (o:=aj+j*34+33)) b<|A5 10 D (fun W u a g=>by have b:=u;have bu:=BJ CI (ad.below b) aB (o:=aj+j*34);exact D1 g D Cr D (Dh [bv C.k.l,[Br C.d]] (F C.s.p C.s.v.length C.s.c) [] bu (Jb.row C.k.row (Jb.one Jb.nil)))) b<|A5 11 D (fun W u a g=>by have b:=u;exact GG g (Bf:=[(0,(Value.agg (flat [bv C.k.l]))),(1,(F C.s.p C.s.v.length C.s.c))]) D (r:=flat [bv C.k.l,[F C.s.p C.s.v.length C.s.c]]) (GI FE (ss:=[Av 32,[F none 0 0]]) (by kernel_rfl) (places:=[(0,32),(32,1)]) (by kernel_rfl) (C2 [] [Av 32] [[F none 0 0]] [bv C.k.l] D Jb.nil (Jb.row (Jg 32) Jb.nil) (Jb.row C.k.row Jb.nil) D (C2 [bv C.k.l] [[F none 0 0]] [] [[F C.s.p C.s.v.length C.s.c]] D (Jb.row C.k.row Jb.nil) (Jb.one Jb.nil) (Jb.one Jb.nil) D D)))) b<|?_
    intro aq aa
    refine A8 12 2 D D ?_
    intro Aa ab
    refine EK aa DH [bv C.k.l,[F C.s.p C.s.v.length C.s.c]] ?_
    intro a b6 g ah bw H
    have own:=V own H
    have b:=Ah b H
    refine ab _ _ b ?_;revert a
    intro aq aa
    refine A8 13 1 D D ?_
    intro Aa ab
    refine BK aa DH own bw C8 b.size (P+1) (CC X (⟨C.k,C.s⟩:B7) D (Ep _)) ?_
    intro a b7 b8 b9 g bx bz
    have b:=Cm b bz own
    refine ab _ _ b ?_;revert a
    refine A5 14 D (fun W u a g=>by have b:=u;exact Kb g D) b<|B_<|Bq<|G<|N<|I D<|A_ (q:=1) D D<|O D<|M<|G<|?_
    intro a g
    exact⟨_,by omega,_,j+1,_,_,_,_,D,At g,by omega,by omega,Aw (T.out.NO aA aB (by simpa using aR) (PX aw (by omega))),bx,b⟩
   ·
    refine AE<|Bq<|G<|N<|I D<|A_ (q:=1) D D<|O D<|M<|G<|?_
    intro a g
    exact⟨_,by omega,_,j+1,_,_,_,_,D,At g,by omega,by omega,Aw T.out.skip,own,b⟩
 ·
  obtain rfl:Y=j:=by omega
  have aS:ai.length=Y:=(DF CI (by decide) ar)
  refine BO<|AW<|AW<|BN<|G<|K<|A2<|?_
  intro a g
  refine Cb (fun ax a W=>∃i af ag P X,ax=U - i∧Ao 97 a (Ja (Ja (Ja (Ja Je 0 (F By U AG)) 4 (F none 0 0)) 7 (E i)) 6 (F af P ag))∧i≤U∧P≤i+Y∧Hid (F' A ai X i Y)∧W.ownsRow Q.heap.size 53 33 (.slice af P ag) P (Al FJ X)∧Below Q.heap.size Q W) _ ⟨_,_,_,_,_,D,At g,by omega,by omega,T,own,b⟩ ?_
  rintro _ a b_ ⟨i,af,ag,P,X,rfl,g,a3,aN,T,own,b⟩
  revert a
  refine K<|K<|N<|I D<|I D<|BY FB D<|B5 D D<|M<|G<|Bl D (fun bA=>?_) fun bA=>?_
  ·
   refine AE<|G<|A2<|K<|N<|I D<|I D<|I D<|?_
   obtain⟨b',aT,rfl⟩:=Ca (al.below b)
   obtain⟨ak,aU⟩:=getD_some (L:=A) (j:=i) aw (by omega)
   have bB:=BJ Ep (al.below b) aU (o:=aT+i*33)
   refine Cn DH i (aT+i*33) D D<|D9 FE 0 2 [bv ak.k.l,[F ak.s.p ak.s.v.length ak.s.c]] bB D<|E8 DH [bv ak.k.l,[F ak.s.p ak.s.v.length ak.s.c]] ?_
   intro ca ah bC H
   have own:=V own H
   have b:=Ah b H
   intro aq aa
   refine Bj D (fun Aa ab=>BK aa DH own bC C8 b.size (P+1) (CC X ak D (Ep _)) ?_)
   intro a cb cc cd g bD bE
   have b:=Cm b bE own
   refine ab _ _ ?_;revert a
   refine O D<|M<|G<|N<|I D<|A_ (q:=1) D D<|O D<|M<|Bq<|G<|?_
   intro a g
   exact⟨_,by omega,i+1,_,_,_,_,D,At g,by omega,by omega,Aw (T.out.KI ay aU (PX aS (Be _))),bD,b⟩
  ·
   refine BO<|AW<|AW<|BN<|G<|K<|N<|I D<|O D<|M<|G<|AA<|AZ D<|?_
   obtain rfl:i=U:=by omega
   refine⟨_,_,_,_,D,CB own aM,T.out.aI,fun x S=>?_,fun x S=>?_,by omega,fun bF=>?_,fun x S=>?_,fun x S=>?_,au.trans (b.mono aM)⟩
   ·rcases T.out.m x S with q|⟨y,q,_,rfl⟩
    ·exact(aD x q).below b D
    ·exact(aY y q).below b D
   ·rcases T.out.m x S with q|⟨y,q,_,rfl⟩
    ·exact aW x q
    ·exact a1 y q
   ·have:=T.out.z (List.length_eq_zero_iff.1 (aS.trans bF))
    rw[this,List.take_of_length_le (Nat.le_of_eq aw)]
   ·rcases T.out.m x S with q|⟨y,q,_,rfl⟩
    ·exact .inl q
    ·exact .inr ⟨(keys_perm az).mem_iff.1 (List.mem_map_of_mem (f:=fun y:CV=>y.k.l) q),aF y q⟩
   ·rcases T.out.d x (by rw[List.take_of_length_le (Nat.le_of_eq aw)];exact S)with q|⟨y,q,e⟩
    ·exact .inl q
    ·exact .inr (e▸(keys_perm az).mem_iff.1 (List.mem_map_of_mem (f:=fun y:CV=>y.k.l) q))
theorem Pa{r:B7→B7→Prop}(c:A.Pairwise r){a b:Nat}{y:B7}(d:a<b)(e:A[a]? =some x)(f:A[b]? =some y):r x y:=by
 obtain⟨g,rfl⟩:=List.getElem?_eq_some_iff.1 e
 obtain⟨h,rfl⟩:=List.getElem?_eq_some_iff.1 f
 exact List.pairwise_iff_getElem.1 c a b g h d
theorem TF{k:Jd}{h:Nat}(d:A.Pairwise Ez)(b:A[h]? =some x)(c:B' x.k.l k.l<0):∀j y,j<h+1→A[j]? =some y→B' y.k.l k.l<0:=by
 intro j y e a
 rcases Nat.lt_or_ge j h with q|q
 ·exact L9 (Pa d q a b) c
 ·obtain rfl:j=h:=by omega
  rw[b]at a;cases a;exact c
theorem XJ{k:Jd}{h:Nat}(d:A.Pairwise Ez)(b:A[h]? =some x)(c:B' k.l x.k.l<0):∀j y,h≤j→A[j]? =some y→B' k.l y.k.l<0:=by
 intro j y e a
 rcases Nat.eq_or_lt_of_le e with q|q
 ·subst q;rw[b]at a;cases a;exact c
 ·exact L9 c (Pa d q b a)
theorem Ur(By:Option Addr)(m AG:Nat)(A:List B7)(z:Jd)(w:World)(ag:m≤100000000)(J:View w (.slice By m AG) m 33 (Al FJ A))(Y:A.length=m)(S:A.Pairwise Ez):
 Calls Tryz.prog 107 #[F By m AG,Value.agg (flat [bv z.l])] w fun e w'=>∃u:B8,∃t:Bool,e=.returned (.tuple #[.slice u.p u.v.length u.c,.bool t])∧(t=true→∃x∈A,x.k.l=z.l∧u=x.s)∧(t=false→∀x∈A,¬x.k.l=z.l)∧Below w.heap.size w w':=by
 have b:Below w.heap.size w w:=Bu _ _
 refine Bx Qk D 38 ?_
 refine K<|N<|CW D ?_
 intro T ah Z aa i C
 have ai:=Bg b Z
 have b:=Ah b C
 refine O D<|O D<|M<|G<|K<|N<|O (v:=(E 0)) D<|M<|G<|K<|N<|I D<|BY FB D<|O D<|M<|G<|K<|A2<|?_
 intro a n
 refine Cb (fun ab a W=>∃d f,ab=f - d∧Ao 38 a (Ja (Ja (Ja (Ja Je 0 (F By m AG)) 3 (AB T)) 6 (E d)) 7 (E f))∧(d≤f∧f≤m)∧Hid (∀j x,j<d→A[j]? =some x→B' x.k.l z.l<0)∧Hid (∀j x,f≤j→A[j]? =some x→B' z.l x.k.l<0)∧Below w.heap.size w W∧Ai W T [bv z.l] 51) _ ⟨0,m,D,At n,by omega,Aw (fun j x y=>absurd y (Nat.not_lt_zero _)),(Aw (fun j x y H=>by rw[List.getElem?_eq_none (by omega)]at H;cases H)),b,i⟩ ?_
 rintro _ a aj ⟨d,f,rfl,n,ak,U,V,b,i⟩
 revert a
 refine K<|K<|N<|I D<|I D<|B5 D D<|M<|G<|Bl D (fun ad=>?_) fun ad=>?_
 ·
  refine AE<|G<|A2<|K<|N<|I D<|I D<|A_ D D<|FK (q:=2) D D<|O D<|M<|G<|K<|?_
  intro a n
  refine EJ 6 ?_
  intro al aa C
  have i:=Q i C
  have b:=Ah b C
  revert a
  refine A3 D<|A3 D<|?_
  obtain⟨an,r,rfl⟩:=Ca (J.below b)
  obtain⟨g,B⟩:=getD_some (L:=A) (j:=(d+f)/2) Y (by omega)
  have ae:=BJ Ep (J.below b) B (o:=r+((d+f)/2)*33)
  refine C0 DH ((d+f)/2) (r+((d+f)/2)*33) D D<|Cx FE (r+((d+f)/2)*33) D<|FG Ce 0 1 [bv g.k.l] ae D<|Ht Ce i D<|?_
  intro a n;refine EG ?_;revert a
  refine AS KP D (L8 g.k z _) ?_
  rintro _ ao ⟨rfl,X⟩
  refine⟨_,D,?_⟩
  have i:=Q i X
  have b:=Ah b X
  refine O D<|M<|G<|K<|K<|N<|I D<|Dk (q:=(0:Nat)) D D<|M<|G<|Bl D (fun P=>?_) fun P=>?_
  ·
   refine K<|N<|I D<|I D<|?_
   have af:=BJ Ep (J.below b) B (o:=r+((d+f)/2)*33)
   refine Cn DH ((d+f)/2) (r+((d+f)/2)*33) D D<|Am FE (r+((d+f)/2)*33+32) D<|Cg Cr (Dh [bv g.k.l] (F g.s.p g.s.v.length g.s.c) [] af (Jb.row g.k.row Jb.nil)) D<|O D<|O D<|M<|G<|AA<|AX<|C1<|AX<|C1<|AX<|IA D D<|?_
   exact⟨g.s,true,D,fun _=>⟨g,List.mem_of_getElem? B,JG _ _ (by rw[g.k.h,z.h]) P,D⟩,(fun h=>by cases h),b⟩
  ·
   refine AE<|G<|K<|N<|I D<|B5 (q:=(0:Nat)) D D<|M<|G<|Bl D (fun R=>?_) fun R=>?_
   ·
    refine N<|I D<|A_ (q:=1) D D<|O D<|M<|Bq<|G<|?_
    intro a n
    exact⟨_,by omega,_,_,D,At n,by omega,Aw (TF S B R),V,b,i⟩
   ·
    refine N<|I D<|O D<|M<|Bq<|G<|?_
    intro a n
    exact⟨_,by omega,_,_,D,At n,by omega,U,Aw (XJ S B (RG R (fun e=>P (by rw[e];exact I7 _)))),b,i⟩
 ·
  refine BO<|AW<|AW<|BN<|G<|K<|N<|O D<|O D<|M<|G<|AA<|IA D D<|?_
  exact⟨DZ,false,D,(fun h=>by cases h),(fun _ x H e=>by
   obtain⟨j,y,rfl⟩:=List.getElem_of_mem H
   have aq:=I7 z.l
   rcases Nat.lt_or_ge j d with q|q
   ·have:=U.out j _ q (List.getElem?_eq_getElem y);rw[e]at this;omega
   ·have:=V.out j _ (by omega) (List.getElem?_eq_getElem y);rw[e]at this;omega),b⟩
end Go.Proofs.YtcdaflcjhimimaaGreatDoor
namespace Go.Proofs.YtcdaflcjhimimaaGreatDoor
open Go.RowKit
set_option maxHeartbeats 1000000
theorem Rz(l:List UInt8)(k j:Nat)(a:k<j)(b:j≤l.length):Fr.Dq ((l.drop k).take (j - k))=(decide ((l.getD k 0).toNat=0)&&Fr.Dq ((l.drop (k+1)).take (j - (k+1)))):=by
 rw[List.drop_eq_getElem_cons (show k<l.length by omega),show j - k=(j - (k+1))+1 by omega,List.take_succ_cons]
 have:l.getD k 0=l[k]'(by omega):=by rw[List.getD_eq_getElem?_getD,List.getElem?_eq_getElem (by omega)];rfl
 rw[this]
 unfold Fr.Dq
 rw[List.all_cons]
 congr 1
 rw[Bool.eq_iff_iff]
 simp[←UInt8.toNat_inj]
theorem Vd(i j:Nat)(q:Option Addr)(n c:Nat)(l:List UInt8)(w:World)(f:View w (.slice q n c) n 1 (bv l))(v:l.length=n)(h:i≤j)(x:j≤n)(hn:n≤1000000000):
 Calls Tryz.prog 75 #[F q n c,E i,E j] w fun e w'=>e=.returned (.bool (Fr.Dq ((l.drop i).take (j - i))))∧w=w':=by
 refine Bx LM D 19 ?_
 refine K<|N<|O D<|M<|G<|K<|K<|N<|I D<|O D<|M<|G<|A2<|?_
 intro a b
 refine Cb (fun m a W=>∃k,m=j - k∧W=w∧Ao 19 a (Ja (Ja (Ja Je 0 (F q n c)) 2 (E j)) 7 (E k))∧k≤j∧i≤k∧Hid (Fr.Dq ((l.drop i).take (j - i))=Fr.Dq ((l.drop k).take (j - k)))) _ ⟨i,D,D,At b,h,Be _,Aw D⟩ ?_
 rintro _ a _ ⟨k,rfl,rfl,b,y,z,d⟩
 revert a
 refine K<|K<|N<|I D<|I D<|B5 D D<|M<|G<|Bl D (fun p=>?_) fun p=>?_
 ·
  refine AE<|G<|K<|A2<|K<|N<|I D<|I D<|?_
  obtain⟨A,g,rfl⟩:=Ca f
  have r:=De f k (o:=g+k*1)
  refine Cn A0 k (g+k*1) D D<|Cg BA r D<|Fi D D<|M<|G<|E7 D (fun s=>?_) fun s=>?_
  ·
   have t:Fr.Dq ((l.drop i).take (j - i))=false:=by rw[d.out,Rz l k j (by omega) (by omega)];simp only[Bool.and_eq_false_iff,decide_eq_false_iff_not];omega
   refine K<|N<|O D<|M<|G<|AA<|C1<|AX<|AX<|C1<|AX<|AZ D<|?_
   exact⟨by rw[t],D⟩
  ·
   have u:Hid (Fr.Dq ((l.drop i).take (j - i))=Fr.Dq ((l.drop (k+1)).take (j - (k+1)))):=Aw (by rw[d.out,Rz l k j (by omega) (by omega)];simp only[Bool.and_eq_right_iff_imp,decide_eq_true_eq];omega)
   refine AE<|Bq<|G<|N<|I D<|A_ (q:=1) D D<|O D<|M<|G<|?_
   intro a b
   exact⟨_,by omega,k+1,D,D,At b,by omega,by omega,u⟩
 ·
  refine BO<|AW<|AW<|BN<|G<|K<|N<|O D<|M<|G<|AA<|AZ D<|?_
  exact⟨by rw[d.out,show j - k=0 by omega];rfl,D⟩
theorem W2(s:Fr.Ch)(w:World)(x:s.g≤9223372036854775807):
 Calls Tryz.prog 77 #[Value.agg (flat [[E s.w],[E s.g],[E s.m],[E s.h],[E s.p]])] w fun e w'=>e=.returned (.bool (Fr.Ei s))∧Below w.heap.size w w':=by
 have a:Below w.heap.size w w:=Bu _ _
 refine Bx Q_ D 56 ?_
 refine K<|N<|CW D ?_
 intro b2 y u z c v
 have A:=Bg a u
 have a:=Ah a v
 refine O D<|M<|G<|K<|K<|N<|Am Bw 0 D<|AK AH 0 c D D<|?_
 by_cases d:((s.w:Nat):Int)<((1:Nat):Int)
 ·
  refine D8 d D D<|I D<|Ae D D D D<|Ae D D D D<|Ae D D D D<|Bn D D<|I D<|Ae D D D D<|Ae D D D D<|Ae D D D D<|Bn D D<|I D<|Ae D D D D<|Ae D D D D<|Ae D D D D<|Bn D D<|M<|G<|BS D<|K<|N<|O D<|M<|G<|AA<|AX<|AZ D<|?_
  refine⟨congrArg (fun b=>Ending.returned (Br b)) ?_,a⟩
  simp only[Fr.Ei]
  rw[Bool.eq_iff_iff]
  simp
  omega
 ·
  refine DO d D D<|I D<|Ad D D D<|Am Bw 0 D<|Ad D D D<|AK AH 0 c D D<|?_
  by_cases f:((32:Nat):Int)<((s.w:Nat):Int)
  ·
   refine Ad D D D<|Gp f D D<|Ba D D<|I D<|Ae D D D D<|Ae D D D D<|Ae D D D D<|Bn D D<|I D<|Ae D D D D<|Ae D D D D<|Ae D D D D<|Bn D D<|M<|G<|BS D<|K<|N<|O D<|M<|G<|AA<|AX<|AZ D<|?_
   refine⟨congrArg (fun b=>Ending.returned (Br b)) ?_,a⟩
   simp only[Fr.Ei]
   rw[Bool.eq_iff_iff]
   simp
   omega
  ·
   refine Ad D D D<|FV f D D<|Ba D D<|I D<|Ad D D D<|Am Bw 1 D<|Ad D D D<|AK AH 1 c D D<|?_
   by_cases i:((s.g:Nat):Int)<((0:Nat):Int)
   ·
    refine Ad D D D<|D8 i D D<|Ba D D<|I D<|Ae D D D D<|Ae D D D D<|Ae D D D D<|Bn D D<|M<|G<|BS D<|K<|N<|O D<|M<|G<|AA<|AX<|AZ D<|?_
    refine⟨congrArg (fun b=>Ending.returned (Br b)) ?_,a⟩
    simp only[Fr.Ei]
    rw[Bool.eq_iff_iff]
    simp
    omega
   ·
    refine Ad D D D<|DO i D D<|Ba D D<|I D<|Ad D D D<|Am Bw 1 D<|Ad D D D<|AK AH 1 c D D<|?_
    by_cases j:((1099511627776:Nat):Int)<((s.g:Nat):Int)
    ·
     refine Ad D D D<|Gp j D D<|Ba D D<|M<|G<|BS D<|K<|N<|O D<|M<|G<|AA<|AX<|AZ D<|?_
     refine⟨congrArg (fun b=>Ending.returned (Br b)) ?_,a⟩
     simp only[Fr.Ei]
     rw[Bool.eq_iff_iff]
     simp
     omega
    ·
     refine Ad D D D<|FV j D D<|Ba D D<|M<|G<|BE D<|AE<|G<|K<|K<|N<|Am Bw 4 D<|AK AH 4 c D D<|?_
     by_cases k:((s.p:Nat):Int)<((3:Nat):Int)
     ·
      refine D8 k D D<|I D<|Ae D D D D<|Ae D D D D<|Ae D D D D<|Bn D D<|I D<|Ae D D D D<|Ae D D D D<|Ae D D D D<|Bn D D<|I D<|Ae D D D D<|Ae D D D D<|Ae D D D D<|Ae D D D D<|Ae D D D D<|Bn D D<|M<|G<|BS D<|K<|N<|O D<|M<|G<|AA<|AX<|AZ D<|?_
      refine⟨congrArg (fun b=>Ending.returned (Br b)) ?_,a⟩
      simp only[Fr.Ei]
      rw[Bool.eq_iff_iff]
      simp
      omega
     ·
      refine DO k D D<|I D<|Ad D D D<|Am Bw 4 D<|Ad D D D<|AK AH 4 c D D<|?_
      by_cases l:((4096:Nat):Int)<((s.p:Nat):Int)
      ·
       refine Ad D D D<|Gp l D D<|Ba D D<|I D<|Ae D D D D<|Ae D D D D<|Ae D D D D<|Bn D D<|I D<|Ae D D D D<|Ae D D D D<|Ae D D D D<|Ae D D D D<|Ae D D D D<|Bn D D<|M<|G<|BS D<|K<|N<|O D<|M<|G<|AA<|AX<|AZ D<|?_
       refine⟨congrArg (fun b=>Ending.returned (Br b)) ?_,a⟩
       simp only[Fr.Ei]
       rw[Bool.eq_iff_iff]
       simp
       omega
      ·
       refine Ad D D D<|FV l D D<|Ba D D<|I D<|Ad D D D<|Am Bw 2 D<|Ad D D D<|AK AH 2 c D D<|?_
       by_cases n:((s.m:Nat):Int)<((2:Nat):Int)
       ·
        refine Ad D D D<|D8 n D D<|Ba D D<|I D<|Ae D D D D<|Ae D D D D<|Ae D D D D<|Ae D D D D<|Ae D D D D<|Bn D D<|M<|G<|BS D<|K<|N<|O D<|M<|G<|AA<|AX<|AZ D<|?_
        refine⟨congrArg (fun b=>Ending.returned (Br b)) ?_,a⟩
        simp only[Fr.Ei]
        rw[Bool.eq_iff_iff]
        simp
        omega
       ·
        refine Ad D D D<|DO n D D<|Ba D D<|I D<|Ad D D D<|Am Bw 2 D<|Ad D D D<|AK AH 2 c D D<|Ad D D D<|Am Bw 4 D<|Ad D D D<|AK AH 4 c D D<|?_
        by_cases o:((s.p:Nat):Int)<((s.m:Nat):Int)
        ·
         refine Ad D D D<|Gp o D D<|Ba D D<|M<|G<|BS D<|K<|N<|O D<|M<|G<|AA<|AX<|AZ D<|?_
         refine⟨congrArg (fun b=>Ending.returned (Br b)) ?_,a⟩
         simp only[Fr.Ei]
         rw[Bool.eq_iff_iff]
         simp
         omega
        ·
         refine Ad D D D<|FV o D D<|Ba D D<|M<|G<|BE D<|AE<|G<|K<|N<|Am Bw 3 D<|AK AH 3 c D D<|?_
         by_cases q:((s.h:Nat):Int)=((0:Nat):Int)
         ·
          refine D5 q D D<|I D<|Ae D D D D<|Ae D D D D<|Ae D D D D<|Ae D D D D<|FU D D D<|FU D D D<|FU D D D<|FU D D D<|FU D D D<|Ae D D D D<|Bn D D<|O D<|M<|G<|AA<|AZ D<|?_
          refine⟨congrArg (fun b=>Ending.returned (Br b)) ?_,a⟩
          simp only[Fr.Ei]
          rw[Bool.eq_iff_iff]
          simp
          omega
         ·
          refine E0 q D D<|I D<|Ad D D D<|Am Bw 3 D<|Ad D D D<|AK AH 3 c D D<|?_
          by_cases r:((2:Nat):Int)≤((s.h:Nat):Int)
          ·
           refine Ad D D D<|Gy r D D<|Ad D D D<|I D<|Ad D D D<|Am Bw 3 D<|Ad D D D<|AK AH 3 c D D<|Ad D D D<|Am Bw 2 D<|Ad D D D<|AK AH 2 c D D<|?_
           by_cases t:((s.h:Nat):Int)<((s.m:Nat):Int)
           ·
            refine Ad D D D<|D8 t D D<|Ad D D D<|Bn D D<|Ba D D<|O D<|M<|G<|AA<|AZ D<|?_
            refine⟨congrArg (fun b=>Ending.returned (Br b)) ?_,a⟩
            simp only[Fr.Ei]
            rw[Bool.eq_iff_iff]
            simp
            omega
           ·
            refine Ad D D D<|DO t D D<|Ad D D D<|Bn D D<|Ba D D<|O D<|M<|G<|AA<|AZ D<|?_
            refine⟨congrArg (fun b=>Ending.returned (Br b)) ?_,a⟩
            simp only[Fr.Ei]
            rw[Bool.eq_iff_iff]
            simp
            omega
          ·
           refine Ad D D D<|GL r D D<|Ad D D D<|I D<|Ae D D D D<|Ae D D D D<|Ae D D D D<|Ae D D D D<|Ae D D D D<|Ad D D D<|Ba D D<|Ba D D<|O D<|M<|G<|AA<|AZ D<|?_
           refine⟨congrArg (fun b=>Ending.returned (Br b)) ?_,a⟩
           simp only[Fr.Ei]
           rw[Bool.eq_iff_iff]
           simp
           omega
end Go.Proofs.YtcdaflcjhimimaaGreatDoor
