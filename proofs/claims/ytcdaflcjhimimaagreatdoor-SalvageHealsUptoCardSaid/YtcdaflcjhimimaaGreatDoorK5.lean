/- Laws and walks on the road to SalvageNever and SalvageHeals (part K5). No conditions beyond each law's own. -/
import Derived.Test.YtcdaflcjhimimaaGreatDoorM01
import Derived.Test.YtcdaflcjhimimaaGreatDoorK1
import Derived.Test.YtcdaflcjhimimaaGreatDoorK2
import Derived.Test.YtcdaflcjhimimaaGreatDoorK3
import Derived.Test.YtcdaflcjhimimaaGreatDoorK4
set_option linter.unusedVariables false
namespace Go.Proofs.YtcdaflcjhimimaaGreatDoor.D7
open Go.Proofs.YtcdaflcjhimimaaGreatDoor
set_option linter.unusedVariables false
theorem Tu(Az:Nat→Bool)(y e:Nat)(l:List Nat):row Az y (e::l)=cond (Az (Nat.xor y e)) (row Az y l) false:=rfl
theorem W9(Az:Nat→Bool)(z e:Nat)(l:List Nat)(n:Nat):rows Az z (e::l) (n+1)=cond (row Az (Nat.xor z e) l) (rows Az z l n) false:=rfl
theorem TE(x e:Nat)(l:List Nat):KX x (e::l)=cond (Nat.beq x e) false (KX x l):=rfl
theorem NH{a b:Bool}(h:cond a b false=true):a=true∧b=true:=by cases a<;>simp_all
theorem Np{a b:Bool}(h:cond a false b=true):a=false∧b=true:=by cases a<;>simp_all
theorem UF(Az:Nat→Bool)(y:Nat):∀l,row Az y l=true→∀e∈l,Az (y^^^e)=true:=by
 intro l
 induction l with
 |nil=>intro _ e he;cases he
 |cons a l b=>
  intro h e he
  rw[Tu]at h
  obtain⟨c,d⟩:=NH h
  rcases List.mem_cons.1 he with rfl|q
  ·exact c
  ·exact b d e q
theorem Yi(Az:Nat→Bool)(z:Nat):∀n l,rows Az z l n=true→∀i j a b,i<n→i<j→l[i]? =some a→l[j]? =some b→Az (z^^^a^^^b)=true:=by
 intro n
 induction n with
 |zero=>intro l _ i j a b h;omega
 |succ n f=>
  intro l h i j a b o p c d
  match l with
  |[]=>simp at c
  |e::l=>
   rw[W9]at h
   obtain⟨g,k⟩:=NH h
   obtain⟨j,rfl⟩:∃m,j=m+1:=⟨j - 1,by omega⟩
   rw[List.getElem?_cons_succ]at d
   cases i with
   |zero=>
    simp at c
    subst c
    exact UF Az _ l g b (List.mem_of_getElem? d)
   |succ i=>
    rw[List.getElem?_cons_succ]at c
    exact f l k i j a b (by omega) (by omega) c d
theorem VG(x:Nat):∀l,KX x l=true→x∉l:=by
 intro l
 induction l with
 |nil=>intro _ h;cases h
 |cons e l a=>
  intro h hm
  rw[TE]at h
  obtain⟨b,c⟩:=Np h
  rcases List.mem_cons.1 hm with rfl|q
  ·simp at b
  ·exact a c q
theorem TB(e:Nat)(l:List Nat):L1 (e::l)=cond (cond (F4 Aj (Nat.mod e 65536)) true (cond (F4 J7 (Nat.div e 65536)) true (F4 I2 (Nat.mod e 65521)))) false (L1 l):=rfl
theorem Tv:∀l,L1 l=true→∀x∈l,F4 Aj (Nat.mod x 65536)=false∧F4 J7 (Nat.div x 65536)=false∧F4 I2 (Nat.mod x 65521)=false:=by
 intro l
 induction l with
 |nil=>intro _ x h;cases h
 |cons e l d=>
  intro h x f
  rw[TB]at h
  obtain⟨i,g⟩:=Np h
  rcases List.mem_cons.1 f with rfl|q
  ·generalize F4 Aj (Nat.mod x 65536)=a at*
   generalize F4 J7 (Nat.div x 65536)=b at*
   generalize F4 I2 (Nat.mod x 65521)=c at*
   cases a<;>cases b<;>cases c<;>simp_all
  ·exact d g x q
theorem Xs(d f g:Nat→Bool)(x:Nat)(l:List Nat)(h:cond (d x) true (cond (f x) true (cond (g x) true (cond (Nat.beq x 0) false (KX x l))))=true)(j:∀y∈0::l,d y=false∧f y=false∧g y=false):x≠0∧x∉l:=by
 have key:x∉0::l:=by
  intro q
  obtain⟨a,b,c⟩:=j x q
  rw[a,b,c]at h
  simp only[cond_false]at h
  obtain⟨i,k⟩:=Np h
  rcases List.mem_cons.1 q with e|q
  ·rw[e]at i;exact absurd i (by decide)
  ·exact VG x l k q
 exact⟨fun e=>key (by simp[e]),fun e=>key (by simp[e])⟩
theorem YX(x:Nat)(h:Az x=true):x≠0∧x∉es:=
 Xs (fun x=>F4 Aj (Nat.mod x 65536)) (fun x=>F4 J7 (Nat.div x 65536)) (fun x=>F4 I2 (Nat.mod x 65521)) x es h (fun y a=>Tv (0::es) TI y a)
def DS(m:Nat):Nat:=Af.steps m 2147483648
theorem We:∀(l:List Nat) (p:Nat),(@List.rec Nat (fun _=>Nat→Bool) (fun _=>true) (fun e _ b p=>cond (Nat.beq (Af.step p) e) (b e) false) l p)=true→∀i a,l[i]? =some a→a=Af.steps (i+1) p:=by
 intro l
 induction l with
 |nil=>intro p _ i a h;simp at h
 |cons e l b=>
  intro p h i a c
  replace h:cond (Nat.beq (Af.step p) e) (@List.rec Nat (fun _=>Nat→Bool) (fun _=>true) (fun e _ b p=>cond (Nat.beq (Af.step p) e) (b e) false) l e) false=true:=h
  obtain⟨d,f⟩:=NH h
  have he:Af.step p=e:=Nat.eq_of_beq_eq_true d
  cases i with
  |zero=>simp at c;subst c;subst he;rfl
  |succ i=>
   rw[List.getElem?_cons_succ]at c
   rw[b e f i a c,←he]
   rfl
theorem MZ(i:Nat)(h:i<2048):es[i]? =some (DS i):=by
 have a:i<es.length:=by rw[Xa];exact h
 rw[List.getElem?_eq_getElem a]
 congr 1
 cases i with
 |zero=>
  have:=WG
  rw[List.getElem?_eq_getElem a]at this
  exact Option.some.inj this
 |succ i=>
  have b:(es.drop 1)[i]? =some es[i+1]:=by
   rw[List.getElem?_drop,Nat.add_comm 1 i,List.getElem?_eq_getElem a]
  exact We (es.drop 1) 2147483648 SW i _ b
theorem three(b c:Nat)(j:1≤b)(k:b<c)(g:c<2048):DS 0^^^DS b^^^DS c≠0∧∀d,d<2048→DS 0^^^DS b^^^DS c≠DS d:=by
 have f:∀a n,rows Az 2147483648 (es.drop (1+a)) n=true→a<b→b≤a+n→Az (DS 0^^^DS b^^^DS c)=true:=by
  intro a n h l m
  refine Yi Az 2147483648 n _ h (b - 1 - a) (c - 1 - a) (DS b) (DS c) (by omega) (by omega) ?_ ?_
  ·rw[List.getElem?_drop,show 1+a+(b - 1 - a)=b by omega];exact MZ b (by omega)
  ·rw[List.getElem?_drop,show 1+a+(c - 1 - a)=c by omega];exact MZ c g
 have i:Az (DS 0^^^DS b^^^DS c)=true:=by
  rcases Nat.lt_or_ge 275 b with q|q
  ·rcases Nat.lt_or_ge 600 b with q|q
   ·rcases Nat.lt_or_ge 1024 b with q|q
    ·exact f 1024 _ Hp (by omega) (by omega)
    ·exact f 600 _ Ig (by omega) (by omega)
   ·exact f 275 _ r2 (by omega) (by omega)
  ·exact f 0 _ r1 (by omega) (by omega)
 obtain⟨p,q⟩:=YX _ i
 exact⟨p,fun d Ab e=>q (by rw[e];exact List.mem_of_getElem? (MZ d Ab))⟩
theorem Xi(b c:Nat)(a:1≤b)(e:1≤c)(h:b≠c)(f:b<2048)(g:c<2048):DS 0^^^DS b^^^DS c≠0∧∀d,d<2048→DS 0^^^DS b^^^DS c≠DS d:=by
 rcases Nat.lt_or_ge b c with q|q
 ·exact three b c a q g
 ·rw[Af.HZ]
  exact three c b e (by omega) f
def Gl(l:List Nat):Nat:=l.foldr (fun a r=>a^^^r) 0
theorem LB:Gl []=0:=rfl
theorem XC:DS 0≠0:=by unfold DS Af.steps;decide
theorem Gw(a:Nat)(l:List Nat):Gl (a::l)=a^^^Gl l:=rfl
theorem Ra{l m:List Nat}(h:l.Perm m):Gl l=Gl m:=by
 induction h with
 |nil=>rfl
 |cons x _ a=>rw[Gw,Gw,a]
 |swap x y l=>rw[Gw,Gw,Gw,Gw,←Nat.xor_assoc,←Nat.xor_assoc,Nat.xor_comm x y]
 |trans _ _ b c=>exact b.trans c
theorem least:∀(l:List Nat),l≠[]→l.Nodup→∃m R,l.Perm (m::R)∧∀r∈R,m<r:=by
 intro l
 induction l with
 |nil=>intro h;exact absurd D h
 |cons x t d=>
  intro _ b
  rw[List.nodup_cons]at b
  by_cases c:t=[]
  ·subst c;exact⟨x,[],List.Perm.refl _,fun r a=>by cases a⟩
  ·obtain⟨m,R,p,h⟩:=d c b.2
   have e:x≠m:=by
    rintro rfl
    exact b.1 (p.mem_iff.2 (by simp))
   rcases Nat.lt_or_ge x m with q|q
   ·refine⟨x,m::R,p.cons x,fun r a=>?_⟩
    rcases List.mem_cons.1 a with rfl|a
    ·exact q
    ·have:=h r a;omega
   ·refine⟨m,x::R,(p.cons x).trans (List.Perm.swap m x R),fun r a=>?_⟩
    rcases List.mem_cons.1 a with rfl|a
    ·omega
    ·exact h r a
theorem Uf(n:Nat):∀r,r<4294967296→r≠0→Af.steps n r≠0:=by
 have one:∀r,r<4294967296→r≠0→Af.step r≠0:=by
  intro r h a
  unfold Af.step
  split
  ·intro e
   have:=Af.Nx.1 e
   unfold Af.I' at this
   omega
  ·omega
 induction n with
 |zero=>intro r _ h;exact h
 |succ n b=>intro r h a;exact b _ (Af.OD h) (one r h a)
theorem Tn(m k:Nat):DS (m+k)=Af.steps m (DS k):=by
 unfold DS
 rw[←Af.Kq,Nat.add_comm]
theorem Uu(m:Nat):DS m<4294967296:=Af.Nn m (by decide)
theorem Uw(l:List Nat)(h:∀x∈l,x<4294967296):Gl l<4294967296:=by
 induction l with
 |nil=>decide
 |cons a l b=>rw[Gw];exact Nat.xor_lt_two_pow (n:=32) (h a (by simp)) (b (fun x c=>h x (by simp[c])))
theorem SG(n:Nat)(l:List Nat):Af.steps n (Gl l)=Gl (l.map (Af.steps n)):=by
 induction l with
 |nil=>exact Af.RB n
 |cons a l b=>rw[Gw,List.map_cons,Gw,Af.Jr,b]
theorem WH(a:Nat→Nat)(A4:Nat→Nat→Nat)(z:a 0≠0)(j:∀b c,1≤b→1≤c→b≠c→b<2048→c<2048→a 0^^^a b^^^a c≠0∧∀d,d<2048→a 0^^^a b^^^a c≠a d)(t:∀m k,a (m+k)=A4 m (a k))(n:∀m l,A4 m (Gl l)=Gl (l.map (A4 m)))(A:∀m r,r<4294967296→r≠0→A4 m r≠0)(B:∀m,a m<4294967296)(h:List Nat)(u:h.Nodup)(lt:∀m∈h,m<2048)(C:h≠[])(I:h.length≤4):Gl (h.map a)≠0:=by
 obtain⟨m,R,p,hm⟩:=least h C u
 have i:=p.nodup_iff.1 u
 rw[List.nodup_cons]at i
 have o:=p.length_eq
 rw[List.length_cons]at o
 have g:∀r∈R,r<2048:=fun r s=>lt r (p.mem_iff.2 (by simp[s]))
 rw[Ra (p.map a),List.map_cons]
 have e:a m::R.map a=(a 0::(R.map (fun r=>r - m)).map a).map (A4 m):=by
  rw[List.map_cons,←t,Nat.add_zero,List.map_map,List.map_map]
  congr 1
  apply List.map_congr_left
  intro r s
  have:=hm r s
  show a r=A4 m (a (r - m))
  rw[←t,show m+(r - m)=r by omega]
 rw[e,←n]
 have key:Gl (a 0::(R.map (fun r=>r - m)).map a)≠0:=by
  match R,hm,g,i,o with
  |[],_,_,_,_=>
   rw[List.map_nil,List.map_nil,Gw,LB,Nat.xor_zero]
   exact z
  |[b],hm,g,_,_=>
   have v:=hm b (by simp)
   have w:=g b (by simp)
   simp only[List.map_cons,List.map_nil,Gw,LB,Nat.xor_zero]
   intro q
   by_cases E:b - m=1
   ·have:=(j 1 2 (by omega) (by omega) (by omega) (by omega) (by omega)).2 2 (by omega)
    rw[E]at q
    rw[q,Nat.zero_xor]at this
    exact this D
   ·have:=(j 1 (b - m) (by omega) (by omega) (by omega) (by omega) (by omega)).2 1 (by omega)
    rw[Af.HZ,q,Nat.zero_xor]at this
    exact this D
  |[b,c],hm,g,i,_=>
   have v:=hm b (by simp)
   have F:=hm c (by simp)
   have w:=g b (by simp)
   have G:=g c (by simp)
   have H:b≠c:=by rintro rfl;simp at i
   simp only[List.map_cons,List.map_nil,Gw,LB,Nat.xor_zero]
   rw[←Nat.xor_assoc]
   exact(j (b - m) (c - m) (by omega) (by omega) (by omega) (by omega) (by omega)).1
  |[b,c,d],hm,g,i,_=>
   have v:=hm b (by simp)
   have F:=hm c (by simp)
   have w:=g b (by simp)
   have G:=g c (by simp)
   have J:=g d (by simp)
   have H:b≠c:=by rintro rfl;simp at i
   simp only[List.map_cons,List.map_nil,Gw,LB,Nat.xor_zero]
   rw[←Nat.xor_assoc,←Nat.xor_assoc]
   intro q
   exact(j (b - m) (c - m) (by omega) (by omega) (by omega) (by omega) (by omega)).2 (d - m) (by omega) (Af.Nx.1 q)
  |_::_::_::_::_,_,_,_,o=>
   simp only[List.length_cons]at o
   omega
 refine A m _ (Uw _ ?_) key
 intro x n
 rw[←List.map_cons (f:=a)]at n
 obtain⟨y,_,rfl⟩:=List.mem_map.1 n
 exact B y
theorem four(a:List Nat)(b:a.Nodup)(lt:∀m∈a,m<2048)(c:a≠[])(d:a.length≤4):Gl (a.map DS)≠0:=
 WH DS Af.steps XC Xi Tn SG Uf Uu a b lt c d
theorem RE:∀k,k<32→Af.steps (31 - k) 2147483648=2^k:=by decide
theorem U1(n j:Nat)(h:j<8*n+32):Af.FZ n j=DS (8*n+31 - j):=by
 unfold Af.FZ DS
 split
 ·rename_i q
  unfold Af.made
  rw[←RE (j % 8) (by omega),←Af.Kq]
  congr 1
  omega
 ·rw[←RE (j - 8*n) (by omega)]
  congr 1
  omega
theorem LA{n:Nat}(hn:8*n+32≤2048)(J:List Nat)(d:J.Nodup)(lt:∀j∈J,j<8*n+32)(f:J≠[])(g:J.length≤4):Gl (J.map (Af.FZ n))≠0:=by
 have e:J.map (Af.FZ n)=(J.map (fun j=>8*n+31 - j)).map DS:=by
  rw[List.map_map]
  apply List.map_congr_left
  intro j c
  exact U1 n j (lt j c)
 rw[e]
 refine four _ ?_ ?_ (by simpa using f) (by simpa using g)
 ·rw[List.nodup_iff_pairwise_ne,List.pairwise_map]
  rw[List.nodup_iff_pairwise_ne]at d
  refine d.imp_of_mem ?_
  intro a b h i k e
  have:=lt a h
  have:=lt b i
  omega
 ·intro m hm
  obtain⟨j,c,rfl⟩:=List.mem_map.1 hm
  have:=lt j c
  omega
def Cs(l:List UInt8)(J:List Nat):List UInt8:=J.foldl Af.bit l
theorem Wq(l:List UInt8):Cs l []=l:=rfl
theorem I4(l:List UInt8)(j:Nat)(J:List Nat):Cs l (j::J)=Cs (Af.bit l j) J:=rfl
theorem VI(l:List UInt8)(j:Nat)(J:List Nat):Cs l (J++[j])=Af.bit (Cs l J) j:=by unfold Cs;rw[List.foldl_append];rfl
theorem UJ(J:List Nat):∀l,(Cs l J).length=l.length:=by
 induction J with
 |nil=>intro l;rfl
 |cons j J a=>intro l;rw[I4,a,Af.Jw]
theorem Pm{n:Nat}(J:List Nat):∀l:List UInt8,l.length=n+4→(∀j∈J,j<8*n+32)→Af.Cj (Cs l J) n=Af.Cj l n^^^Gl (J.map (Af.FZ n)):=by
 induction J with
 |nil=>intro l _ _;exact(Nat.xor_zero _).symm
 |cons j J b=>
  intro l a lt
  rw[I4,b _ (by rw[Af.Jw];exact a) (fun x c=>lt x (by simp[c])),Af.Qa l n j a (lt j (by simp)),List.map_cons,Gw,Nat.xor_assoc]
theorem P_{d j:Nat}:∀(l:List (Nat×Nat)),Af.last l d=some j→(d,j)∈l:=by
 have:∀(l:List (Nat×Nat)) (o:Option Nat),l.foldl (fun o p=>if p.1=d then some p.2 else o) o=some j→o=some j∨(d,j)∈l:=by
  intro l
  induction l with
  |nil=>intro o h;exact .inl h
  |cons p l a=>
   intro o h
   rw[List.foldl_cons]at h
   rcases a _ h with q|q
   ·split at q
    ·rename_i e
     cases q
     exact .inr (by rw[←e];simp)
    ·exact .inl q
   ·exact .inr (by simp[q])
 intro l h
 exact(this l none h).resolve_left (by simp)
theorem WN{d j:Nat}:∀(l:List (Nat×Nat)),(d,j)∈l→Af.last l d≠none:=by
 have Ag:∀(l:List (Nat×Nat)) (o:Option Nat),o≠none→l.foldl (fun o p=>if p.1=d then some p.2 else o) o≠none:=by
  intro l
  induction l with
  |nil=>intro o h;exact h
  |cons p l a=>
   intro o h
   rw[List.foldl_cons]
   refine a _ ?_
   split
   ·simp
   ·exact h
 have:∀(l:List (Nat×Nat)) (o:Option Nat),(d,j)∈l→l.foldl (fun o p=>if p.1=d then some p.2 else o) o≠none:=by
  intro l
  induction l with
  |nil=>intro o h;cases h
  |cons p l a=>
   intro o h
   rw[List.foldl_cons]
   rcases List.mem_cons.1 h with q|q
   ·subst q
    refine Ag l _ ?_
    simp
   ·exact a _ q
 intro l h
 exact this l none h
theorem WZ(n:Nat):∀k,k≤n→∀d j,(d,j)∈Af.rows n k↔∃c i,c<k∧i<8∧d=Af.made c i∧j=8*(n - 1 - c)+i:=by
 intro k
 induction k with
 |zero=>
  intro _ d j
  constructor
  ·intro h
   have l:(d,j)∈([]:List (Nat×Nat)):=h
   cases l
  ·rintro⟨c,i,h,_⟩
   omega
 |succ k m=>
  intro p d j
  show(d,j)∈Af.rows n k++Af.rowOf n k 8↔_
  rw[List.mem_append,m (by omega) d j]
  unfold Af.rowOf
  rw[List.mem_map]
  constructor
  ·rintro(⟨c,i,o,a,b,f⟩|⟨i,g,e⟩)
   ·exact⟨c,i,by omega,a,b,f⟩
   ·rw[List.mem_range]at g
    cases e
    exact⟨k,i,by omega,g,D,D⟩
  ·rintro⟨c,i,o,a,b,f⟩
   rcases Nat.lt_or_ge c k with q|q
   ·exact .inl ⟨c,i,q,a,b,f⟩
   ·obtain rfl:c=k:=by omega
    exact .inr ⟨i,List.mem_range.2 a,by rw[b,f]⟩
theorem Og(n d j:Nat):(d,j)∈Af.Eb n↔j<8*n+32∧d=Af.FZ n j:=by
 unfold Af.Eb
 rw[List.mem_append,WZ n n (Be _)]
 unfold Af.tail
 rw[List.mem_map]
 constructor
 ·rintro(⟨c,i,b,f,rfl,rfl⟩|⟨i,a,e⟩)
  ·refine⟨by omega,?_⟩
   unfold Af.FZ
   rw[if_pos (by omega),show n - 1 - (8*(n - 1 - c)+i)/8=c by omega,show(8*(n - 1 - c)+i) % 8=i by omega]
  ·rw[List.mem_range]at a
   cases e
   refine⟨by omega,?_⟩
   unfold Af.FZ
   rw[if_neg (by omega),show 8*n+i - 8*n=i by omega]
 ·rintro⟨h,rfl⟩
  unfold Af.FZ
  by_cases q:j<8*n
  ·rw[if_pos q]
   exact .inl ⟨n - 1 - j/8,j % 8,by omega,by omega,D,by omega⟩
  ·rw[if_neg q]
   exact .inr ⟨j - 8*n,List.mem_range.2 (by omega),by rw[show 8*n+(j - 8*n)=j by omega]⟩
theorem QH{n:Nat}{l:List UInt8}{j:Nat}(hn:8*n+32≤2048)(c:l.length=n+4)(d:Af.Cj l n=0)(a:j<8*n+32):Af.last (Af.Eb n) (Af.Cj (Af.bit l j) n)=some j:=by
 have e:Af.Cj (Af.bit l j) n=Af.FZ n j:=by rw[Af.Qa l n j c a,d,Nat.zero_xor]
 rw[e]
 cases h:Af.last (Af.Eb n) (Af.FZ n j)with
 |none=>exact absurd h (WN _ ((Og n _ j).2 ⟨a,D⟩))
 |some i=>
  obtain⟨k,f⟩:=(Og n _ i).1 (P_ _ h)
  congr 1
  apply Classical.byContradiction
  intro g
  refine LA hn [i,j] (by simp[g]) (by intro x b;simp at b;rcases b with rfl|rfl<;>assumption) (by simp) (by simp) ?_
  show Af.FZ n i^^^(Af.FZ n j^^^0)=0
  rw[Nat.xor_zero,f,Nat.xor_self]
theorem Rv{n:Nat}{l:List UInt8}{J:List Nat}(hn:8*n+32≤2048)(d:l.length=n+4)(f:Af.Cj l n=0)(lt:∀j∈J,j<8*n+32)(b:J.Nodup)(r:2≤J.length)(s:J.length≤3):Af.last (Af.Eb n) (Af.Cj (Cs l J) n)=none:=by
 rw[Pm J l d lt,f,Nat.zero_xor]
 cases h:Af.last (Af.Eb n) (Gl (J.map (Af.FZ n)))with
 |none=>rfl
 |some i=>
  exfalso
  obtain⟨g,e⟩:=(Og n _ i).1 (P_ _ h)
  by_cases a:i∈J
  ·have k:=List.perm_cons_erase a
   have c:=Ra (k.map (Af.FZ n))
   rw[List.map_cons,Gw,e]at c
   have m:Gl ((J.erase i).map (Af.FZ n))=0:=by
    have:=congrArg (fun x=>Af.FZ n i^^^x) c
    simp only[←Nat.xor_assoc,Nat.xor_self,Nat.zero_xor]at this
    exact this.symm
   have hle:=List.length_erase_of_mem a
   refine LA hn (J.erase i) (b.erase i) (fun j o=>lt j (List.mem_of_mem_erase o)) ?_ (by omega) m
   intro q
   rw[q]at hle
   simp at hle
   omega
  ·refine LA hn (i::J) (List.nodup_cons.2 ⟨a,b⟩) ?_ (by simp) (by simp;omega) ?_
   ·intro x p
    rcases List.mem_cons.1 p with rfl|q
    ·exact g
    ·exact lt x q
   ·rw[List.map_cons,Gw,e,Nat.xor_self]
theorem Mr{n:Nat}{l:List UInt8}{J:List Nat}(hn:8*n+32≤2048)(a:l.length=n+4)(b:Af.Cj l n=0)(lt:∀j∈J,j<8*n+32)(c:J.Nodup)(d:J≠[])(e:J.length≤3):Af.Cj (Cs l J) n≠0:=by
 rw[Pm J l a lt,b,Nat.zero_xor]
 exact LA hn J c lt d (by omega)
end Go.Proofs.YtcdaflcjhimimaaGreatDoor.D7
