/- Laws and walks on the road to SalvageNever and SalvageHeals (part M24). No conditions beyond each law's own. -/
import Derived.Laws.OwnMore
import Derived.StillTailTactics
import Derived.Test.YtcdaflcjhimimaaGreatDoorM01
import Derived.Test.YtcdaflcjhimimaaGreatDoorM23
import Derived.Test.YtcdaflcjhimimaaGreatDoorK5
import Derived.Test.YtcdaflcjhimimaaGreatDoorM03
import Derived.Test.YtcdaflcjhimimaaGreatDoorM04
import Derived.Test.YtcdaflcjhimimaaGreatDoorM05
import Derived.Test.YtcdaflcjhimimaaGreatDoorM07
import Derived.Test.YtcdaflcjhimimaaGreatDoorM14
import Derived.Test.YtcdaflcjhimimaaGreatDoorM17
import Derived.Test.YtcdaflcjhimimaaGreatDoorM06
set_option linter.unusedVariables false
namespace Go.Proofs.YtcdaflcjhimimaaGreatDoor
open Go.RowKit
theorem Xp(n:Nat):∀(v i:Nat),i<n→(Ref.Dc v n).getD i 0=UInt8.ofNat (v/256^i):=by
 induction n with
 |zero=>intro v i h;omega
 |succ n a=>
  intro v i h
  cases i with
  |zero=>
   show UInt8.ofNat (v % 256)=UInt8.ofNat (v/256^0)
   apply UInt8.toNat_inj.1
   simp
  |succ i=>
   have:=a (v/256) i (by omega)
   simp only[Ref.Dc,List.getD_cons_succ]
   rw[this,Nat.div_div_eq_div_mul,Nat.pow_succ,Nat.mul_comm]
theorem Vw{a b:List UInt8}{n i:Nat}(h:a.length=n):(a++b).getD (n+i) 0=b.getD i 0:=by
 subst h
 rw[List.getD_eq_getElem?_getD,List.getD_eq_getElem?_getD,List.getElem?_append_right (by omega),Nat.add_sub_cancel_left]
theorem Q'{l:List UInt8}{n:Nat}(h:l.length=n):Af.Cj (Ref.HS l) n=0:=by
 rw[N8]
 intro i a
 unfold Ref.HS
 rw[Vw h,Xp 4 _ i a,List.take_left' h,Nat.pow_mul]
theorem Fs{Ck:Type}{a b:List Ck}{n k:Nat}(h:a.length=n)(c:n≤k:=by decide):(a++b).drop k=b.drop (k - n):=by
 rw[List.drop_append,List.drop_of_length_le (by omega),h];rfl
def I8(s:Fr.Ch):List UInt8:=[76,68,71,49,UInt8.ofNat s.w,0,0,0]++(Ref.Dc s.g 8++(Ref.Dc s.m 4++(Ref.Dc s.h 4++(Ref.Dc s.p 4++List.replicate 32 0))))
theorem Ll(s:Fr.Ch):(I8 s).length=60:=by simp[I8,Ref.Fc]
theorem MN(s:Fr.Ch):Ref.D0 s=Ref.HS (I8 s)++List.replicate 192 0:=by
 have e:Ref.fill ([76,68,71,49,UInt8.ofNat s.w,0,0,0]++Ref.Dc s.g 8++Ref.Dc s.m 4++Ref.Dc s.h 4++Ref.Dc s.p 4) 60=I8 s:=by
  unfold Ref.fill I8
  rw[List.take_of_length_le (by simp[Ref.Fc])]
  simp[Ref.Fc]
 unfold Ref.D0
 rw[e]
 unfold Ref.fill
 rw[List.take_of_length_le (by rw[Ref.Ln,Ll];decide),Ref.Ln,Ll]
theorem Me(s:Fr.Ch):(Ref.D0 s).drop 64=List.replicate 192 0:=by
 rw[MN,List.drop_left' (by rw[Ref.Ln,Ll])]
theorem PI{s:Fr.Ch}(b:Fr.Ei s=true):EU (Ref.D0 s) s:=by
 have d:(Ref.D0 s).take 64=Ref.HS (I8 s):=by
  rw[MN]
  exact List.take_left' (by rw[Ref.Ln,Ll])
 have c:=b
 simp only[Fr.Ei,Bool.and_eq_true,decide_eq_true_eq]at c
 obtain⟨⟨⟨⟨⟨⟨⟨b1,b2⟩,i⟩,j⟩,k⟩,l⟩,n⟩,f⟩:=c
 have o:s.h<4096:=by
  simp only[Bool.or_eq_true,Bool.and_eq_true,decide_eq_true_eq]at f
  omega
 have e:Ref.D0 s=[76,68,71,49,UInt8.ofNat s.w,0,0,0]++(Ref.Dc s.g 8++(Ref.Dc s.m 4++(Ref.Dc s.h 4++(Ref.Dc s.p 4++(List.replicate 32 0++(Ref.Dc (Af.sum (I8 s)) 4++List.replicate 192 0)))))):=by
  rw[MN]
  unfold Ref.HS I8
  simp only[List.append_assoc]
 have a:([76,68,71,49,UInt8.ofNat s.w,0,0,0]:List UInt8).length=8:=D
 refine⟨Ref.Yx s,by rw[d];exact Q' (Ll s),by rw[e];rfl,by rw[e];rfl,by rw[e];rfl,by rw[e];rfl,by rw[e];rfl,?_,?_,?_,?_,?_,?_,b⟩
 ·rw[e,Fs a,Fs (Ref.Fc 8 _),Fs (Ref.Fc 4 _),Fs (Ref.Fc 4 _),Fs (Ref.Fc 4 _)]
  rfl
 ·rw[e]
  show(UInt8.ofNat s.w).toNat=s.w
  simp;omega
 ·rw[e,Fs a,List.drop_zero,List.take_left' (Ref.Fc 8 _),Ref.KG]
  omega
 ·rw[e,Fs a,Fs (Ref.Fc 8 _),List.drop_zero,List.take_left' (Ref.Fc 4 _),Ref.KG]
  omega
 ·rw[e,Fs a,Fs (Ref.Fc 8 _),Fs (Ref.Fc 4 _),List.drop_zero,List.take_left' (Ref.Fc 4 _),Ref.KG]
  omega
 ·rw[e,Fs a,Fs (Ref.Fc 8 _),Fs (Ref.Fc 4 _),Fs (Ref.Fc 4 _),List.drop_zero,List.take_left' (Ref.Fc 4 _),Ref.KG]
  omega
theorem Yl{a p:Nat}{l:List UInt8}(b:2≤p∧p<4096)(g:1≤a)(h:a≤3)(i:l.length≤246):Fr.Di p (Ref.Fe a p l)=true:=by
 have c:([UInt8.ofNat a,UInt8.ofNat l.length]++Ref.Dc p 4++l).length=6+l.length:=by simp[Ref.Fc];omega
 have d:Ref.fill ([UInt8.ofNat a,UInt8.ofNat l.length]++Ref.Dc p 4++l) 252=([UInt8.ofNat a,UInt8.ofNat l.length]++Ref.Dc p 4++l)++List.replicate (252 - (6+l.length)) 0:=by
  unfold Ref.fill
  rw[List.take_of_length_le (by omega),c]
 have e:Ref.Fe a p l=[UInt8.ofNat a,UInt8.ofNat l.length]++(Ref.Dc p 4++(l++(List.replicate (252 - (6+l.length)) 0++Ref.Dc (Af.sum (Ref.fill ([UInt8.ofNat a,UInt8.ofNat l.length]++Ref.Dc p 4++l) 252)) 4))):=by
  unfold Ref.Fe Ref.HS
  conv=>lhs;arg 1;rw[d]
  simp only[List.append_assoc]
 have j:((Ref.Fe a p l).getD 0 0).toNat=a:=by rw[e];show(UInt8.ofNat a).toNat=a;simp;omega
 have f:((Ref.Fe a p l).getD 1 0).toNat=l.length:=by rw[e];show(UInt8.ofNat l.length).toNat=l.length;simp;omega
 refine QD p _ b (by omega) (by omega) (by omega) ?_ ?_ ?_
 ·rw[e,Fs (n:=2) D,List.drop_zero,List.take_left' (Ref.Fc 4 _),Ref.KG]
  omega
 ·exact Q' (Ref.Kf _ _)
 ·rw[f,e,Fs (n:=2) D (by omega),Fs (Ref.Fc 4 _) (by omega),Fs D (by omega)]
  rw[show 6+l.length - 2 - 4 - l.length=0 by omega,List.drop_zero,List.take_left' (by simp)]
  simp[Fr.Dq]
structure Fh (l:List UInt8) (n mk:Nat):Prop where
 a3:∀j,j<2→((l.drop (256*j)).take 256).drop 64=List.replicate 192 0
 aY:∃x y u:Fr.Ch,n=256*u.p∧(3≤u.p∧u.p≤4096)∧(2≤u.m∧u.m≤u.p)∧u.m=mk∧EU ((l.drop (256*0)).take 256) x∧EU ((l.drop (256*1)).take 256) y∧x.g % 2=0∧y.g % 2=1∧x.w=y.w∧x.p=y.p∧KW x y u
 len:l.length=n
 Ak:∀j,2≤j→j<mk→∃ZI ae,(l.drop (256*j)).take 256=Ref.Fe ZI j ae∧1≤ZI∧ZI≤3∧ae.length≤246
theorem R0{w g m p:Nat}(hw:1≤w∧w≤32)(b:g≤1099511627776)(hm:2≤m)(c:m≤p)(a:3≤p∧p≤4096):Fr.Ei ⟨w,g,m,GA m,p⟩=true:=by
 have h:GA m=0∨(2≤GA m∧GA m<m):=by unfold GA;split<;>omega
 simp only[Fr.Ei,Bool.and_eq_true,Bool.or_eq_true,decide_eq_true_eq]
 exact⟨⟨⟨⟨⟨⟨⟨hw.1,hw.2⟩,b⟩,a.1⟩,a.2⟩,hm⟩,c⟩,h⟩
theorem XE{wd g mark Dt Ak:Nat}{L:List UInt8}(hw:1≤wd∧wd≤32)(v:1≤g∧g≤1099511627776)(d:2≤Dt∧Dt≤mark)(hm:mark≤Ak∧3≤Ak∧Ak≤4096)(f:HR L mark):Fh (GK wd g mark Dt Ak L++List.replicate (256*(Ak - mark)) 0) (256*Ak) mark:=by
 have v1:=PI (R0 (m:=Dt) (p:=Ak) (g:=g - 1) hw (by omega) d.1 (by omega) hm.2)
 have v2:=PI (R0 (m:=mark) (p:=Ak) (g:=g) hw v.2 (by omega) hm.1 hm.2)
 obtain⟨a,b,x,y,u,z,A,r1,o,q,B,C,E,F,G,r,i⟩:∃a b:List UInt8,∃x y u:Fr.Ch,GK wd g mark Dt Ak L=a++b++L∧a.drop 64=List.replicate 192 0∧b.drop 64=List.replicate 192 0∧EU a x∧EU b y∧x.g % 2=0∧y.g % 2=1∧x.w=y.w∧x.p=y.p∧KW x y u∧u.m=mark∧u.p=Ak:=by
  unfold GK
  by_cases h:g % 2=1
  ·rw[if_pos h]
   exact⟨_,_,_,_,_,D,Me _,Me _,v1,v2,by dsimp only;omega,h,D,D,.inr ⟨by dsimp only;omega,d.2,D⟩,D,D⟩
  ·rw[if_neg h]
   exact⟨_,_,_,_,_,D,Me _,Me _,v2,v1,by dsimp only;omega,by dsimp only;omega,D,D,.inl ⟨by dsimp only;omega,d.2,D⟩,D,D⟩
 have c:=o.len
 have k:=q.len
 have e:GK wd g mark Dt Ak L++List.replicate (256*(Ak - mark)) 0=a++(b++(L++List.replicate (256*(Ak - mark)) 0)):=by
  rw[z];simp only[List.append_assoc]
 have s:((GK wd g mark Dt Ak L++List.replicate (256*(Ak - mark)) 0).drop (256*0)).take 256=a:=by
  rw[e,Nat.mul_zero,List.drop_zero,List.take_left' c]
 have t:((GK wd g mark Dt Ak L++List.replicate (256*(Ak - mark)) 0).drop (256*1)).take 256=b:=by
  rw[e,Fs c (by omega),show 256*1 - 256=0 from D,List.drop_zero,List.take_left' k]
 refine⟨?_,⟨x,y,u,by rw[i],by rw[i];exact hm.2,by rw[r,i];omega,r,by rw[s];exact o,by rw[t];exact q,B,C,E,F,G⟩,?_,?_⟩
 ·intro j l
  match j,l with
  |0,_=>rw[s];exact A
  |1,_=>rw[t];exact r1
 ·rw[e]
  simp only[List.length_append,List.length_replicate,c,k,f.n]
  omega
 ·intro j H l
  obtain⟨I,J,h,K⟩:=f.p j H l
  refine⟨I,J,?_,K⟩
  have hn:=f.n
  rw[e,Fs c (by omega),Fs k (by omega),List.drop_append_of_le_length (by omega),List.take_append_of_le_length (by rw[List.length_drop];omega),show 256*j - 256 - 256=256*(j - 2)by omega]
  exact h
end Go.Proofs.YtcdaflcjhimimaaGreatDoor
namespace Go.Proofs.YtcdaflcjhimimaaGreatDoor
open Go.RowKit
open D7 (Cs)
variable {J Gq:List Nat} {g l:List UInt8} {p mk f0 f1:Nat}
def BB(l:List UInt8)(p:Nat):List UInt8:=(l.drop (256*p)).take 256
theorem H3(l:List UInt8)(p m:Nat):(BB l p)[m]? =if m<256 then l[256*p+m]? else none:=by
 unfold BB
 rw[List.getElem?_take]
 split
 ·rw[List.getElem?_drop]
 ·rfl
theorem Lp(l:List UInt8)(i k:Nat)(d:UInt8):(Af.Es l i d)[k]? =if i=k then l[k]?.map (fun x=>x^^^d)else l[k]? :=by
 unfold Af.Es
 rw[List.getElem?_set]
 split
 ·rename_i e
  subst e
  split
  ·rename_i h
   rw[List.getElem?_eq_getElem h,List.getD_eq_getElem?_getD,List.getElem?_eq_getElem h]
   rfl
  ·rename_i h
   rw[List.getElem?_eq_none (by omega)]
   rfl
 ·rfl
theorem TM(l:List UInt8)(i p:Nat)(d:UInt8):BB (Af.Es l i d) p=if i/256=p then Af.Es (BB l p) (i % 256) d else BB l p:=by
 apply List.ext_getElem?
 intro m
 rw[H3,Lp]
 by_cases hm:m<256
 ·rw[if_pos hm]
  by_cases a:i/256=p
  ·rw[if_pos a,Lp,H3,if_pos hm]
   by_cases e:i % 256=m
   ·rw[if_pos e,if_pos (by omega)]
   ·rw[if_neg e,if_neg (by omega)]
  ·rw[if_neg a,H3,if_pos hm,if_neg (by omega)]
 ·rw[if_neg hm]
  by_cases a:i/256=p
  ·rw[if_pos a,Lp,H3,if_neg hm,if_neg (by omega)]
  ·rw[if_neg a,H3,if_neg hm]
theorem KZ(l:List UInt8)(t p:Nat):BB (Af.bit l t) p=if t/2048=p then Af.bit (BB l p) (t % 2048)else BB l p:=by
 unfold Af.bit
 rw[TM,show t/8/256=t/2048 by omega,show t/8 % 256=t % 2048/8 by omega,show t % 2048 % 8=t % 8 by omega]
def FC(J:List Nat)(p:Nat):List Nat:=(J.filter (fun t=>decide (t/2048=p))).map (fun t=>t % 2048)
theorem VZ(J:List Nat)(p:Nat):∀l,BB (Cs l J) p=Cs (BB l p) (FC J p):=by
 induction J with
 |nil=>intro l;rfl
 |cons t J a=>
  intro l
  rw[D7.I4,a,KZ]
  unfold FC
  rw[List.filter_cons]
  by_cases h:t/2048=p
  ·rw[if_pos h,if_pos (by simpa using h),List.map_cons,D7.I4]
  ·rw[if_neg h,if_neg (by simpa using h)]
def El(J:List Nat)(p:Nat):Nat:=(J.filter (fun t=>decide (t/2048=p))).length
def Ek(J:List Nat)(p:Nat):Nat:=(J.filter (fun t=>decide (t/2048=p∧t % 2048<512))).length
theorem GQ(J:List Nat)(p:Nat):(FC J p).length=El J p:=by unfold FC El;rw[List.length_map]
theorem MP:∀j∈FC J p,j<2048:=by
 intro j a
 obtain⟨t,_,rfl⟩:=List.mem_map.1 a
 exact Nat.mod_lt _ (by decide)
theorem Mx(c:J.Nodup):(FC J p).Nodup:=by
 unfold FC
 have h:=c.filter (fun t=>decide (t/2048=p))
 rw[List.nodup_iff_pairwise_ne]
 replace h:=List.nodup_iff_pairwise_ne.1 h
 rw[List.pairwise_map]
 refine h.imp_of_mem ?_
 intro a b d f j e
 have g:=(List.mem_filter.1 d).2
 have i:=(List.mem_filter.1 f).2
 simp only[decide_eq_true_eq]at g i
 omega
theorem MY(J:List Nat)(p:Nat):((FC J p).filter (fun j=>decide (j<512))).length=Ek J p:=by
 unfold FC Ek
 rw[List.filter_map,List.length_map,List.filter_filter]
 congr 1
 apply List.filter_congr
 intro t _
 simp only[Function.comp,←Bool.decide_and]
 congr 1
 exact propext And.comm
theorem TX(n:Nat):∀(J:List Nat) (l:List UInt8),(Cs l J).take n=Cs (l.take n) (J.filter (fun j=>decide (j<8*n))):=by
 intro J
 induction J with
 |nil=>intro l;rfl
 |cons j J a=>
  intro l
  rw[D7.I4,a,List.filter_cons]
  unfold Af.bit
  by_cases h:j<8*n
  ·rw[if_pos (by simpa using h),D7.I4,Af.MR _ _ _ _ (by omega)]
   rfl
  ·rw[if_neg (by simpa using h),Af.Qz _ _ _ _ (by omega)]
theorem WY{i:Nat}:∀ {l:List UInt8},(∀j∈J,j/8≠i)→(Cs l J).getD i 0=l.getD i 0:=by
 induction J with
 |nil=>intro l _;rfl
 |cons j J a=>
  intro l h
  rw[D7.I4,a (fun x b=>h x (by simp[b]))]
  rw[List.getD_eq_getElem?_getD,List.getD_eq_getElem?_getD]
  unfold Af.bit
  rw[Lp,if_neg (h j (by simp))]
def Dl(l g:List UInt8)(t:Nat):Bool:=((l.getD (t/8) 0).toNat^^^(g.getD (t/8) 0).toNat).testBit (t % 8)
theorem Za{s t:Nat}(a:s/8<l.length):Dl (Af.bit l s) g t=(Dl l g t^^decide (s=t)):=by
 unfold Dl Af.bit
 rw[Af.MW _ _ _ _ a]
 by_cases h:t/8=s/8
 ·rw[if_pos h,UInt8.toNat_xor,Af.Nh,Nat.testBit_xor,Nat.testBit_xor,Nat.testBit_xor,Nat.testBit_two_pow,h]
  have:(s % 8=t % 8)=(s=t):=propext ⟨fun e=>by omega,fun e=>by rw[e]⟩
  simp only[this]
  cases(l.getD (s/8) 0).toNat.testBit (t % 8)<;>cases(g.getD (s/8) 0).toNat.testBit (t % 8)<;>cases decide (s=t)<;>rfl
 ·rw[if_neg h,decide_eq_false (fun e=>h (by rw[e])),Bool.xor_false]
theorem U3{t:Nat}:∀(J:List Nat) (l:List UInt8),J.Nodup→(∀j∈J,j/8<l.length)→Dl (Cs l J) g t=(Dl l g t^^decide (t∈J)):=by
 intro J
 induction J with
 |nil=>intro l _ _;simp[D7.Wq]
 |cons j J b=>
  intro l a h
  rw[List.nodup_cons]at a
  rw[D7.I4,b _ a.2 (fun x c=>by rw[Af.Jw];exact h x (by simp[c])),Za (h j (by simp))]
  by_cases e:j=t
  ·subst e
   rw[decide_eq_false a.1,decide_eq_true D,decide_eq_true (by simp)]
   simp
  ·have:(t∈j::J)=(t∈J):=propext ⟨fun q=>(List.mem_cons.1 q).resolve_left (fun q=>e q.symm),fun q=>by simp[q]⟩
   rw[decide_eq_false e,Bool.xor_false]
   simp only[this]
theorem YK(g:List UInt8)(t:Nat):Dl g g t=false:=by
 unfold Dl
 rw[Nat.xor_self,Nat.zero_testBit]
theorem Vf{t:Nat}(b:J.Nodup)(h:∀j∈J,j/8<g.length):((((Cs g J).getD (t/8) 0).toNat^^^(g.getD (t/8) 0).toNat)/2^(t % 8))&&&1=1↔t∈J:=by
 have a:=U3 (g:=g) (t:=t) J g b h
 rw[YK,Bool.false_xor]at a
 unfold Dl at a
 rw[Nat.and_one_is_mod]
 rw[Nat.testBit_eq_decide_div_mod_eq]at a
 constructor
 ·intro q
  have:decide (t∈J)=true:=by rw[←a];exact decide_eq_true q
  simpa using this
 ·intro q
  have:decide (((((Cs g J).getD (t/8) 0).toNat^^^(g.getD (t/8) 0).toNat)/2^(t % 8)) % 2=1)=true:=by rw[a];exact decide_eq_true q
  simpa using this
structure Gi (g:List UInt8) (mk:Nat) (J:List Nat) (l:List UInt8) (Gq:List Nat) (f0 f1:Nat):Prop where
 e:l=Cs g J
 aa:J.Nodup
 lt:∀t∈J,t<2048*mk
 c:∀p,El J p≤3
 nl:Gq.length=mk
 n:∀p,p<mk→Gq.getD p 0=El J p
 aw:f0=Ek J 0
 s1:f1=Ek J 1
theorem Qb(J:List Nat)(p:Nat):Ek J p≤El J p:=by
 unfold Ek El
 induction J with
 |nil=>exact Be _
 |cons t J a=>
  by_cases h:t/2048=p
  ·rw[List.filter_cons,List.filter_cons_of_pos (p:=fun t=>decide (t/2048=p)) (by simpa using h)]
   split<;>simp only[List.length_cons]<;>omega
  ·rw[List.filter_cons_of_neg (by simpa using fun e:t/2048=p=>absurd e h),List.filter_cons_of_neg (by simpa using h)]
   exact a
theorem Gi.XT(h:Gi g mk J l Gq f0 f1):f0≤3:=by
 have:=Qb J 0
 have:=h.c 0
 have:=h.aw
 omega
theorem Gi.WQ(h:Gi g mk J l Gq f0 f1):f1≤3:=by
 have:=Qb J 1
 have:=h.c 1
 have:=h.s1
 omega
theorem Gi.zero(g:List UInt8)(mk:Nat):Gi g mk [] g (List.replicate mk 0) 0 0:=
 ⟨D,List.nodup_nil,(fun t a=>by cases a),fun p=>Nat.zero_le _,List.length_replicate,(fun p b=>by
   rw[List.getD_eq_getElem?_getD,List.getElem?_replicate,if_pos b];rfl),D,D⟩
theorem NJ(J:List Nat)(t p:Nat):El (J++[t]) p=El J p+if t/2048=p then 1 else 0:=by
 unfold El
 rw[List.filter_append,List.length_append,List.filter_cons]
 split<;>simp_all
theorem RW(J:List Nat)(t p:Nat):Ek (J++[t]) p=Ek J p+if t/2048=p∧t % 2048<512 then 1 else 0:=by
 unfold Ek
 rw[List.filter_append,List.length_append,List.filter_cons]
 split<;>simp_all
theorem Gi.step{a b j x y:Nat}(h:Gi g mk J l Gq f0 f1)(r:Gq[p]? =some y)(I:256*mk≤g.length)(s:p<mk)(K:j<2048)
 (u:¬(((l.getD (256*p+j/8) 0).toNat^^^(g.getD (256*p+j/8) 0).toNat)/2^(j % 8))&&&1=1)(L:y<3)(v:x=(l.getD (256*p+j/8) 0).toNat^^^(1*2^(j % 8)) % 256)
 (k:a=f0+if p=0∧j<512 then 1 else 0)(d:b=f1+if p=1∧j<512 then 1 else 0):Gi g mk (J++[2048*p+j]) (l.set (256*p+j/8) (UInt8.ofNat x)) (Gq.set p (y+1)) a b:=by
 have w:Gq.getD p 0=y:=by rw[List.getD_eq_getElem?_getD,r];rfl
 have m:(2048*p+j)/8=256*p+j/8:=by omega
 have o:(2048*p+j) % 8=j % 8:=by omega
 have f:(2048*p+j)/2048=p:=by omega
 have mp:(2048*p+j) % 2048=j:=by omega
 have z:∀i∈J,i/8<g.length:=fun i A=>by have:=h.lt i A;omega
 have B:2048*p+j∉J:=by
  intro q
  have:=(Vf h.aa z).2 q
  rw[←h.e,m,o]at this
  exact u this
 refine⟨?_,?_,?_,?_,?_,?_,?_,?_⟩
 ·rw[D7.VI,←h.e]
  unfold Af.bit Af.Es
  rw[m,o,v]
  congr 1
  apply UInt8.toNat_inj.1
  have M:2^(j % 8)≤2^7:=Nat.pow_le_pow_right (by decide) (by omega)
  rw[UInt8.toNat_xor,Nat.one_mul,Nat.mod_eq_of_lt (by omega)]
  have E:(l.getD (256*p+j/8) 0).toNat^^^2^(j % 8)<2^8:=Nat.xor_lt_two_pow (UInt8.toNat_lt _) (by omega)
  have F:(UInt8.ofNat (2^(j % 8))).toNat=2^(j % 8):=by
   show 2^(j % 8) % 256=_
   exact Nat.mod_eq_of_lt (by omega)
  rw[F]
  show((l.getD (256*p+j/8) 0).toNat^^^2^(j % 8)) % 256=_
  exact Nat.mod_eq_of_lt E
 ·rw[List.nodup_append]
  refine⟨h.aa,by simp,?_⟩
  intro a k b d e
  simp at d
  subst d
  subst e
  exact B k
 ·intro t G
  rcases List.mem_append.1 G with q|q
  ·exact h.lt t q
  ·simp at q;subst q;omega
 ·intro q
  rw[NJ,f]
  have:=h.c q
  split
  ·rename_i e
   subst e
   have:=h.n p s
   omega
  ·omega
 ·rw[List.length_set];exact h.nl
 ·intro q H
  rw[NJ,f,←h.n q H,List.getD_eq_getElem?_getD,List.getElem?_set]
  have N:=h.nl
  by_cases e:p=q
  ·subst e
   rw[if_pos D,if_pos (by omega),if_pos D,w]
   rfl
  ·rw[if_neg e,if_neg e,List.getD_eq_getElem?_getD]
   rfl
 ·rw[RW,f,mp,←h.aw];exact k
 ·rw[RW,f,mp,←h.s1];exact d
theorem Gi.LC{j y Hz:Nat}(h:Gi g mk J l Gq f0 f1)(hm:∀q,El J q≤Hz)(a:Gq[p]? =some y)(b:p<mk)(d:j<2048)(f:y<Hz):∀q,El (J++[2048*p+j]) q≤Hz:=by
 intro q
 have i:Gq.getD p 0=y:=by rw[List.getD_eq_getElem?_getD,a];rfl
 have c:(2048*p+j)/2048=p:=by omega
 rw[NJ,c]
 have:=hm q
 split
 ·rename_i e
  subst e
  have:=h.n p b
  omega
 ·omega
def II(J:List Nat)(p:Nat):List Nat:=(List.range p).filter (fun i=>decide (0<El J i))
theorem Kp(J:List Nat)(p:Nat):II J (p+1)=II J p++if 0<El J p then [p]else []:=by
 unfold II
 rw[List.range_succ,List.filter_append,List.filter_cons,List.filter_nil]
 congr 1
 by_cases h:0<El J p
 ·rw[if_pos (by simpa using h),if_pos h]
 ·rw[if_neg (by simpa using h),if_neg h]
theorem VA(h:∀q,El J q=0):II J p=[]:=by
 unfold II
 rw[List.filter_eq_nil_iff]
 intro i _
 rw[h i]
 simp
end Go.Proofs.YtcdaflcjhimimaaGreatDoor
namespace Go.Proofs.YtcdaflcjhimimaaGreatDoor
open Go.RowKit
section
variable {P:Program} {w w':World} {a:Act} {U d:Nat} {f:Db} {Aa:Act→World→Prop} {Ac:Exit→Act→World→Prop} {ty:TypeId} {pos:String} {AF:Array Edge} {g:Option (Nat×Bool)}
theorem Yk(j:Ao U a f)(Ab:Nat.blt d U=true){t e:TypeId}{size bytes:Nat}{z:Value}(b:CN P t e size bytes z){x y:Operand}{k k':IntKind}{n:Nat}(m:Au f x=some (.int k ((n:Nat):Int)))(o:Au f y=some (.int k' ((n:Nat):Int)))(q:bytes*n≤281474976710656)(hn:n≤maxLen)(base:Nat)(r:base≤w.heap.size)
 (h:∀c p W,Ao U c (Ja f d (.slice p n n))→W.ownsRow base e size (.slice p n n) n (madeCells z.cells (n*size)).toList→(∀k,(Value.slice p n n).ownBlock=some k→w.heap.size≤k)→Below w.heap.size w W→Aa c W):DP P ⟨some d,.makeSlice t x y,ty,pos,AF,g⟩ a w Aa Ac:=by
 obtain⟨i,l,s,u,A⟩:=b.bl
 obtain⟨W,B,C,D⟩:=run_make_full (P:=P) (w:=w) base t e i z size b.ZJ l s u k k' n (by rw[A];exact q) hn r
 refine DI (v:=.slice (some ⟨w.heap.size,0,none⟩) n n) (w':=W) j Ab ?_ (fun c E=>h c _ W E C (fun k b=>by simp only[Value.ownBlock,Option.some.injEq]at b;omega) ((Bu _ _).grown D (Be _) (fun k b=>by cases b)))
 simp[execOp,j.CL m,j.CL o,B]
theorem YY{fn:Func}{R:Ending→World→Prop}(c:Ao U a f){t u v:Nat}{Az:TypeId}(j:fn.results=#[.tmp u,.tmp v,.cell t Az]){b:Nat}{BL e:Value}(k:f t=some (.pointer (some ⟨b,0,none⟩)))(l:f u=some BL)(m:f v=some e){ss:List (List Value)}{AU:TypeId}{C6:Nat×Nat}(n:w.heap[b]? =some (.cells (flat ss) AU C6))
 {BU:TypeDesc}(hu:P.underlying Az=some BU)(Ab:BU.isRow=true)(o:(P.info? Az).map (·.size)=some ss.flatten.length)(h:R (.returned (.tuple #[BL,e,.agg (flat ss)])) w):bodyPost P fn R .ret a w:=by
 refine⟨c.d,.tuple #[BL,e,.agg (flat ss)],?_,h⟩
 have p:=run_loadAt_mid (P:=P) w b 0 Az ss.flatten BU (HE n) hu Ab o
 have he:=c.h t _ k
 have g:=c.h u _ l
 have i:=c.h v _ m
 have q:(loadVar Az ⟨b,0,none⟩).run P w=.ok (.agg (flat ss)) w:=by simpa[Instr.loadAt,Instr.sureAddr,flat]using p
 simp only[Array.getD_eq_getD_getElem?]at he g i
 simp[results,j,he,g,i,asAddr,q]
end
theorem wrap_u8(n:Nat):IntKind.u8.wrap (n:Int)=((n % 256:Nat):Int):=by rw[Fw];simp
theorem Wh(n:Nat):(madeCells (Value.int .i64 0).cells (n*1)).toList=Al Ct (List.replicate n 0):=by
 rw[Nat.mul_one,show(Value.int .i64 0).cells=#[.int .i64 0]from D,toList_madeCells_one]
 induction n with
 |zero=>rfl
 |succ n a=>
  rw[List.replicate_succ,List.replicate_succ,a]
  rfl
theorem Xn:∀(L:List Nat) (j x:Nat),(Al Ct L).set j (.int .i64 ((x:Nat):Int))=Al Ct (L.set j x):=by
 intro L
 induction L with
 |nil=>intro j x;rfl
 |cons y L a=>
  intro j x
  show(Value.int .i64 ((y:Nat):Int)::Al Ct L).set j _=_
  cases j with
  |zero=>rfl
  |succ j=>
   show Value.int .i64 ((y:Nat):Int)::(Al Ct L).set j _=_
   rw[a]
   rfl
structure Kz where
 p:Int
 b:Int
def Mz(x:Kz):List Value:=[.int .i64 x.p,.int .i64 x.b]
theorem Nw(x:Kz):(Mz x).length=2:=rfl
theorem PL:CN Tryz.prog 25 90 2 16 (.agg #[.int .i64 0,.int .i64 0]):=CN.mk' Lw (by kernel_rfl) D (by decide)
end Go.Proofs.YtcdaflcjhimimaaGreatDoor
namespace Go.Proofs.YtcdaflcjhimimaaGreatDoor
open Go.RowKit Go.Maps
set_option maxRecDepth 100000
set_option maxHeartbeats 1600000
theorem UI{w:World}{b o:Nat}{c:Array Value}{t:TypeId}{C6:Nat×Nat}{v:Value}(d:w.heap[b]? =some (.cells c t C6))(a:w.cell? ⟨b,o,none⟩=some v):o<c.size:=by
 rw[cell_of_row _ _ _ _ _ _ d]at a
 exact(Array.getElem?_eq_some_iff.1 a).1
theorem UT(x:UInt8)(k:Nat):(x^^^UInt8.ofNat (2^(k % 8))).toNat=x.toNat^^^(1*2^(k % 8)) % 256:=by
 rw[UInt8.toNat_xor,Nat.one_mul]
 rfl
theorem T0(u x AL off m c j:Nat)(l:List UInt8)(cur:Array Value)(w:World)(f:w.heap[u]? =some (.cells #[.slice (some ⟨AL,off,none⟩) m c] 28 (0,0)))(d:w.heap[x]? =some (.cells #[.int .i64 j] 3 (0,0)))
 (i:w.heap[AL]? =some (.cells cur 5 (0,0)))(B:View w (.slice (some ⟨AL,off,none⟩) m c) m 1 (bv l))(N:l.length=m)(O:j<8*m)(P:m≤1048576):
 Calls Tryz.prog 69 #[.pointer (some ⟨u,0,none⟩),.pointer (some ⟨x,0,none⟩)] w fun e w'=>e=.returned (.tuple #[])∧w.grownBy w' (some AL)∧
  w'.heap[AL]? =some (.cells (cur.setIfInBounds (off+j/8) (.int .u8 (l.getD (j/8) 0^^^UInt8.ofNat (2^(j % 8))).toNat)) 5 (0,0)):=by
 have f:Ai w u [[Value.slice (some ⟨AL,off,none⟩) m c]] 28:=f
 have d:Ai w x [[Value.int .i64 ((j:Nat):Int)]] 3:=d
 have h:Below w.heap.size w w:=Bu _ _
 refine Bx WK D 12 ?_
 intro a b
 refine EJ 10 ?_
 intro R F s
 have f:=Q f s
 have d:=Q d s
 have i:=Q i s
 have h:=Ah h s
 revert a
 refine Dx Cr 0 f D D<|Dx AH 0 d D D<|N9 (q:=8) D D<|?_
 have G:=De (B.below h) (j/8) (o:=off+(j/8)*1)
 refine C0 A0 (j/8) (off+(j/8)*1) D D<|Dw BA G D<|Dx AH 0 d D D<|PM (q:=8) D D<|?_
 obtain⟨t,y⟩:∃g:Nat,g=(1*2^(j % 8)) % 256:=⟨_,D⟩
 have C:t<256:=by rw[y];exact Nat.mod_lt _ (by decide)
 refine Cz (fun _ b=>JC b (k:=.u8) (p:=1) (n:=j % 8) (r:=((t:Nat):Int)) D D (by simp only[IntKind.bits];omega) (by rw[y];exact wrap_u8 _))<|?_
 obtain⟨z,A⟩:∃g:Nat,g=((l.getD (j/8) 0).toNat)^^^t:=⟨_,D⟩
 have S:z<256:=by rw[A];exact Nat.xor_lt_two_pow (n:=8) (UInt8.toNat_lt _) C
 refine Cz (fun _ b=>Eh b (k:=.u8) (p:=(((l.getD (j/8) 0).toNat:Nat):Int)) (q:=((t:Nat):Int)) (r:=((z:Nat):Int)) (.inr (.inr D)) D D (by rw[A];exact u8_xor_nat _ _ (UInt8.toNat_lt _) C))<|?_
 have H:=De (B.below h) (j/8) (o:=off+(j/8)*1)
 refine C0 A0 (j/8) (off+(j/8)*1) D D<|?_
 intro a b;refine EG ?_;revert a
 intro T I
 have J:=UI i H
 refine Bj D (fun Aa K=>Kx I D i (v:=(Value.int .u8 (((z:Nat):Int):Int))) D D (by kernel_rfl) J D ?_)
 intro a U b F E L
 refine K _ _ ?_;revert a
 refine M<|?_
 intro a b
 refine FD ?_
 refine Ec b D ?_
 rw[Nat.mul_one]at E
 exact⟨D,Ij (Hy (Ki w _) h) L,by rw[UT,←y,←A];exact E⟩
theorem WC(AU Bc n m c off AL j:Nat)(l:List UInt8)(cur cs:Array Value)(Az:TypeId)(w:World)(H:w.heap[AU]? =some (.cells cs Az (0,0)))(ae:TabIs w AU Bc n cs)(af:1≤n)(ag:n≤4096)
 (I:w.heap[AL]? =some (.cells cur 5 (0,0)))(ah:AL≠AU)
 (J:View w (.slice (some ⟨AL,off,none⟩) m c) m 1 (bv l))(R:l.length=m)(hm:n+4≤m)(ai:Af.last (Af.Eb n) (Af.Cj l n)=some j)(aj:j<8*m)(ak:m≤1048576):
 Calls Tryz.prog 35 #[.pointer (some ⟨AU,Bc,none⟩),.slice (some ⟨AL,off,none⟩) m c,.int .i64 n] w fun e w'=>∃v S,e=.returned (.tuple #[v,.bool true])∧GN w S AU Bc n cs Az∧S.grownBy w' (some AL)∧
  w'.heap[AL]? =some (.cells (cur.setIfInBounds (off+j/8) (.int .u8 (l.getD (j/8) 0^^^UInt8.ofNat (2^(j % 8))).toNat)) 5 (0,0)):=by
 obtain⟨q,K⟩:∃q:Option Addr,q=some ⟨AL,off,none⟩:=⟨_,D⟩
 rw[←K]at J⊢
 have r:=Aw K
 have al:=Aw I
 have li:AL<w.heap.size:=(Array.getElem?_eq_some_iff.1 I).1
 clear K I
 have an:AU<w.heap.size:=(Array.getElem?_eq_some_iff.1 H).1
 have aS:=J.cap
 have ao:=Aw H
 have aq:=Aw R
 have ar:m≤l.length:=by omega
 clear H R
 have aT:∀(fn:Fn) (first cap:Array Value) (w:World),(Instr.makeFunc fn first cap).run Tryz.prog w=.ok (.func fn first cap) w:=fun _ _ _ _=>rfl
 have aU:∀(x:Bool) (w:World),(Op.unary .not (.bool x)).run Tryz.prog w=.ok (.bool (!x)) w:=fun _ _=>rfl
 go_enter Kt,Tryz.ntmps35
 go_wp2_with (with_reducible refine KF 28 ?_)
 refine⟨KM D 28 (.tmp 1) D (v:=.slice q m c) D ?_⟩
 intro o au t b1
 simp only[Value.cells]at t
 have av:=Aw t
 have aV:w.heap.size+1≤o.heap.size:=by omega
 have aw:Hid (o.heap[AU]? =some (.cells cs Az (0,0))):=Aw ((b1.block _ (by omega)).trans ao.out)
 have ax:=HU (j:=0) t D
 have L:=J.below b1
 clear t au
 go_wp2
 go_loop [8,13] (fun s i=>∃(k x:Nat),k≤4∧i=.int .i64 k∧s=.int .u32 x∧Hid (x=HH l n k)) (fun _ i=>4 - (intOf i).toNat)
 case atStart=>exact⟨0,0,by omega,D,D,Aw D⟩
 case round=>
  obtain⟨k,x,f,rfl,rfl,u⟩:=hrel
  by_cases aW:k<4
  ·have M:x<4294967296:=by
    have:=OJ l n k (by omega)
    have T:2^(8*k)≤2^32:=Nat.pow_le_pow_right (by decide) (by omega)
    rw[←u.out]at this
    omega
   go_wp2_with (first|go_skip|(with_reducible refine GX 28 ?_))
   refine⟨idx A0 D (.tmp 17) (.tmp 20) D (y:=q) (n:=m) (c:=c) D L D (n+k) (by simp) (by omega) ?_⟩
   intro ay az U _
   obtain⟨g,N⟩:∃g,g=(l.getD (n+k) 0).toNat:=⟨_,D⟩
   have aX:g<256:=by rw[N];exact(l.getD (n+k) 0).toNat_lt
   have V:=Aw N
   clear N
   have aY:o.cell? ⟨ay,az,none⟩=some (.int .u8 g):=by rw[V.out];exact Ga U
   clear U
   go_wp2_with (first|go_skip|(with_reducible refine Fx 75 ?_))
   have aA:g*2^(8*k)<4294967296:=by
    have T:2^(8*k)≤2^24:=Nat.pow_le_pow_right (by decide) (by omega)
    have A:g*2^(8*k)≤255*2^24:=Nat.mul_le_mul (by omega) T
    omega
   obtain⟨y,W⟩:∃y,y=g*2^(8*k):=⟨_,D⟩
   have X:=Aw W
   have aB:y<4294967296:=by omega
   clear W
   refine⟨P1 D D (p:=g) (n:=8*k) (i:=8*(k:Int)) D D (by simp) (by omega) aA y X.out.symm ?_⟩
   go_wp2_with (first|go_skip|(with_reducible refine Fx 75 ?_))
   obtain⟨z,O⟩:∃z,z=x|||y:=⟨_,D⟩
   have aC:Hid (z=HH l n (k+1)):=Aw (by rw[O,u.out,X.out,V.out];rfl)
   have aD:=Aw O
   clear O
   refine⟨P8 D D (p:=x) (q:=y) D D M aB z aD.out.symm ?_⟩
   go_wp2
   go_round
   case rel=>exact⟨k+1,z,by omega,by go_num,D,aC⟩
   case measure=>simp[intOf];omega
  ·have aE:k=4:=by omega
   subst aE
   have P:x=Af.stored l n:=by rw[u.out,RD]
   have M:x<4294967296:=by rw[P];exact Af.NC _ _
   have aF:=Aw P
   clear P u
   go_wp2_with (first|go_skip|(with_reducible refine Gr ?_))
   refine⟨HK A0 D (.tmp 32) (.tmp 33) D (y:=q) (n:=m) (c:=c) D n D (by omega) ?_⟩
   go_wp2_with (first|go_skip|(go_at_call 68;with_reducible refine C5 ?_))
   refine⟨(IN q n c (l.take n) o (L.pre n (by omega) ar) (by rw[List.length_take];omega)).mono ?_⟩
   rintro e Y ⟨rfl,b2⟩
   obtain⟨s,B⟩:∃s,s=Af.sum (l.take n):=⟨_,D⟩
   have s1:s<4294967296:=by rw[B];exact Af.GP _
   rw[←B]
   obtain⟨d,Ab⟩:∃d,d=s^^^x:=⟨_,D⟩
   have Z:Hid (d=Af.Cj l n):=Aw (by rw[Ab,B,aF.out];rfl)
   have d1:d<4294967296:=by rw[Z.out];exact Af.P6 _ _
   have aG:=Aw Ab
   clear B Ab
   have aH:Hid (Y.heap[AU]? =some (.cells cs Az (0,0))):=Aw ((b2.block _ (by omega)).trans aw.out)
   go_wp2_with (first|go_skip|(with_reducible refine Fx 75 ?_))
   refine⟨JH D D (p:=s) (q:=x) D D s1 M d aG.out.symm ?_⟩
   go_wp2_with (first|go_skip|(go_at_call 67;with_reducible refine C5 ?_))
   refine⟨(find_spec AU Bc n d cs Az Y aH.out (ae.below (b1.trans (b2.mono (by omega)))) af ag d1).mono ?_⟩
   rintro e a ⟨rfl,t3⟩
   have aa:Ju n d=.tuple #[.int .i64 j,.bool true]:=by unfold Ju;rw[Z.out,ai]
   rw[aa]
   have Q:GN w a AU Bc n cs Az:=by
    obtain⟨E,r1,r2⟩:=t3
    exact⟨E,Ij (Hy (Hy (Ki w (some AU)) b1) b2) r1,r2⟩
   have aI:Hid (a.heap[w.heap.size]? =some (.cells #[.slice q m c] 28 (0,0))):=by
    obtain⟨E,r1,r2⟩:=t3
    exact Aw (Ag r1 ((b2.block _ (by omega)).trans av.out) (by omega))
   have aJ:Hid (a.heap[AL]? =some (.cells cur 5 (0,0))):=by
    obtain⟨E,r1,r2⟩:=t3
    exact Aw (Ag r1 ((b2.block _ (by omega)).trans ((b1.block _ (by omega)).trans al.out)) ah)
   have aZ:o.heap.size≤a.heap.size:=by have:=b2.size;have:=t3.size;omega
   have aK:View a (.slice q m c) m 1 (bv l):=by
    obtain⟨E,r1,r2⟩:=t3
    exact(L.below b2).grown r1 (fun k f e=>by rw[r.out]at f;simp[Value.ownBlock]at f;simp at e;omega)
   clear t3 aa ax
   go_wp2_with (first|go_skip|(with_reducible refine JK 3 ?_))
   refine⟨E9 D 3 D (z:=.int .i64 0) (by kernel_rfl) ?_⟩
   intro a0 aL A F
   simp only[Value.cells]at A
   have ab:=Aw A
   have t4:=Q.below an F
   clear A
   go_wp2_with (first|go_skip|(with_reducible refine Hj 3 ?_))
   refine⟨L' D 3 (.tmp 10) (.tmp 39) D (b:=a.heap.size) (off:=0) (v:=.int .i64 j) D ab.out D D (by kernel_rfl) (by decide) ?_⟩
   intro h aM ad G
   have t5:=t4.other G (by have:=Q.size;omega) (by have:=Q.size;omega) ⟨_,_,ab.out⟩
   have aN:Hid (h.heap[w.heap.size]? =some (.cells #[.slice q m c] 28 (0,0))):=Aw (Ag G ((F.block _ (by omega)).trans aI.out) (by omega))
   have aO:Hid (h.heap[AL]? =some (.cells cur 5 (0,0))):=Aw (Ag G ((F.block _ (by omega)).trans aJ.out) (by omega))
   have aP:View h (.slice q m c) m 1 (bv l):=(aK.below F).grown G (fun k f e=>by rw[r.out]at f;simp[Value.ownBlock]at f;simp at e;omega)
   have aQ:Hid (h.heap[a.heap.size]? =some (.cells #[.int .i64 j] 3 (0,0))):=Aw (by simpa using ad)
   clear ad aL aM
   have C:=T0 w.heap.size a.heap.size AL off m c j l cur h (by rw[←r.out];exact aN.out) aQ.out aO.out (by rw[←r.out];exact aP) aq.out aj ak
   go_wp2_with (first|go_skip|(go_at_call 69;with_reducible refine C5 ?_))
   refine⟨C.mono ?_⟩
   rintro e a1 ⟨rfl,aR,i6⟩
   go_wp2
   go_ret2
   exact⟨_,h,D,t5,aR,i6⟩
end Go.Proofs.YtcdaflcjhimimaaGreatDoor
namespace Go.Proofs.YtcdaflcjhimimaaGreatDoor
open Go.RowKit
open D7 (Cs)
variable {l:List UInt8}
theorem Yp:Fr.Dq l=true↔∀x∈l,x=0:=by
 unfold Fr.Dq
 rw[List.all_eq_true]
 simp
theorem EU.DX{s:Fr.Ch}(h:EU l s):Fr.DX l=some s:=by
 have L:=h.F8
 have e:∀i,i<64→(l.take 64).getD i 0=l.getD i 0:=by
  intro i u
  rw[List.getD_eq_getElem?_getD,List.getD_eq_getElem?_getD,List.getElem?_take,if_pos u]
 have f:∀i k,i+k≤64→((l.take 64).drop i).take k=(l.drop i).take k:=by
  intro i k M
  rw[List.drop_take,List.take_take,Nat.min_eq_left (by omega)]
 have hlen:=h.len
 have v:(l.drop 8).take 8=(l.drop 8).take 7++[l.getD 15 0]:=by
  rw[List.take_succ_eq_append_getElem (by simp;omega)]
  congr 1
  simp[List.getD_eq_getElem?_getD,List.getElem?_eq_getElem (show 15<l.length by omega)]
 have y:∀(a:List UInt8) (b:UInt8),Fr.le (a++[b])=Fr.le a+b.toNat*256^a.length:=by
  intro a b
  induction a with
  |nil=>simp[Fr.le]
  |cons x a z=>simp only[List.cons_append,Fr.le,z,List.length_cons,Nat.pow_succ,Nat.mul_add];rw[Nat.mul_left_comm 256,Nat.mul_comm 256,Nat.add_assoc,Nat.mul_comm 256 (256^a.length)]
 have A:((l.drop 8).take 7).length=7:=by simp;omega
 have j:=h.g
 rw[v,y,A]at j
 have n:l.getD 15 0=0:=by
  apply UInt8.toNat_inj.1
  show(l.getD 15 0).toNat=0
  have:(256:Nat)^7=72057594037927936:=by decide
  rw[this]at j
  omega
 have B:Fr.le ((l.drop 8).take 7)=s.g:=by
  rw[n]at j
  simpa using j
 have C:Fr.fields (l.take 64)=s:=by
  unfold Fr.fields
  rw[e 4 (by omega),f 8 7 (by omega),f 16 4 (by omega),f 20 4 (by omega),f 24 4 (by omega),h.w,B,h.m,h.h,h.p]
 have D:(l.take 64).take 4=[76,68,71,49]:=by
  rw[List.take_take,Nat.min_eq_left (by omega)]
  match l,hlen,h.ab,h.aN,h.aL,h.aP with
  |a::b::c::d::t,_,E,F,G,H=>
   have I:a=76:=UInt8.toNat_inj.1 E
   have r1:b=68:=UInt8.toNat_inj.1 F
   have r2:c=71:=UInt8.toNat_inj.1 G
   have Ig:d=49:=UInt8.toNat_inj.1 H
   rw[I,r1,r2,Ig]
   rfl
 have J:Fr.GV (l.take 64)=true:=by
  unfold Fr.GV
  rw[D,f 5 3 (by omega),f 28 32 (by omega),f 15 1 (by omega)]
  have K:Fr.Dq ((l.drop 15).take 1)=true:=by
   rw[Yp]
   intro x o
   have:(l.drop 15).take 1=[l.getD 15 0]:=by
    rw[List.take_one]
    simp[List.getD_eq_getElem?_getD,List.getElem?_eq_getElem (show 15<l.length by omega)]
   rw[this,n]at o
   simpa using o
  have q:Fr.Dq ((l.drop 5).take 3)=true:=h.aE
  have r:Fr.Dq ((l.drop 28).take 32)=true:=h.aX
  rw[q,r,K]
  simp
 unfold Fr.DX
 rw[if_pos h.Cj,if_pos J,C,if_pos h.valid]
theorem RL{m:List UInt8}(h:l.take 64=m.take 64):Fr.DX l=Fr.DX m:=by unfold Fr.DX;rw[h]
theorem NZ(h:Af.Cj (l.take 64) 60≠0):Fr.DX l=none:=by unfold Fr.DX;rw[if_neg h]
theorem Rh{a:List UInt8}{x:Fr.Ch}{J:List Nat}(h:EU a x)(g:J.Nodup)(k:J.length≤3):
 ((J.filter (fun j=>decide (j<512))).length=0∧(Cs a J).take 64=a.take 64)∨
 ((J.filter (fun j=>decide (j<512))).length=1∧∃j,j<512∧(Cs a J).take 64=Af.bit (a.take 64) j∧Af.Cj ((Cs a J).take 64) 60≠0∧Af.last (Af.Eb 60) (Af.Cj ((Cs a J).take 64) 60)=some j)∨
 (2≤(J.filter (fun j=>decide (j<512))).length∧Af.Cj ((Cs a J).take 64) 60≠0∧Af.last (Af.Eb 60) (Af.Cj ((Cs a J).take 64) 60)=none):=by
 have e:=TX 64 J a
 have lt:∀j∈J.filter (fun j=>decide (j<512)),j<512:=fun j c=>by have:=(List.mem_filter.1 c).2;simpa using this
 have b:=g.filter (fun j=>decide (j<512))
 have hle:(J.filter (fun j=>decide (j<512))).length≤3:=Bs (List.length_filter_le _ _) k
 have d:(a.take 64).length=60+4:=by rw[List.length_take,h.len];rfl
 change(Cs a J).take 64=Cs (a.take 64) (J.filter (fun j=>decide (j<512)))at e
 rw[e]
 generalize J.filter (fun j=>decide (j<512))=Aa at*
 match Aa,lt,b,hle with
 |[],_,_,_=>exact .inl ⟨D,D⟩
 |[j],lt,b,_=>
  have c:=lt j (by simp)
  exact .inr (.inl ⟨D,j,c,D,D7.Mr (J:=[j]) (by decide) d h.Cj (by intro i f;simp at f;subst f;exact c) b (by simp) (by simp),D7.QH (by decide) d h.Cj c⟩)
 |i::j::Aa,lt,b,hle=>
  exact .inr (.inr ⟨by simp,D7.Mr (by decide) d h.Cj lt b (by simp) hle,D7.Rv (by decide) d h.Cj lt b (by simp) hle⟩)
theorem Qj{c:List UInt8}{x:Fr.Ch}{J:List Nat}(h:EU c x)(F:J.length≤3):Fr.J3 (Cs c J)=false:=by
 have hex:∃i,i<4∧∀j∈J,j/8≠i:=by
  apply Classical.byContradiction
  intro hn
  have o:∀i∈[0,1,2,3],i∈J.map (fun j=>j/8):=by
   intro i d
   have p:i<4:=by simp at d;omega
   apply Classical.byContradiction
   intro q
   exact hn ⟨i,p,fun j r e=>q (List.mem_map.2 ⟨j,r,e⟩)⟩
  have s:∀(Aa:List Nat),(∀i∈[0,1,2,3],i∈Aa)→4≤Aa.length:=by
   intro Aa t
   have key:∀(A B:List Nat),A.Nodup→(∀k∈A,k∈B)→A.length≤B.length:=by
    intro A
    induction A with
    |nil=>intro B _ _;exact Nat.zero_le _
    |cons y A u=>
     intro B hn f
     rw[List.nodup_cons]at hn
     have g:=f y (by simp)
     have h:=u (B.erase y) hn.2 (fun k m=>(List.mem_erase_of_ne (a:=k) (b:=y) (by rintro rfl;exact hn.1 m)).2 (f k (by simp[m])))
     rw[List.length_erase_of_mem g]at h
     have:=List.length_pos_of_mem g
     simp only[List.length_cons]
     omega
   exact key [0,1,2,3] Aa (by decide) t
  have:=s _ o
  rw[List.length_map]at this
  omega
 obtain⟨i,d,v⟩:=hex
 have n:=WY (l:=c) v
 have w:c.getD i 0≠0:=by
  intro e
  have G:(c.getD i 0).toNat=0:=by rw[e];rfl
  have z:=h.ab
  have C:=h.aN
  have D:=h.aL
  have E:=h.aP
  match i,d with
  |0,_=>omega
  |1,_=>omega
  |2,_=>omega
  |3,_=>omega
 unfold Fr.J3
 rw[decide_eq_false]
 intro e
 have:=congrArg (fun l=>l.getD i 0) e
 simp only[List.getD_eq_getElem?_getD,List.getElem?_take,List.getElem?_replicate]at this
 rw[if_pos (by omega),if_pos (by omega)]at this
 rw[List.getD_eq_getElem?_getD]at n
 rw[n]at this
 exact w this
theorem Rr{p a:Nat}{b:List UInt8}{J:List Nat}(k:2≤p∧p<4096)(m:1≤a)(n:a≤3)(o:b.length≤246)(c:J.Nodup)(lt:∀j∈J,j<2048)(e:J.length≤3):
 (J=[]∧Fr.Di p (Cs (Ref.Fe a p b) J)=true)∨
 (∃j,J=[j]∧j<2048∧Fr.Di p (Cs (Ref.Fe a p b) J)=false∧Af.last (Af.Eb 252) (Af.Cj (Cs (Ref.Fe a p b) J) 252)=some j∧Fr.Di p (Af.bit (Cs (Ref.Fe a p b) J) j)=true)∨
 (2≤J.length∧Fr.Di p (Cs (Ref.Fe a p b) J)=false∧Af.last (Af.Eb 252) (Af.Cj (Cs (Ref.Fe a p b) J) 252)=none):=by
 have d:=Yl (l:=b) k m n o
 have hlen:(Ref.Fe a p b).length=252+4:=Ref.R7 a p b
 generalize Ref.Fe a p b=P at*
 have f:Af.Cj P 252=0:=by
  unfold Fr.Di at d
  simp only[Bool.and_eq_true,decide_eq_true_eq]at d
  exact d.1.1.1.1.2
 have no:∀l,Af.Cj l 252≠0→Fr.Di p l=false:=by
  intro l h
  unfold Fr.Di
  rw[decide_eq_false h]
  simp
 match J,c,lt,e with
 |[],_,_,_=>exact .inl ⟨D,d⟩
 |[j],c,lt,_=>
  have g:=lt j (by simp)
  refine .inr (.inl ⟨j,D,g,no _ (D7.Mr (J:=[j]) (by decide) hlen f lt c (by simp) (by simp)),D7.QH (by decide) hlen f g,?_⟩)
  show Fr.Di p (Af.bit (Af.bit P j) j)=true
  rw[Af.Pj]
  exact d
 |i::j::Aa,c,lt,e=>
  exact .inr (.inr ⟨by simp,no _ (D7.Mr (by decide) hlen f lt c (by simp) e),D7.Rv (by decide) hlen f lt c (by simp) e⟩)
end Go.Proofs.YtcdaflcjhimimaaGreatDoor
namespace Go.Proofs.YtcdaflcjhimimaaGreatDoor
open Go.RowKit
set_option maxHeartbeats 1000000
theorem YT(x y:Operand)(p q:Array Value)(w:World):(eqGuard .eql 152 x y (.agg p) (.agg q)).run Tryz.prog w=.ok () w:=by kernel_rfl
theorem SQ(x y:Operand)(p q:Array Value)(w:World):(eqGuard .neq 59 x y (.agg p) (.agg q)).run Tryz.prog w=.ok () w:=by kernel_rfl
theorem J1(q:Option Addr)(c:Nat)(l:List UInt8)(w:World)(d:View w (.slice q 256 c) 256 1 (bv l))(o:l.length=256):
 Calls Tryz.prog 71 #[.slice q 256 c] w fun e w'=>e=.returned (.bool (Fr.J3 l))∧w=w':=by
 have hcap:=d.cap
 obtain⟨Ak,a⟩:∃Ak,Ak=l.take 64:=⟨_,D⟩
 have b:Ak.length=64:=by rw[a];simp;omega
 have h:View w (.slice q 64 c) 64 1 (bv Ak):=by rw[a];exact d.pre 64 (by omega) (by omega)
 obtain⟨AL,f,rfl,r,i⟩:=h.some (by decide)
 have s:=fun w=>O0 (P:=Tryz.prog) HA (some ⟨AL,f,none⟩) 64 c (Be _) w
 have j:=Aw a
 have k:=Aw b
 have g:(bv Ak).length=64:=by rw[D_];exact b
 have m:=Aw g
 have t:∀w,(Instr.build 152 #[]).run Tryz.prog w=.ok (.agg (bv (List.replicate 64 0)).toArray) w:=fun w=>run_build w 152 _ _ (by kernel_rfl)
 clear a g b
 go_enter JD,Tryz.ntmps71
 go_wp2_with (first|go_skip|(with_reducible refine S7 ?_))
 refine⟨HK A0 D (.tmp 7) (.const (.int .i64 64)) D (y:=some ⟨AL,f,none⟩) (n:=256) (c:=c) D 64 D (by omega) ?_⟩
 go_wp2_with (first|go_skip|(with_reducible refine XU 152 ?_))
 refine⟨Nm D 152 (.tmp 9) D D (bv Ak) i HA D (by rw[m.out];kernel_rfl) ?_⟩
 go_wp2_with (first|go_skip|(with_reducible refine JQ .eql ?_))
 refine⟨bin rfl .eql _ _ _ _ D (p:=.agg (bv Ak).toArray) (q:=.agg (bv (List.replicate 64 0)).toArray) D D (YT _ _ _ _ _) (WO k.out (by simp) _) ?_⟩
 rw[j.out]
 go_wp2
 go_ret
 exact⟨D,D⟩
end Go.Proofs.YtcdaflcjhimimaaGreatDoor
namespace Go.Proofs.YtcdaflcjhimimaaGreatDoor
open Go.RowKit
set_option maxRecDepth 100000
set_option maxHeartbeats 1000000
def Xy(o:Option Fr.Ch):Value:=match o with
 |some s=>.tuple #[FI s,.int .i64 0]
 |none=>.tuple #[Fy,.int .i64 4]
theorem Mc{w:World}{c:Act}{U:Nat}{f:Db}{ty t:TypeId}{pos:String}{AF:Array Edge}{dst:Option Tmp}{g:Option (Nat×Bool)}(d:Ao U c f){x y:Operand}{a b:Fr.Ch}(e:Au f x=some (FI a))(h:Au f y=some (FI b))(r:Bool)(i:(!decide (a=b))=r):Cy Tryz.prog c w ⟨dst,.binOp .neq 59 x y t,ty,pos,AF,g⟩ (.bool r) w:=by
 subst i
 exact EH d e h (SQ _ _ _ _ _) (XZ _ _ _)
theorem So(x y:Fr.Ch)(w:World)(aM:x.g<4611686018427387904)(n:y.g<4611686018427387904):
 Calls Tryz.prog 70 #[Value.agg (flat [[E x.w],[E x.g],[E x.m],[E x.h],[E x.p]]),Value.agg (flat [[E y.w],[E y.g],[E y.m],[E y.h],[E y.p]])] w fun e w'=>∃v,e=.returned v∧v=Xy (Fr.E3 x y)∧Below w.heap.size w w':=by
 have c:Below w.heap.size w w:=Bu _ _
 refine Bx N5 D 48 ?_
 refine K<|N<|CW D ?_
 intro ad aN r o i n
 have aO:=Bg c r
 have c:=Ah c n
 refine CW D ?_
 intro ae aP r o j n
 have aQ:=Bg c r
 have aR:=AP i r
 have i:=Q i n
 have c:=Ah c n
 refine BQ [[E 0],[E 0],[E 0],[E 0],[E 0]] ?_
 intro af aS r o d n
 have aT:=Bg c r
 have aU:=AP i r
 have aV:=AP j r
 have i:=Q i n
 have j:=Q j n
 have c:=Ah c n
 refine O (v:=(E 0)) D<|M<|G<|K<|K<|N<|Am Bw 1 D<|AK AH 1 i D D<|EM (q:=2) D D<|?_
 by_cases ag:((x.g % 2:Nat):Int)=((0:Nat):Int)
 ·
  refine Dr ag D D<|I D<|Ad D D D<|Am Bw 1 D<|Ad D D D<|AK AH 1 j D D<|Ad D D D<|EM (q:=2) D D<|?_
  by_cases ah:((y.g % 2:Nat):Int)=((1:Nat):Int)
  ·
   refine Ad D D D<|Dr ah D D<|Ba D D<|M<|G<|BE D<|AE<|G<|K<|K<|N<|Am Bw 1 D<|AK AH 1 i D D<|Am Bw 1 D<|AK AH 1 j D D<|B5 D D<|M<|G<|Bl D (fun ak=>?_) fun ak=>?_
   ·
    refine N<|BP Bw j D<|BP Bw i D<|Bi 0 5 i D D ?_
    intro aW o k T
    have j:=Ag T j (by omega)
    have d:=Ag T d (by omega)
    have c:=A1 c T
    refine Bi 0 5 j D D ?_
    intro aX o l U
    have d:=Ag U d (by omega)
    have k:=Ag U k (by omega)
    have c:=A1 c U
    refine M<|G<|K<|N<|BP Bw l D<|BQ [[E 0],[E 0],[E 0],[E 0],[E 0]] ?_
    intro al aY r o V n
    have an:=Bg c r
    have ao:=AP d r
    have aq:=AP k r
    have ar:=AP l r
    have d:=Q d n
    have k:=Q k n
    have l:=Q l n
    have c:=Ah c n
    refine Bi 0 5 V D D ?_
    intro aZ o X A
    have d:=Ag A d (by omega)
    have k:=Ag A k (by omega)
    have l:=Ag A l (by omega)
    have c:=A1 c A
    refine M<|G<|K<|?_
    intro a f
    refine C7 (fun W=>Below w.heap.size w W∧Ai W af [[E 0],[E 0],[E 0],[E 0],[E 0]] 59∧Ai W ad [[E y.w],[E y.g],[E y.m],[E y.h],[E y.p]] 59∧Ai W ae [[E x.w],[E x.g],[E x.m],[E x.h],[E x.p]] 59) ?_
    intro a0 o n
    have d:=Q d n
    have k:=Q k n
    have l:=Q l n
    have X:=Q X n
    have c:=Ah c n
    revert a
    refine BW 0 D Bw 1 D ⟨c,d,k,l⟩<|A5 1 D (fun W s a f=>by obtain⟨c,d,k,l⟩:=s;exact Cl f D AH D [[E x.w]] (E x.g) [[E x.m],[E x.h],[E x.p]] l D) ⟨c,d,k,l⟩<|KL 2 D (q:=1) D D ⟨c,d,k,l⟩<|BW 3 D Bw 2 D ⟨c,d,k,l⟩<|A5 4 D (fun W s a f=>by obtain⟨c,d,k,l⟩:=s;exact Cl f D AH D [[E y.w],[E y.g]] (E y.m) [[E y.h],[E y.p]] k D) ⟨c,d,k,l⟩<|BW 5 D Bw 3 D ⟨c,d,k,l⟩<|A5 6 D (fun W s a f=>by obtain⟨c,d,k,l⟩:=s;exact Cl f D AH D [[E y.w],[E y.g],[E y.m]] (E y.h) [[E y.p]] k D) ⟨c,d,k,l⟩<|BW 7 D Bw 1 D ⟨c,d,k,l⟩<|?_
    intro z t
    refine A8 8 4 D D ?_
    intro Aa u
    refine DM t 1 X D D ?_
    intro a a1 f o au B
    have d:=Ag B d (by omega)
    have k:=Ag B k (by omega)
    have l:=Ag B l (by omega)
    have c:=A1 c B
    refine u _ _ ⟨c,d,k,l⟩ ?_;revert a
    refine BW 9 D Bw 2 D ⟨c,d,k,l⟩<|?_
    intro z t
    refine A8 10 2 D D ?_
    intro Aa u
    refine DM t 2 au D D ?_
    intro a a2 f o Y C
    have d:=Ag C d (by omega)
    have k:=Ag C k (by omega)
    have l:=Ag C l (by omega)
    have c:=A1 c C
    refine u _ _ ⟨c,d,k,l⟩ ?_;revert a
    refine BW 11 D Bw 3 D ⟨c,d,k,l⟩<|?_
    intro z t
    refine A8 12 0 D D ?_
    intro Aa u
    refine DM t 3 Y D D ?_
    intro a a3 f o Z F
    have d:=Ag F d (by omega)
    have k:=Ag F k (by omega)
    have l:=Ag F l (by omega)
    have c:=A1 c F
    have Y:=Z
    refine u _ _ ⟨c,d,k,l⟩ ?_;revert a
    refine B_<|G<|K<|K<|N<|BP Bw Y D<|BP Bw k D<|?_
    by_cases H:(⟨x.w,x.g+1,y.m,y.h,x.p⟩:Fr.Ch)=(⟨y.w,y.g,y.m,y.h,y.p⟩:Fr.Ch)
    ·
     refine AT (fun _ f=>Mc f (a:=(⟨x.w,x.g+1,y.m,y.h,x.p⟩:Fr.Ch)) (b:=(⟨y.w,y.g,y.m,y.h,y.p⟩:Fr.Ch)) D D false (by rw[decide_eq_true H];rfl))<|I D<|Ad D D D<|Am Tryz.underlying59 2 D<|Ad D D D<|AK Tryz.underlying3 2 k D D<|Ad D D D<|Am Tryz.underlying59 2 D<|Ad D D D<|AK Tryz.underlying3 2 l D D<|?_
     by_cases ai:((y.m:Nat):Int)<((x.m:Nat):Int)
     ·
      refine Ad D D D<|D8 ai D D<|Ba D D<|M<|G<|BS D<|K<|N<|AT (fun _ f=>CE f (Bf:=[]) D (v:=Value.agg (flat [[E 0],[E 0],[E 0],[E 0],[E 0]])) (run_build _ _ _ _ (by kernel_rfl)))<|Bi 0 5 d D D ?_
      intro a4 o av aw
      have c:=A1 c aw
      refine O (v:=(E 4)) D<|M<|G<|AA<|AX<|?_
      intro a f
      refine DG f D D D av Bw D (by kernel_rfl) ?_
      exact⟨_,D,(by rw[show Fr.E3 x y=none from by unfold Fr.E3;rw[if_neg (by omega),if_pos (by omega),if_neg (fun q=>by have:=q.2;omega)]];rfl),c⟩
     ·
      refine Ad D D D<|DO ai D D<|Ba D D<|M<|G<|BE D<|AE<|G<|K<|N<|BP Bw k D<|Bi 0 5 d D D ?_
      intro a5 o ax ay
      have c:=A1 c ay
      refine O (v:=(E 0)) D<|M<|G<|AA<|?_
      intro a f
      refine DG f D D D ax Bw D (by kernel_rfl) ?_
      exact⟨_,D,(by rw[show Fr.E3 x y=some y from by unfold Fr.E3;rw[if_neg (by omega),if_pos (by omega),if_pos ⟨H.symm,by omega⟩]];rfl),c⟩
    ·
     refine AT (fun _ f=>Mc f (a:=(⟨x.w,x.g+1,y.m,y.h,x.p⟩:Fr.Ch)) (b:=(⟨y.w,y.g,y.m,y.h,y.p⟩:Fr.Ch)) D D true (by rw[decide_eq_false H];rfl))<|I D<|Ae D D D D<|Ae D D D D<|Ae D D D D<|Ae D D D D<|Ae D D D D<|Bn D D<|M<|G<|BS D<|K<|N<|AT (fun _ f=>CE f (Bf:=[]) D (v:=Value.agg (flat [[E 0],[E 0],[E 0],[E 0],[E 0]])) (run_build _ _ _ _ (by kernel_rfl)))<|Bi 0 5 d D D ?_
     intro a6 o az aA
     have c:=A1 c aA
     refine O (v:=(E 4)) D<|M<|G<|AA<|AX<|?_
     intro a f
     refine DG f D D D az Bw D (by kernel_rfl) ?_
     exact⟨_,D,(by rw[show Fr.E3 x y=none from by unfold Fr.E3;rw[if_neg (by omega),if_pos (by omega),if_neg (fun q=>H q.1.symm)]];rfl),c⟩
   ·
    refine AE<|G<|K<|N<|BP Bw j D<|BQ [[E 0],[E 0],[E 0],[E 0],[E 0]] ?_
    intro al a7 r o V n
    have an:=Bg c r
    have aq:=AP i r
    have ar:=AP j r
    have ao:=AP d r
    have i:=Q i n
    have j:=Q j n
    have d:=Q d n
    have c:=Ah c n
    refine Bi 0 5 V D D ?_
    intro a8 o aa J
    have i:=Ag J i (by omega)
    have j:=Ag J j (by omega)
    have d:=Ag J d (by omega)
    have c:=A1 c J
    refine M<|G<|K<|?_
    intro a f
    refine C7 (fun W=>Below w.heap.size w W∧Ai W ad [[E x.w],[E x.g],[E x.m],[E x.h],[E x.p]] 59∧Ai W ae [[E y.w],[E y.g],[E y.m],[E y.h],[E y.p]] 59∧Ai W af [[E 0],[E 0],[E 0],[E 0],[E 0]] 59) ?_
    intro CM o n
    have i:=Q i n
    have j:=Q j n
    have d:=Q d n
    have aa:=Q aa n
    have c:=Ah c n
    revert a
    refine BW 0 D Bw 1 D ⟨c,i,j,d⟩<|A5 1 D (fun W s a f=>by obtain⟨c,i,j,d⟩:=s;exact Cl f D AH D [[E y.w]] (E y.g) [[E y.m],[E y.h],[E y.p]] j D) ⟨c,i,j,d⟩<|KL 2 D (q:=1) D D ⟨c,i,j,d⟩<|BW 3 D Bw 2 D ⟨c,i,j,d⟩<|A5 4 D (fun W s a f=>by obtain⟨c,i,j,d⟩:=s;exact Cl f D AH D [[E x.w],[E x.g]] (E x.m) [[E x.h],[E x.p]] i D) ⟨c,i,j,d⟩<|BW 5 D Bw 3 D ⟨c,i,j,d⟩<|A5 6 D (fun W s a f=>by obtain⟨c,i,j,d⟩:=s;exact Cl f D AH D [[E x.w],[E x.g],[E x.m]] (E x.h) [[E x.p]] i D) ⟨c,i,j,d⟩<|BW 7 D Bw 1 D ⟨c,i,j,d⟩<|?_
    intro z t
    refine A8 8 4 D D ?_
    intro Aa u
    refine DM t 1 aa D D ?_
    intro a a9 f o aB L
    have i:=Ag L i (by omega)
    have j:=Ag L j (by omega)
    have d:=Ag L d (by omega)
    have c:=A1 c L
    refine u _ _ ⟨c,i,j,d⟩ ?_;revert a
    refine BW 9 D Bw 2 D ⟨c,i,j,d⟩<|?_
    intro z t
    refine A8 10 2 D D ?_
    intro Aa u
    refine DM t 2 aB D D ?_
    intro a a_ f o ab P
    have i:=Ag P i (by omega)
    have j:=Ag P j (by omega)
    have d:=Ag P d (by omega)
    have c:=A1 c P
    refine u _ _ ⟨c,i,j,d⟩ ?_;revert a
    refine BW 11 D Bw 3 D ⟨c,i,j,d⟩<|?_
    intro z t
    refine A8 12 0 D D ?_
    intro Aa u
    refine DM t 3 ab D D ?_
    intro a a' f o Z R
    have i:=Ag R i (by omega)
    have j:=Ag R j (by omega)
    have d:=Ag R d (by omega)
    have c:=A1 c R
    have ab:=Z
    refine u _ _ ⟨c,i,j,d⟩ ?_;revert a
    refine B_<|G<|K<|K<|N<|BP Bw ab D<|BP Bw i D<|?_
    by_cases S:(⟨y.w,y.g+1,x.m,x.h,y.p⟩:Fr.Ch)=(⟨x.w,x.g,x.m,x.h,x.p⟩:Fr.Ch)
    ·
     refine AT (fun _ f=>Mc f (a:=(⟨y.w,y.g+1,x.m,x.h,y.p⟩:Fr.Ch)) (b:=(⟨x.w,x.g,x.m,x.h,x.p⟩:Fr.Ch)) D D false (by rw[decide_eq_true S];rfl))<|I D<|Ad D D D<|Am Tryz.underlying59 2 D<|Ad D D D<|AK Tryz.underlying3 2 i D D<|Ad D D D<|Am Tryz.underlying59 2 D<|Ad D D D<|AK Tryz.underlying3 2 j D D<|?_
     by_cases aj:((x.m:Nat):Int)<((y.m:Nat):Int)
     ·
      refine Ad D D D<|D8 aj D D<|Ba D D<|M<|G<|BS D<|K<|N<|AT (fun _ f=>CE f (Bf:=[]) D (v:=Value.agg (flat [[E 0],[E 0],[E 0],[E 0],[E 0]])) (run_build _ _ _ _ (by kernel_rfl)))<|Bi 0 5 d D D ?_
      intro ba o aC aD
      have c:=A1 c aD
      refine O (v:=(E 4)) D<|M<|G<|AA<|AX<|?_
      intro a f
      refine DG f D D D aC Bw D (by kernel_rfl) ?_
      exact⟨_,D,(by rw[show Fr.E3 x y=none from by unfold Fr.E3;rw[if_neg (by omega),if_neg (by omega),if_neg (fun q=>by have:=q.2;omega)]];rfl),c⟩
     ·
      refine Ad D D D<|DO aj D D<|Ba D D<|M<|G<|BE D<|AE<|G<|K<|N<|BP Bw i D<|Bi 0 5 d D D ?_
      intro bb o aE aF
      have c:=A1 c aF
      refine O (v:=(E 0)) D<|M<|G<|AA<|?_
      intro a f
      refine DG f D D D aE Bw D (by kernel_rfl) ?_
      exact⟨_,D,(by rw[show Fr.E3 x y=some x from by unfold Fr.E3;rw[if_neg (by omega),if_neg (by omega),if_pos ⟨S.symm,by omega⟩]];rfl),c⟩
    ·
     refine AT (fun _ f=>Mc f (a:=(⟨y.w,y.g+1,x.m,x.h,y.p⟩:Fr.Ch)) (b:=(⟨x.w,x.g,x.m,x.h,x.p⟩:Fr.Ch)) D D true (by rw[decide_eq_false S];rfl))<|I D<|Ae D D D D<|Ae D D D D<|Ae D D D D<|Ae D D D D<|Ae D D D D<|Bn D D<|M<|G<|BS D<|K<|N<|AT (fun _ f=>CE f (Bf:=[]) D (v:=Value.agg (flat [[E 0],[E 0],[E 0],[E 0],[E 0]])) (run_build _ _ _ _ (by kernel_rfl)))<|Bi 0 5 d D D ?_
     intro bc o aG aH
     have c:=A1 c aH
     refine O (v:=(E 4)) D<|M<|G<|AA<|AX<|?_
     intro a f
     refine DG f D D D aG Bw D (by kernel_rfl) ?_
     exact⟨_,D,(by rw[show Fr.E3 x y=none from by unfold Fr.E3;rw[if_neg (by omega),if_neg (by omega),if_neg (fun q=>S q.1.symm)]];rfl),c⟩
  ·
   refine Ad D D D<|F6 ah D D<|Ba D D<|M<|G<|BS D<|K<|N<|AT (fun _ f=>CE f (Bf:=[]) D (v:=Value.agg (flat [[E 0],[E 0],[E 0],[E 0],[E 0]])) (run_build _ _ _ _ (by kernel_rfl)))<|Bi 0 5 d D D ?_
   intro bd o aI aJ
   have c:=A1 c aJ
   refine O (v:=(E 4)) D<|M<|G<|AA<|AX<|?_
   intro a f
   refine DG f D D D aI Bw D (by kernel_rfl) ?_
   exact⟨_,D,(by rw[show Fr.E3 x y=none from by unfold Fr.E3;rw[if_pos (by omega)]];rfl),c⟩
 ·
  refine F6 ag D D<|I D<|Ae D D D D<|Ae D D D D<|Ae D D D D<|Ae D D D D<|Bn D D<|M<|G<|BS D<|K<|N<|AT (fun _ f=>CE f (Bf:=[]) D (v:=Value.agg (flat [[E 0],[E 0],[E 0],[E 0],[E 0]])) (run_build _ _ _ _ (by kernel_rfl)))<|Bi 0 5 d D D ?_
  intro bf o aK aL
  have c:=A1 c aL
  refine O (v:=(E 4)) D<|M<|G<|AA<|AX<|?_
  intro a f
  refine DG f D D D aK Bw D (by kernel_rfl) ?_
  exact⟨_,D,(by rw[show Fr.E3 x y=none from by unfold Fr.E3;rw[if_pos (by omega)]];rfl),c⟩
end Go.Proofs.YtcdaflcjhimimaaGreatDoor
