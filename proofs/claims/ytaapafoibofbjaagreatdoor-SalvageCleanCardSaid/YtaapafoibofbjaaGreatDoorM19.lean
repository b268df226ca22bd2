/- Laws and walks on the road to SalvageClean (part M19). No conditions beyond each law's own. -/
import Derived.Test.YtaapafoibofbjaaGreatDoorM01
import Derived.Test.YtaapafoibofbjaaGreatDoorM18
import Derived.Test.YtaapafoibofbjaaGreatDoorM07
import Derived.Test.YtaapafoibofbjaaGreatDoorM12
set_option linter.unusedVariables false
namespace Go.Proofs.YtaapafoibofbjaaGreatDoor
open Go.RowKit
set_option maxRecDepth 100000
set_option maxHeartbeats 1000000
theorem dp(n:Nat):G.NO n=decide (2≤n∧n<4096):=by simp[G.NO]
theorem gf(p c:Nat):G.held p c=decide (p=0∧c=0∨¬p=0∧0<c∧c≤4096):=by simp[G.held,Bool.and_assoc]
theorem Zb{v f b a r c:Nat}{x:Jc}:G.right ⟨v,f,b,a,r,c,x⟩=decide (f≤1073741824∧(1≤v∧f≤v)∧v≤1073741824∧(r=0∧c=0∨¬r=0∧0<c∧c≤4096)∧(r=0∨2≤r∧r<4096)∧
 ((if f=0 then v else v - f+1)=1∧b=0∧a=0∨¬(if f=0 then v else v - f+1)=1∧(2≤b∧b<4096)∧(((if f=0 then v else v - f+1)&&&((if f=0 then v else v - f+1) - 1))=0∧a=0∨
   ¬((if f=0 then v else v - f+1)&&&((if f=0 then v else v - f+1) - 1))=0∧(((if f=0 then v else v - f+1)&&&((if f=0 then v else v - f+1) - 1))=(if f=0 then v else v - f+1) - 1∧a=b∨¬((if f=0 then v else v - f+1)&&&((if f=0 then v else v - f+1) - 1))=(if f=0 then v else v - f+1) - 1∧(2≤a∧a<4096)∧a<b)))):=by
 unfold G.right G.num
 simp only[dp,gf]
 generalize (if f=0 then v else v - f+1)=n
 generalize n&&&(n - 1)=q
 rw[Bool.eq_iff_iff]
 by_cases h1:n=1
 ·rw[if_pos h1];simp;omega
 rw[if_neg h1]
 by_cases d:q=0
 ·rw[if_pos d];simp;omega
 rw[if_neg d]
 by_cases e:q=n - 1
 ·rw[if_pos e];simp;omega
 rw[if_neg e];simp;omega
theorem NV(n:Nat)(w:World):Calls Tryz.prog 151 #[E n] w fun e W=>e=.returned (.bool (decide (2≤n∧n<4096)))∧Below w.heap.size w W:=by
 refine Cg w Nc D 9<|M ?_
 refine L6 D D (fun b=>?_) fun b=>?_
 ·
  refine M ?_
  refine GV D D (fun c=>?_) fun c=>?_
  ·
   refine A7 ?_
   exact fun W a=>⟨CT (by symm;exact decide_eq_true (by omega)),a.A0⟩
  refine A7 ?_
  exact fun W a=>⟨CT,a.A0⟩
 refine A7 ?_
 exact fun W a=>⟨CT,a.A0⟩
theorem iR(p c:Nat)(w:World):Calls Tryz.prog 150 #[E p,E c] w fun e W=>e=.returned (.bool (decide (p=0∧c=0∨¬p=0∧0<c∧c≤4096)))∧Below w.heap.size w W:=by
 refine Cg w WH D 23<|M ?_
 refine Gx D D (fun b=>?_) fun b=>?_
 ·
  refine M ?_
  refine Gx D D (fun d=>?_) fun d=>?_
  ·
   refine A7 ?_
   exact fun W a=>⟨CT (by symm;exact decide_eq_true (by omega)),a.A0⟩
  refine M ?_
  refine Li D D (fun f=>?_) fun f=>?_
  ·
   refine A7 ?_
   exact fun W a=>⟨CT,a.A0⟩
  refine M ?_
  refine GV D D (fun g=>?_) fun g=>?_
  ·
   refine M ?_
   refine L6 D D (fun h=>?_) fun h=>?_
   ·
    refine A7 ?_
    exact fun W a=>⟨CT (by symm;exact decide_eq_true (by omega)),a.A0⟩
   refine A7 ?_
   exact fun W a=>⟨CT,a.A0⟩
  refine A7 ?_
  exact fun W a=>⟨CT,a.A0⟩
 refine M ?_
 refine Li D D (fun i=>?_) fun i=>?_
 ·
  refine A7 ?_
  exact fun W a=>⟨CT,a.A0⟩
 refine M ?_
 refine GV D D (fun j=>?_) fun j=>?_
 ·
  refine M ?_
  refine L6 D D (fun k=>?_) fun k=>?_
  ·
   refine A7 ?_
   exact fun W a=>⟨CT (by symm;exact decide_eq_true (by omega)),a.A0⟩
  refine A7 ?_
  exact fun W a=>⟨CT,a.A0⟩
 refine A7 ?_
 exact fun W a=>⟨CT,a.A0⟩
theorem LJ(v f d g r c:Nat)(x:Jc)(w:World)(h1:f≤v)(i:v≤1073741824){n:Nat}(b:(if f=0 then v else v - f+1)=n):Calls Tryz.prog 125 #[Value.agg (flat [[E v],[E f],[E d],[E g],[E r],[E c],bv x.l])] w fun e W=>e=.returned (E n)∧Below w.heap.size w W:=by
 refine Cg w Lh D 14<|Je<|Jh<|U<|Cv D fun HK=>M ?_
 refine AG Bv 1 D<|AZ AF 0 1 D D D<|E2 D D<|Jg<|Jf<|Cz D (fun h=>?_) fun h=>?_
 ·
  refine Je<|Jh<|AG Bv 0 D<|AZ AF 0 0 D D D<|A7 ?_
  exact fun W a=>⟨by rw[←b];split<;>first|rfl|(exfalso;omega),a.A0⟩
 refine M ?_
 refine AG Bv 0 D<|AZ AF 0 0 D D D<|AG Bv 1 D<|AZ AF 0 1 D D D<|Es D D<|B6 (q:=1) D D<|A7 ?_
 exact fun W a=>⟨by rw[←b];split<;>first|rfl|(exfalso;omega),a.A0⟩
theorem Vr(v f g h r c:Nat)(x:Jc)(w:World):Calls Tryz.prog 116 #[Value.agg (flat [[E v],[E f],[E g],[E h],[E r],[E c],bv x.l])] w fun e W=>e=.returned (.bool (G.right ⟨v,f,g,h,r,c,x⟩))∧Below w.heap.size w W:=by
 rw[Zb]
 obtain⟨n,i⟩:∃n,(if f=0 then v else v - f+1)=n:=⟨_,D⟩
 rw[i]
 have aa:n≤v+1:=by rw[←i];split<;>omega
 have ab:1≤v→1≤n:=by rw[←i];split<;>omega
 obtain⟨q,t⟩:∃q,n&&&(n - 1)=q:=⟨_,D⟩
 rw[t]
 refine Cg w TI D 88<|Je<|Jh<|U<|Cv D fun HK=>M ?_
 refine AG Bv 1 D<|AZ AF 0 1 D D D<|GV D D (fun u=>?_) fun u=>?_
 ·
  refine A7 ?_
  exact fun W a=>⟨CT,a.A0⟩
 refine M ?_
 refine AG Bv 1 D<|Jj D D D<|AZ AF 0 1 D D D<|Jj D D D<|Kl D D (fun y=>?_) fun y=>?_
 ·
  refine A7 ?_
  exact fun W a=>⟨CT,a.A0⟩
 refine M ?_
 refine AG Bv 0 D<|Jj D D D<|AZ AF 0 0 D D D<|Jj D D D<|AG Bv 1 D<|Jj D D D<|AZ AF 0 1 D D D<|Jj D D D<|Af (Mn D D (((max 1 f):Nat):Int))<|Jj D D D<|GV D D (fun z=>?_) fun z=>?_
 ·
  refine A7 ?_
  exact fun W a=>⟨CT,a.A0⟩
 refine M ?_
 refine AG Bv 0 D<|Jj D D D<|AZ AF 0 0 D D D<|Jj D D D<|Kl D D (fun A=>?_) fun A=>?_
 ·
  refine A7 ?_
  exact fun W a=>⟨CT,a.A0⟩
 refine M ?_
 refine AG Bv 4 D<|AZ AF 0 4 D D D<|AG Bv 5 D<|AZ AF 0 5 D D D<|U<|BP WH D (fun w a=>iR r c w)<|?_
 rcases Bool.eq_false_or_eq_true (decide (r=0∧c=0∨¬r=0∧0<c∧c≤4096))with j|j
 ·
  have B:=of_decide_eq_true j
  refine CR 30 D (congrArg Value.bool j)<|Af (fun _ _ d a=>CE d (b:=true) D)<|M ?_
  refine AG Bv 4 D<|Jj D D D<|AZ AF 0 4 D D D<|Jj D D D<|Li D D (fun C=>?_) fun C=>?_
  ·
   refine M ?_
   refine Af (BN Bv 0 D D)<|U<|BP Lh D (fun w a=>LJ v f g h r c x w (by omega) (by omega) i)<|M ?_
   refine E2 D D<|Jg<|Jf<|Cz D (fun F=>?_) fun F=>?_
   ·
    refine Je<|Jh<|AG Bv 2 D<|AZ AF 0 2 D D D<|Gx D D (fun H=>?_) fun H=>?_
    ·
     refine M ?_
     refine AG Bv 3 D<|Jj D D D<|AZ AF 0 3 D D D<|Jj D D D<|Gx D D (fun I=>?_) fun I=>?_
     ·
      refine A7 ?_
      exact fun W a=>⟨CT (by symm;exact decide_eq_true (by omega)),a.A0⟩
     refine A7 ?_
     exact fun W a=>⟨CT,a.A0⟩
    refine A7 ?_
    exact fun W a=>⟨CT,a.A0⟩
   refine M ?_
   refine AG Bv 2 D<|AZ AF 0 2 D D D<|U<|BP Nc D (fun w a=>NV g w)<|?_
   rcases Bool.eq_false_or_eq_true (decide (2≤g∧g<4096))with k|k
   ·
    have J:=of_decide_eq_true k
    refine CR 57 D (congrArg Value.bool k)<|Af (fun _ _ d a=>CE d (b:=true) D)<|M ?_
    refine Es (q:=1) D D<|Af (Na D D q t)<|M ?_
    refine E2 D D<|M ?_
    refine Cz D (fun K=>?_) fun K=>?_
    ·
     refine Je<|Jh<|AG Bv 3 D<|AZ AF 0 3 D D D<|E2 D D<|A7 ?_
     exact fun W a=>⟨CT (decide_eq_decide.2 (by omega)),a.A0⟩
    refine M ?_
    refine Es (q:=1) D D<|E2 D D<|M ?_
    refine Cz D (fun L=>?_) fun L=>?_
    ·
     refine Je<|Jh<|AG Bv 3 D<|AZ AF 0 3 D D D<|AG Bv 2 D<|AZ AF 0 2 D D D<|E2 D D<|A7 ?_
     exact fun W a=>⟨CT (decide_eq_decide.2 (by omega)),a.A0⟩
    refine M ?_
    refine AG Bv 3 D<|AZ AF 0 3 D D D<|U<|BP Nc D (fun w a=>NV h w)<|?_
    rcases Bool.eq_false_or_eq_true (decide (2≤h∧h<4096))with m|m
    ·
     have N:=of_decide_eq_true m
     refine CR 80 D (congrArg Value.bool m)<|M ?_
     refine AG Bv 3 D<|Jj D D D<|AZ AF 0 3 D D D<|Jj D D D<|AG Bv 2 D<|Jj D D D<|AZ AF 0 2 D D D<|Jj D D D<|GV D D (fun O=>?_) fun O=>?_
     ·
      refine A7 ?_
      exact fun W a=>⟨CT (by symm;exact decide_eq_true (by omega)),a.A0⟩
     refine A7 ?_
     exact fun W a=>⟨CT,a.A0⟩
    have N:=of_decide_eq_false m
    refine CR 80 D (congrArg Value.bool m)<|A7 ?_
    exact fun W a=>⟨CT,a.A0⟩
   have J:=of_decide_eq_false k
   refine CR 57 D (congrArg Value.bool k)<|Af (fun _ _ d a=>CE d (b:=false) D)<|A7 ?_
   exact fun W a=>⟨CT,a.A0⟩
  refine M ?_
  refine AG Bv 4 D<|Jj D D D<|AZ AF 0 4 D D D<|Jj D D D<|U<|BP Nc D (fun w a=>NV r w)<|?_
  rcases Bool.eq_false_or_eq_true (decide (2≤r∧r<4096))with o|o
  ·
   have P:=of_decide_eq_true o
   refine CR 39 D (congrArg Value.bool o)<|Jj D D D<|Af (fun _ _ d a=>CE d (b:=true) D)<|M ?_
   refine Af (BN Bv 0 D D)<|U<|BP Lh D (fun w a=>LJ v f g h r c x w (by omega) (by omega) i)<|M ?_
   refine E2 D D<|Jg<|Jf<|Cz D (fun Q=>?_) fun Q=>?_
   ·
    refine Je<|Jh<|AG Bv 2 D<|AZ AF 0 2 D D D<|Gx D D (fun R=>?_) fun R=>?_
    ·
     refine M ?_
     refine AG Bv 3 D<|Jj D D D<|AZ AF 0 3 D D D<|Jj D D D<|Gx D D (fun S=>?_) fun S=>?_
     ·
      refine A7 ?_
      exact fun W a=>⟨CT (by symm;exact decide_eq_true (by omega)),a.A0⟩
     refine A7 ?_
     exact fun W a=>⟨CT,a.A0⟩
    refine A7 ?_
    exact fun W a=>⟨CT,a.A0⟩
   refine M ?_
   refine AG Bv 2 D<|AZ AF 0 2 D D D<|U<|BP Nc D (fun w a=>NV g w)<|?_
   rcases Bool.eq_false_or_eq_true (decide (2≤g∧g<4096))with p|p
   ·
    have T:=of_decide_eq_true p
    refine CR 57 D (congrArg Value.bool p)<|Af (fun _ _ d a=>CE d (b:=true) D)<|M ?_
    refine Es (q:=1) D D<|Af (Na D D q t)<|M ?_
    refine E2 D D<|M ?_
    refine Cz D (fun V=>?_) fun V=>?_
    ·
     refine Je<|Jh<|AG Bv 3 D<|AZ AF 0 3 D D D<|E2 D D<|A7 ?_
     exact fun W a=>⟨CT (decide_eq_decide.2 (by omega)),a.A0⟩
    refine M ?_
    refine Es (q:=1) D D<|E2 D D<|M ?_
    refine Cz D (fun X=>?_) fun X=>?_
    ·
     refine Je<|Jh<|AG Bv 3 D<|AZ AF 0 3 D D D<|AG Bv 2 D<|AZ AF 0 2 D D D<|E2 D D<|A7 ?_
     exact fun W a=>⟨CT (decide_eq_decide.2 (by omega)),a.A0⟩
    refine M ?_
    refine AG Bv 3 D<|AZ AF 0 3 D D D<|U<|BP Nc D (fun w a=>NV h w)<|?_
    rcases Bool.eq_false_or_eq_true (decide (2≤h∧h<4096))with s|s
    ·
     have Y:=of_decide_eq_true s
     refine CR 80 D (congrArg Value.bool s)<|M ?_
     refine AG Bv 3 D<|Jj D D D<|AZ AF 0 3 D D D<|Jj D D D<|AG Bv 2 D<|Jj D D D<|AZ AF 0 2 D D D<|Jj D D D<|GV D D (fun Z=>?_) fun Z=>?_
     ·
      refine A7 ?_
      exact fun W a=>⟨CT (by symm;exact decide_eq_true (by omega)),a.A0⟩
     refine A7 ?_
     exact fun W a=>⟨CT,a.A0⟩
    have Y:=of_decide_eq_false s
    refine CR 80 D (congrArg Value.bool s)<|A7 ?_
    exact fun W a=>⟨CT,a.A0⟩
   have T:=of_decide_eq_false p
   refine CR 57 D (congrArg Value.bool p)<|Af (fun _ _ d a=>CE d (b:=false) D)<|A7 ?_
   exact fun W a=>⟨CT,a.A0⟩
  have P:=of_decide_eq_false o
  refine CR 39 D (congrArg Value.bool o)<|Jj D D D<|Af (fun _ _ d a=>CE d (b:=false) D)<|A7 ?_
  exact fun W a=>⟨CT,a.A0⟩
 have B:=of_decide_eq_false j
 refine CR 30 D (congrArg Value.bool j)<|Af (fun _ _ d a=>CE d (b:=false) D)<|A7 ?_
 exact fun W a=>⟨CT,a.A0⟩
theorem Pn{N:Nat}{f:BW}{F:Nat→Prop}{w0:World}{H:List Atom}{K:Act→World→Prop}(i:Nat){b:Nat}{ss:List (List Value)}{T:TypeId}(a:List (List Value))(c:H[i]? =some (O b ss T))(e:flat ss=flat a)(h:AT N f F w0 (H.set i (O b a T)) K):AT N f F w0 H K:=by
 have d:O b ss T=O b a T:=by simp only[O,e]
 have:H.set i (O b ss T)=H:=by
  obtain⟨l,q⟩:=List.getElem?_eq_some_iff.1 c
  rw[←q,List.set_getElem_self]
 rw[←d,this]at h
 exact h
def LI(l:List UInt8)(i:Nat):List Value:=[0,1,2,3,4,5].map fun j=>E (if j<i then G.BD l (4*j)else 0)
theorem Uu(l:List UInt8)(i:Nat):Row 6 (LI l i):=⟨D,by intro u hu;obtain⟨x,_,rfl⟩:=List.mem_map.1 hu;rfl⟩
theorem X5{l:List UInt8}{i x:Nat}(a:i<6)(b:x=G.BD l (4*i)):(LI l i).set i (E x)=LI l (i+1):=by
 subst b
 match i,a with
 |0,_=>rfl
 |1,_=>rfl
 |2,_=>rfl
 |3,_=>rfl
 |4,_=>rfl
 |5,_=>rfl
theorem Xw{b i:Nat}(a:i<6):([[S b],[A2 b 1],[A2 b 2],[A2 b 3],[A2 b 4],[A2 b 5]]:List (List Value)).flatten[i]? =some (A2 b i):=by
 match i,a with
 |0,_=>rfl
 |1,_=>rfl
 |2,_=>rfl
 |3,_=>rfl
 |4,_=>rfl
 |5,_=>rfl
abbrev Qb:List (List Value):=[[E 0],[E 0],[E 0],[E 0],[E 0],[E 0],Ak 32]
abbrev Ro(r:B9):List (List Value):=[[E r.v],[E r.f],[E r.ju],[E r.jt],[E r.r],[E r.c],bv r.s.l]
theorem dd(q:Option Addr)(m c:Nat)(l:List UInt8)(w:World)(V:View w (.slice q m c) m 1 (bv l))(hl:l.length=m)(hm:¬m=56):Calls Tryz.prog 82 #[I q m c] w fun e W=>e=.returned (.tuple #[Value.agg (flat Qb),E 150])∧Below w.heap.size w W:=by
 refine Cg w KJ D 62<|Je<|Jh<|U<|Bw [[E 0],[E 0],[E 0],[E 0],[E 0],[E 0],Ak 32] fun d=>M ?_
 refine Cr Co D<|Ix (by omega) D D<|M ?_
 refine Af (fun _ _ b a=>Cs b (BH:=[]) D (v:=Value.agg (flat [[E 0],[E 0],[E 0],[E 0],[E 0],[E 0],Ak 32])) (run_build _ _ _ _ (by kernel_rfl)))<|U<|Bk 0 0 7 D D D<|?_
 refine M ?_
 refine Gl Bv 0 D D D fun W a=>?_
 exact⟨D,a.A0⟩
theorem bQ(q:Option Addr)(m c:Nat)(l:List UInt8)(w:World)(V:View w (.slice q m c) m 1 (bv l))(hl:l.length=m)(hm:m=56)(hr:G.right (G.Kd l)=true):Calls Tryz.prog 82 #[I q m c] w fun e W=>e=.returned (.tuple #[Value.agg (flat (Ro (G.Kd l))),E 0])∧Below w.heap.size w W:=by
 refine Cg w KJ D 62<|Je<|Jh<|U<|Bw [[E 0],[E 0],[E 0],[E 0],[E 0],[E 0],Ak 32] fun j=>M ?_
 refine Cr Co D<|Ci (by omega) D D<|M ?_
 refine U<|Bw [[E 0],[E 0],[E 0],[E 0],[E 0],[E 0],Ak 32] fun d=>M ?_
 refine AG Bv 0 D<|AG Bv 1 D<|AG Bv 2 D<|AG Bv 3 D<|AG Bv 4 D<|AG Bv 5 D<|Af (fun _ _ g f=>Cs g (BH:=[(0,(S d)),(1,(A2 d 1)),(2,(A2 d 2)),(3,(A2 d 3)),(4,(A2 d 4)),(5,(A2 d 5))]) D (v:=Value.agg (flat [[S d],[A2 d 1],[A2 d 2],[A2 d 3],[A2 d 4],[A2 d 5]])) (run_build _ _ _ _ (by kernel_rfl)))<|M ?_
 refine Pn 0 [LI l 0,Ak 32] D D<|DL (fun k a W=>∃i,k=6 - i∧AH 62 a (Jb (Jb (Jb (Jb (Jb (Jb Jk 0 (I q m c)) 2 (S j)) 3 (E 0)) 4 (S d)) 18 (Value.agg (flat [[S d],[A2 d 1],[A2 d 2],[A2 d 3],[A2 d 4],[A2 d 5]]))) 19 (E i))∧Sat C1 w [O d [LI l i,Ak 32] 101,O j [[E 0],[E 0],[E 0],[E 0],[E 0],[E 0],Ak 32] 101] W∧i≤6) (fun a W g f=>⟨0,D,AY g,f.pick [0,1],by omega⟩) ?_
 rintro _ a W ⟨i,rfl,g,f,r⟩;revert a W
 refine Je<|Jh<|Ej D D<|Jg<|Jf<|Je<|Cz D (fun o=>?_) fun o=>?_
 ·
  refine M ?_
  refine Af (KT YG i D D (Xw (by omega)) VJ)<|M ?_
  refine Af (E3 (p:=4) D D)<|Af (Fi A3 (4*i) m (Bx V) D (.some D) .none)<|?_
  have s:=((l.drop (4*i)).getD 0 0).toNat_lt
  have t:=((l.drop (4*i)).getD 1 0).toNat_lt
  have u:=((l.drop (4*i)).getD 2 0).toNat_lt
  have x:=((l.drop (4*i)).getD 3 0).toNat_lt
  refine M ?_
  refine DD 24<|zs (AA D)<|zs (AA D)<|zs (Dj A3 0 0 (Db (4*i) m (Bx V) (List.take_of_length_le (by rw[List.length_drop];have:(l).length=m:=hl;omega))) D D)<|zs (Fj Tryz.underlying5 0 (Db (4*i) m (Bx V) (List.take_of_length_le (by rw[List.length_drop];have:(l).length=m:=hl;omega))) D)<|zs (Gg Tryz.underlying5 Tryz.underlying3 D)<|zs (AA D)<|zs (Dj A3 1 1 (Db (4*i) m (Bx V) (List.take_of_length_le (by rw[List.length_drop];have:(l).length=m:=hl;omega))) D D)<|zs (Fj Tryz.underlying5 1 (Db (4*i) m (Bx V) (List.take_of_length_le (by rw[List.length_drop];have:(l).length=m:=hl;omega))) D)<|zs (Gg Tryz.underlying5 Tryz.underlying3 D)<|zs (Ke (n:=8) D D (((l.drop (4*i)).getD 1 0).toNat*2^8) D)<|zs (Ku D D (((l.drop (4*i)).getD 0 0).toNat+((l.drop (4*i)).getD 1 0).toNat*2^8) KM)<|zs (AA D)<|zs (Dj A3 2 2 (Db (4*i) m (Bx V) (List.take_of_length_le (by rw[List.length_drop];have:(l).length=m:=hl;omega))) D D)<|zs (Fj Tryz.underlying5 2 (Db (4*i) m (Bx V) (List.take_of_length_le (by rw[List.length_drop];have:(l).length=m:=hl;omega))) D)<|zs (Gg Tryz.underlying5 Tryz.underlying3 D)<|zs (Ke (n:=16) D D (((l.drop (4*i)).getD 2 0).toNat*2^16) D)<|zs (Ku D D (((l.drop (4*i)).getD 0 0).toNat+((l.drop (4*i)).getD 1 0).toNat*2^8+((l.drop (4*i)).getD 2 0).toNat*2^16) KM)<|zs (AA D)<|zs (Dj A3 3 3 (Db (4*i) m (Bx V) (List.take_of_length_le (by rw[List.length_drop];have:(l).length=m:=hl;omega))) D D)<|zs (Fj Tryz.underlying5 3 (Db (4*i) m (Bx V) (List.take_of_length_le (by rw[List.length_drop];have:(l).length=m:=hl;omega))) D)<|zs (Gg Tryz.underlying5 Tryz.underlying3 D)<|zs (Ke (n:=24) D D (((l.drop (4*i)).getD 3 0).toNat*2^24) D)<|zs (Ku D D (((l.drop (4*i)).getD 0 0).toNat+((l.drop (4*i)).getD 1 0).toNat*2^8+((l.drop (4*i)).getD 2 0).toNat*2^16+((l.drop (4*i)).getD 3 0).toNat*2^24) KM)<|zs (Bp D)<|CS<|U<|H6 0 0 i D D D D (X5 (by omega) (by unfold G.BD;rw[RO (by rw[List.length_drop];omega)])) (hl:=Uu l i)<|M ?_
  refine B6 (q:=1) D D<|M ?_
  exact fun a W g f=>⟨_,by omega,i+1,D,AY g,f.pick [0,1],by omega⟩
 obtain rfl:i=6:=by omega
 refine Pn 0 [[E (G.BD l 0)],[E (G.BD l 4)],[E (G.BD l 8)],[E (G.BD l 12)],[E (G.BD l 16)],[E (G.BD l 20)],Ak 32] D D<|M ?_
 refine DD 4<|FO 0 [[E (G.BD l 0)],[E (G.BD l 4)],[E (G.BD l 8)],[E (G.BD l 12)],[E (G.BD l 16)],[E (G.BD l 20)],bv (Ji.zero 32).l] D D<|zs (AS Tryz.underlying101 6 D)<|zs (Fp Tryz.underlying51 0 32 rfl .none .none 6)<|zs (AA D)<|zs (Fi A3 24 m (Bx V) D (.some D) .none)<|CS<|U<|HC 0 6 0 32 (Db 24 m (Bx V) (List.take_of_length_le (by rw[List.length_drop];have:(l).length=m:=hl;omega))) Tryz.underlying22 D D D D D (by have:(l.drop 24).length=m - 24:=(by have:(l).length=m:=hl;simp only[List.length_drop];omega);rw[List.length_take];omega)<|?_
 refine FO 0 [[E (G.BD l 0)],[E (G.BD l 4)],[E (G.BD l 8)],[E (G.BD l 12)],[E (G.BD l 16)],[E (G.BD l 20)],bv (G.DF l 24).l] D (by rw[←Og];rfl)<|M ?_
 refine Af (BN Bv 0 D D)<|U<|BP TI D (fun w f=>Vr (G.BD l 0) (G.BD l 4) (G.BD l 8) (G.BD l 12) (G.BD l 16) (G.BD l 20) (G.DF l 24) w)<|?_
 rcases Bool.eq_false_or_eq_true (G.right ⟨G.BD l 0,G.BD l 4,G.BD l 8,G.BD l 12,G.BD l 16,G.BD l 20,G.DF l 24⟩)with h|h
 ·
  refine CR 58 D (congrArg Value.bool h)<|Af (fun _ _ g f=>CE g (b:=true) D)<|M ?_
  refine Af (BN Bv 0 D D)<|U<|Bk 1 0 7 D D D<|?_
  refine M ?_
  refine Gl Bv 1 D D D fun W f=>?_
  exact⟨D,f.A0⟩
 refine CR 58 D (congrArg Value.bool h)<|?_
 exact absurd (h.symm.trans hr) (by decide)
theorem eh(q:Option Addr)(m c:Nat)(l:List UInt8)(w:World)(V:View w (.slice q m c) m 1 (bv l))(hl:l.length=m)(hm:m=56)(hr:G.right (G.Kd l)=false):Calls Tryz.prog 82 #[I q m c] w fun e W=>e=.returned (.tuple #[Value.agg (flat Qb),E 150])∧Below w.heap.size w W:=by
 refine Cg w KJ D 62<|Je<|Jh<|U<|Bw [[E 0],[E 0],[E 0],[E 0],[E 0],[E 0],Ak 32] fun j=>M ?_
 refine Cr Co D<|Ci (by omega) D D<|M ?_
 refine U<|Bw [[E 0],[E 0],[E 0],[E 0],[E 0],[E 0],Ak 32] fun d=>M ?_
 refine AG Bv 0 D<|AG Bv 1 D<|AG Bv 2 D<|AG Bv 3 D<|AG Bv 4 D<|AG Bv 5 D<|Af (fun _ _ f g=>Cs f (BH:=[(0,(S d)),(1,(A2 d 1)),(2,(A2 d 2)),(3,(A2 d 3)),(4,(A2 d 4)),(5,(A2 d 5))]) D (v:=Value.agg (flat [[S d],[A2 d 1],[A2 d 2],[A2 d 3],[A2 d 4],[A2 d 5]])) (run_build _ _ _ _ (by kernel_rfl)))<|M ?_
 refine Pn 0 [LI l 0,Ak 32] D D<|DL (fun k a W=>∃i,k=6 - i∧AH 62 a (Jb (Jb (Jb (Jb (Jb (Jb Jk 0 (I q m c)) 2 (S j)) 3 (E 0)) 4 (S d)) 18 (Value.agg (flat [[S d],[A2 d 1],[A2 d 2],[A2 d 3],[A2 d 4],[A2 d 5]]))) 19 (E i))∧Sat C1 w [O d [LI l i,Ak 32] 101,O j [[E 0],[E 0],[E 0],[E 0],[E 0],[E 0],Ak 32] 101] W∧i≤6) (fun a W f g=>⟨0,D,AY f,g.pick [0,1],by omega⟩) ?_
 rintro _ a W ⟨i,rfl,f,g,r⟩;revert a W
 refine Je<|Jh<|Ej D D<|Jg<|Jf<|Je<|Cz D (fun o=>?_) fun o=>?_
 ·
  refine M ?_
  refine Af (KT YG i D D (Xw (by omega)) VJ)<|M ?_
  refine Af (E3 (p:=4) D D)<|Af (Fi A3 (4*i) m (Bx V) D (.some D) .none)<|?_
  have s:=((l.drop (4*i)).getD 0 0).toNat_lt
  have t:=((l.drop (4*i)).getD 1 0).toNat_lt
  have u:=((l.drop (4*i)).getD 2 0).toNat_lt
  have x:=((l.drop (4*i)).getD 3 0).toNat_lt
  refine M ?_
  refine DD 24<|zs (AA D)<|zs (AA D)<|zs (Dj A3 0 0 (Db (4*i) m (Bx V) (List.take_of_length_le (by rw[List.length_drop];have:(l).length=m:=hl;omega))) D D)<|zs (Fj Tryz.underlying5 0 (Db (4*i) m (Bx V) (List.take_of_length_le (by rw[List.length_drop];have:(l).length=m:=hl;omega))) D)<|zs (Gg Tryz.underlying5 Tryz.underlying3 D)<|zs (AA D)<|zs (Dj A3 1 1 (Db (4*i) m (Bx V) (List.take_of_length_le (by rw[List.length_drop];have:(l).length=m:=hl;omega))) D D)<|zs (Fj Tryz.underlying5 1 (Db (4*i) m (Bx V) (List.take_of_length_le (by rw[List.length_drop];have:(l).length=m:=hl;omega))) D)<|zs (Gg Tryz.underlying5 Tryz.underlying3 D)<|zs (Ke (n:=8) D D (((l.drop (4*i)).getD 1 0).toNat*2^8) D)<|zs (Ku D D (((l.drop (4*i)).getD 0 0).toNat+((l.drop (4*i)).getD 1 0).toNat*2^8) KM)<|zs (AA D)<|zs (Dj A3 2 2 (Db (4*i) m (Bx V) (List.take_of_length_le (by rw[List.length_drop];have:(l).length=m:=hl;omega))) D D)<|zs (Fj Tryz.underlying5 2 (Db (4*i) m (Bx V) (List.take_of_length_le (by rw[List.length_drop];have:(l).length=m:=hl;omega))) D)<|zs (Gg Tryz.underlying5 Tryz.underlying3 D)<|zs (Ke (n:=16) D D (((l.drop (4*i)).getD 2 0).toNat*2^16) D)<|zs (Ku D D (((l.drop (4*i)).getD 0 0).toNat+((l.drop (4*i)).getD 1 0).toNat*2^8+((l.drop (4*i)).getD 2 0).toNat*2^16) KM)<|zs (AA D)<|zs (Dj A3 3 3 (Db (4*i) m (Bx V) (List.take_of_length_le (by rw[List.length_drop];have:(l).length=m:=hl;omega))) D D)<|zs (Fj Tryz.underlying5 3 (Db (4*i) m (Bx V) (List.take_of_length_le (by rw[List.length_drop];have:(l).length=m:=hl;omega))) D)<|zs (Gg Tryz.underlying5 Tryz.underlying3 D)<|zs (Ke (n:=24) D D (((l.drop (4*i)).getD 3 0).toNat*2^24) D)<|zs (Ku D D (((l.drop (4*i)).getD 0 0).toNat+((l.drop (4*i)).getD 1 0).toNat*2^8+((l.drop (4*i)).getD 2 0).toNat*2^16+((l.drop (4*i)).getD 3 0).toNat*2^24) KM)<|zs (Bp D)<|CS<|U<|H6 0 0 i D D D D (X5 (by omega) (by unfold G.BD;rw[RO (by rw[List.length_drop];omega)])) (hl:=Uu l i)<|M ?_
  refine B6 (q:=1) D D<|M ?_
  exact fun a W f g=>⟨_,by omega,i+1,D,AY f,g.pick [0,1],by omega⟩
 obtain rfl:i=6:=by omega
 refine Pn 0 [[E (G.BD l 0)],[E (G.BD l 4)],[E (G.BD l 8)],[E (G.BD l 12)],[E (G.BD l 16)],[E (G.BD l 20)],Ak 32] D D<|M ?_
 refine DD 4<|FO 0 [[E (G.BD l 0)],[E (G.BD l 4)],[E (G.BD l 8)],[E (G.BD l 12)],[E (G.BD l 16)],[E (G.BD l 20)],bv (Ji.zero 32).l] D D<|zs (AS Tryz.underlying101 6 D)<|zs (Fp Tryz.underlying51 0 32 rfl .none .none 6)<|zs (AA D)<|zs (Fi A3 24 m (Bx V) D (.some D) .none)<|CS<|U<|HC 0 6 0 32 (Db 24 m (Bx V) (List.take_of_length_le (by rw[List.length_drop];have:(l).length=m:=hl;omega))) Tryz.underlying22 D D D D D (by have:(l.drop 24).length=m - 24:=(by have:(l).length=m:=hl;simp only[List.length_drop];omega);rw[List.length_take];omega)<|?_
 refine FO 0 [[E (G.BD l 0)],[E (G.BD l 4)],[E (G.BD l 8)],[E (G.BD l 12)],[E (G.BD l 16)],[E (G.BD l 20)],bv (G.DF l 24).l] D (by rw[←Og];rfl)<|M ?_
 refine Af (BN Bv 0 D D)<|U<|BP TI D (fun w g=>Vr (G.BD l 0) (G.BD l 4) (G.BD l 8) (G.BD l 12) (G.BD l 16) (G.BD l 20) (G.DF l 24) w)<|?_
 rcases Bool.eq_false_or_eq_true (G.right ⟨G.BD l 0,G.BD l 4,G.BD l 8,G.BD l 12,G.BD l 16,G.BD l 20,G.DF l 24⟩)with h|h
 ·
  refine CR 58 D (congrArg Value.bool h)<|?_
  exact absurd (h.symm.trans hr) (by decide)
 refine CR 58 D (congrArg Value.bool h)<|Af (fun _ _ f g=>CE f (b:=false) D)<|M ?_
 refine Af (fun _ _ f g=>Cs f (BH:=[]) D (v:=Value.agg (flat [[E 0],[E 0],[E 0],[E 0],[E 0],[E 0],Ak 32])) (run_build _ _ _ _ (by kernel_rfl)))<|U<|Bk 1 0 7 D D D<|?_
 refine M ?_
 refine Gl Bv 1 D D D fun W g=>?_
 exact⟨D,g.A0⟩
theorem MV{q:Option Addr}{m c:Nat}{l:List UInt8}{w:World}(V:View w (.slice q m c) m 1 (bv l))(hl:l.length=m):
 Calls Tryz.prog 82 #[I q m c] w fun e W=>(e=match G.record l with|some r=>.returned (.tuple #[.agg (flat (Ro r)),E 0])|none=>.returned (.tuple #[.agg (flat Qb),E 150]))∧Below w.heap.size w W:=by
 unfold G.record
 by_cases h:l.length=56
 ·rw[if_pos h]
  by_cases hr:G.right (G.Kd l)=true
  ·rw[if_pos hr];exact bQ q m c l w V hl (by omega) hr
  ·rw[if_neg hr];exact eh q m c l w V hl (by omega) (Bool.eq_false_iff.2 hr)
 ·rw[if_neg h];exact dd q m c l w V hl (by omega)
end Go.Proofs.YtaapafoibofbjaaGreatDoor
