/- Laws and walks on the road to SalvageNever and SalvageHeals (part M27). No conditions beyond each law's own. -/
import Derived.Test.YtcdaflcjhimimaaGreatDoorM01
import Derived.Test.YtcdaflcjhimimaaGreatDoorM26
import Derived.Test.YtcdaflcjhimimaaGreatDoorM04
import Derived.Test.YtcdaflcjhimimaaGreatDoorM07
import Derived.Test.YtcdaflcjhimimaaGreatDoorM05
import Derived.Test.YtcdaflcjhimimaaGreatDoorM14
import Derived.Test.YtcdaflcjhimimaaGreatDoorM17
import Derived.Test.YtcdaflcjhimimaaGreatDoorM24
set_option linter.unusedVariables false
namespace Go.Proofs.YtcdaflcjhimimaaGreatDoor
open Go.RowKit
set_option maxRecDepth 100000
set_option maxHeartbeats 1000000
variable {q:Option Addr} {c n:Nat} {w:World}
theorem Y0{al ab an:Int}{R:Nat}{DA:List Fm}(ba:CT w)(c5:R<256)(hn:n≤1048576)(bC:n≠0→View w (.slice q n c) n 1 (Al K3 DA))(b2:DA.length=n)(bD:∀x∈DA,Fm.ok w x)(c6:Hd DA≤100000)(aD:∀ms m t,H' ms m t→t≤Hd DA→ms.length≤n→Ii ms):
 Calls Tryz.prog 5 #[Value.agg (flat [[Value.int .i64 (al:Int)],[Value.int .i64 (ab:Int)],[Value.int .i64 (an:Int)],[F q n c],[Value.int .u8 (((R:Nat):Int):Int)]])] w fun e w'=>∃b b3 b4 b5 v4 b6 p m k,∃L:List UInt8,∃mk,e=.returned (.pointer (some ⟨b,0,none⟩))∧Ai w' b [[.int .i64 ((b3:Nat):Int)],[.int .i64 ((b4:Nat):Int)],[.int .i64 ((b5:Nat):Int)],[.int .i64 ((mk:Nat):Int)],[v4],[b6],[.slice p m k]] 36∧w'.ownsRow w.heap.size 5 1 (.slice p m k) m (bv L)∧(∀j,(F p m k).ownBlock=some j→j≠b)∧Fh L m mk∧w.heap.size≤b∧Below w.heap.size w w':=by
 have d:Below w.heap.size w w:=Bu _ _
 refine Bx O4 D 178 ?_
 refine K<|N<|CW D ?_
 intro E_ c7 aW U f A
 have c8:=Bg d aW
 have d:=Ah d A
 refine O D<|M<|G<|K<|?_
 intro a l
 refine C7 (fun W=>Below w.heap.size w W∧Ai W E_ [[Value.int .i64 (al:Int)],[Value.int .i64 (ab:Int)],[Value.int .i64 (an:Int)],[F q n c],[Value.int .u8 (((R:Nat):Int):Int)]] 24) ?_
 intro c9 U A
 have f:=Q f A
 have d:=Ah d A
 revert a
 refine BW 0 D IV 0 D ⟨d,f⟩<|A5 1 D (fun W af a l=>by obtain⟨d,f⟩:=af;exact Cl l D AH D [] (Value.int .i64 (al:Int)) [[Value.int .i64 (ab:Int)],[Value.int .i64 (an:Int)],[F q n c],[Value.int .u8 (((R:Nat):Int):Int)]] f D) ⟨d,f⟩<|BW 3 D IV 1 D ⟨d,f⟩<|A5 4 D (fun W af a l=>by obtain⟨d,f⟩:=af;exact Cl l D AH D [[Value.int .i64 (al:Int)]] (Value.int .i64 (ab:Int)) [[Value.int .i64 (an:Int)],[F q n c],[Value.int .u8 (((R:Nat):Int):Int)]] f D) ⟨d,f⟩<|BW 5 D IV 2 D ⟨d,f⟩<|A5 6 D (fun W af a l=>by obtain⟨d,f⟩:=af;exact Cl l D AH D [[Value.int .i64 (al:Int)],[Value.int .i64 (ab:Int)]] (Value.int .i64 (an:Int)) [[F q n c],[Value.int .u8 (((R:Nat):Int):Int)]] f D) ⟨d,f⟩<|?_
 intro ax X
 refine A8 2 4 D D ?_
 intro Aa Y
 refine B0 X #[Value.int .i64 (al:Int),E 1,E 32] Ld (Mk (al:Int) 1 32 _) ?_
 rintro _ _ ⟨ao,rfl,c_,rfl⟩
 refine⟨_,D,?_⟩
 intro a l
 refine Y _ _ ⟨d,f⟩ ?_;revert a
 intro ax X
 refine A8 7 3 D D ?_
 intro Aa Y
 refine B0 X #[Value.int .i64 (an:Int),E 3,E 4096] Ld (Mk (an:Int) 3 4096 _) ?_
 rintro _ _ ⟨aq,rfl,c',rfl⟩
 refine⟨_,D,?_⟩
 intro a l
 refine Y _ _ ⟨d,f⟩ ?_;revert a
 refine A5 8 D (fun W af a l=>by obtain⟨d,f⟩:=af;exact CE l (Bf:=[(0,(E ao)),(1,(Value.int .i64 (ab:Int))),(2,(E aq))]) D (v:=Value.agg (flat [[E ao],[Value.int .i64 (ab:Int)],[E aq],[E 0],[F none 0 0],[F none 0 0],[F none 0 0]])) (run_build _ _ _ _ (by kernel_rfl))) ⟨d,f⟩<|?_
 intro ax X
 refine A8 9 1 D D ?_
 intro Aa Y
 refine Nq X D (v:=(Value.agg (flat [[E ao],[Value.int .i64 (ab:Int)],[E aq],[E 0],[F none 0 0],[F none 0 0],[F none 0 0]]))) D (ss:=[[E ao],[Value.int .i64 (ab:Int)],[E aq],[E 0],[F none 0 0],[F none 0 0],[F none 0 0]]) D ?_
 intro a J b7 aW l U g A
 have b8:=Bg d aW
 have da:=AP f aW
 have f:=Q f A
 have d:=Ah d A
 refine Y _ _ ⟨d,f⟩ ?_;revert a
 refine EY 10 D D ⟨d,f⟩<|B_<|G<|K<|N<|O D<|M<|G<|K<|K<|?_
 have u:b7.ownsRow w.heap.size 44 1 (.slice none 0 0) 0 (Al IP []):=World.ownsRow_nil _ _ _ _
 have av:Z (F none 0 0) E_:=FL
 have ag:Z (F none 0 0) J:=FL
 refine N<|O (v:=(E 0)) D<|M<|G<|A2<|?_
 intro a l
 refine Cb (fun bb a W=>∃i aX,∃Aq:List B7,∃aY C H B,∃ay:List EN,bb=n - i∧Ao 178 a (Ja (Ja (Ja (Ja (Ja Je 1 (AB E_)) 2 (Value.pointer none)) 3 (AB J)) 5 (E i)) 4 (F aX Aq.length aY))∧i≤n∧B≤i∧HC (Io J (F C B H)) W ⟨aX,Aq,aY⟩∧(∀x∈ay,HC (Io J (F C B H)) W x)∧(∃t,t≤Hd (DA.take i)∧H' (ay.map (fun x=>A7 x.L)) (A7 Aq) t)∧W.ownsRow w.heap.size 44 1 (.slice C B H) B (Al IP ay)∧Below w.heap.size w W∧Ai W E_ [[Value.int .i64 (al:Int)],[Value.int .i64 (ab:Int)],[Value.int .i64 (an:Int)],[F q n c],[Value.int .u8 (((R:Nat):Int):Int)]] 24∧Ai W J [[E ao],[Value.int .i64 (ab:Int)],[E aq],[E 0],[F C B H],[F none 0 0],[F none 0 0]] 36∧Z (F C B H) E_∧Z (F C B H) J) _ ⟨0,_,_,_,_,_,_,_,D,At l,by omega,Nat.zero_le _,HC.nil _ _,(fun x ar=>by cases ar),by exact⟨0,Nat.zero_le _,H'.nil⟩,u,d,f,g,T av,T ag⟩ ?_
 rintro _ a au ⟨i,aX,Aq,aY,C,H,B,ay,rfl,l,db,dc,aJ,bc,bd,u,d,f,g,av,ag⟩
 revert a
 refine K<|K<|N<|I D<|Am IV 3 D<|AK KR 3 f D D<|BY KR D<|B5 D D<|M<|G<|Bl D (fun b9=>?_) fun b9=>?_
 ·
  refine AE<|G<|K<|A2<|K<|?_
  have S:Bd (Io J (F C B H)) au au:=Bd.refl _ _
  have aj:AtR au.heap.size (F C B H) (F C B H):=AtR.refl _ _
  refine N<|Am IV 3 D<|AK KR 3 f D D<|I D<|?_
  obtain⟨dd,bE,rfl⟩:=Ca ((bC (by omega)).below d)
  obtain⟨aB,bf⟩:=getD_some (L:=DA) (j:=i) b2 (by omega)
  have b_:=BJ QP ((bC (by omega)).below d) bf (o:=bE+i*1)
  refine Cn X' i (bE+i*1) D D<|Cg F1 (Dh [] (F aB.p aB.L.length aB.c) [] b_ D) D<|?_
  intro ax X
  have bF:=List.mem_of_getElem? bf
  have de:=XW bf
  have df:=R' DA (i+1)
  refine Bj D (fun Aa Y=>B0 X #[F aB.p aB.L.length aB.c] Nk (Y3 (by omega) ((bD aB bF).below d).v D ((bD aB bF).below d).s) ?_)
  rintro _ aZ ⟨bG,bH,bg,dg,bI,rfl,aP,dh,b',ca,di,cb,aQ⟩
  refine⟨_,D,?_⟩
  intro a l
  have aR:=u.lt
  have aE:w.heap.size≤au.heap.size:=d.size
  have bh:E_<au.heap.size:=Ar f
  have bj:J<au.heap.size:=Ar g
  have S:=S.below aQ
  have u:=V u aQ
  have f:=Q f aQ
  have g:=Q g aQ
  have d:=Ah d aQ
  have dj:Ap (F bG bg bH) (F C B H):=fun k ad e=>by have:=(aP.lt k ad).1;have:=(aR k e).2;omega
  have aP:=CB aP aE
  refine Y _ _ ?_;revert a
  refine I D<|BC D D<|BC D D<|O D<|O D<|M<|G<|K<|N<|I D<|Dk (q:=(0:Nat)) D D<|M<|G<|Bl D (fun cc=>?_) fun cc=>?_
  ·
   refine K<|N<|I D<|I D<|?_
   intro ax X
   have bJ:bI.length=bg:=DF CI (by decide) aP
   obtain⟨t,bk,aK⟩:=bd
   have cd:=aK.len
   rw[It]at cd
   have cf:J<aZ.heap.size:=Ar g
   have cg:=fun k ad=>(u.lt k ad).2
   refine Bj D (fun Aa Y=>B0 X #[F aX Aq.length aY,F bG bg bH] Q4 (Xc _ _ _ _ _ _ Aq bI _ (by omega) (aJ.v.S S) D (View.own aP) bJ (fun x ar=>((aJ.s x ar).next S (fun k _ h=>h)).ok) ca aJ.o b' aJ.n cb) ?_)
   rintro _ CM ⟨aL,aS,bl,a0,rfl,aM,bK,ch,cj,ck,cl,bL,cm,aT⟩
   refine⟨_,D,?_⟩
   intro a l
   have aR:=u.lt
   have aE:w.heap.size≤aZ.heap.size:=d.size
   have bh:E_<aZ.heap.size:=Ar f
   have bj:J<aZ.heap.size:=Ar g
   have S:=S.below aT
   have u:=V u aT
   have f:=Q f aT
   have g:=Q g aT
   have d:=Ah d aT
   have cn:Z (F aL bl aS) J:=D2 aM
   have cp:Ap (F aL bl aS) (F C B H):=fun k ad e=>by have:=(aM.lt k ad).1;have:=(aR k e).2;omega
   have aM:=CB aM aE
   refine Y _ _ ?_;revert a
   refine O D<|M<|G<|?_
   have bM:a0.length=bl:=DF Ep (by decide) aM
   have cq:=Y4 D bM bJ ck bK cl bL cm
   have cr:=aK.snoc cq
   subst bM
   have bN:HC (Io J (F C B H)) CM ⟨aL,a0,aS⟩:=by
    refine⟨⟨View.own aM,fun a aF y=>?_⟩,fun e he=>⟨ch e he,fun a aF y=>?_⟩,bK,cj⟩
    ·replace aF:aL=some a:=aF
     rcases y with y|y
     ·exact cn a.block (by rw[aF];rfl) y
     ·exact cp a.block (by rw[aF];rfl) y
    ·rcases bL e he with q|q
     ·exact(aJ.s e q).ne a aF y
     ·have dk:=q.2 a aF
      rcases y with y|y
      ·omega
      ·have:=cg _ y
       omega
   have ct:∀x∈ay,HC (Io J (F C B H)) CM x:=fun x ar=>(bc x ar).next S (fun k _ h=>h)
   have S:Bd (Io J (F C B H)) CM CM:=Bd.refl _ _
   have aj:AtR CM.heap.size (F C B H) (F C B H):=AtR.refl _ _
   refine N<|I D<|I D<|Bt D<|Am DC 4 D<|AK HT 4 g D D<|I D<|D6 I3 D (cs:=#[F aL a0.length aS]) D D ?_
   intro dm U cu A
   have S:=S.below A
   have u:=V u A
   have f:=Q f A
   have g:=Q g A
   have d:=Ah d A
   intro ax X
   refine Bj D (fun Aa Y=>BK X I3 u cu (by simp[Value.oneCell']) d.size (B+1) (CC ay (⟨aL,a0,aS⟩:EN) D (Kn _)) ?_)
   intro a dn dp dq l bm aG
   have bO:=S.size
   have cv:=A9 aG av (Ar f)
   have bP:=A9 aG ag (Ar g)
   have S:=S.DB aG aj (fun _ q=>Or.inr q)
   have f:=A' f aG av
   have g:=A' g aG ag
   have aj:=aj.C9 aG bO
   have d:=Cm d aG u
   refine Y _ _ ?_;revert a
   refine Bt D<|Am DC 4 D<|C_ 4 g D D ?_
   intro dr U cw a1
   have S:=S.B1 a1
   have f:=Ag a1 f (by omega)
   have bm:=Ax bm a1 bP
   have d:=A1 d a1
   refine M<|Bq<|G<|N<|I D<|A_ (q:=1) D D<|O D<|M<|G<|?_
   intro a l
   exact⟨_,by omega,i+1,_,_,_,_,_,_,_,D,At l,by omega,by omega,bN.next S (fun k ad y=>NR aj k ad y),Gn (fun x ar=>(ct x ar).next S (fun k ad y=>NR aj k ad y)) (bN.next S (fun k ad y=>NR aj k ad y)),by rw[List.map_append];exact⟨_,by omega,cr⟩,bm,d,f,cw,T cv,T bP⟩
  ·
   refine AE<|Bq<|G<|N<|I D<|A_ (q:=1) D D<|O D<|M<|G<|?_
   intro a l
   exact⟨_,by omega,i+1,_,_,_,_,_,_,_,D,At l,by omega,by omega,aJ.next S (fun k _ h=>h),fun x ar=>(bc x ar).next S (fun k _ h=>h),(by obtain⟨t,bk,aK⟩:=bd;exact⟨t,by omega,aK⟩),u,d,f,g,T av,T ag⟩
 ·
  have S:Bd (Io J (F C B H)) au au:=Bd.refl _ _
  have aj:AtR au.heap.size (F C B H) (F C B H):=AtR.refl _ _
  have cx:=DF Kn (by decide) u
  refine BO<|AW<|AW<|BN<|G<|?_
  intro a l
  refine ES (fun a W=>∃az,Ao 178 a (Ja (Ja (Ja Je 1 (AB E_)) 2 (Value.pointer none)) 3 (AB J))∧az≤1073741824∧W.ownsRow w.heap.size 44 1 (.slice C B H) B (Al IP ay)∧Below w.heap.size w W∧Ai W E_ [[Value.int .i64 (al:Int)],[Value.int .i64 (ab:Int)],[Value.int .i64 (an:Int)],[F q n c],[Value.int .u8 (((R:Nat):Int):Int)]] 24∧Ai W J [[E ao],[E az],[E aq],[E 0],[F C B H],[F none 0 0],[F none 0 0]] 36∧Z (F C B H) E_∧Z (F C B H) J∧Bd (Io J (F C B H)) au W∧AtR au.heap.size (F C B H) (F C B H)) ?_ ?_
  ·
   revert a
   refine K<|?_
   intro a l
   refine Gm (by kernel_rfl) (by kernel_rfl) ?_
   intro ds U A
   have S:=S.below A
   have u:=V u A
   have f:=Q f A
   have g:=Q g A
   have d:=Ah d A
   revert a
   refine A3 D<|Ee D<|Cx DC 1 D<|Dx AH 1 g D D<|?_
   by_cases bQ:(ab:Int)<((0:Nat):Int)
   ·
    refine PS bQ D D<|A3 D<|Bo D D D D<|Bo D D D D<|Bo D D D D<|Bo D D D D<|Bo D D D D<|Bo D D D D<|Bo D D D D<|Bo D D D D<|Bo D D D D<|Bo D D D D<|Bo D D D D<|G' D D<|A3 D<|Bo D D D D<|Bo D D D D<|Bo D D D D<|Bo D D D D<|Bo D D D D<|Bo D D D D<|G' D D<|Er<|G<|BS D<|N<|I D<|Bt D<|Am DC 1 D<|C_ 1 g D D ?_
    intro dt U cy a2
    have S:=S.B1 a2
    have u:=Ax u a2 ag
    have f:=Ag a2 f (by omega)
    have d:=A1 d a2
    refine M<|G<|?_
    intro a l
    exact⟨0,At l,by omega,u,d,f,cy,T av,T ag,S,aj⟩
   ·
    refine PQ bQ D D<|A3 D<|BI D D D<|A3 D<|BI D D D<|Ee D<|BI D D D<|Cx DC 1 D<|BI D D D<|Dx AH 1 g D D<|BI D D D<|A3 D<|BI D D D<|Ee D<|BI D D D<|Cx DC 4 D<|BI D D D<|Dx HT 4 g D D<|BI D D D<|J_ HT D<|BI D D D<|HI (p:=1073741824) D D<|?_
    by_cases bR:((1073741824 - B:Nat):Int)<(ab:Int)
    ·
     refine BI D D D<|XP bR D D<|GU D D<|A3 D<|Bo D D D D<|Bo D D D D<|Bo D D D D<|Bo D D D D<|Bo D D D D<|Bo D D D D<|G' D D<|Er<|G<|BS D<|N<|I D<|Bt D<|Am DC 1 D<|C_ 1 g D D ?_
     intro du U cz a3
     have S:=S.B1 a3
     have u:=Ax u a3 ag
     have f:=Ag a3 f (by omega)
     have d:=A1 d a3
     refine M<|G<|?_
     intro a l
     exact⟨0,At l,by omega,u,d,f,cz,T av,T ag,S,aj⟩
    ·
     refine BI D D D<|V' bR D D<|GU D D<|A3 D<|BI D D D<|A3 D<|BI D D D<|Ee D<|BI D D D<|Cx DC 4 D<|BI D D D<|Dx HT 4 g D D<|BI D D D<|J_ HT D<|?_
     by_cases bS:((B:Nat):Int)=((0:Nat):Int)
     ·
      refine BI D D D<|J0 bS D D<|GU D D<|Er<|G<|BS D<|N<|I D<|Bt D<|Am DC 1 D<|C_ 1 g D D ?_
      intro dv U cA a4
      have S:=S.B1 a4
      have u:=Ax u a4 ag
      have f:=Ag a4 f (by omega)
      have d:=A1 d a4
      refine M<|G<|?_
      intro a l
      exact⟨0,At l,by omega,u,d,f,cA,T av,T ag,S,aj⟩
     ·
      refine BI D D D<|Kc bS D D<|GU D D<|Er<|G<|BE D<|AE<|G<|?_
      intro a l
      exact⟨ab.toNat,At l,by omega,u,d,f,(by unfold E;rw[Int.toNat_of_nonneg (by omega)];exact g),T av,T ag,S,aj⟩
  ·
   rintro a dw ⟨az,l,dx,u,d,f,g,av,ag,S,aj⟩
   revert a
   refine K<|?_
   intro a l
   refine C7 (fun W=>W.ownsRow w.heap.size 44 1 (.slice C B H) B (Al IP ay)∧Below w.heap.size w W∧Ai W E_ [[Value.int .i64 (al:Int)],[Value.int .i64 (ab:Int)],[Value.int .i64 (an:Int)],[F q n c],[Value.int .u8 (((R:Nat):Int):Int)]] 24∧(∃aA:Value,Ai W J [[E ao],[E az],[E aq],[E 0],[F C B H],[F none 0 0],[aA]] 36)) ?_
   intro bn U A
   have S:=S.below A
   have u:=V u A
   have f:=Q f A
   have g:=Q g A
   have d:=Ah d A
   revert a
   refine Bk 0 D D ⟨u,d,f,⟨_,g⟩⟩<|Bk 1 D D ⟨u,d,f,⟨_,g⟩⟩<|CF 2 D D ⟨u,d,f,⟨_,g⟩⟩<|BW 3 D DC 0 D ⟨u,d,f,⟨_,g⟩⟩<|A5 4 D (fun W af a l=>by obtain⟨u,d,f,⟨aA,g⟩⟩:=af;exact Cl l D AH D [] (E ao) [[E az],[E aq],[E 0],[F C B H],[F none 0 0],[aA]] g D) ⟨u,d,f,⟨_,g⟩⟩<|Bk 5 D D ⟨u,d,f,⟨_,g⟩⟩<|CF 6 D D ⟨u,d,f,⟨_,g⟩⟩<|BW 7 D DC 1 D ⟨u,d,f,⟨_,g⟩⟩<|A5 8 D (fun W af a l=>by obtain⟨u,d,f,⟨aA,g⟩⟩:=af;exact Cl l D AH D [[E ao]] (E az) [[E aq],[E 0],[F C B H],[F none 0 0],[aA]] g D) ⟨u,d,f,⟨_,g⟩⟩<|Bk 9 D D ⟨u,d,f,⟨_,g⟩⟩<|CF 10 D D ⟨u,d,f,⟨_,g⟩⟩<|BW 11 D DC 4 D ⟨u,d,f,⟨_,g⟩⟩<|A5 12 D (fun W af a l=>by obtain⟨u,d,f,⟨aA,g⟩⟩:=af;exact Cl l D HT D [[E ao],[E az],[E aq],[E 0]] (F C B H) [[F none 0 0],[aA]] g D) ⟨u,d,f,⟨_,g⟩⟩<|Bk 13 D D ⟨u,d,f,⟨_,g⟩⟩<|CF 14 D D ⟨u,d,f,⟨_,g⟩⟩<|BW 15 D DC 2 D ⟨u,d,f,⟨_,g⟩⟩<|A5 16 D (fun W af a l=>by obtain⟨u,d,f,⟨aA,g⟩⟩:=af;exact Cl l D AH D [[E ao],[E az]] (E aq) [[E 0],[F C B H],[F none 0 0],[aA]] g D) ⟨u,d,f,⟨_,g⟩⟩<|?_
   intro ax X
   refine A8 17 3 D D ?_
   intro Aa Y
   refine B0 X #[E ao,E az,F C B H,E aq] MS (Rk (DQ:=ay) (ba.below d (Be _)) (by omega) (by omega) (by omega) (by omega) (View.own u) (by rw[cx]) (fun x ar=>((bc x ar).next S (fun k _ h=>h)).ok) (by obtain⟨t,bk,aK⟩:=bd;exact aD _ _ _ aK (Bs bk (R' _ _)) (by rw[List.length_map];omega))) ?_
   rintro _ dy ⟨bo,a5,bp,cB,rfl,aN,cC,dz,dA,aU⟩
   refine⟨_,D,?_⟩
   intro a l
   have aR:=u.lt
   have aE:w.heap.size≤bn.heap.size:=d.size
   have bh:E_<bn.heap.size:=Ar f
   have bj:J<bn.heap.size:=Ar g
   have S:=S.below aU
   have u:=V u aU
   have f:=Q f aU
   have g:=Q g aU
   have d:=Ah d aU
   have aO:Z (F bo a5 bp) E_:=D2 aN
   have aw:Z (F bo a5 bp) J:=D2 aN
   have dB:Ap (F bo a5 bp) (F C B H):=fun k ad e=>by have:=(aN.lt k ad).1;have:=(aR k e).2;omega
   have aN:=CB aN aE
   refine Y _ _ ⟨u,d,f,⟨_,g⟩⟩ ?_;revert a
   refine CF 18 D D ⟨u,d,f,⟨_,g⟩⟩<|BW 19 D DC 6 D ⟨u,d,f,⟨_,g⟩⟩<|?_
   intro ax X
   refine A8 20 0 D D ?_
   intro Aa Y
   refine DM X 6 g D D ?_
   intro a dC l U cD aV
   have S:=S.B1 aV
   have u:=Ax u aV ag
   have f:=Ag aV f (by omega)
   have P:=Ax aN aV aw
   have d:=A1 d aV
   have g:=cD
   refine Y _ _ ⟨u,d,f,⟨_,g⟩⟩ ?_;revert a
   refine B_<|?_
   refine G<|?_
   intro a l
   refine ES (fun a W=>∃bq br bs pm bt bu mk ah ai aa,∃aC:List UInt8,Ao 178 a (Ja (Ja (Ja Je 1 (AB E_)) 2 (Value.pointer none)) 3 (AB J))∧Fh aC aa mk∧aa≤1048576∧W.ownsRow w.heap.size 5 1 (.slice ah aa ai) aa (bv aC)∧Below w.heap.size w W∧Ai W E_ [[Value.int .i64 (al:Int)],[Value.int .i64 (ab:Int)],[Value.int .i64 (an:Int)],[F q n c],[Value.int .u8 (((R:Nat):Int):Int)]] 24∧Ai W J [[E bq],[E br],[E bs],[E 0],[F pm bt bu],[F none 0 0],[F ah aa ai]] 36∧Z (F ah aa ai) E_∧Z (F ah aa ai) J) ?_ ?_
   ·
    revert a
    refine K<|N<|I D<|Bt D<|Am DC 6 D<|AK Cr 6 g D D<|AT (fun _ l=>XS l Cr D D _ D)<|M<|G<|Ej D (fun bw=>?_) fun bw=>?_
    ·
     refine K<|N<|I D<|Bt D<|Am DC 0 D<|C_ 0 g D D ?_
     intro dD U cE bT
     have f:=Ag bT f (by omega)
     have d:=A1 d bT
     refine M<|G<|K<|N<|I D<|Bt D<|Am DC 1 D<|C_ 1 cE D D ?_
     intro dE U cF bU
     have f:=Ag bU f (by omega)
     have d:=A1 d bU
     refine M<|G<|K<|N<|I D<|Bt D<|Am DC 2 D<|C_ 2 cF D D ?_
     intro bx U aH bV
     have f:=Ag bV f (by omega)
     have d:=A1 d bV
     refine M<|G<|K<|N<|I D<|D6 A0 D (cs:=#[Value.int .u8 (((7:Nat):Int):Int)]) D D ?_
     intro cG U a6 A
     have f:=Q f A
     have aH:=Q aH A
     have d:=Ah d A
     refine AT (fun _ l=>CE l (Bf:=[(1,(F (some ⟨bx.heap.size,0,none⟩) 1 1))]) D (v:=Value.agg (flat [Av 32,[F (some ⟨bx.heap.size,0,none⟩) 1 1]])) (run_build _ _ _ _ (by kernel_rfl)))<|E8 DH [Av 32,[F (some ⟨bx.heap.size,0,none⟩) 1 1]] ?_
     intro dF U bW A
     have f:=Q f A
     have aH:=Q aH A
     have a6:=a6.below A
     have d:=Ah d A
     refine D6 I3 D (cs:=#[F (some ⟨cG.heap.size,0,none⟩) 1 1]) D D ?_
     intro dG U dH A
     have f:=Q f A
     have aH:=Q aH A
     have a6:=a6.below A
     have bW:=bW.below A
     have d:=Ah d A
     refine Bt D<|Am DC 4 D<|C_ 4 aH D D ?_
     intro bz U a7 bX
     have f:=Ag bX f (by omega)
     have d:=A1 d bX
     refine M<|G<|N<|I D<|AS Ri D (VS (ba.below d (Be _))) ?_
     rintro _ dI ⟨bY,bZ,b0,dJ,dK,rfl,P,cH,dL,bA⟩
     refine⟨_,D,?_⟩
     have aE:w.heap.size≤bz.heap.size:=d.size
     have bh:E_<bz.heap.size:=Ar f
     have bj:J<bz.heap.size:=Ar a7
     have f:=Q f bA
     have a7:=Q a7 bA
     have d:=Ah d bA
     have cI:Z (F bY bZ b0) E_:=D2 P
     have b1:Z (F bY bZ b0) J:=D2 P
     have P:=CB P aE
     refine Bt D<|Am DC 6 D<|?_
     refine C_ 6 a7 D D ?_
     intro dM U cJ bB
     have f:=Ag bB f (by omega)
     have P:=Ax P bB b1
     have d:=A1 d bB
     refine M<|G<|?_
     intro a l
     exact⟨_,_,_,_,_,_,_,_,_,_,_,At l,cH,by omega,P,d,f,cJ,T cI,T b1⟩
    ·
     obtain⟨dN,cK⟩:∃mk,Fh cB a5 mk:=cC.resolve_left (fun e=>by rw[e]at bw;cases bw)
     refine AE<|G<|?_
     intro a l
     exact⟨_,_,_,_,_,_,_,_,_,_,_,At l,cK,by omega,P,d,f,g,T aO,T aw⟩
   ·
    rintro a cL ⟨bq,br,bs,pm,bt,bu,mk,ah,ai,aa,aC,l,aD,dO,P,d,f,g,aO,aw⟩
    revert a
    refine K<|N<|I D<|Bt D<|Am DC 6 D<|AK Cr 6 g D D<|?_
    intro ax X
    obtain⟨dP,dQ,dR,cM,cN,cO,dS,cP,cQ,cR,cS,cT,cU,cV⟩:=aD.aY
    have cf:J<cL.heap.size:=Ar g
    have cW:=fun k ad=>(P.lt k ad).2
    refine Bj D (fun Aa Y=>B0 X #[F ah aa ai] PE (TP (ba.below d (Be _)) (View.own P) (CS P) cM cN cO cP cQ cR cS cT cU cV) ?_)
    rintro _ cX ⟨sz,z,DU,rfl,ae,dU,dV,a8⟩
    refine⟨_,D,?_⟩
    intro a l
    have P:=V P a8
    have f:=Q f a8
    have g:=Q g a8
    have d:=Ah d a8
    have ae:Ai cX sz [[E z.wd],[E z.ge],[E z.AD],[E z.Ab],[E z.Ak],[F z.Bp z.AV.length z.AY],[F z.Bv z.Ay.length z.As],[F z.qr z.AM.length z.AR],[F z.By z.AN.length z.AG],[F z.AO z.Aq.length z.AJ],[DU],[F z.AQ 257 z.ce]] 66:=ae
    have dW:J<sz:=by omega
    have a9:Z (F ah aa ai) sz:=fun k ad=>by have:=cW k ad;omega
    refine Y _ _ ?_;revert a
    refine I D<|BC D D<|BC D D<|O D<|O (v:=(E 0)) D<|M<|G<|K<|N<|I D<|I D<|Bt D<|Am Cc 8 D<|AK Eo 8 ae D D<|Bt D<|Am DC 5 D<|C_ 5 g D D ?_
    intro dX U cY a_
    have P:=Ax P a_ aw
    have f:=Ag a_ f (by omega)
    have ae:=Ag a_ ae (by omega)
    have d:=A1 d a_
    refine M<|G<|K<|N<|I D<|I D<|Bt D<|Am Cc 0 D<|Am Bw 2 D<|AK AH 2 ae D D<|Bt D<|Am DC 3 D<|C_ 3 cY D D ?_
    intro dY U ak a'
    have P:=Ax P a' aw
    have f:=Ag a' f (by omega)
    have ae:=Ag a' ae (by omega)
    have d:=A1 d a'
    refine M<|G<|K<|K<|N<|I D<|Bt D<|Am DC 3 D<|AK AH 3 ak D D<|FT (p:=256) D D<|O D<|M<|G<|A2<|?_
    intro a l
    refine Cb (fun bb a W=>∃j ah ai,∃aC:List UInt8,bb=aa - j∧Ao 178 a (Ja (Ja (Ja (Ja Je 1 (AB E_)) 2 (Value.pointer none)) 3 (AB J)) 10 (E j))∧(256*mk≤j∧j≤aa)∧Fh aC aa mk∧W.ownsRow w.heap.size 5 1 (.slice ah aa ai) aa (bv aC)∧Below w.heap.size w W∧Ai W E_ [[Value.int .i64 (al:Int)],[Value.int .i64 (ab:Int)],[Value.int .i64 (an:Int)],[F q n c],[Value.int .u8 (((R:Nat):Int):Int)]] 24∧Z (F ah aa ai) E_∧Z (F ah aa ai) J∧Ai W sz [[E z.wd],[E z.ge],[E z.AD],[E z.Ab],[E z.Ak],[F z.Bp z.AV.length z.AY],[F z.Bv z.Ay.length z.As],[F z.qr z.AM.length z.AR],[F z.By z.AN.length z.AG],[F z.AO z.Aq.length z.AJ],[DU],[F z.AQ 257 z.ce]] 66∧Z (F ah aa ai) sz∧Ai W J [[E bq],[E br],[E bs],[E z.AD],[F pm bt bu],[F z.By z.AN.length z.AG],[F ah aa ai]] 36) _ ⟨_,_,_,_,D,At l,by omega,aD,P,d,f,T aO,T aw,ae,T a9,ak⟩ ?_
    rintro _ a dZ ⟨j,ah,ai,aC,rfl,l,d_,aD,P,d,f,aO,aw,ae,a9,ak⟩
    revert a
    refine K<|K<|N<|I D<|I D<|Bt D<|Am DC 6 D<|AK Cr 6 ak D D<|BY Cr D<|B5 D D<|M<|G<|Bl D (fun cZ=>?_) fun cZ=>?_
    ·
     refine AE<|G<|K<|A2<|?_
     intro a l
     refine EJ 14 ?_
     intro d' U A
     have P:=V P A
     have f:=Q f A
     have ae:=Q ae A
     have ak:=Q ak A
     have d:=Ah d A
     revert a
     refine A3 D<|Ee D<|Cx DC 6 D<|Dx Cr 6 ak D D<|A3 D<|Cx IV 4 D<|Dx BA 4 f D D<|A3 D<|Cz (fun _ l=>C3 l (p:=((j:Nat):Int)) (r:=(((UInt8.ofNat j).toNat:Nat):Int)) D AH BA (Fw j))<|Cx IV 4 D<|Dx BA 4 f D D<|Cz (fun _ l=>OM l (k:=.u8) (p:=((((UInt8.ofNat j).toNat:Nat):Int):Int)) (q:=(((R:Nat):Int):Int)) (r:=(((UInt8.ofNat (((UInt8.ofNat j).toNat)*R)).toNat:Nat):Int)) D D (by rw[←Int.natCast_mul];exact Fw _))<|Cz (fun _ l=>Gz l (k:=.u8) (p:=(((R:Nat):Int):Int)) (q:=((((UInt8.ofNat (((UInt8.ofNat j).toNat)*R)).toNat:Nat):Int):Int)) (r:=(((UInt8.ofNat (R+((UInt8.ofNat (((UInt8.ofNat j).toNat)*R)).toNat))).toNat:Nat):Int)) D D (by rw[←Int.natCast_add];exact Fw _))<|?_
     obtain⟨ea,rfl⟩:=Ia P
     refine C0 A0 j j D D<|?_
     intro a l;refine EG ?_;revert a
     intro ax X
     refine Bj D (fun Aa Y=>K7 X (j:=j) (v:=(Value.int .u8 ((((UInt8.ofNat (R+((UInt8.ofNat (((UInt8.ofNat j).toNat)*R)).toNat))).toNat:Nat):Int):Int))) P D (by omega) D D (by kernel_rfl) (zs:=bv (aC.set j (UInt8.ofNat (R+((UInt8.ofNat (((UInt8.ofNat j).toNat)*R)).toNat))))) (by simp[bv,List.map_set]) ?_)
     intro a eb l c0 aI
     have bO:=S.size
     have c1:=A9 aI aO (Ar f)
     have c2:=A9 aI aw (Ar ak)
     have c3:=A9 aI a9 (Ar ae)
     have f:=A' f aI aO
     have ae:=A' ae aI a9
     have ak:=A' ak aI aw
     have d:=Cm d aI P
     refine Y _ _ ?_;revert a
     refine M<|Bq<|G<|N<|I D<|A_ (q:=1) D D<|O D<|M<|G<|?_
     intro a l
     exact⟨_,by omega,j+1,_,_,_,D,At l,by omega,aD.set (by omega),c0,d,f,T c1,T c2,ae,T c3,ak⟩
    ·
     refine BO<|AW<|AW<|BN<|G<|K<|N<|I D<|O D<|M<|G<|AA<|AZ D<|?_
     have c4:z.AD=mk:=by omega
     rw[c4]at ak
     exact⟨J,_,_,_,_,_,_,_,_,_,mk,D,ak,P,aw,aD,b8,d⟩
theorem V4{a8 a9 a_ mk sb Hz:Nat}{v4 a':Value}{p:Option Addr}{m k:Nat}{L:List UInt8}{aQ:List Kz}(t:Ai w sb [[E a8],[E a9],[E a_],[E mk],[v4],[a'],[F p m k]] 36)(aR:View w (.slice p m k) m 1 (bv L))(bo:L.length=m)(bN:Hz≤3)(hm:m≤1048576)(bO:2≤mk∧256*mk≤m)(hn:n≤1048576)(aS:n≠0→View w (.slice q n c) n 2 (Al Mz aQ))(bp:aQ.length=n):
 Calls Tryz.prog 8 #[AB sb,F q n c,E Hz] w fun e w'=>∃J:List Nat,∃l:List UInt8,∃Gq:List Nat,∃f0 f1:Nat,∃ba bb bc bd,e=.returned (.tuple #[.slice ba m bb,.slice bc mk bd,.agg (flat [[.int .i64 ((f0:Nat):Int)],[.int .i64 ((f1:Nat):Int)]])])∧w'.ownsRow w.heap.size 5 1 (.slice ba m bb) m (bv l)∧w'.ownsRow w.heap.size 3 1 (.slice bc mk bd) mk (Al Ct Gq)∧Gi L mk J l Gq f0 f1∧(∀q,El J q≤Hz)∧Below w.heap.size w w':=by
 have bq:256*mk≤L.length:=by omega
 have h:Below w.heap.size w w:=Bu _ _
 refine Bx TS D 124 ?_
 refine K<|N<|O D<|O D<|BQ [[E 0],[E 0]] ?_
 intro ab aT Y ad x u
 have bP:=Bg h Y
 have bQ:=AP t Y
 have t:=Q t u
 have h:=Ah h u
 refine M<|G<|K<|N<|I D<|Bt D<|Am DC 6 D<|AK Cr 6 t D D<|AS Kr D (Lt (aR.below h) bo) ?_
 rintro _ bR ⟨aU,aV,rfl,R,aW⟩
 refine⟨_,D,?_⟩
 have br:w.heap.size≤aT.heap.size:=h.size
 have bS:sb<aT.heap.size:=Ar t
 have bT:ab<aT.heap.size:=Ar x
 have t:=Q t aW
 have x:=Q x aW
 have h:=Ah h aW
 have ao:Z (F aU m aV) sb:=D2 R
 have ae:Z (F aU m aV) ab:=D2 R
 have R:=CB R br
 refine O D<|M<|G<|K<|N<|I D<|Bt D<|Am DC 3 D<|AK AH 3 t D D<|?_
 intro bf aA
 refine Bj D (fun Aa aB=>Yk aA D DK (n:=mk) D D (by omega) (by unfold maxLen;omega) w.heap.size h.size ?_)
 intro a aX bU s aY aZ u
 rw[Wh]at aY
 have aq:Z (F aX mk mk) sb:=fun k S=>by have:=aZ k S;have:=Ar t;omega
 have af:Z (F aX mk mk) ab:=fun k S=>by have:=aZ k S;have:=Ar x;omega
 have ar:Ap (F aX mk mk) (F aU m aV):=fun k S e=>by have:=aZ k S;have:=(R.lt k e).2;omega
 have t:=Q t u
 have x:=Q x u
 have R:=V R u
 have h:=Ah h u
 refine aB _ _ ?_;revert a
 refine O D<|M<|G<|K<|N<|BQ [[E 0],[E 0]] ?_
 intro aF bV Y ad z u
 have bW:=Bg h Y
 have bX:=AP t Y
 have bY:=AP x Y
 have au:=BM R Y
 have av:=BM aY Y
 have t:=Q t u
 have x:=Q x u
 have B:=V R u
 have A:=V aY u
 have h:=Ah h u
 refine M<|G<|K<|K<|N<|O (v:=(E 0)) D<|M<|G<|A2<|?_
 intro a s
 refine Cb (fun bs a W=>∃i J f0 f1 ag ah,∃C:List UInt8,∃ai aj,∃ak:List Nat,bs=n - i∧Ao 124 a (Ja (Ja (Ja (Ja (Ja (Ja (Ja (Ja (Ja (Ja Je 0 (AB sb)) 1 (F q n c)) 2 (E Hz)) 6 (F none 0 0)) 7 (F none 0 0)) 8 (AB ab)) 9 (F ag m ah)) 10 (F ai mk aj)) 11 (AB aF)) 12 (E i))∧i≤n∧Gi L mk J C ak f0 f1∧(∀q,El J q≤Hz)∧W.ownsRow w.heap.size 5 1 (.slice ag m ah) m (bv C)∧W.ownsRow w.heap.size 3 1 (.slice ai mk aj) mk (Al Ct ak)∧Below w.heap.size w W∧Ai W sb [[E a8],[E a9],[E a_],[E mk],[v4],[a'],[F p m k]] 36∧Ai W ab [[E 0],[E 0]] 37∧Z (F ag m ah) sb∧Z (F ag m ah) ab∧Z (F ai mk aj) sb∧Z (F ai mk aj) ab∧Ap (F ai mk aj) (F ag m ah)∧Ai W aF [[E f0],[E f1]] 37∧Z (F ag m ah) aF∧Z (F ai mk aj) aF) _ ⟨0,[],0,0,_,_,_,_,_,_,D,At s,by omega,Gi.zero _ _,fun q=>Nat.zero_le _,B,A,h,t,x,T ao,T ae,T aq,T af,AI ar,z,T au,T av⟩ ?_
 rintro _ a bZ ⟨i,J,f0,f1,ag,ah,C,ai,aj,ak,rfl,s,b0,P,al,B,A,h,t,x,ao,ae,aq,af,ar,z,au,av⟩
 revert a
 refine K<|K<|N<|I D<|I D<|BY Lw D<|B5 D D<|M<|G<|Bl D (fun bt=>?_) fun bt=>?_
 ·
  refine AE<|G<|K<|A2<|K<|?_
  intro a s
  refine EJ 10 ?_
  intro b1 ad u
  have B:=V B u
  have A:=V A u
  have t:=Q t u
  have x:=Q x u
  have z:=Q z u
  have h:=Ah h u
  revert a
  refine A3 D<|A3 D<|?_
  obtain⟨b2,aw,rfl⟩:=Ca ((aS (by omega)).below h)
  obtain⟨ax,bg⟩:=getD_some (L:=aQ) (j:=i) bp (by omega)
  have bu:=BJ Nw ((aS (by omega)).below h) bg (o:=aw+i*2)
  refine C0 PL i (aw+i*2) D D<|Cx NW (aw+i*2) D<|Dw AH (Dh [] (Value.int .i64 (ax.p:Int)) [[Value.int .i64 (ax.b:Int)]] bu D) D<|A3 D<|Ee D<|Cx DC 3 D<|Dx AH 3 t D D<|HI (q:=1) D D<|?_
  intro a s;refine EG ?_;revert a
  refine AS Ld D (Mk (ax.p:Int) 0 (mk - 1) _) ?_
  rintro _ _ ⟨d,rfl,b3,rfl⟩
  refine⟨_,D,?_⟩
  refine O D<|M<|G<|K<|N<|I D<|I D<|?_
  have bw:=BJ Nw ((aS (by omega)).below h) bg (o:=aw+i*2)
  refine Cn PL i (aw+i*2) D D<|Am NW (aw+i*2+1) D<|Cg AH (Dh [[Value.int .i64 (ax.p:Int)]] (Value.int .i64 (ax.b:Int)) [] bw D) D<|AS Ld D (Mk (ax.b:Int) 0 2047 _) ?_
  rintro _ _ ⟨f,rfl,b4,rfl⟩
  refine⟨_,D,?_⟩
  refine O D<|M<|G<|K<|?_
  intro a s
  refine Gm (by kernel_rfl) (by kernel_rfl) ?_
  intro b5 ad u
  have B:=V B u
  have A:=V A u
  have t:=Q t u
  have x:=Q x u
  have z:=Q z u
  have h:=Ah h u
  revert a
  refine A3 D<|A3 D<|G_ (p:=256) D D<|A3 D<|N9 (q:=8) D D<|Fv D D<|?_
  obtain⟨b6,rfl⟩:=Ia B
  have bx:=De (View.own B) ((256*d)+(f/8)) (o:=(256*d)+(f/8))
  refine C0 A0 ((256*d)+(f/8)) ((256*d)+(f/8)) D D<|Dw BA bx D<|A3 D<|Ee D<|Cx DC 6 D<|Dx Cr 6 t D D<|A3 D<|G_ (p:=256) D D<|A3 D<|N9 (q:=8) D D<|Fv D D<|?_
  obtain⟨b7,bh,rfl⟩:=Ca (aR.below h)
  have bz:=De (aR.below h) ((256*d)+(f/8)) (o:=bh+((256*d)+(f/8))*1)
  refine C0 A0 ((256*d)+(f/8)) (bh+((256*d)+(f/8))*1) D D<|Dw BA bz D<|?_
  obtain⟨aG,a0⟩:∃g:Nat,g=((C.getD ((256*d)+(f/8)) 0).toNat)^^^((L.getD ((256*d)+(f/8)) 0).toNat):=⟨_,D⟩
  have bA:aG<256:=by rw[a0];exact Nat.xor_lt_two_pow (n:=8) (UInt8.toNat_lt _) (UInt8.toNat_lt _)
  refine Cz (fun _ s=>Eh s (k:=.u8) (p:=(((C.getD ((256*d)+(f/8)) 0).toNat:Nat):Int)) (q:=(((L.getD ((256*d)+(f/8)) 0).toNat:Nat):Int)) (r:=((aG:Nat):Int)) (.inr (.inr D)) D D (by rw[a0];exact u8_xor_nat _ _ (UInt8.toNat_lt _) (UInt8.toNat_lt _)))<|A3 D<|PM (q:=8) D D<|Cz (fun _ s=>C3 s (p:=((f % 8:Nat):Int)) (r:=((f % 8:Nat):Int)) D Tryz.underlying3 Tryz.underlying91 (HY (f % 8)))<|?_
  obtain⟨aH,a1⟩:∃g:Nat,g=aG/2^(f % 8):=⟨_,D⟩
  have bB:aH<256:=by rw[a1];exact Nat.lt_of_le_of_lt (Nat.div_le_self _ _) bA
  refine Cz (fun _ s=>HQ s (k:=.u8) (p:=aG) (n:=f % 8) (r:=aH) D D (by simp only[IntKind.bits];omega) a1.symm)<|?_
  obtain⟨a2,a3⟩:∃g:Nat,g=aH&&&1:=⟨_,D⟩
  have b8:a2<256:=by rw[a3];exact Nat.lt_of_le_of_lt Nat.and_le_right (by decide)
  refine Cz (fun _ s=>Eh s (k:=.u8) (p:=((aH:Nat):Int)) (q:=((1:Nat):Int)) (r:=((a2:Nat):Int)) (.inl D) D D (by rw[a3];exact u8_and_nat _ _ bB (by decide)))<|?_
  by_cases a4:(((a2:Nat):Int):Int)=(((1:Nat):Int):Int)
  ·
   refine J0 a4 D D<|Ff D<|Er<|G<|K<|K<|N<|I D<|I D<|Ae D D D D<|Ae D D D D<|Ae D D D D<|Ae D D D D<|Ae D D D D<|Ae D D D D<|Bn D D<|M<|G<|BS D<|BO<|AW<|BN<|G<|N<|I D<|A_ (q:=1) D D<|O D<|M<|G<|?_
   intro a s
   exact⟨_,by omega,i+1,J,f0,f1,_,_,_,_,_,_,D,At s,by omega,P,al,B,A,h,t,x,T ao,T ae,T aq,T af,AI ar,z,T au,T av⟩
  ·
   have bC:¬(((C.getD (256*d+f/8) 0).toNat^^^(L.getD (256*d+f/8) 0).toNat)/2^(f % 8))&&&1=1:=fun e=>a4 (by rw[a3,a1,a0,e])
   refine Kc a4 D D<|Ff D<|Er<|G<|K<|K<|N<|I D<|I D<|Ad D D D<|I D<|Ad D D D<|I D<|?_
   obtain⟨b9,rfl⟩:=Ia A
   obtain⟨y,an⟩:=getD_some (L:=ak) (j:=d) (DF En (by decide) A) (by omega)
   have bD:=BJ En (View.own A) an (o:=d)
   refine Ad D D D<|Cn DK d d D D<|Ad D D D<|Cg AH (Dh [] (E y) [] bD D) D<|Ad D D D<|I D<|?_
   by_cases bj:((Hz:Nat):Int)≤((y:Nat):Int)
   ·
    refine Ad D D D<|Gy bj D D<|Ba D D<|M<|G<|BS D<|BO<|AW<|BN<|G<|N<|I D<|A_ (q:=1) D D<|O D<|M<|G<|?_
    intro a s
    exact⟨_,by omega,i+1,J,f0,f1,_,_,_,_,_,_,D,At s,by omega,P,al,B,A,h,t,x,T ao,T ae,T aq,T af,AI ar,z,T au,T av⟩
   ·
    have aI:y<Hz:=by omega
    have bE:y<3:=by omega
    refine Ad D D D<|GL bj D D<|Ba D D<|M<|G<|BE D<|AE<|G<|K<|N<|I D<|I D<|FT (p:=256) D D<|I D<|FK (q:=8) D D<|A_ D D<|I D<|I D<|FT (p:=256) D D<|I D<|FK (q:=8) D D<|A_ D D<|?_
    have bF:=De (View.own B) ((256*d)+(f/8)) (o:=(256*d)+(f/8))
    refine Cn A0 ((256*d)+(f/8)) ((256*d)+(f/8)) D D<|Cg BA bF D<|I D<|EM (q:=8) D D<|AT (fun _ s=>C3 s (p:=((f % 8:Nat):Int)) (r:=((f % 8:Nat):Int)) D AH Iz (HY (f % 8)))<|?_
    obtain⟨aJ,a5⟩:∃g:Nat,g=(1*2^(f % 8)) % 256:=⟨_,D⟩
    have bk:aJ<256:=by rw[a5];exact Nat.mod_lt _ (by decide)
    refine AT (fun _ s=>JC s (k:=.u8) (p:=1) (n:=f % 8) (r:=((aJ:Nat):Int)) D D (by simp only[IntKind.bits];omega) (by rw[a5];exact wrap_u8 _))<|?_
    obtain⟨aC,a6⟩:∃g:Nat,g=((C.getD ((256*d)+(f/8)) 0).toNat)^^^aJ:=⟨_,D⟩
    have bG:aC<256:=by rw[a6];exact Nat.xor_lt_two_pow (n:=8) (UInt8.toNat_lt _) bk
    refine AT (fun _ s=>Eh s (k:=.u8) (p:=(((C.getD ((256*d)+(f/8)) 0).toNat:Nat):Int)) (q:=((aJ:Nat):Int)) (r:=((aC:Nat):Int)) (.inr (.inr D)) D D (by rw[a6];exact u8_xor_nat _ _ (UInt8.toNat_lt _) bk))<|?_
    refine Cn A0 ((256*d)+(f/8)) ((256*d)+(f/8)) D D<|?_
    intro bf aA
    refine Bj D (fun Aa aB=>K7 aA (j:=(256*d)+(f/8)) (v:=(Value.int .u8 (((aC:Nat):Int):Int))) B D (by omega) D D (by kernel_rfl) (zs:=bv (C.set ((256*d)+(f/8)) (UInt8.ofNat aC))) (by rw[Le _ bG];simp[bv,List.map_set]) ?_)
    intro a b_ s H U
    have bl:=ar.Df U (fun k S=>(A.lt k S).2)
    have aK:=A9 U ao (Ar t)
    have aL:=A9 U ae (Ar x)
    have ay:=A9 U au (Ar z)
    have A:=Bm A U ar
    have t:=A' t U ao
    have x:=A' x U ae
    have z:=A' z U au
    have h:=Cm h U B
    refine aB _ _ ?_;revert a
    refine M<|G<|K<|N<|I D<|I D<|?_
    have bH:=BJ En (View.own A) an (o:=d)
    refine Cn DK d d D D<|Cg AH (Dh [] (E y) [] bH D) D<|A_ (q:=1) D D<|?_
    refine Cn DK d d D D<|?_
    intro bf aA
    refine Bj D (fun Aa aB=>K7 aA (j:=d) (v:=(E (y+1))) A D (by omega) D D (by kernel_rfl) (zs:=Al Ct (ak.set d (y+1))) (Xn _ _ _) ?_)
    intro a b' s aa X
    have aM:=bl.BR X (fun k S=>(H.lt k S).2)
    have aN:=A9 X aq (Ar t)
    have aO:=A9 X af (Ar x)
    have az:=A9 X av (Ar z)
    have t:=A' t X aq
    have x:=A' x X af
    have z:=A' z X av
    have H:=Bm H X bl.symm
    have h:=Cm h X A
    refine aB _ _ ?_;revert a
    refine M<|G<|K<|?_
    intro a s
    have aP:∀a b,a=f0+(if d=0∧f<512 then 1 else 0)→b=f1+(if d=1∧f<512 then 1 else 0)→Gi L mk (J++[2048*d+f]) (C.set ((256*d)+(f/8)) (UInt8.ofNat aC)) (ak.set d (y+1)) a b:=fun a b bI u=>P.step an bq (by omega) (by omega) bC bE (by rw[a6,a5]) bI u
    revert a
    refine N<|I D<|?_
    by_cases bm:((d:Nat):Int)<((2:Nat):Int)
    ·
     refine D8 bm D D<|I D<|Ad D D D<|I D<|?_
     by_cases bn:((f:Nat):Int)<((512:Nat):Int)
     ·
      refine Ad D D D<|D8 bn D D<|Bn D D<|M<|G<|BS D<|?_
      have ca:=P.XT;have cb:=P.WQ
      have bJ:d=0∨d=1:=by omega
      rcases bJ with rfl|rfl
      ·
       refine N<|I (v:=(E 0)) D<|Dg HW 1 0 0 D D<|AK AH 0 z D D<|A_ (q:=1) D D<|Dg HW 1 0 0 D D<|C_ 0 z D D ?_
       intro cc ad bK aD
       have t:=Ag aD t (by omega)
       have x:=Ag aD x (by omega)
       have H:=Ax H aD ay
       have aa:=Ax aa aD az
       have h:=A1 h aD
       refine M<|Bq<|G<|N<|I D<|A_ (q:=1) D D<|O D<|M<|G<|?_
       intro a s
       exact⟨_,by omega,i+1,J++[2048*0+f],f0+1,f1,_,_,_,_,_,_,D,At s,by omega,aP _ _ (by split<;>omega) (by split<;>omega),P.LC al an (by omega) (by omega) aI,H,aa,h,t,x,T aK,T aL,T aN,T aO,AI aM,bK,T ay,T az⟩
      ·
       refine N<|I (v:=(E 1)) D<|Dg HW 1 1 1 D D<|AK AH 1 z D D<|A_ (q:=1) D D<|Dg HW 1 1 1 D D<|C_ 1 z D D ?_
       intro cd ad bL aE
       have t:=Ag aE t (by omega)
       have x:=Ag aE x (by omega)
       have H:=Ax H aE ay
       have aa:=Ax aa aE az
       have h:=A1 h aE
       refine M<|Bq<|G<|N<|I D<|A_ (q:=1) D D<|O D<|M<|G<|?_
       intro a s
       exact⟨_,by omega,i+1,J++[2048*1+f],f0,f1+1,_,_,_,_,_,_,D,At s,by omega,aP _ _ (by split<;>omega) (by split<;>omega),P.LC al an (by omega) (by omega) aI,H,aa,h,t,x,T aK,T aL,T aN,T aO,AI aM,bL,T ay,T az⟩
     ·
      refine Ad D D D<|DO bn D D<|Bn D D<|M<|G<|BE D<|AE<|Bq<|G<|N<|I D<|A_ (q:=1) D D<|O D<|M<|G<|?_
      intro a s
      exact⟨_,by omega,i+1,J++[2048*d+f],f0,f1,_,_,_,_,_,_,D,At s,by omega,aP _ _ (by split<;>omega) (by split<;>omega),P.LC al an (by omega) (by omega) aI,H,aa,h,t,x,T aK,T aL,T aN,T aO,AI aM,z,T ay,T az⟩
    ·
     refine DO bm D D<|I D<|Ae D D D D<|Ae D D D D<|Ba D D<|M<|G<|BE D<|AE<|Bq<|G<|N<|I D<|A_ (q:=1) D D<|O D<|M<|G<|?_
     intro a s
     exact⟨_,by omega,i+1,J++[2048*d+f],f0,f1,_,_,_,_,_,_,D,At s,by omega,aP _ _ (by split<;>omega) (by split<;>omega),P.LC al an (by omega) (by omega) aI,H,aa,h,t,x,T aK,T aL,T aN,T aO,AI aM,z,T ay,T az⟩
 ·
  refine BO<|AW<|AW<|BN<|G<|K<|?_
  intro a s
  refine EJ 5 ?_
  intro cf ad u
  have B:=V B u
  have A:=V A u
  have x:=Q x u
  have z:=Q z u
  have h:=Ah h u
  revert a
  refine A3 D<|A3 D<|Ht HW z D<|Ff D<|Ff D<|?_
  intro a s;refine EG ?_;revert a
  refine Bi 0 2 x D D ?_
  intro cg ad bM a7
  have B:=Ax B a7 ae
  have A:=Ax A a7 af
  have h:=A1 h a7
  refine M<|G<|AA<|?_
  intro a s
  refine YY s D D D D bM HW D (by kernel_rfl) ?_
  exact⟨J,C,ak,f0,f1,_,_,_,_,D,B,A,P,al,h⟩
theorem XY(p:Nat){l:List UInt8}(f:CT w)(g:2≤p∧p<4096)(i:View w (.slice q 256 c) 256 1 (bv l))(j:l.length=256):
 Calls Tryz.prog 40 #[E p,F q 256 c] w fun e w'=>∃m x n:Nat,∃q c,e=.returned (.tuple #[.int .i64 ((m:Nat):Int),.slice q n c,.int .i64 ((x:Nat):Int)])∧decide (x=0)=Fr.Di p l∧Below w.heap.size w w':=by
 refine(Ro p q c l w f g i j).mono fun e w' h=>?_
 rcases h with⟨⟨k,r,c',x,rfl,d,a,o,s⟩,b⟩|⟨⟨x,rfl,d,a⟩,b⟩
 ·exact⟨_,_,_,_,_,D,by rw[decide_eq_true a,o],b⟩
 ·exact⟨0,x,0,none,0,D,by rw[decide_eq_false d,a],b⟩
theorem YC{p:Nat}{l:List UInt8}(m:CT w)(x:2≤p∧p<4096)(y:256*(p+1)≤n)(hn:n≤1048576)(h:View w (.slice q n c) n 1 (bv l))(o:l.length=n):
 Calls Tryz.prog 21 #[F q n c,E p] w fun e w'=>e=.returned (.bool (Fr.Di p ((l.drop (256*p)).take 256)))∧Below w.heap.size w w':=by
 have g:Below w.heap.size w w:=Bu _ _
 refine Bx QZ D 36 ?_
 refine K<|N<|O D<|M<|G<|K<|N<|I D<|I D<|FT (p:=256) D D<|I D<|A_ (q:=1) D D<|FT (p:=256) D D<|?_
 obtain⟨i,r,d,z⟩:=Li A0 h (256*p) (256*(p+1))
 have d:=d _ h
 simp only[Nat.mul_one,Ge,Hf]at d
 have A:((l.drop (256*p)).take ((256*(p+1)) - (256*p))).length=(256*(p+1)) - (256*p):=by have:=o;simp only[List.length_take,List.length_drop];omega
 refine AT (fun _ f=>Ke f D (256*p) (256*(p+1)) (k:=.i64) (k':=.i64) D D r)<|?_
 have j:256*(p+1) - 256*p=256:=by omega
 intro a f
 replace f:=f.HN 17 D (show(F i ((256*(p+1)) - (256*p)) (c - (256*p)))=(F i 256 (c - (256*p)))from by rw[j])
 revert a
 rw[j]at d
 have s:((l.drop (256*p)).take 256).length=256:=by simp only[List.length_take,List.length_drop];omega
 refine O D<|M<|G<|K<|K<|N<|I D<|?_
 have t:¬(((p:Nat):Int)<((2:Nat):Int)):=by omega
 refine DO t D D<|M<|G<|BE D<|AE<|G<|K<|N<|I D<|I D<|AS MQ D (XY p m (by omega) d s) ?_
 rintro _ B ⟨C,H,J,L,P,rfl,u,v⟩
 refine⟨_,D,?_⟩
 have g:=Ah g v
 refine I D<|BC D D<|BC D D<|BC D D<|O D<|O D<|O D<|M<|G<|K<|N<|I D<|Dk (q:=(0:Nat)) D D<|O D<|M<|G<|AA<|AZ D<|?_
 exact⟨congrArg (fun b=>Ending.returned (.bool b)) (by simpa using u),g⟩
theorem V6{p:Nat}{l:List UInt8}(b:CT w)(h:2≤p∧p<4096)(i:256*(p+1)≤n)(hn:n≤1048576)(d:View w (.slice q n c) n 1 (bv l))(f:l.length=n):
 Calls Tryz.prog 9 #[F q n c,E p] w fun e w'=>e=.returned (.bool (Fr.Di p ((l.drop (256*p)).take 256)))∧Below w.heap.size w w':=by
 have a:Below w.heap.size w w:=Bu _ _
 refine Bx Sj D 8 ?_
 refine K<|N<|O D<|M<|G<|K<|N<|I D<|I D<|AS QZ D (YC (p:=p) b (by omega) (by omega) (by omega) d f) ?_
 rintro _ j ⟨rfl,g⟩
 refine⟨_,D,?_⟩
 have a:=Ah a g
 refine O D<|M<|G<|AA<|AZ D<|?_
 exact⟨D,a⟩
end Go.Proofs.YtcdaflcjhimimaaGreatDoor
namespace Go.Proofs.YtcdaflcjhimimaaGreatDoor
open Go.RowKit
variable {n:Nat}
def Ft(a b:CY):Nat:=(b.filter (fun e=>decide (e∉a))).length+(a.filter (fun e=>decide (e∉b))).length
theorem Vp{a b:CY}(h:Ft a b=0):(∀e∈b,e∈a)∧(∀e∈a,e∈b):=by
 unfold Ft at h
 have c:(b.filter (fun e=>decide (e∉a)))=[]:=List.length_eq_zero_iff.1 (by omega)
 have d:(a.filter (fun e=>decide (e∉b)))=[]:=List.length_eq_zero_iff.1 (by omega)
 rw[List.filter_eq_nil_iff]at c d
 exact⟨fun e he=>by have:=c e he;simpa using this,fun e he=>by have:=d e he;simpa using this⟩
theorem Zi:∀(a b:CY),a.Pairwise (fun x y=>B' x.1 y.1<0)→b.Pairwise (fun x y=>B' x.1 y.1<0)→(∀e∈a,e.1.length=32)→(∀e∈b,e.1.length=32)→(∀e∈b,e∈a)→(∀e∈a,e∈b)→a=b:=by
 intro a
 induction a with
 |nil=>
  intro b _ _ _ _ h _
  cases b with
  |nil=>rfl
  |cons y t=>have:=h y (by simp);cases this
 |cons x s k=>
  intro b c d g i j f
  cases b with
  |nil=>have:=f x (by simp);cases this
  |cons y t=>
   rw[List.pairwise_cons]at c d
   have l:x=y:=by
    rcases List.mem_cons.1 (f x (by simp))with q|q
    ·exact q
    ·rcases List.mem_cons.1 (j y (by simp))with r|r
     ·exact r.symm
     ·have m:=d.1 x q
      have n:=c.1 y r
      have o:=JL x.1 y.1 (by rw[g x (by simp),i y (by simp)])
      omega
   subst l
   have self:¬B' x.1 x.1<0:=by rw[I7];omega
   congr 1
   refine k t c.2 d.2 (fun e he=>g e (by simp[he])) (fun e he=>i e (by simp[he])) (fun e he=>?_) (fun e he=>?_)
   ·rcases List.mem_cons.1 (j e (by simp[he]))with q|q
    ·subst q;exact absurd (d.1 _ he) self
    ·exact q
   ·rcases List.mem_cons.1 (f e (by simp[he]))with q|q
    ·subst q;exact absurd (c.1 _ he) self
    ·exact q
theorem To{a1 a2 b1 b2:CY}(a:∀e∈a1,e∉b2)(b:∀e∈a2,e∉b1):Ft (a1++a2) (b1++b2)=Ft a1 b1+Ft a2 b2:=by
 have c:b1.filter (fun e=>decide (e∉a1++a2))=b1.filter (fun e=>decide (e∉a1)):=by
  apply List.filter_congr
  intro e he
  have:e∉a2:=fun q=>b e q he
  simp[this]
 have d:b2.filter (fun e=>decide (e∉a1++a2))=b2.filter (fun e=>decide (e∉a2)):=by
  apply List.filter_congr
  intro e he
  have:e∉a1:=fun q=>a e q he
  simp[this]
 have f:a1.filter (fun e=>decide (e∉b1++b2))=a1.filter (fun e=>decide (e∉b1)):=by
  apply List.filter_congr
  intro e he
  have:=a e he
  simp[this]
 have g:a2.filter (fun e=>decide (e∉b1++b2))=a2.filter (fun e=>decide (e∉b2)):=by
  apply List.filter_congr
  intro e he
  have:=b e he
  simp[this]
 unfold Ft
 rw[List.filter_append,List.filter_append,c,d,f,g]
 simp only[List.length_append]
 omega
theorem Vl{Ck:Type}[DecidableEq Ck]:∀(L c:List Ck),L.Nodup→(∀k∈L,k∈c)→L.length≤c.length:=by
 intro L
 induction L with
 |nil=>intro c _ _;exact Nat.zero_le _
 |cons x t g=>
  intro c hn d
  rw[List.nodup_cons]at hn
  have e:=d x (by simp)
  have h:=g (c.erase x) hn.2 (fun k f=>(List.mem_erase_of_ne (a:=k) (b:=x) (by rintro rfl;exact hn.1 f)).2 (d k (by simp[f])))
  rw[List.length_erase_of_mem e]at h
  have:=List.length_pos_of_mem e
  simp only[List.length_cons]
  omega
theorem Ub{m Dp:CY}{c:Nat}(g:m.Pairwise (fun x y=>B' x.1 y.1<0))(d:NA m Dp c):Ft m Dp≤2*c:=by
 obtain⟨b,f,i,j⟩:=d.aJ
 have key:∀(L a:CY),L.Pairwise (fun x y=>B' x.1 y.1<0)→(∀e∈L,e∈a∨e.1∈b)→(L.filter (fun e=>decide (e∉a))).length≤c:=by
  intro L a l n
  have hn:((L.filter (fun e=>decide (e∉a))).map (fun e=>e.1)).Nodup:=by
   rw[List.nodup_iff_pairwise_ne,List.pairwise_map]
   refine(l.sublist List.filter_sublist).imp (fun {x y} h e=>?_)
   rw[e,I7]at h
   omega
  have p:∀k∈(L.filter (fun e=>decide (e∉a))).map (fun e=>e.1),k∈b:=by
   intro k f
   obtain⟨e,he,rfl⟩:=List.mem_map.1 f
   obtain⟨q,r⟩:=List.mem_filter.1 he
   exact(n e q).resolve_left (by simpa using r)
  have:=Vl _ _ hn p
  rw[List.length_map]at this
  omega
 have a1:=key Dp m d.o i
 have a2:=key m Dp g j
 unfold Ft
 omega
theorem Vq{l m k:List UInt8}(hn:n≤256)(h:n≤Da l m)(b:n≤Da m k):n≤Da l k:=(G1 hn).2 (fun i a=>((G1 hn).1 h i a).trans ((G1 hn).1 b i a))
structure Od (Cv:CY) (old:Dz):Prop where
 z:∀x∈old,x.2.1≠0
 r:Cv≠[]→∃x∈old,x.1=0
 c:∀x∈Cv,∀y∈Cv,x.1≠y.1→∀j,j≤Da x.1 y.1→∃z∈old,z.1=j∧j≤Da z.2.2 x.1
theorem Zh{old:Dz}{k:List UInt8}(b:∀x∈old,x.2.1≠0)(h:∃z∈old,z.1=n∧n≤Da z.2.2 k):FH old k n≠0:=by
 obtain⟨z,c,d,e⟩:=h
 unfold FH
 cases a:old.find? (fun x=>decide (x.1=n)&&decide (n≤Da x.2.2 k))with
 |none=>
  rw[List.find?_eq_none]at a
  exact absurd (by simp[d,e]) (a z c)
 |some x=>exact b x (List.mem_of_find?_eq_some a)
theorem Xe{old:Dz}{k:List UInt8}(h:FH old k n≠0):∃z∈old,z.1=n∧n≤Da z.2.2 k:=by
 unfold FH at h
 cases a:old.find? (fun x=>decide (x.1=n)&&decide (n≤Da x.2.2 k))with
 |none=>rw[a]at h;exact absurd D h
 |some x=>
  have:=List.find?_some a
  simp only[Bool.and_eq_true,decide_eq_true_eq]at this
  exact⟨x,List.mem_of_find?_eq_some a,this⟩
theorem Tb{old:Dz}(k:List UInt8)(f:∀x∈old,x.2.1≠0)(h:∃x∈old,x.1=0):(Gj old k).2≠0:=by
 have key:∀(old:Dz) (a:Int×Nat),(∀x∈old,x.2.1≠0)→(a.1= -1∨(0≤a.1∧a.2≠0))→((0≤a.1)∨∃x∈old,x.1=0)→(old.foldl (HB k) a).2≠0:=by
  intro old
  induction old with
  |nil=>
   intro a _ b c
   rcases c with q|⟨x,q,_⟩
   ·rcases b with r|r
    ·omega
    ·exact r.2
   ·cases q
  |cons y l g=>
   intro a d b c
   rw[List.foldl_cons]
   refine g _ (fun x i=>d x (by simp[i])) ?_ ?_
   ·unfold HB
    split
    ·exact .inr ⟨Int.natCast_nonneg _,d y (by simp)⟩
    ·exact b
   ·unfold HB
    split
    ·exact .inl (Int.natCast_nonneg _)
    ·rename_i hn
     rcases c with q|⟨x,q,e⟩
     ·exact .inl q
     ·rcases List.mem_cons.1 q with r|r
      ·subst r
       rw[e]at hn
       rcases b with s|s
       ·exact absurd ⟨by rw[s];decide,Nat.zero_le _⟩ hn
       ·exact .inl s.1
      ·exact .inr ⟨x,r,e⟩
 unfold Gj
 exact key old _ f (.inl D) (.inr h)
def I5(old:Dz)(a:List B7)(n:Nat):Nat:=(old.filter (fun z=>decide (n≤z.1)&&a.any (fun x=>decide (n≤Da z.2.2 x.k.l)))).length
theorem Sm{Ck:Type}(p q r:Ck→Bool):∀(l:List Ck),(∀z∈l,¬(p z=true∧q z=true))→(∀z∈l,p z=true→r z=true)→(∀z∈l,q z=true→r z=true)→(l.filter p).length+(l.filter q).length≤(l.filter r).length:=by
 intro l
 induction l with
 |nil=>intro _ _ _;exact Be _
 |cons a l f=>
  intro c d e
  have i:=f (fun z b=>c z (by simp[b])) (fun z b=>d z (by simp[b])) (fun z b=>e z (by simp[b]))
  have a1:=c a (by simp)
  have a2:=d a (by simp)
  have g:=e a (by simp)
  rw[List.filter_cons,List.filter_cons,List.filter_cons]
  cases h:p a<;>cases j:q a<;>cases k:r a<;>simp_all<;>omega
theorem Sx{old:Dz}{a:List B7}{x:B7}(b:x∈a):(F3 old x.k.l n).length≤I5 old a n:=by
 unfold F3 I5
 have:=Sm (fun z:Nat×Nat×List UInt8=>decide (n≤z.1)&&decide (n≤Da z.2.2 x.k.l)) (fun _=>false) (fun z=>decide (n≤z.1)&&a.any (fun x=>decide (n≤Da z.2.2 x.k.l))) old (fun z _ h=>by simp at h) (fun z _ h=>?_) (fun z _ h=>by simp at h)
 ·omega
 ·simp only[Bool.and_eq_true,decide_eq_true_eq]at h
  simp only[Bool.and_eq_true,decide_eq_true_eq,List.any_eq_true]
  exact⟨h.1,x,b,h.2⟩
theorem W4{old:Dz}{g:List B7}(h:EA g n)(hn:n<256):I5 old (g.take (BF g n)) (n+1)+I5 old (g.drop (BF g n)) (n+1)≤I5 old g n:=by
 unfold I5
 apply Sm
 ·rintro z _ ⟨i,k⟩
  simp only[Bool.and_eq_true,decide_eq_true_eq,List.any_eq_true]at i k
  obtain⟨_,x,j,a⟩:=i
  obtain⟨_,y,l,b⟩:=k
  have c:=(G1).1 a n (by omega)
  have d:=(G1).1 b n (by omega)
  have e:=JZ g n x j
  have f:=J5 h hn y l
  omega
 all_goals
  intro z _ i
  simp only[Bool.and_eq_true,decide_eq_true_eq,List.any_eq_true]at i⊢
  obtain⟨m,x,j,a⟩:=i
  refine⟨by omega,x,?_,by omega⟩
  first|exact(List.take_sublist _ _).subset j|exact(List.drop_sublist _ _).subset j
theorem IY{L:List B7}{e:List UInt8×List UInt8}(h:e∈A7 L):∃x∈L,e=(x.k.l,x.s.v):=by
 obtain⟨x,a,rfl⟩:=List.mem_map.1 h
 exact⟨x,a,D⟩
theorem LV{L:List B7}{x:B7}(h:x∈L):(x.k.l,x.s.v)∈A7 L:=List.mem_map.2 ⟨x,h,D⟩
theorem SU{L c:List B7}(g:EA L n)(h:EA c n)(hn:n<256):Ft (A7 L) (A7 c)=Ft (A7 (L.take (BF L n))) (A7 (c.take (BF c n)))+Ft (A7 (L.drop (BF L n))) (A7 (c.drop (BF c n))):=by
 have key:∀ {A B:List B7},(∀x∈A,Cu x.k.l n=0)→(∀x∈B,Cu x.k.l n=1)→∀e,e∈A7 A→e∈A7 B→False:=by
  intro A B i j e d f
  obtain⟨x,m,rfl⟩:=IY d
  obtain⟨y,o,p⟩:=IY f
  have a:=i x m
  have b:=j y o
  rw[(Prod.mk.inj p).1]at a
  omega
 have:=To (a1:=A7 (L.take (BF L n))) (a2:=A7 (L.drop (BF L n))) (b1:=A7 (c.take (BF c n))) (b2:=A7 (c.drop (BF c n))) (fun e d f=>key (JZ L n) (J5 h hn) e d f) (fun e d f=>key (JZ c n) (J5 g hn) e f d)
 rw[←this,J4,Ku,J4,Ku,List.take_append_drop,List.take_append_drop]
theorem Py{L:List B7}(h:L.Pairwise Ez):(A7 L).Pairwise (fun x y=>B' x.1 y.1<0):=by unfold A7;rw[List.pairwise_map];exact h
theorem Ry(L:List B7):∀e∈A7 L,e.1.length=32:=by
 intro e he
 obtain⟨x,_,rfl⟩:=IY he
 exact x.k.h
theorem WR{L a:List B7}(b:L.Pairwise Ez)(c:a.Pairwise Ez)(h:¬A7 L=A7 a):1≤Ft (A7 L) (A7 a):=by
 rcases Nat.eq_zero_or_pos (Ft (A7 L) (A7 a))with q|q
 ·obtain⟨d,e⟩:=Vp q
  exact absurd (Zi _ _ (Py b) (Py c) (Ry L) (Ry a) d e) h
 ·exact q
theorem Vt{L a:List B7}{x:B7}(b:x∈a)(h:(x.k.l,x.s.v)∉A7 L):1≤Ft (A7 L) (A7 a):=by
 have:(x.k.l,x.s.v)∈(A7 a).filter (fun e=>decide (e∉A7 L)):=List.mem_filter.2 ⟨LV b,by simpa using h⟩
 have:=List.length_pos_of_mem this
 unfold Ft
 omega
structure X_ (old:Dz) (L ZB:List B7) (n next:Nat) (CO:Dz) (r:Nat×Nat×Dz):Prop where
 Ak:r.2.1≤next+(257 - n)*Ft (A7 L) (A7 ZB)
 sb:∃Az,r.2.2=CO++Az∧Az.length≤I5 old ZB n+2*((257 - n)*Ft (A7 L) (A7 ZB))+1∧(∀z∈Az,z.2.1≠0)∧(ZB≠[]→∃z∈Az,z.1=n)∧(∀x∈ZB,∀y∈ZB,x.k.l≠y.k.l→∀j,n≤j→j≤Da x.k.l y.k.l→∃z∈Az,z.1=j∧j≤Da z.2.2 x.k.l)
theorem YU{old:Dz}{Cv:CY}(E:Od Cv old):∀(f n:Nat) (L d:List B7) (next:Nat) (CO:Dz),f+n=257→n≤256→EA L n→EA d n→(∀x∈L,(x.k.l,x.s.v)∈Cv)→1≤next→X_ old L d n next CO (DT f old Cv (A7 L) (A7 d) n next CO):=by
 intro f
 induction f with
 |zero=>intro n L d next CO w o;omega
 |succ f U=>
  intro n L d next CO au hn M i I Y
  match F:d with
  |[]=>
   rw[Qm f old Cv (A7 L) (by simp[A7]) n next CO]
   exact⟨Nat.le_add_right _ _,[],by simp,Nat.zero_le _,(fun z g=>by cases g),fun h=>absurd D h,(fun x Z=>by cases Z)⟩
  |x::t=>
   rw[←F]at i⊢
   have Q:d[0]? =some x:=by rw[F];rfl
   have B:x∈d:=by rw[F];simp
   have aa:A7 L=A7 d→2≤d.length→FH old x.k.l n≠0:=by
    intro e o
    have m:∃y∈d,x.k.l≠y.k.l:=by
     rw[F]at o i
     match t,o with
     |y::av,_=>
      refine⟨y,by rw[F];simp,fun ab=>?_⟩
      have:=(List.pairwise_cons.1 i.aI).1 y (by simp)
      unfold Ez at this
      rw[ab,I7]at this
      exact absurd this (by decide)
    obtain⟨y,m,A⟩:=m
    have J:∀z∈d,(z.k.l,z.s.v)∈Cv:=by
     intro z g
     have:=LV g
     rw[←e]at this
     obtain⟨u,hu,R⟩:=IY this
     rw[R]
     exact I u hu
    exact Zh E.z (E.c _ (J x B) _ (J y m) A n (i.aO x B y m))
   by_cases G:A7 L=A7 d∧FH old x.k.l n≠0
   ·rw[RO Q G.1 G.2]
    have J:∀z∈d,(z.k.l,z.s.v)∈Cv:=by
     intro z g
     have:=LV g
     rw[←G.1]at this
     obtain⟨u,hu,R⟩:=IY this
     rw[R]
     exact I u hu
    refine⟨Nat.le_add_right _ _,F3 old x.k.l n,D,?_,?_,?_,?_⟩
    ·have:=Sx (old:=old) (n:=n) B
     omega
    ·intro z g;exact E.z z (List.mem_filter.1 g).1
    ·intro _
     obtain⟨z,w,o,N⟩:=Xe G.2
     exact⟨z,List.mem_filter.2 ⟨w,by simp[o,N]⟩,o⟩
    ·intro u hu y m A j ad K
     obtain⟨z,w,o,N⟩:=E.c _ (J u hu) _ (J y m) A j K
     have ae:=Mi u.k.l y.k.l
     refine⟨z,List.mem_filter.2 ⟨w,?_⟩,o,N⟩
     have a:n≤Da z.2.2 u.k.l:=by simp only at N;omega
     have b:=Vq hn a (i.aO u hu x B)
     simp only[Bool.and_eq_true,decide_eq_true_eq]
     exact⟨by omega,b⟩
   ·by_cases w:d.length=1
    ·have af:t=[]:=by rw[F]at w;simpa using w
     rw[PN Q D G w]
     have aw:=Sx (old:=old) (n:=n) B
     refine⟨?_,(if A7 L=A7 d then F3 old x.k.l n else [])++[(n,(if Fb Cv x.k.l x.s.v then(Gj old x.k.l).2 else next),x.k.l)],?_,?_,?_,?_,?_⟩
     ·show(if Fb Cv x.k.l x.s.v=true then next else next+1)≤_
      split
      ·exact Nat.le_add_right _ _
      ·rename_i S
       have ag:(x.k.l,x.s.v)∉A7 L:=by
        intro q
        obtain⟨u,hu,e⟩:=IY q
        have:=I u hu
        rw[←e]at this
        refine S ?_
        unfold Fb
        rw[List.any_eq_true]
        exact⟨_,this,by simp⟩
       have:=Vt B ag
       have:=Nat.mul_le_mul (show 1≤257 - n by omega) this
       omega
     ·show(if A7 L=A7 d then CO++F3 old x.k.l n else CO)++_=_
      split<;>simp
     ·rw[List.length_append]
      split<;>simp<;>omega
     ·intro z g
      rcases List.mem_append.1 g with q|q
      ·split at q
       ·exact E.z z (List.mem_filter.1 q).1
       ·cases q
      ·simp at q;subst q
       show(if Fb Cv x.k.l x.s.v=true then(Gj old x.k.l).2 else next)≠0
       split
       ·rename_i S
        refine Tb _ E.z (E.r ?_)
        rintro rfl
        cases S
       ·omega
     ·intro _;exact⟨_,List.mem_append_right _ (List.mem_singleton_self _),D⟩
     ·intro u hu y m A
      rw[F,af]at hu m
      simp at hu m
      rw[hu,m]at A
      exact absurd D A
    ·have o:2≤d.length:=by
      have:=List.length_pos_of_mem B
      omega
     have C:=i.lt hn o
     have A:¬A7 L=A7 d:=fun e=>G ⟨e,aa e o⟩
     have ax:=WR M.aI i.aI A
     have ah:(if A7 L=A7 d then CO++F3 old x.k.l n else CO)=CO:=if_neg A
     generalize O:DT f old Cv ((A7 L).take (D4 (A7 L) n)) ((A7 d).take (D4 (A7 d) n)) (n+1) next CO=r1
     generalize P:DT f old Cv ((A7 L).drop (D4 (A7 L) n)) ((A7 d).drop (D4 (A7 d) n)) (n+1) r1.2.1 r1.2.2=r2
     rw[Su Q ah.symm G w O.symm P.symm]
     rw[I9,I9,←J4,←J4]at O
     rw[I9,I9,←Ku,←Ku]at P
     have a1:=U (n+1) (L.take (BF L n)) (d.take (BF d n)) next CO (by omega) (by omega) (M.left C) (i.left C) (fun z g=>I z ((List.take_sublist _ _).subset g)) Y
     rw[O]at a1
     have ai:=(JO f old Cv (A7 (L.take (BF L n))) (A7 (d.take (BF d n))) (n+1) next CO).1
     rw[O]at ai
     have a2:=U (n+1) (L.drop (BF L n)) (d.drop (BF d n)) r1.2.1 r1.2.2 (by omega) (by omega) (M.right C) (i.right C) (fun z g=>I z ((List.drop_sublist _ _).subset g)) (by omega)
     rw[P]at a2
     have aj:=(JO f old Cv (A7 (L.drop (BF L n))) (A7 (d.drop (BF d n))) (n+1) r1.2.1 r1.2.2).1
     rw[P]at aj
     have es:=SU M i C
     have ay:=W4 (old:=old) i C
     obtain⟨az,ak,t1,aA,al,_,an⟩:=a1
     obtain⟨aB,ao,t2,aC,aq,_,ar⟩:=a2
     have em:(257 - n)*Ft (A7 L) (A7 d)=(257 - (n+1))*Ft (A7 (L.take (BF L n))) (A7 (d.take (BF d n)))+(257 - (n+1))*Ft (A7 (L.drop (BF L n))) (A7 (d.drop (BF d n)))+Ft (A7 L) (A7 d):=by
      rw[←Nat.mul_add,←es,←Nat.succ_mul]
      congr 1
      omega
     refine⟨?_,ak++ao++[(n,r2.2.1,x.k.l)],?_,?_,?_,?_,?_⟩
     ·show r2.2.1+1≤_
      omega
     ·show r2.2.2++_=_
      rw[t2,t1];simp only[List.append_assoc]
     ·simp only[List.length_append,List.length_singleton]
      omega
     ·intro z g
      rcases List.mem_append.1 g with q|q
      ·rcases List.mem_append.1 q with q|q
       ·exact al z q
       ·exact aq z q
      ·simp at q;subst q
       show r2.2.1≠0
       omega
     ·intro _;exact⟨_,List.mem_append_right _ (List.mem_singleton_self _),D⟩
     ·intro u hu y m X j ad K
      have ae:=Mi u.k.l y.k.l
      rcases Nat.lt_or_ge n j with q|q
      ·have aD:Cu u.k.l n=Cu y.k.l n:=(G1 (n:=j)).1 K n q
       rw[←List.take_append_drop (BF d n) d]at hu m
       rcases List.mem_append.1 hu with p|p
       ·rcases List.mem_append.1 m with H|H
        ·obtain⟨z,h,T⟩:=an u p y H X j q K
         exact⟨z,List.mem_append.2 (.inl (List.mem_append.2 (.inl h))),T⟩
        ·have:=JZ d n u p
         have:=J5 i C y H
         omega
       ·rcases List.mem_append.1 m with H|H
        ·have:=J5 i C u p
         have:=JZ d n y H
         omega
        ·obtain⟨z,h,T⟩:=ar u p y H X j q K
         exact⟨z,List.mem_append.2 (.inl (List.mem_append.2 (.inr h))),T⟩
      ·obtain rfl:j=n:=by omega
       exact⟨_,List.mem_append_right _ (List.mem_singleton_self _),D,i.aO x B u hu⟩
theorem OQ:∀(m:CY),(∀e∈m,e.1.length=32)→∃L,A7 L=m:=by
 intro m
 induction m with
 |nil=>intro _;exact⟨[],D⟩
 |cons e m b=>
  intro h
  obtain⟨L,a⟩:=b (fun x c=>h x (by simp[c]))
  exact⟨⟨⟨e.1,h e (by simp)⟩,⟨none,e.2,0⟩⟩::L,by unfold A7 at a⊢;rw[List.map_cons,a]⟩
theorem RV{L:List B7}{m:CY}(h:A7 L=m)(a:m.Pairwise (fun x y=>B' x.1 y.1<0)):L.Pairwise Ez:=by
 subst h
 unfold A7 at a
 rw[List.pairwise_map]at a
 exact a
structure X1 (ms:List CY) (m:CY) (t:Nat):Prop where
 e:(Dm ms).1=m
 i:Od m (Dm ms).2.1
 o:m.Pairwise (fun x y=>B' x.1 y.1<0)
 l:∀e∈m,e.1.length=32
 n:(Dm ms).2.2≤2+ms.length+514*t
 s:(Dm ms).2.1.length≤ms.length+1028*t
 k:t≤100000→ms.length≤2000000→Ii ms
theorem YI{ms:List CY}{m:CY}{t:Nat}(h:H' ms m t):X1 ms m t:=by
 induction h with
 |nil=>exact⟨D,⟨(fun x a=>by cases a),fun h=>absurd D h,(fun x a=>by cases a)⟩,.nil,(fun e he=>by cases he),Be _,Nat.zero_le _,fun _ _ i m hm=>by simp at hm⟩
 |@snoc ms m Dp t c h s b=>
  have hlen:=h.len
  have Ab:=Ub b.o s
  obtain⟨L,g⟩:=OQ m b.l
  obtain⟨B,f⟩:=OQ Dp s.l
  have N:=M8 ms
  have A:=YU (old:=(Dm ms).2.1) (Cv:=m) b.i 257 0 L B (Dm ms).2.2 [] D (by omega) (EA.zero (RV g b.o)) (EA.zero (RV f s.o)) (fun x a=>by rw[←g];exact LV a) (by omega)
  rw[g,f]at A
  have E:DT 257 (Dm ms).2.1 m m Dp 0 (Dm ms).2.2 []=CZ (Dm ms) Dp:=by unfold CZ;rw[b.e]
  rw[E]at A
  obtain⟨Ak,Az,w,F,G,r1,H⟩:=A
  rw[g,f]at Ak F
  rw[List.nil_append]at w
  have O:I5 (Dm ms).2.1 B 0≤(Dm ms).2.1.length:=List.length_filter_le _ _
  have P:=b.n
  have Q:=b.s
  have R:(257 - 0)*Ft m Dp≤257*(2*c):=Nat.mul_le_mul_left _ Ab
  have b1:(CZ (Dm ms) Dp).2.1≤(Dm ms).2.2+514*c:=by omega
  have b2:(CZ (Dm ms) Dp).2.2.length≤(Dm ms).2.1.length+1028*c+1:=by rw[w];omega
  have p:Dm (ms++[Dp])=(Dp,(CZ (Dm ms) Dp).2.2,(CZ (Dm ms) Dp).2.1+1):=PZ ms Dp
  refine⟨by rw[p],?_,s.o,s.l,?_,?_,?_⟩
  ·rw[p]
   show Od Dp (CZ (Dm ms) Dp).2.2
   rw[w]
   refine⟨G,fun z=>r1 (by rintro rfl;exact z (by rw[←f];rfl)),?_⟩
   intro x a y C z j I
   rw[←f]at a C
   obtain⟨u,hu,rfl⟩:=IY a
   obtain⟨v,J,rfl⟩:=IY C
   exact H u hu v J z j (Nat.zero_le _) I
  ·rw[p,List.length_append]
   simp only[List.length_singleton]
   omega
  ·rw[p,List.length_append]
   simp only[List.length_singleton]
   omega
  ·intro S K i x d
   rw[List.length_append,List.length_singleton]at K
   have T:=s.n
   rcases Nat.lt_or_ge i ms.length with q|q
   ·rw[List.getElem?_append_left q]at d
    rw[List.take_append_of_le_length (by omega)]
    exact b.k (by omega) (by omega) i x d
   ·rw[List.getElem?_append_right q]at d
    have M:i=ms.length:=by
     rcases Nat.eq_zero_or_pos (i - ms.length)with r|r
     ·omega
     ·rw[List.getElem?_eq_none (by simp;omega)]at d;cases d
    subst M
    rw[Nat.sub_self]at d
    simp at d
    subst d
    rw[List.take_append_of_le_length (Be _),List.take_length]
    exact⟨by omega,by omega,by omega,by omega,by omega⟩
theorem Ys{ms:List CY}{m:CY}{t:Nat}(h:H' ms m t)(a:t≤100000)(b:ms.length≤2000000):Ii ms:=(YI h).k a b
end Go.Proofs.YtcdaflcjhimimaaGreatDoor
