/- Laws and walks on the road to SalvageNever and SalvageHeals (part M16). No conditions beyond each law's own. -/
import Derived.Test.YtcdaflcjhimimaaGreatDoorM01
import Derived.Test.YtcdaflcjhimimaaGreatDoorM15
import Derived.Test.YtcdaflcjhimimaaGreatDoorM04
import Derived.Test.YtcdaflcjhimimaaGreatDoorM07
import Derived.Test.YtcdaflcjhimimaaGreatDoorM05
import Derived.Test.YtcdaflcjhimimaaGreatDoorM14
set_option linter.unusedVariables false
namespace Go.Proofs.YtcdaflcjhimimaaGreatDoor
open Go.RowKit
set_option maxRecDepth 100000
set_option maxHeartbeats 1000000
theorem Ss{wd next root:Nat}{AQ:Option Addr}{ce:Nat}{CJ:Option Addr}{no co:Nat}{Bf:Option Addr}{B6 cos:Nat}{D':List Jd}{C4:List Co}{y:List B7}{AO:Option Addr}{u AJ:Nat}{BX:List B7}{w:World}{r:Nat×Nat×Dz}(aq:CT w)(he:View w (F AQ 257 ce) 257 32 (Al Ex D'))(ar:D'.length=257)(ag:View w (F CJ no co) no 33 (Al FJ y))(ah:y.length=no)(au:View w (F Bf B6 cos) B6 66 (Al CA C4))(av:C4.length=B6)(aw:View w (F AO u AJ) u 33 (Al FJ BX))(ax:BX.length=u)(ai:∀x∈y,B8.ok w x.s)(ay:∀x∈BX,B8.ok w x.s)(az:y.Pairwise Ez)(aA:BX.Pairwise Ez)(aB:∀x∈BX,x.s.v.length≤128)(aC:∀x∈C4,x.p≤next)(aj:no≤100000000)(aD:B6≤100000000000)(aE:u≤100000000)(aF:r=DT 257 (C4.map CK) (A7 y) (A7 y) (A7 BX) 0 next [])(aG:r.2.2.length≤900000000000)(aW:r.2.1≤next+800000000000)(aH:r.2.1≤1152921504606846976):
 Calls Tryz.prog 43 #[E wd,F AQ 257 ce,Value.agg (flat [[E root],[F CJ no co],[F Bf B6 cos]]),E next,F AO u AJ] w fun e w'=>∃X C As Ay Y U cs DV,e=.returned (.tuple #[.agg (flat [[E r.1],[F AO u AJ],[F Y U cs]]),.slice X C As])∧w'.ownsRow w.heap.size 127 102 (.slice X C As) C (Al Dd Ay)∧w'.ownsRow w.heap.size 190 66 (.slice Y U cs) U (Al CA DV)∧Ap (.slice X C As) (.slice Y U cs)∧C+next=r.2.1∧DV.map CK=r.2.2∧(∀x∈Ay,IM BX x)∧Below w.heap.size w w':=by
 have b:Below w.heap.size w w:=Bu _ _
 refine Bx M4 D 40 ?_
 refine K<|N<|CW D ?_
 intro ak aX h z c f
 have aY:=Bg b h
 have b:=Ah b f
 refine BQ [[E 0],[F none 0 0],[F none 0 0]] ?_
 intro H aZ h z i f
 have a0:=Bg b h
 have a1:=AP c h
 have c:=Q c f
 have b:=Ah b f
 refine O D<|M<|G<|K<|N<|I D<|I D<|I D<|BP Gx c D<|AT (fun _ m=>GG m (Bf:=[(0,(E wd)),(1,(E next)),(2,(F AQ 257 ce)),(3,(Value.agg (flat [[E root],[F CJ no co],[F Bf B6 cos]])))]) D (r:=flat [[E wd],[E next],[F AQ 257 ce],[E root],[F CJ no co],[F Bf B6 cos],[F none 0 0],[F none 0 0]]) (GI DR (ss:=[[E 0],[E 0],[F none 0 0],[E 0],[F none 0 0],[F none 0 0],[F none 0 0],[F none 0 0]]) (by kernel_rfl) (places:=[(0,1),(1,1),(2,1),(3,3),(6,1),(7,1)]) (by kernel_rfl) (C2 [] [[E 0]] [[E 0],[F none 0 0],[E 0],[F none 0 0],[F none 0 0],[F none 0 0],[F none 0 0]] [[E wd]] D Jb.nil (Jb.one Jb.nil) (Jb.one Jb.nil) D (C2 [[E wd]] [[E 0]] [[F none 0 0],[E 0],[F none 0 0],[F none 0 0],[F none 0 0],[F none 0 0]] [[E next]] D (Jb.one Jb.nil) (Jb.one Jb.nil) (Jb.one Jb.nil) D (C2 [[E wd],[E next]] [[F none 0 0]] [[E 0],[F none 0 0],[F none 0 0],[F none 0 0],[F none 0 0]] [[F AQ 257 ce]] D (Jb.one (Jb.one Jb.nil)) (Jb.one Jb.nil) (Jb.one Jb.nil) D (C2 [[E wd],[E next],[F AQ 257 ce]] [[E 0],[F none 0 0],[F none 0 0]] [[F none 0 0],[F none 0 0]] [[E root],[F CJ no co],[F Bf B6 cos]] D (Jb.one (Jb.one (Jb.one Jb.nil))) (Jb.one (Jb.one (Jb.one Jb.nil))) (Jb.one (Jb.one (Jb.one Jb.nil))) D D))))))<|CW D ?_
 intro Z J h z al f
 have aI:=Bg b h
 have a2:=AP c h
 have a3:=AP i h
 have c:=Q c f
 have i:=Q i f
 have b:=Ah b f
 refine O D<|M<|G<|K<|N<|I D<|Am Gx 1 D<|AK FB 1 c D D<|I D<|?_
 have a4:=b
 intro aJ aa
 have a5:Z<J.heap.size:=Ar al
 have a6:ak<J.heap.size:=Ar c
 have a7:H<J.heap.size:=Ar i
 refine Bj D (fun Aa ab=>B0 aa #[AB Z,F CJ no co,F AO u AJ,E 0] KB (WA 257 0 (Ay:=[]) (DV:=[]) (r:=r) D (Nat.zero_le _) b.size ((HV.of aq).move b) ⟨aI,al,World.ownsRow_nil _ _ _ _,World.ownsRow_nil _ _ _ _,(fun k L=>by cases L),(fun k L=>by cases L),(fun k L=>by cases L)⟩ ((Dv.of he).move b) ar ((Dv.of ag).move b) ah ((Dv.of au).move b) av ((Dv.of ag).move b) ah ((Dv.of aw).move b) ax (fun x n=>(GD.of (ai x n)).move b) (fun x n=>(GD.of (ai x n)).move b) (fun x n=>(GD.of (ay x n)).move b) az (EA.zero aA) aB (fun x n=>n) (fun x n=>by cases n) aC (fun x n=>by cases n) aj aD aj aE aF aG (by omega) aH) ?_)
 rintro _ a8 ⟨ad,ae,af,a9,P,R,S,a_,d13,rfl,a',aK,aL,⟨_,d,q,t,ba,bb,aM⟩,aN,aO,an,aP⟩
 refine⟨_,D,?_⟩
 intro a m
 have c:=an.Ag c (EX (by omega) (fun j o=>by cases o) (fun j o=>by cases o))
 have i:=an.Ag i (EX (by omega) (fun j o=>by cases o) (fun j o=>by cases o))
 have b:=b.trans aP
 have aQ:=Cq (v:=.slice none 0 0) (k:=H) (fun j o=>by cases o) aN (show H<J.heap.size from by omega)
 have aR:=Cq (v:=.slice none 0 0) (k:=H) (fun j o=>by cases o) aO (show H<J.heap.size from by omega)
 refine ab _ _ ?_;revert a
 refine I D<|BC D D<|BC D D<|BQ [Av 32] ?_
 intro aS bc h z ao f
 have bd:=Bg b h
 have bf:=AP c h
 have bg:=AP i h
 have bh:=AP d h
 have aT:=BM q h
 have aU:=BM t h
 have c:=Q c f
 have i:=Q i f
 have d:=Q d f
 have q:=V q f
 have t:=V t f
 have b:=Ah b f
 rw[Du]at ao
 refine O D<|Bi 0 1 ao D D ?_
 intro bj z g A
 have c:=Ag A c (by omega)
 have i:=Ag A i (by omega)
 have d:=Ag A d (by omega)
 have q:=Ax q A aT
 have t:=Ax t A aU
 have b:=A1 b A
 refine M<|G<|K<|?_
 intro a m
 refine C7 (fun W=>Below w.heap.size w W∧Ai W ak [[E root],[F CJ no co],[F Bf B6 cos]] 121∧Ai W Z [[E wd],[E r.2.1],[F AQ 257 ce],[E root],[F CJ no co],[F Bf B6 cos],[F ad ae af],[F P R S]] 164∧Ai W aS [bv d13.l] 125) ?_
 intro bk z f
 have c:=Q c f
 have i:=Q i f
 have d:=Q d f
 have q:=V q f
 have t:=V t f
 have g:=Q g f
 have b:=Ah b f
 revert a
 refine Bk 0 D D ⟨b,c,d,g⟩<|Bk 1 D D ⟨b,c,d,g⟩<|Bk 2 D D ⟨b,c,d,g⟩<|CF 3 D D ⟨b,c,d,g⟩<|BW 4 D DR 7 D ⟨b,c,d,g⟩<|A5 5 D (fun W T a m=>by obtain⟨b,c,d,g⟩:=T;exact Cl m D Ds D [[E wd],[E r.2.1],[F AQ 257 ce],[E root],[F CJ no co],[F Bf B6 cos],[F ad ae af]] (F P R S) [] d D) ⟨b,c,d,g⟩<|A5 6 D (fun W T a m=>by obtain⟨b,c,d,g⟩:=T;exact CE m (Bf:=[(0,(E r.1)),(1,(F AO u AJ)),(2,(F P R S))]) D (v:=Value.agg (flat [[E r.1],[F AO u AJ],[F P R S]])) (run_build _ _ _ _ (by kernel_rfl))) ⟨b,c,d,g⟩<|Bk 7 D D ⟨b,c,d,g⟩<|CF 8 D D ⟨b,c,d,g⟩<|BW 9 D DR 6 D ⟨b,c,d,g⟩<|A5 10 D (fun W T a m=>by obtain⟨b,c,d,g⟩:=T;exact Cl m D FN D [[E wd],[E r.2.1],[F AQ 257 ce],[E root],[F CJ no co],[F Bf B6 cos]] (F ad ae af) [[F P R S]] d D) ⟨b,c,d,g⟩<|?_
 intro aJ aa
 refine A8 11 1 D D ?_
 intro Aa ab
 refine Iu aa 0 3 i D D ?_
 intro a bl m z aV B
 have c:=Ag B c (by omega)
 have d:=Ag B d (by omega)
 have q:=Ax q B aQ
 have t:=Ax t B aR
 have g:=Ag B g (by omega)
 have b:=A1 b B
 refine ab _ _ ⟨b,c,d,g⟩ ?_;revert a
 refine EY 12 D D ⟨b,c,d,g⟩<|B_<|G<|AA<|?_
 intro a m
 refine DG m D D D aV Gx D (by kernel_rfl) ?_
 exact⟨_,_,_,_,_,_,_,_,D,q,t,aM,by omega,aK,aL,b⟩
end Go.Proofs.YtcdaflcjhimimaaGreatDoor
namespace Go.Proofs.YtcdaflcjhimimaaGreatDoor
open Go.RowKit
structure EN where
 p:Option Addr
 L:List B7
 c:Nat
def Ls:EN:=⟨none,[],0⟩
def IP(x:EN):List Value:=[.slice x.p x.L.length x.c]
theorem Kn(x:EN):(IP x).length=1:=rfl
theorem I3:CN Tryz.prog 34 44 1 24 (.slice none 0 0):=CN.mk' HT (by kernel_rfl) D (by decide)
structure EN.ok (W:World) (x:EN):Prop where
 v:View W (.slice x.p x.L.length x.c) x.L.length 33 (Al FJ x.L)
 s:∀e∈x.L,B8.ok W e.s
 o:x.L.Pairwise Ez
 n:∀e∈x.L,e.s.v.length≤128
theorem EN.ok.below{W BT:World}{x:EN}(h:x.ok W)(a:Below W.heap.size W BT):x.ok BT:=⟨h.v.below a,fun e he=>(h.s e he).below a D,h.o,h.n⟩
theorem Ls.isOk(W:World):Ls.ok W:=⟨⟨Be _,.inl ⟨D,D,D⟩⟩,(fun e he=>by cases he),.nil,(fun e he=>by cases he)⟩
theorem IM.Xv{Az:List B7}{x:DD}{W:World}(h:IM Az x)(a:∀e∈Az,B8.ok W e.s):x.s.ok W:=by
 rcases h.s with e|⟨e,he,q⟩
 ·rw[e];exact DZ.isOk _
 ·rw[q];exact a e he
abbrev Ih:=CY×Dz×Nat
def CZ(s:Ih)(a:CY):Nat×Nat×Dz:=DT 257 s.2.1 s.1 s.1 a 0 s.2.2 []
def Km(s:Ih)(a:CY):Ih:=(a,(CZ s a).2.2,(CZ s a).2.1+1)
def Dm(ms:List CY):Ih:=ms.foldl Km ([],[],2)
theorem PZ(ms:List CY)(m:CY):Dm (ms++[m])=Km (Dm ms) m:=by unfold Dm;rw[List.foldl_append];rfl
theorem R4(s:Ih)(m:CY):s.2.2+1≤(Km s m).2.2:=by
 have:=(JO 257 s.2.1 s.1 s.1 m 0 s.2.2 []).1
 show s.2.2+1≤(DT 257 s.2.1 s.1 s.1 m 0 s.2.2 []).2.1+1
 omega
theorem M8(ms:List CY):2≤(Dm ms).2.2:=by
 have:∀(ms:List CY) (s:Ih),s.2.2≤(ms.foldl Km s).2.2:=by
  intro ms
  induction ms with
  |nil=>intro s;exact Be _
  |cons m ms a=>intro s;exact Bs (Bs (Nat.le_succ _) (R4 s m)) (a _)
 exact this ms ([],[],2)
theorem Ux{DQ:List EN}{i:Nat}{x:EN}{g:Ih}{m:CY}{a:Dz}{b:Nat}(c:DQ[i]? =some x)(d:g=Dm ((DQ.take i).map (fun x=>A7 x.L)))(hm:m=A7 x.L)(e:a=(CZ g m).2.2)(f:b=(CZ g m).2.1):Dm ((DQ.take (i+1)).map (fun x=>A7 x.L))=(A7 x.L,a,b+1):=by
 rw[List.take_add_one,c,List.map_append]
 show Dm (_++[A7 x.L])=_
 rw[PZ,←d,←hm,e,f]
 rfl
theorem V5{g:Ih}{m:CY}{x y:CY}{a:Dz}{b:Nat}(c:g=(x,a,b))(hm:m=y):CZ g m=DT 257 a x x y 0 b []:=by rw[c,hm];rfl
theorem QI(ms:List CY)(k:Nat):(Dm (ms.take k)).2.2≤(Dm ms).2.2:=by
 have:∀(ms:List CY) (s:Ih),s.2.2≤(ms.foldl Km s).2.2:=by
  intro ms
  induction ms with
  |nil=>intro s;exact Be _
  |cons m ms a=>intro s;exact Bs (Bs (Nat.le_succ _) (R4 s m)) (a _)
 have h:=this (ms.drop k) (Dm (ms.take k))
 have e:Dm ms=(ms.drop k).foldl Km (Dm (ms.take k)):=by
  conv=>lhs;rw[←List.take_append_drop k ms]
  unfold Dm
  rw[List.foldl_append]
 rw[e]
 exact h
structure QG (s:Ih) (an:CY):Prop where
 n:an.length≤100000000
 os:s.2.1.length≤100000000000
 Ig:(CZ s an).2.2.length≤900000000000
 a8:(CZ s an).2.1≤s.2.2+800000000000
 r2:(CZ s an).2.1≤549000000000
def Ii(ms:List CY):Prop:=∀i m,ms[i]? =some m→QG (Dm (ms.take i)) m
theorem Ii.take{ms:List CY}(h:Ii ms)(k:Nat):Ii (ms.take k):=by
 intro i m hm
 rw[List.getElem?_take]at hm
 split at hm
 ·rename_i q
  rw[List.take_take,Nat.min_eq_left (by omega)]
  exact h i m hm
 ·cases hm
def GA(m:Nat):Nat:=if 2<m then m - 1 else 0
def GK(wd g mark before a:Nat)(L:List UInt8):List UInt8:=
 (if g % 2=1 then Ref.D0 ⟨wd,g - 1,before,GA before,a⟩++Ref.D0 ⟨wd,g,mark,GA mark,a⟩else Ref.D0 ⟨wd,g,mark,GA mark,a⟩++Ref.D0 ⟨wd,g - 1,before,GA before,a⟩)++L
structure HR (L:List UInt8) (ZO:Nat):Prop where
 n:L.length=256*(ZO - 2)
 p:∀j,2≤j→j<ZO→∃ZI l,(L.drop (256*(j - 2))).take 256=Ref.Fe ZI j l∧1≤ZI∧ZI≤3∧l.length≤246
theorem HR.nil:HR [] 2:=⟨D,fun j a b=>by omega⟩
theorem HR.snoc{L:List UInt8}{a b:Nat}{l:List UInt8}(h:HR L a)(r:2≤a)(c:1≤b)(d:b≤3)(f:l.length≤246):HR (L++Ref.Fe b a l) (a+1):=by
 have g:=Ref.R7 b a l
 refine⟨by rw[List.length_append,h.n,g];omega,fun j i s=>?_⟩
 rcases Nat.lt_or_ge j a with q|q
 ·obtain⟨k,m,e,o⟩:=h.p j i q
  refine⟨k,m,?_,o⟩
  rw[←e,List.drop_append_of_le_length (by rw[h.n];omega),List.take_append_of_le_length (by rw[List.length_drop,h.n];omega)]
 ·obtain rfl:j=a:=by omega
  refine⟨b,l,?_,c,d,f⟩
  rw[List.drop_append,List.drop_of_length_le (by rw[h.n];omega),h.n,Nat.sub_self,List.drop_zero,List.nil_append,List.take_of_length_le (by omega)]
end Go.Proofs.YtcdaflcjhimimaaGreatDoor
namespace Go.Proofs.YtcdaflcjhimimaaGreatDoor
open Go.RowKit
set_option maxRecDepth 100000
set_option maxHeartbeats 1000000
theorem O8{wd first:Nat}{q:Option Addr}{n c:Nat}{DQ:List EN}{w:World}(cU:CT w)(eN:first≤4294967296)(hn:n≤100000000)(ck:View w (.slice q n c) n 1 (Al IP DQ))(cV:DQ.length=n)(dr:∀x∈DQ,EN.ok w x)(ds:Ii (DQ.map (fun x=>A7 x.L))):
 Calls Tryz.prog 25 #[E wd,E first,F q n c] w fun e w'=>∃p k P,∃L:List UInt8,e=.returned (.tuple #[.slice p (256*(P - 2)) k,.int .i64 ((P:Nat):Int)])∧w'.ownsRow w.heap.size 5 1 (.slice p (256*(P - 2)) k) (256*(P - 2)) (bv L)∧HR L P∧P=(Dm (DQ.map (fun x=>A7 x.L))).2.2∧(2≤P∧P≤549000000001)∧Below w.heap.size w w':=by
 have d:Below w.heap.size w w:=Bu _ _
 refine Bx Oj D 109 ?_
 refine K<|N<|O D<|O (v:=(E 0)) D<|M<|G<|K<|N<|I D<|AS N' D (Qu ((wd:Nat):Int) _ cU) ?_
 rintro _ X ⟨bD,bE,eO,rfl,b2,dt⟩
 refine⟨_,D,?_⟩
 have aS:w.heap.size≤w.heap.size:=d.size
 have cr:=Ah d dt
 have b2:=CB b2 aS
 refine O D<|?_
 have d:Below X.heap.size X X:=Bu _ _
 have cW:w.heap.size≤X.heap.size:=cr.size
 have ck:=View.below ck cr
 have cx:=View.own b2
 have du:∀x∈DQ,EN.ok X x:=fun x b3=>(dr x b3).below cr
 have cl:=cU.below cr (Be _)
 have b4:Ls.ok X:=Ls.isOk _
 refine M<|G<|K<|N<|O D<|M<|G<|K<|N<|O D<|M<|G<|K<|N<|O D<|M<|G<|K<|N<|AT (fun _ aa=>CE aa (Bf:=[]) D (v:=Value.agg (flat [[E 0],[F none 0 0],[F none 0 0]])) (run_build _ _ _ _ (by kernel_rfl)))<|BQ [[E 0],[F none 0 0],[F none 0 0]] ?_
 intro ag eP az aG h U
 have eQ:=Bg d az
 have d:=Ah d U
 refine Bi 0 3 h D D ?_
 intro ct aG bF dv
 have d:=A1 d dv
 have h:Ai ct ag [[E 0],[F none 0 0],[F none 0 0]] 121:=bF
 refine M<|G<|K<|N<|O (v:=(E 2)) D<|M<|G<|K<|K<|N<|O (v:=(E 0)) D<|M<|G<|A2<|?_
 have C:ct.ownsRow X.heap.size 5 1 (.slice none 0 0) 0 (bv []):=World.ownsRow_nil _ _ _ _
 have aF:Z (F none 0 0) ag:=FL
 have A:ct.ownsRow X.heap.size 131 38 (.slice none 0 0) 0 (Al DY []):=World.ownsRow_nil _ _ _ _
 have aH:Z (F none 0 0) ag:=FL
 have u:ct.ownsRow X.heap.size 3 1 (.slice none 0 0) 0 (Al Ct []):=World.ownsRow_nil _ _ _ _
 have aI:Z (F none 0 0) ag:=FL
 have t:ct.ownsRow X.heap.size 190 66 (.slice none 0 0) 0 (Al CA []):=World.ownsRow_nil _ _ _ _
 have aT:Z (F none 0 0) ag:=FL
 have aJ:Ap (.slice none 0 0) (.slice none 0 0):=fun k B=>by cases B
 have aK:Ap (.slice none 0 0) (.slice none 0 0):=fun k B=>by cases B
 have aN:Ap (.slice none 0 0) (.slice none 0 0):=fun k B=>by cases B
 have aL:Ap (.slice none 0 0) (.slice none 0 0):=fun k B=>by cases B
 have aO:Ap (.slice none 0 0) (.slice none 0 0):=fun k B=>by cases B
 have aP:Ap (.slice none 0 0) (.slice none 0 0):=fun k B=>by cases B
 intro a aa
 refine Cb (fun cL a W=>∃i P rt,∃mp:EN,∃aj ak aV al an bf ao aq a5 ae af ab,∃a6:List Co,cL=n - i∧Ao 109 a (Ja (Ja (Ja (Ja (Ja (Ja (Ja (Ja (Ja (Ja (Ja (Ja Je 0 (E wd)) 1 (E first)) 2 (F q n c)) 6 (F none 0 0)) 7 (E 0)) 8 (F bD 257 bE)) 12 (AB ag)) 13 (E P)) 14 (E i)) 9 (F aj (256*(P - 2)) ak)) 10 (F al i an)) 11 (F ao i aq))∧i≤n∧Hid (Dm ((DQ.take i).map (fun x=>A7 x.L))=(A7 mp.L,a6.map CK,P))∧EN.ok X mp∧mp.L.length≤100000000∧(∀x∈a6,x.p≤P)∧(2≤P∧P≤549000000001)∧(∀y∈bf,y.v≤first+1+i∧y.f≤first+1+i)∧(∀y∈a5,y≤P)∧HR aV P∧W.ownsRow X.heap.size 5 1 (.slice aj (256*(P - 2)) ak) (256*(P - 2)) (bv aV)∧W.ownsRow X.heap.size 131 38 (.slice al i an) i (Al DY bf)∧W.ownsRow X.heap.size 3 1 (.slice ao i aq) i (Al Ct a5)∧W.ownsRow X.heap.size 190 66 (.slice ae ab af) ab (Al CA a6)∧Below X.heap.size X W∧Ai W ag [[E rt],[F mp.p mp.L.length mp.c],[F ae ab af]] 121∧Z (F aj (256*(P - 2)) ak) ag∧Z (F al i an) ag∧Z (F ao i aq) ag∧Z (F ae ab af) ag∧Ap (F aj (256*(P - 2)) ak) (F al i an)∧Ap (F aj (256*(P - 2)) ak) (F ao i aq)∧Ap (F al i an) (F ao i aq)∧Ap (F aj (256*(P - 2)) ak) (F ae ab af)∧Ap (F al i an) (F ae ab af)∧Ap (F ao i aq) (F ae ab af)) _ ⟨0,2,0,Ls,_,_,_,_,_,_,_,_,_,_,_,_,_,D,At aa,by omega,Aw D,b4,Nat.zero_le _,(fun x b3=>by cases b3),by omega,(fun y bG=>by cases bG),(fun y bG=>by cases bG),HR.nil,C,A,u,t,d,h,T aF,T aH,T aI,T aT,AI aJ,AI aK,AI aN,AI aL,AI aO,AI aP⟩ ?_
 rintro _ a eR ⟨i,P,rt,mp,aj,ak,aV,al,an,bf,ao,aq,a5,ae,af,ab,a6,rfl,aa,eS,cX,b4,cY,cM,Gb,cZ,c0,cu,C,A,u,t,d,h,aF,aH,aI,aT,aJ,aK,aN,aL,aO,aP⟩
 revert a
 refine K<|K<|N<|I D<|I D<|BY HT D<|B5 D D<|M<|G<|Bl D (fun dw=>?_) fun dw=>?_
 ·
  obtain⟨Y,cm⟩:=getD_some (L:=DQ) (j:=i) cV (by omega)
  obtain⟨cy,bt,rfl⟩:=Ca ck
  have hm:=du Y (List.mem_of_getElem? cm)
  have cz:=hm.v
  have c1:=b4.v
  obtain⟨ax,cN⟩:∃g,g=Dm ((DQ.take i).map (fun x=>A7 x.L)):=⟨_,D⟩
  obtain⟨ay,cA⟩:∃m,m=A7 Y.L:=⟨_,D⟩
  have bu:QG ax ay:=by
   have:=ds i ay (by rw[List.getElem?_map,cm,cA];rfl)
   rw[←List.map_take,←cN]at this
   exact this
  have dx:Y.L.length≤100000000:=by
   have:=bu.n
   rw[cA,It]at this
   exact this
  have cn:=cN.trans cX.out
  have eT:a6.length≤100000000000:=by
   have:=bu.os
   rw[cn]at this
   simpa using this
  have eU:=DF D3 (by decide) t
  have eV:ax.2.2=P:=by rw[cn]
  have cO:=V5 cn cA
  have dy:(CZ ax ay).1≤(CZ ax ay).2.1∧∀x∈(CZ ax ay).2.2,x.2.1≤(CZ ax ay).2.1:=by rw[cO];exact OF _ _ _ _ _ _ _ _ (LX cM) (fun x b3=>by cases b3)
  have eW:=bu.r2
  refine AE<|G<|K<|A2<|K<|?_
  intro a aa
  refine FX (fun a W=>∃aw av S ar bg ah ad ai,∃bw:List Co,Ao 109 a (Ja (Ja (Ja (Ja (Ja (Ja (Ja (Ja (Ja (Ja (Ja (Ja (Ja (Ja Je 0 (E wd)) 1 (E first)) 2 (F (some ⟨cy,bt,none⟩) n c)) 6 (F none 0 0)) 7 (E 0)) 8 (F bD 257 bE)) 12 (AB ag)) 13 (E P)) 14 (E i)) 9 (F aj (256*(P - 2)) ak)) 10 (F al i an)) 11 (F ao i aq)) 15 (AB aw)) 16 (F av S ar))∧W.ownsRow X.heap.size 5 1 (.slice aj (256*(P - 2)) ak) (256*(P - 2)) (bv aV)∧W.ownsRow X.heap.size 131 38 (.slice al i an) i (Al DY bf)∧W.ownsRow X.heap.size 3 1 (.slice ao i aq) i (Al Ct a5)∧W.ownsRow X.heap.size 190 66 (.slice ae ab af) ab (Al CA a6)∧Below X.heap.size X W∧Ai W ag [[E rt],[F mp.p mp.L.length mp.c],[F ae ab af]] 121∧Z (F aj (256*(P - 2)) ak) ag∧Z (F al i an) ag∧Z (F ao i aq) ag∧Z (F ae ab af) ag∧Ap (F aj (256*(P - 2)) ak) (F al i an)∧Ap (F aj (256*(P - 2)) ak) (F ao i aq)∧Ap (F al i an) (F ao i aq)∧Ap (F aj (256*(P - 2)) ak) (F ae ab af)∧Ap (F al i an) (F ae ab af)∧Ap (F ao i aq) (F ae ab af)∧W.ownsRow X.heap.size 127 102 (.slice av S ar) S (Al Dd bg)∧W.ownsRow X.heap.size 190 66 (.slice ah ad ai) ad (Al CA bw)∧Ap (F av S ar) (F ah ad ai)∧S+P=(CZ ax ay).2.1∧bw.map CK=(CZ ax ay).2.2∧(∀x∈bg,IM Y.L x)∧Z (F av S ar) ag∧Z (F ah ad ai) ag∧Ap (F av S ar) (F aj (256*(P - 2)) ak)∧Ap (F av S ar) (F al i an)∧Ap (F av S ar) (F ao i aq)∧Ap (F av S ar) (F ae ab af)∧Ap (F ah ad ai) (F aj (256*(P - 2)) ak)∧Ap (F ah ad ai) (F al i an)∧Ap (F ah ad ai) (F ao i aq)∧Ap (F ah ad ai) (F ae ab af)∧X.heap.size≤aw∧Z (F aj (256*(P - 2)) ak) aw∧Z (F al i an) aw∧Z (F ao i aq) aw∧Z (F ae ab af) aw∧Z (F av S ar) aw∧Z (F ah ad ai) aw∧ag<aw∧Ai W aw [[E ((CZ ax ay).1)],[F Y.p Y.L.length Y.c],[F ah ad ai]] 121) ?_ ?_
  ·
   refine C7 (fun W=>W.ownsRow X.heap.size 5 1 (.slice aj (256*(P - 2)) ak) (256*(P - 2)) (bv aV)∧W.ownsRow X.heap.size 131 38 (.slice al i an) i (Al DY bf)∧W.ownsRow X.heap.size 3 1 (.slice ao i aq) i (Al Ct a5)∧W.ownsRow X.heap.size 190 66 (.slice ae ab af) ab (Al CA a6)∧Below X.heap.size X W∧Ai W ag [[E rt],[F mp.p mp.L.length mp.c],[F ae ab af]] 121) ?_
   intro c2 aG U
   have C:=V C U
   have A:=V A U
   have u:=V u U
   have t:=V t U
   have h:=Q h U
   have d:=Ah d U
   revert a
   refine Bk 0 D D ⟨C,A,u,t,d,h⟩<|Bk 1 D D ⟨C,A,u,t,d,h⟩<|A5 2 D (fun W aM a aa=>by obtain⟨C,A,u,t,d,h⟩:=aM;exact EO aa D Gx D [] [[E rt],[F mp.p mp.L.length mp.c],[F ae ab af]] [] h D (by kernel_rfl)) ⟨C,A,u,t,d,h⟩<|Bk 3 D D ⟨C,A,u,t,d,h⟩<|Bk 4 D D ⟨C,A,u,t,d,h⟩<|Bk 5 D D ⟨C,A,u,t,d,h⟩<|GY 6 D I3 i (bt+i*1) D D ⟨C,A,u,t,d,h⟩<|A5 7 D (fun W aM a aa=>by obtain⟨C,A,u,t,d,h⟩:=aM;have dz:=BJ Kn (ck.below d) cm (o:=bt+i*1);exact D1 aa D FB D (Dh [] (F Y.p Y.L.length Y.c) [] dz D)) ⟨C,A,u,t,d,h⟩<|?_
   intro aU aB
   refine EW 8 12 6 D D D D ?_ ?_
   ·
    intro Aa aA
    refine B0 aB #[E wd,F bD 257 bE,Value.agg (flat [[E rt],[F mp.p mp.L.length mp.c],[F ae ab af]]),E P,F Y.p Y.L.length Y.c] M4 (Ss (wd:=wd) (root:=rt) (next:=P) (r:=CZ ax ay) (cl.below d (Be _)) (cx.below d) (DF G8 (by decide) b2) (c1.below d) D (View.own t) (DF D3 (by decide) t) (cz.below d) D (b4.below d).s (hm.below d).s b4.o hm.o hm.n cM cY (by omega) (by omega) cO bu.Ig (by have:=bu.a8;omega) (by have:=bu.r2;omega)) ?_
    rintro _ eX ⟨av,S,ar,bg,ah,ad,ai,bw,rfl,J,H,bh,c3,cB,cP,cp⟩
    refine⟨_,D,?_⟩
    intro a aa
    have aX:=C.lt
    have aY:=A.lt
    have aZ:=u.lt
    have a0:=t.lt
    have aS:X.heap.size≤c2.heap.size:=d.size
    have cv:ag<c2.heap.size:=Ar h
    have C:=V C cp
    have A:=V A cp
    have u:=V u cp
    have t:=V t cp
    have h:=Q h cp
    have d:=Ah d cp
    have a7:Z (F av S ar) ag:=D2 J
    have bj:Z (F ah ad ai) ag:=D2 H
    have a8:Ap (F av S ar) (F aj (256*(P - 2)) ak):=fun k B e=>by have:=(J.lt k B).1;have:=(aX k e).2;omega
    have bk:Ap (F av S ar) (F al i an):=fun k B e=>by have:=(J.lt k B).1;have:=(aY k e).2;omega
    have bl:Ap (F av S ar) (F ao i aq):=fun k B e=>by have:=(J.lt k B).1;have:=(aZ k e).2;omega
    have bm:Ap (F av S ar) (F ae ab af):=fun k B e=>by have:=(J.lt k B).1;have:=(a0 k e).2;omega
    have aW:Ap (F ah ad ai) (F aj (256*(P - 2)) ak):=fun k B e=>by have:=(H.lt k B).1;have:=(aX k e).2;omega
    have a1:Ap (F ah ad ai) (F al i an):=fun k B e=>by have:=(H.lt k B).1;have:=(aY k e).2;omega
    have a2:Ap (F ah ad ai) (F ao i aq):=fun k B e=>by have:=(H.lt k B).1;have:=(aZ k e).2;omega
    have bn:Ap (F ah ad ai) (F ae ab af):=fun k B e=>by have:=(H.lt k B).1;have:=(a0 k e).2;omega
    have J:=CB J aS;have H:=CB H aS
    refine aA _ _ ⟨C,A,u,t,d,h⟩ ?_;revert a
    refine Bk 9 D D ⟨C,A,u,t,d,h⟩<|F5 10 D D D ⟨C,A,u,t,d,h⟩<|F5 11 D D D ⟨C,A,u,t,d,h⟩<|?_
    intro aU aB
    refine A8 12 2 D D ?_
    intro Aa aA
    refine Fq aB D (z:=(Value.agg (flat [[E 0],[F none 0 0],[F none 0 0]]))) (by kernel_rfl) (ss:=[[E 0],[F none 0 0],[F none 0 0]]) D ?_
    intro a aw eY az aa aG R U
    have cC:=Bg d az
    have a3:=BM C az
    have a9:=BM A az
    have a_:=BM u az
    have a':=BM t az
    have cD:=AP h az
    have ba:=BM J az
    have bb:=BM H az
    have C:=V C U
    have A:=V A U
    have u:=V u U
    have t:=V t U
    have h:=Q h U
    have J:=V J U
    have H:=V H U
    have d:=Ah d U
    refine aA _ _ ⟨C,A,u,t,d,h⟩ ?_;revert a
    intro aU aB
    refine A8 13 1 D D ?_
    intro Aa aA
    refine Iu aB 0 3 R D D ?_
    intro a eZ aa aG dB bQ
    have C:=Ax C bQ a3
    have A:=Ax A bQ a9
    have u:=Ax u bQ a_
    have t:=Ax t bQ a'
    have h:=Ag bQ h (by omega)
    have J:=Ax J bQ ba
    have H:=Ax H bQ bb
    have d:=A1 d bQ
    refine aA _ _ ⟨C,A,u,t,d,h⟩ ?_;revert a
    refine EY 14 D D ⟨C,A,u,t,d,h⟩<|B_<|G<|?_
    intro a aa
    exact⟨aw,av,S,ar,bg,ah,ad,ai,bw,At aa,C,A,u,t,d,h,aF,aH,aI,aT,aJ,aK,aN,aL,aO,aP,J,H,bh,c3,cB,cP,a7,bj,a8,bk,bl,bm,aW,a1,a2,bn,cC,a3,a9,a_,a',ba,bb,cD,dB⟩
   ·
    intro Aa aA
    refine Fq aB D (z:=(Value.agg (flat [[E 0],[F none 0 0],[F none 0 0]]))) (by kernel_rfl) (ss:=[[E 0],[F none 0 0],[F none 0 0]]) D ?_
    intro a aw cQ az aa aG R U
    have cC:=Bg d az
    have c4:=BM C az
    have c5:=BM A az
    have c6:=BM u az
    have c7:=BM t az
    have cD:=AP h az
    have C:=V C U
    have A:=V A U
    have u:=V u U
    have t:=V t U
    have h:=Q h U
    have d:=Ah d U
    refine aA _ _ ⟨C,A,u,t,d,h⟩ ?_;revert a
    intro aU aB
    refine A8 8 5 D D ?_
    intro Aa aA
    refine B0 aB #[E wd,F bD 257 bE,Value.agg (flat [[E rt],[F mp.p mp.L.length mp.c],[F ae ab af]]),E P,F Y.p Y.L.length Y.c] M4 (Ss (wd:=wd) (root:=rt) (next:=P) (r:=CZ ax ay) (cl.below d (Be _)) (cx.below d) (DF G8 (by decide) b2) (c1.below d) D (View.own t) (DF D3 (by decide) t) (cz.below d) D (b4.below d).s (hm.below d).s b4.o hm.o hm.n cM cY (by omega) (by omega) cO bu.Ig (by have:=bu.a8;omega) (by have:=bu.r2;omega)) ?_
    rintro _ e0 ⟨b5,b6,b7,dC,b8,b9,b_,dD,rfl,bo,bp,dE,dF,dG,dH,b'⟩
    refine⟨_,D,?_⟩
    intro a aa
    have aX:=C.lt
    have aY:=A.lt
    have aZ:=u.lt
    have a0:=t.lt
    have aS:X.heap.size≤cQ.heap.size:=d.size
    have cv:ag<cQ.heap.size:=Ar h
    have cE:aw<cQ.heap.size:=Ar R
    have C:=V C b'
    have A:=V A b'
    have u:=V u b'
    have t:=V t b'
    have h:=Q h b'
    have R:=Q R b'
    have d:=Ah d b'
    have dI:Z (F b5 b6 b7) ag:=D2 bo
    have c8:Z (F b5 b6 b7) aw:=D2 bo
    have dJ:Z (F b8 b9 b_) ag:=D2 bp
    have c9:Z (F b8 b9 b_) aw:=D2 bp
    have dK:Ap (F b5 b6 b7) (F aj (256*(P - 2)) ak):=fun k B e=>by have:=(bo.lt k B).1;have:=(aX k e).2;omega
    have dL:Ap (F b5 b6 b7) (F al i an):=fun k B e=>by have:=(bo.lt k B).1;have:=(aY k e).2;omega
    have dM:Ap (F b5 b6 b7) (F ao i aq):=fun k B e=>by have:=(bo.lt k B).1;have:=(aZ k e).2;omega
    have dN:Ap (F b5 b6 b7) (F ae ab af):=fun k B e=>by have:=(bo.lt k B).1;have:=(a0 k e).2;omega
    have dO:Ap (F b8 b9 b_) (F aj (256*(P - 2)) ak):=fun k B e=>by have:=(bp.lt k B).1;have:=(aX k e).2;omega
    have dP:Ap (F b8 b9 b_) (F al i an):=fun k B e=>by have:=(bp.lt k B).1;have:=(aY k e).2;omega
    have dQ:Ap (F b8 b9 b_) (F ao i aq):=fun k B e=>by have:=(bp.lt k B).1;have:=(aZ k e).2;omega
    have dR:Ap (F b8 b9 b_) (F ae ab af):=fun k B e=>by have:=(bp.lt k B).1;have:=(a0 k e).2;omega
    have bo:=CB bo aS;have bp:=CB bp aS
    refine aA _ _ ⟨C,A,u,t,d,h⟩ ?_;revert a
    refine Bk 9 D D ⟨C,A,u,t,d,h⟩<|F5 10 D D D ⟨C,A,u,t,d,h⟩<|F5 11 D D D ⟨C,A,u,t,d,h⟩<|?_
    intro aU aB
    refine A8 13 1 D D ?_
    intro Aa aA
    refine Iu aB 0 3 R D D ?_
    intro a e1 aa aG dS bR
    have C:=Ax C bR c4
    have A:=Ax A bR c5
    have u:=Ax u bR c6
    have t:=Ax t bR c7
    have h:=Ag bR h (by omega)
    have bo:=Ax bo bR c8
    have bp:=Ax bp bR c9
    have d:=A1 d bR
    refine aA _ _ ⟨C,A,u,t,d,h⟩ ?_;revert a
    refine EY 14 D D ⟨C,A,u,t,d,h⟩<|B_<|G<|?_
    intro a aa
    exact⟨aw,b5,b6,b7,dC,b8,b9,b_,dD,At aa,C,A,u,t,d,h,aF,aH,aI,aT,aJ,aK,aN,aL,aO,aP,bo,bp,dE,dF,dG,dH,dI,dJ,dK,dL,dM,dN,dO,dP,dQ,dR,cC,c4,c5,c6,c7,c8,c9,cD,dS⟩
  ·
   rintro a e2 ⟨aw,av,S,ar,bg,ah,ad,ai,bw,aa,C,A,u,t,d,h,aF,aH,aI,aT,aJ,aK,aN,aL,aO,aP,J,H,bh,c3,cB,cP,a7,bj,a8,bk,bl,bm,aW,a1,a2,bn,cC,a3,a9,a_,a',ba,bb,cD,R⟩
   revert a
   refine G<|K<|K<|N<|O (v:=(E 0)) D<|M<|G<|A2<|?_
   intro a aa
   refine Cb (fun cL a W=>∃j aj ak aV,cL=S - j∧Ao 109 a (Ja (Ja (Ja (Ja (Ja (Ja (Ja (Ja (Ja (Ja (Ja (Ja (Ja (Ja (Ja Je 0 (E wd)) 1 (E first)) 2 (F (some ⟨cy,bt,none⟩) n c)) 6 (F none 0 0)) 7 (E 0)) 8 (F bD 257 bE)) 12 (AB ag)) 13 (E P)) 14 (E i)) 10 (F al i an)) 11 (F ao i aq)) 15 (AB aw)) 16 (F av S ar)) 17 (E j)) 9 (F aj (256*(P+j - 2)) ak))∧j≤S∧HR aV (P+j)∧W.ownsRow X.heap.size 5 1 (.slice aj (256*(P+j - 2)) ak) (256*(P+j - 2)) (bv aV)∧W.ownsRow X.heap.size 131 38 (.slice al i an) i (Al DY bf)∧W.ownsRow X.heap.size 3 1 (.slice ao i aq) i (Al Ct a5)∧W.ownsRow X.heap.size 190 66 (.slice ae ab af) ab (Al CA a6)∧Below X.heap.size X W∧Ai W ag [[E rt],[F mp.p mp.L.length mp.c],[F ae ab af]] 121∧Z (F aj (256*(P+j - 2)) ak) ag∧Z (F al i an) ag∧Z (F ao i aq) ag∧Z (F ae ab af) ag∧Ap (F aj (256*(P+j - 2)) ak) (F al i an)∧Ap (F aj (256*(P+j - 2)) ak) (F ao i aq)∧Ap (F al i an) (F ao i aq)∧Ap (F aj (256*(P+j - 2)) ak) (F ae ab af)∧Ap (F al i an) (F ae ab af)∧Ap (F ao i aq) (F ae ab af)∧W.ownsRow X.heap.size 127 102 (.slice av S ar) S (Al Dd bg)∧W.ownsRow X.heap.size 190 66 (.slice ah ad ai) ad (Al CA bw)∧Ap (F av S ar) (F ah ad ai)∧Z (F av S ar) ag∧Z (F ah ad ai) ag∧Ap (F av S ar) (F aj (256*(P+j - 2)) ak)∧Ap (F av S ar) (F al i an)∧Ap (F av S ar) (F ao i aq)∧Ap (F av S ar) (F ae ab af)∧Ap (F ah ad ai) (F aj (256*(P+j - 2)) ak)∧Ap (F ah ad ai) (F al i an)∧Ap (F ah ad ai) (F ao i aq)∧Ap (F ah ad ai) (F ae ab af)∧Z (F aj (256*(P+j - 2)) ak) aw∧Z (F al i an) aw∧Z (F ao i aq) aw∧Z (F ae ab af) aw∧Z (F av S ar) aw∧Z (F ah ad ai) aw∧Ai W aw [[E ((CZ ax ay).1)],[F Y.p Y.L.length Y.c],[F ah ad ai]] 121) _ ⟨0,_,_,_,D,At aa,by omega,cu,C,A,u,t,d,h,T aF,T aH,T aI,T aT,AI aJ,AI aK,AI aN,AI aL,AI aO,AI aP,J,H,AI bh,T a7,T bj,AI a8,AI bk,AI bl,AI bm,AI aW,AI a1,AI a2,AI bn,T a3,T a9,T a_,T a',T ba,T bb,R⟩ ?_
   rintro _ a e3 ⟨j,aj,ak,aV,rfl,aa,e4,cu,C,A,u,t,d,h,aF,aH,aI,aT,aJ,aK,aN,aL,aO,aP,J,H,bh,a7,bj,a8,bk,bl,bm,aW,a1,a2,bn,a3,a9,a_,a',ba,bb,R⟩
   revert a
   refine K<|K<|N<|I D<|I D<|BY FN D<|B5 D D<|M<|G<|Bl D (fun dT=>?_) fun dT=>?_
   ·
    refine AE<|G<|K<|A2<|?_
    intro a aa
    refine C7 (fun W=>W.ownsRow X.heap.size 131 38 (.slice al i an) i (Al DY bf)∧W.ownsRow X.heap.size 3 1 (.slice ao i aq) i (Al Ct a5)∧W.ownsRow X.heap.size 190 66 (.slice ae ab af) ab (Al CA a6)∧Below X.heap.size X W∧Ai W ag [[E rt],[F mp.p mp.L.length mp.c],[F ae ab af]] 121∧W.ownsRow X.heap.size 127 102 (.slice av S ar) S (Al Dd bg)∧W.ownsRow X.heap.size 190 66 (.slice ah ad ai) ad (Al CA bw)∧Ai W aw [[E ((CZ ax ay).1)],[F Y.p Y.L.length Y.c],[F ah ad ai]] 121) ?_
    intro cR aG U
    have C:=V C U
    have A:=V A U
    have u:=V u U
    have t:=V t U
    have h:=Q h U
    have J:=V J U
    have H:=V H U
    have R:=Q R U
    have d:=Ah d U
    revert a
    refine Bk 0 D D ⟨A,u,t,d,h,J,H,R⟩<|Bk 1 D D ⟨A,u,t,d,h,J,H,R⟩<|Bk 2 D D ⟨A,u,t,d,h,J,H,R⟩<|?_
    obtain⟨c_,rfl⟩:=Ia J
    obtain⟨au,cS⟩:=getD_some (L:=bg) (j:=j) (DF FO (by decide) J) (by omega)
    refine GY 3 D EL j (0+j*102) D D ⟨A,u,t,d,h,J,H,R⟩<|BW 4 D BD (0+j*102) D ⟨A,u,t,d,h,J,H,R⟩<|A5 5 D (fun W aM a aa=>by obtain⟨A,u,t,d,h,J,H,R⟩:=aM;have dU:=BJ FO (View.own J) cS (o:=0+j*102);exact D1 aa D AH D (Dh [] (E au.ZI) [[E au.l],[E au.r],[E au.lc],[E au.rc],bv au.ls.l,bv au.rs.l,bv au.k.l,[F au.s.p au.s.v.length au.s.c]] dU D)) ⟨A,u,t,d,h,J,H,R⟩<|Bk 6 D D ⟨A,u,t,d,h,J,H,R⟩<|Bk 7 D D ⟨A,u,t,d,h,J,H,R⟩<|KL 8 D D D ⟨A,u,t,d,h,J,H,R⟩<|Bk 9 D D ⟨A,u,t,d,h,J,H,R⟩<|Bk 10 D D ⟨A,u,t,d,h,J,H,R⟩<|GY 11 D EL j (0+j*102) D D ⟨A,u,t,d,h,J,H,R⟩<|A5 12 D (fun W aM a aa=>by obtain⟨A,u,t,d,h,J,H,R⟩:=aM;have dV:=BJ FO (View.own J) cS (o:=0+j*102);exact H9 aa D BD D (mid:=[[E au.ZI],[E au.l],[E au.r],[E au.lc],[E au.rc],bv au.ls.l,bv au.rs.l,bv au.k.l,[F au.s.p au.s.v.length au.s.c]]) (HM [] [[E au.ZI],[E au.l],[E au.r],[E au.lc],[E au.rc],bv au.ls.l,bv au.rs.l,bv au.k.l,[F au.s.p au.s.v.length au.s.c]] [] dV D (by first|rfl|omega)) (Cf 102)) ⟨A,u,t,d,h,J,H,R⟩<|?_
    intro aU aB
    refine A8 13 3 D D ?_
    intro Aa aA
    have cw:=cP au (List.mem_of_getElem? cS)
    have e5:=cw.b
    refine B0 aB #[Value.agg (flat [[E au.ZI],[E au.l],[E au.r],[E au.lc],[E au.rc],bv au.ls.l,bv au.rs.l,bv au.k.l,[F au.s.p au.s.v.length au.s.c]])] PO (WM au _ (cw.Xv (fun e he=>(hm.s e he).below d D)) cw.n (by omega) (by omega) (by omega) (by omega)) ?_
    rintro _ cT ⟨bT,bU,bV,dW,rfl,e6,aQ,bH⟩
    refine⟨_,D,?_⟩
    intro a aa
    have aX:=C.lt
    have aY:=A.lt
    have aZ:=u.lt
    have a0:=t.lt
    have ca:=J.lt
    have cb:=H.lt
    have aS:X.heap.size≤cR.heap.size:=d.size
    have cv:ag<cR.heap.size:=Ar h
    have cE:aw<cR.heap.size:=Ar R
    have C:=V C bH
    have A:=V A bH
    have u:=V u bH
    have t:=V t bH
    have h:=Q h bH
    have J:=V J bH
    have H:=V H bH
    have R:=Q R bH
    have d:=Ah d bH
    have dX:Ap (F bT bV bU) (F aj (256*(P+j - 2)) ak):=fun k B e=>by have:=(aQ.lt k B).1;have:=(aX k e).2;omega
    have e7:Ap (F bT bV bU) (F al i an):=fun k B e=>by have:=(aQ.lt k B).1;have:=(aY k e).2;omega
    have e8:Ap (F bT bV bU) (F ao i aq):=fun k B e=>by have:=(aQ.lt k B).1;have:=(aZ k e).2;omega
    have e9:Ap (F bT bV bU) (F ae ab af):=fun k B e=>by have:=(aQ.lt k B).1;have:=(a0 k e).2;omega
    have e_:Ap (F bT bV bU) (F (some ⟨c_,0,none⟩) S ar):=fun k B e=>by have:=(aQ.lt k B).1;have:=(ca k e).2;omega
    have e':Ap (F bT bV bU) (F ah ad ai):=fun k B e=>by have:=(aQ.lt k B).1;have:=(cb k e).2;omega
    have aQ:=CB aQ aS
    refine aA _ _ ⟨A,u,t,d,h,J,H,R⟩ ?_;revert a
    intro aU aB
    refine A8 14 2 D D ?_
    intro Aa aA
    refine B0 aB #[E au.ZI,E (P+j),F bT bV bU] MK (Qg au.ZI (P+j) _ _ _ _ _ (cl.below d (Be _)) (by omega) (by omega) (View.own aQ) (CS aQ)) ?_
    rintro _ fa ⟨cc,cd,rfl,bq,bx⟩
    refine⟨_,D,?_⟩
    intro a aa
    have aX:=C.lt
    have aY:=A.lt
    have aZ:=u.lt
    have a0:=t.lt
    have ca:=J.lt
    have cb:=H.lt
    have dY:=aQ.lt
    have aS:X.heap.size≤cT.heap.size:=d.size
    have cv:ag<cT.heap.size:=Ar h
    have cE:aw<cT.heap.size:=Ar R
    have C:=V C bx
    have A:=V A bx
    have u:=V u bx
    have t:=V t bx
    have h:=Q h bx
    have J:=V J bx
    have H:=V H bx
    have R:=Q R bx
    have aQ:=V aQ bx
    have d:=Ah d bx
    have fb:Ap (F cc 256 cd) (F aj (256*(P+j - 2)) ak):=fun k B e=>by have:=(bq.lt k B).1;have:=(aX k e).2;omega
    have fc:Ap (F cc 256 cd) (F al i an):=fun k B e=>by have:=(bq.lt k B).1;have:=(aY k e).2;omega
    have fe:Ap (F cc 256 cd) (F ao i aq):=fun k B e=>by have:=(bq.lt k B).1;have:=(aZ k e).2;omega
    have ff:Ap (F cc 256 cd) (F ae ab af):=fun k B e=>by have:=(bq.lt k B).1;have:=(a0 k e).2;omega
    have fg:Ap (F cc 256 cd) (F (some ⟨c_,0,none⟩) S ar):=fun k B e=>by have:=(bq.lt k B).1;have:=(ca k e).2;omega
    have fh:Ap (F cc 256 cd) (F ah ad ai):=fun k B e=>by have:=(bq.lt k B).1;have:=(cb k e).2;omega
    have fi:Ap (F cc 256 cd) (F bT bV bU):=fun k B e=>by have:=(bq.lt k B).1;have:=(dY k e).2;omega
    have bq:=CB bq aS
    refine aA _ _ ⟨A,u,t,d,h,J,H,R⟩ ?_;revert a
    intro aU aB
    refine A8 15 1 D D ?_
    intro Aa aA
    refine BK aB A0 C (View.own bq) (G4 _) d.size ((256*(P+j - 2))+256) (zs:=bv (aV++(Ref.Fe au.ZI (P+j) dW))) (by rw[Nat.mul_one,List.take_of_length_le (by rw[D_];exact Nat.le_of_eq (CS bq)),Hv]) ?_
    intro a c' da fj aa dZ aR
    have d_:=aJ.BR aR (fun k B=>(A.lt k B).2)
    have d':=aK.BR aR (fun k B=>(u.lt k B).2)
    have ea:=aL.BR aR (fun k B=>(t.lt k B).2)
    have eb:=a8.Df aR (fun k B=>(J.lt k B).2)
    have ec:=aW.Df aR (fun k B=>(H.lt k B).2)
    have ed:=A9 aR aF (Ar h)
    have ee:=A9 aR a3 (Ar R)
    have A:=Bm A aR aJ.symm
    have u:=Bm u aR aK.symm
    have t:=Bm t aR aL.symm
    have h:=A' h aR aF
    have J:=Bm J aR a8
    have H:=Bm H aR aW
    have R:=A' R aR a3
    have aQ:=Bm aQ aR dX
    have d:=Cm d aR C
    refine aA _ _ ⟨A,u,t,d,h,J,H,R⟩ ?_;revert a
    refine EY 16 D D ⟨A,u,t,d,h,J,H,R⟩<|B_<|Bq<|G<|N<|I D<|A_ (q:=1) D D<|O D<|M<|G<|?_
    intro a aa
    replace aa:=aa.HN 9 D (show(F c' ((256*(P+j - 2))+256) da)=Value.slice c' (256*(P+(j+1) - 2)) da from by rw[show(256*(P+j - 2))+256=256*(P+(j+1) - 2)by omega])
    exact⟨_,by omega,j+1,_,_,_,D,At aa,by omega,cu.snoc (by omega) (by have:=cw.ZI;omega) (by have:=cw.ZI;omega) (by have:=CS aQ;omega),HO (by omega) dZ,A,u,t,d,h,T ed,T aH,T aI,T aT,AI d_,AI d',AI aN,AI ea,AI aO,AI aP,J,H,AI bh,T a7,T bj,AI eb,AI bk,AI bl,AI bm,AI ec,AI a1,AI a2,AI bn,T ee,T a9,T a_,T a',T ba,T bb,R⟩
   ·
    obtain rfl:S=j:=by omega
    refine BO<|AW<|AW<|BN<|G<|K<|N<|BP Gx R D<|Bi 0 3 h D D ?_
    intro fk aG bF bW
    have C:=Ax C bW aF
    have A:=Ax A bW aH
    have u:=Ax u bW aI
    have t:=Ax t bW aT
    have J:=Ax J bW a7
    have H:=Ax H bW bj
    have R:=Ag bW R (by omega)
    have d:=A1 d bW
    have h:=bF
    refine M<|G<|K<|N<|I D<|I D<|BY FN D<|A_ D D<|O D<|M<|G<|K<|?_
    intro a aa
    refine FX (fun a W=>∃aC,∃d136:Jd,Ao 109 a (Ja (Ja (Ja (Ja (Ja (Ja (Ja (Ja (Ja (Ja (Ja (Ja (Ja Je 0 (E wd)) 1 (E first)) 2 (F (some ⟨cy,bt,none⟩) n c)) 6 (F none 0 0)) 7 (E 0)) 8 (F bD 257 bE)) 12 (AB ag)) 13 (E (P+S))) 14 (E i)) 10 (F al i an)) 11 (F ao i aq)) 9 (F aj (256*(P+S - 2)) ak)) 18 (AB aC))∧W.ownsRow X.heap.size 5 1 (.slice aj (256*(P+S - 2)) ak) (256*(P+S - 2)) (bv aV)∧W.ownsRow X.heap.size 131 38 (.slice al i an) i (Al DY bf)∧W.ownsRow X.heap.size 3 1 (.slice ao i aq) i (Al Ct a5)∧W.ownsRow X.heap.size 190 66 (.slice ae ab af) ab (Al CA a6)∧Below X.heap.size X W∧Z (F aj (256*(P+S - 2)) ak) ag∧Z (F al i an) ag∧Z (F ao i aq) ag∧Z (F ae ab af) ag∧Ap (F aj (256*(P+S - 2)) ak) (F al i an)∧Ap (F aj (256*(P+S - 2)) ak) (F ao i aq)∧Ap (F al i an) (F ao i aq)∧Ap (F aj (256*(P+S - 2)) ak) (F ae ab af)∧Ap (F al i an) (F ae ab af)∧Ap (F ao i aq) (F ae ab af)∧W.ownsRow X.heap.size 127 102 (.slice av S ar) S (Al Dd bg)∧W.ownsRow X.heap.size 190 66 (.slice ah ad ai) ad (Al CA bw)∧Ap (F av S ar) (F ah ad ai)∧Z (F av S ar) ag∧Z (F ah ad ai) ag∧Ap (F av S ar) (F aj (256*(P+S - 2)) ak)∧Ap (F av S ar) (F al i an)∧Ap (F av S ar) (F ao i aq)∧Ap (F av S ar) (F ae ab af)∧Ap (F ah ad ai) (F aj (256*(P+S - 2)) ak)∧Ap (F ah ad ai) (F al i an)∧Ap (F ah ad ai) (F ao i aq)∧Ap (F ah ad ai) (F ae ab af)∧Z (F aj (256*(P+S - 2)) ak) aw∧Z (F al i an) aw∧Z (F ao i aq) aw∧Z (F ae ab af) aw∧Z (F av S ar) aw∧Z (F ah ad ai) aw∧Ai W aw [[E ((CZ ax ay).1)],[F Y.p Y.L.length Y.c],[F ah ad ai]] 121∧Ai W ag [[E ((CZ ax ay).1)],[F Y.p Y.L.length Y.c],[F ah ad ai]] 121∧X.heap.size≤aC∧Z (F aj (256*(P+S - 2)) ak) aC∧Z (F al i an) aC∧Z (F ao i aq) aC∧Z (F ae ab af) aC∧Z (F av S ar) aC∧Z (F ah ad ai) aC∧aw<aC∧ag<aC∧Ai W aC [[E first],[E first],[E 0],[E 0],[E ((CZ ax ay).1)],[E Y.L.length],bv d136.l] 131) ?_ ?_
    ·
     refine C7 (fun W=>W.ownsRow X.heap.size 5 1 (.slice aj (256*(P+S - 2)) ak) (256*(P+S - 2)) (bv aV)∧W.ownsRow X.heap.size 131 38 (.slice al i an) i (Al DY bf)∧W.ownsRow X.heap.size 3 1 (.slice ao i aq) i (Al Ct a5)∧W.ownsRow X.heap.size 190 66 (.slice ae ab af) ab (Al CA a6)∧Below X.heap.size X W∧W.ownsRow X.heap.size 127 102 (.slice av S ar) S (Al Dd bg)∧W.ownsRow X.heap.size 190 66 (.slice ah ad ai) ad (Al CA bw)∧Ai W aw [[E ((CZ ax ay).1)],[F Y.p Y.L.length Y.c],[F ah ad ai]] 121∧Ai W ag [[E ((CZ ax ay).1)],[F Y.p Y.L.length Y.c],[F ah ad ai]] 121) ?_
     intro fl aG U
     have C:=V C U
     have A:=V A U
     have u:=V u U
     have t:=V t U
     have J:=V J U
     have H:=V H U
     have R:=Q R U
     have h:=Q h U
     have d:=Ah d U
     revert a
     refine Bk 0 D D ⟨C,A,u,t,d,J,H,R,h⟩<|Bk 1 D D ⟨C,A,u,t,d,J,H,R,h⟩<|BW 2 D Gx 0 D ⟨C,A,u,t,d,J,H,R,h⟩<|A5 3 D (fun W aM a aa=>by obtain⟨C,A,u,t,d,J,H,R,h⟩:=aM;exact Cl aa D AH D [] (E ((CZ ax ay).1)) [[F Y.p Y.L.length Y.c],[F ah ad ai]] h D) ⟨C,A,u,t,d,J,H,R,h⟩<|Bk 4 D D ⟨C,A,u,t,d,J,H,R,h⟩<|Bk 5 D D ⟨C,A,u,t,d,J,H,R,h⟩<|GY 6 D I3 i (bt+i*1) D D ⟨C,A,u,t,d,J,H,R,h⟩<|A5 7 D (fun W aM a aa=>by obtain⟨C,A,u,t,d,J,H,R,h⟩:=aM;have ef:=BJ Kn (ck.below d) cm (o:=bt+i*1);exact D1 aa D FB D (Dh [] (F Y.p Y.L.length Y.c) [] ef D)) ⟨C,A,u,t,d,J,H,R,h⟩<|Oy 8 D FB D ⟨C,A,u,t,d,J,H,R,h⟩<|Bk 9 D D ⟨C,A,u,t,d,J,H,R,h⟩<|Bk 10 D D ⟨C,A,u,t,d,J,H,R,h⟩<|Bk 11 D D ⟨C,A,u,t,d,J,H,R,h⟩<|Bk 12 D D ⟨C,A,u,t,d,J,H,R,h⟩<|GY 13 D I3 i (bt+i*1) D D ⟨C,A,u,t,d,J,H,R,h⟩<|A5 14 D (fun W aM a aa=>by obtain⟨C,A,u,t,d,J,H,R,h⟩:=aM;have eg:=BJ Kn (ck.below d) cm (o:=bt+i*1);exact D1 aa D FB D (Dh [] (F Y.p Y.L.length Y.c) [] eg D)) ⟨C,A,u,t,d,J,H,R,h⟩<|?_
     intro aU aB
     refine EW 15 17 3 D D D D ?_ ?_
     ·
      intro Aa aA
      refine B0 aB #[E wd,F bD 257 bE,F Y.p Y.L.length Y.c] NI (Rq ((wd:Nat):Int) _ _ _ _ _ _ _ _ (by omega) (cl.below d (Be _)) (cx.below d) (DF G8 (by decide) b2) (cz.below d) D (hm.below d).s hm.o hm.n) ?_
      rintro _ fm ⟨d136,rfl,bI⟩
      refine⟨_,D,?_⟩
      intro a aa
      have C:=V C bI
      have A:=V A bI
      have u:=V u bI
      have t:=V t bI
      have J:=V J bI
      have H:=V H bI
      have R:=Q R bI
      have h:=Q h bI
      have d:=Ah d bI
      refine aA _ _ ⟨C,A,u,t,d,J,H,R,h⟩ ?_;revert a
      refine A5 16 D (fun W aM a aa=>by obtain⟨C,A,u,t,d,J,H,R,h⟩:=aM;exact GG aa (Bf:=[(0,(E first)),(1,(E first)),(4,(E ((CZ ax ay).1))),(5,(E Y.L.length)),(6,(Value.agg (flat [bv d136.l])))]) D (r:=flat [[E first],[E first],[E 0],[E 0],[E ((CZ ax ay).1)],[E Y.L.length],bv d136.l]) (GI BV (ss:=[[E 0],[E 0],[E 0],[E 0],[E 0],[E 0],Av 32]) (by kernel_rfl) (places:=[(0,1),(1,1),(2,1),(3,1),(4,1),(5,1),(6,32)]) (by kernel_rfl) (C2 [] [[E 0]] [[E 0],[E 0],[E 0],[E 0],[E 0],Av 32] [[E first]] D Jb.nil (Jb.one Jb.nil) (Jb.one Jb.nil) D (C2 [[E first]] [[E 0]] [[E 0],[E 0],[E 0],[E 0],Av 32] [[E first]] D (Jb.one Jb.nil) (Jb.one Jb.nil) (Jb.one Jb.nil) D (C2 [[E first],[E first],[E 0],[E 0]] [[E 0]] [[E 0],Av 32] [[E ((CZ ax ay).1)]] D (Jb.one (Jb.one (Jb.one (Jb.one Jb.nil)))) (Jb.one Jb.nil) (Jb.one Jb.nil) D (C2 [[E first],[E first],[E 0],[E 0],[E ((CZ ax ay).1)]] [[E 0]] [Av 32] [[E Y.L.length]] D (Jb.one (Jb.one (Jb.one (Jb.one (Jb.one Jb.nil))))) (Jb.one Jb.nil) (Jb.one Jb.nil) D (C2 [[E first],[E first],[E 0],[E 0],[E ((CZ ax ay).1)],[E Y.L.length]] [Av 32] [] [bv d136.l] D (Jb.one (Jb.one (Jb.one (Jb.one (Jb.one (Jb.one Jb.nil)))))) (Jb.row (Jg 32) Jb.nil) (Jb.row d136.row Jb.nil) D D))))))) ⟨C,A,u,t,d,J,H,R,h⟩<|?_
      intro aU aB
      refine A8 17 1 D D ?_
      intro Aa aA
      refine Fq aB D (z:=(Value.agg (flat [[E 0],[E 0],[E 0],[E 0],[E 0],[E 0],Av 32]))) (by kernel_rfl) (ss:=[[E 0],[E 0],[E 0],[E 0],[E 0],[E 0],Av 32]) D ?_
      intro a aC fo az aa aG aE U
      have cF:=Bg d az
      have bJ:=BM C az
      have bX:=BM A az
      have bY:=BM u az
      have bZ:=BM t az
      have b0:=BM J az
      have b1:=BM H az
      have cG:=AP R az
      have cH:=AP h az
      have C:=V C U
      have A:=V A U
      have u:=V u U
      have t:=V t U
      have J:=V J U
      have H:=V H U
      have R:=Q R U
      have h:=Q h U
      have d:=Ah d U
      refine aA _ _ ⟨C,A,u,t,d,J,H,R,h⟩ ?_;revert a
      intro aU aB
      refine A8 18 0 D D ?_
      intro Aa aA
      refine Gs aB D [] [[E 0],[E 0],[E 0],[E 0],[E 0],[E 0],Av 32] [] [[E first],[E first],[E 0],[E 0],[E ((CZ ax ay).1)],[E Y.L.length],bv d136.l] aE D D (Eq.trans (Jb.one (Jb.one (Jb.one (Jb.one (Jb.one (Jb.one (Jb.row (Jg 32) Jb.nil))))))) (Eq.symm (Jb.one (Jb.one (Jb.one (Jb.one (Jb.one (Jb.one (Jb.row d136.row Jb.nil))))))))) (Cf 38) (Jc.one D (Jc.one D (Jc.one D (Jc.one D (Jc.one D (Jc.one D (Jc.row d136.row Jc.nil))))))) ?_
      intro a eh aa aG bF bK
      have C:=Ax C bK bJ
      have A:=Ax A bK bX
      have u:=Ax u bK bY
      have t:=Ax t bK bZ
      have J:=Ax J bK b0
      have H:=Ax H bK b1
      have R:=Ag bK R (by omega)
      have h:=Ag bK h (by omega)
      have d:=A1 d bK
      have aE:Ai eh aC [[E first],[E first],[E 0],[E 0],[E ((CZ ax ay).1)],[E Y.L.length],bv d136.l] 131:=bF
      refine aA _ _ ⟨C,A,u,t,d,J,H,R,h⟩ ?_;revert a
      refine B_<|G<|?_
      intro a aa
      exact⟨aC,d136,At aa,C,A,u,t,d,aF,aH,aI,aT,aJ,aK,aN,aL,aO,aP,J,H,bh,a7,bj,a8,bk,bl,bm,aW,a1,a2,bn,a3,a9,a_,a',ba,bb,R,h,cF,bJ,bX,bY,bZ,b0,b1,cG,cH,aE⟩
     ·
      intro Aa aA
      refine Fq aB D (z:=(Value.agg (flat [[E 0],[E 0],[E 0],[E 0],[E 0],[E 0],Av 32]))) (by kernel_rfl) (ss:=[[E 0],[E 0],[E 0],[E 0],[E 0],[E 0],Av 32]) D ?_
      intro a aC fp az aa aG aE U
      have cF:=Bg d az
      have db:=BM C az
      have dc:=BM A az
      have dd:=BM u az
      have de:=BM t az
      have df:=BM J az
      have dg:=BM H az
      have cG:=AP R az
      have cH:=AP h az
      have C:=V C U
      have A:=V A U
      have u:=V u U
      have t:=V t U
      have J:=V J U
      have H:=V H U
      have R:=Q R U
      have h:=Q h U
      have d:=Ah d U
      refine aA _ _ ⟨C,A,u,t,d,J,H,R,h⟩ ?_;revert a
      intro aU aB
      refine A8 15 2 D D ?_
      intro Aa aA
      refine B0 aB #[E wd,F bD 257 bE,F Y.p Y.L.length Y.c] NI (Rq ((wd:Nat):Int) _ _ _ _ _ _ _ _ (by omega) (cl.below d (Be _)) (cx.below d) (DF G8 (by decide) b2) (cz.below d) D (hm.below d).s hm.o hm.n) ?_
      rintro _ fq ⟨d155,rfl,bz⟩
      refine⟨_,D,?_⟩
      intro a aa
      have C:=V C bz
      have A:=V A bz
      have u:=V u bz
      have t:=V t bz
      have J:=V J bz
      have H:=V H bz
      have R:=Q R bz
      have h:=Q h bz
      have aE:=Q aE bz
      have d:=Ah d bz
      refine aA _ _ ⟨C,A,u,t,d,J,H,R,h⟩ ?_;revert a
      refine A5 16 D (fun W aM a aa=>by obtain⟨C,A,u,t,d,J,H,R,h⟩:=aM;exact GG aa (Bf:=[(0,(E first)),(1,(E first)),(4,(E ((CZ ax ay).1))),(5,(E Y.L.length)),(6,(Value.agg (flat [bv d155.l])))]) D (r:=flat [[E first],[E first],[E 0],[E 0],[E ((CZ ax ay).1)],[E Y.L.length],bv d155.l]) (GI BV (ss:=[[E 0],[E 0],[E 0],[E 0],[E 0],[E 0],Av 32]) (by kernel_rfl) (places:=[(0,1),(1,1),(2,1),(3,1),(4,1),(5,1),(6,32)]) (by kernel_rfl) (C2 [] [[E 0]] [[E 0],[E 0],[E 0],[E 0],[E 0],Av 32] [[E first]] D Jb.nil (Jb.one Jb.nil) (Jb.one Jb.nil) D (C2 [[E first]] [[E 0]] [[E 0],[E 0],[E 0],[E 0],Av 32] [[E first]] D (Jb.one Jb.nil) (Jb.one Jb.nil) (Jb.one Jb.nil) D (C2 [[E first],[E first],[E 0],[E 0]] [[E 0]] [[E 0],Av 32] [[E ((CZ ax ay).1)]] D (Jb.one (Jb.one (Jb.one (Jb.one Jb.nil)))) (Jb.one Jb.nil) (Jb.one Jb.nil) D (C2 [[E first],[E first],[E 0],[E 0],[E ((CZ ax ay).1)]] [[E 0]] [Av 32] [[E Y.L.length]] D (Jb.one (Jb.one (Jb.one (Jb.one (Jb.one Jb.nil))))) (Jb.one Jb.nil) (Jb.one Jb.nil) D (C2 [[E first],[E first],[E 0],[E 0],[E ((CZ ax ay).1)],[E Y.L.length]] [Av 32] [] [bv d155.l] D (Jb.one (Jb.one (Jb.one (Jb.one (Jb.one (Jb.one Jb.nil)))))) (Jb.row (Jg 32) Jb.nil) (Jb.row d155.row Jb.nil) D D))))))) ⟨C,A,u,t,d,J,H,R,h⟩<|?_
      intro aU aB
      refine A8 18 0 D D ?_
      intro Aa aA
      refine Gs aB D [] [[E 0],[E 0],[E 0],[E 0],[E 0],[E 0],Av 32] [] [[E first],[E first],[E 0],[E 0],[E ((CZ ax ay).1)],[E Y.L.length],bv d155.l] aE D D (Eq.trans (Jb.one (Jb.one (Jb.one (Jb.one (Jb.one (Jb.one (Jb.row (Jg 32) Jb.nil))))))) (Eq.symm (Jb.one (Jb.one (Jb.one (Jb.one (Jb.one (Jb.one (Jb.row d155.row Jb.nil))))))))) (Cf 38) (Jc.one D (Jc.one D (Jc.one D (Jc.one D (Jc.one D (Jc.one D (Jc.row d155.row Jc.nil))))))) ?_
      intro a ei aa aG bF bL
      have C:=Ax C bL db
      have A:=Ax A bL dc
      have u:=Ax u bL dd
      have t:=Ax t bL de
      have J:=Ax J bL df
      have H:=Ax H bL dg
      have R:=Ag bL R (by omega)
      have h:=Ag bL h (by omega)
      have d:=A1 d bL
      have aE:Ai ei aC [[E first],[E first],[E 0],[E 0],[E ((CZ ax ay).1)],[E Y.L.length],bv d155.l] 131:=bF
      refine aA _ _ ⟨C,A,u,t,d,J,H,R,h⟩ ?_;revert a
      refine B_<|G<|?_
      intro a aa
      exact⟨aC,d155,At aa,C,A,u,t,d,aF,aH,aI,aT,aJ,aK,aN,aL,aO,aP,J,H,bh,a7,bj,a8,bk,bl,bm,aW,a1,a2,bn,a3,a9,a_,a',ba,bb,R,h,cF,db,dc,dd,de,df,dg,cG,cH,aE⟩
    ·
     rintro a fr ⟨aC,d136,aa,C,A,u,t,d,aF,aH,aI,aT,aJ,aK,aN,aL,aO,aP,J,H,bh,a7,bj,a8,bk,bl,bm,aW,a1,a2,bn,a3,a9,a_,a',ba,bb,R,h,cF,bJ,bX,bY,bZ,b0,b1,cG,cH,aE⟩
     revert a
     refine G<|?_
     intro a aa
     refine ES (fun a W=>∃cI,Ao 109 a (Ja (Ja (Ja (Ja (Ja (Ja (Ja (Ja (Ja (Ja (Ja (Ja (Ja Je 0 (E wd)) 1 (E first)) 2 (F (some ⟨cy,bt,none⟩) n c)) 6 (F none 0 0)) 7 (E 0)) 8 (F bD 257 bE)) 12 (AB ag)) 13 (E (P+S))) 14 (E i)) 10 (F al i an)) 11 (F ao i aq)) 9 (F aj (256*(P+S - 2)) ak)) 18 (AB aC))∧cI≤first+1∧W.ownsRow X.heap.size 5 1 (.slice aj (256*(P+S - 2)) ak) (256*(P+S - 2)) (bv aV)∧W.ownsRow X.heap.size 131 38 (.slice al i an) i (Al DY bf)∧W.ownsRow X.heap.size 3 1 (.slice ao i aq) i (Al Ct a5)∧W.ownsRow X.heap.size 190 66 (.slice ae ab af) ab (Al CA a6)∧Below X.heap.size X W∧Z (F aj (256*(P+S - 2)) ak) ag∧Z (F al i an) ag∧Z (F ao i aq) ag∧Z (F ae ab af) ag∧Ap (F aj (256*(P+S - 2)) ak) (F al i an)∧Ap (F aj (256*(P+S - 2)) ak) (F ao i aq)∧Ap (F al i an) (F ao i aq)∧Ap (F aj (256*(P+S - 2)) ak) (F ae ab af)∧Ap (F al i an) (F ae ab af)∧Ap (F ao i aq) (F ae ab af)∧W.ownsRow X.heap.size 127 102 (.slice av S ar) S (Al Dd bg)∧W.ownsRow X.heap.size 190 66 (.slice ah ad ai) ad (Al CA bw)∧Ap (F av S ar) (F ah ad ai)∧Z (F av S ar) ag∧Z (F ah ad ai) ag∧Ap (F av S ar) (F aj (256*(P+S - 2)) ak)∧Ap (F av S ar) (F al i an)∧Ap (F av S ar) (F ao i aq)∧Ap (F av S ar) (F ae ab af)∧Ap (F ah ad ai) (F aj (256*(P+S - 2)) ak)∧Ap (F ah ad ai) (F al i an)∧Ap (F ah ad ai) (F ao i aq)∧Ap (F ah ad ai) (F ae ab af)∧Z (F aj (256*(P+S - 2)) ak) aw∧Z (F al i an) aw∧Z (F ao i aq) aw∧Z (F ae ab af) aw∧Z (F av S ar) aw∧Z (F ah ad ai) aw∧Ai W aw [[E ((CZ ax ay).1)],[F Y.p Y.L.length Y.c],[F ah ad ai]] 121∧Ai W ag [[E ((CZ ax ay).1)],[F Y.p Y.L.length Y.c],[F ah ad ai]] 121∧Z (F aj (256*(P+S - 2)) ak) aC∧Z (F al i an) aC∧Z (F ao i aq) aC∧Z (F ae ab af) aC∧Z (F av S ar) aC∧Z (F ah ad ai) aC∧Ai W aC [[E cI],[E first],[E 0],[E 0],[E ((CZ ax ay).1)],[E Y.L.length],bv d136.l] 131) ?_ ?_
     ·
      revert a
      refine K<|N<|I D<|Dk (q:=(0:Nat)) D D<|M<|G<|Bl D (fun ej=>?_) fun ej=>?_
      ·
       refine N<|Am BV 0 D<|C_ 0 aE D D ?_
       intro ek aG bF bM
       have C:=Ax C bM bJ
       have A:=Ax A bM bX
       have u:=Ax u bM bY
       have t:=Ax t bM bZ
       have J:=Ax J bM b0
       have H:=Ax H bM b1
       have R:=Ag bM R (by omega)
       have h:=Ag bM h (by omega)
       have d:=A1 d bM
       have aE:Ai ek aC [[E 1],[E first],[E 0],[E 0],[E ((CZ ax ay).1)],[E Y.L.length],bv d136.l] 131:=bF
       refine M<|G<|?_
       intro a aa
       exact⟨_,At aa,by omega,C,A,u,t,d,T aF,T aH,T aI,T aT,AI aJ,AI aK,AI aN,AI aL,AI aO,AI aP,J,H,AI bh,T a7,T bj,AI a8,AI bk,AI bl,AI bm,AI aW,AI a1,AI a2,AI bn,T a3,T a9,T a_,T a',T ba,T bb,R,h,T bJ,T bX,T bY,T bZ,T b0,T b1,aE⟩
      ·
       refine AE<|G<|?_
       intro a aa
       exact⟨_,At aa,by omega,C,A,u,t,d,T aF,T aH,T aI,T aT,AI aJ,AI aK,AI aN,AI aL,AI aO,AI aP,J,H,AI bh,T a7,T bj,AI a8,AI bk,AI bl,AI bm,AI aW,AI a1,AI a2,AI bn,T a3,T a9,T a_,T a',T ba,T bb,R,h,T bJ,T bX,T bY,T bZ,T b0,T b1,aE⟩
     ·
      rintro a fs ⟨cI,aa,ft,C,A,u,t,d,aF,aH,aI,aT,aJ,aK,aN,aL,aO,aP,J,H,bh,a7,en,a8,bk,bl,bm,aW,a1,a2,bn,a3,a9,a_,a',ba,bb,R,h,bJ,bX,bY,bZ,b0,b1,aE⟩
      revert a
      refine K<|?_
      have eo:∀y∈a5,y≤P+S:=fun y bG=>by have:=c0 y bG;omega
      refine N<|I D<|I D<|BP BV aE D<|AS Pr D (UU _ _ _ _ _ _ _ (⟨cI,first,0,0,(CZ ax ay).1,Y.L.length,d136⟩:Ef) (first+1+i) (P+S) _ (by omega) (by omega) (by omega) (View.own A) (DF Ha (by decide) A) (View.own u) (DF En (by decide) u) cZ eo (by dsimp only;omega)) ?_
      rintro _ fu ⟨bN,rfl,fv,fw,fx,fy,ep,er,bA⟩
      refine⟨_,D,?_⟩
      have C:=V C bA
      have A:=V A bA
      have u:=V u bA
      have t:=V t bA
      have J:=V J bA
      have H:=V H bA
      have R:=Q R bA
      have h:=Q h bA
      have aE:=Q aE bA
      have d:=Ah d bA
      try dsimp only at ep er
      refine Bi 0 7 aE D D ?_
      intro cJ aG bB bO
      have C:=Ax C bO bJ
      have A:=Ax A bO bX
      have u:=Ax u bO bY
      have t:=Ax t bO bZ
      have J:=Ax J bO b0
      have H:=Ax H bO b1
      have R:=Ag bO R (by omega)
      have h:=Ag bO h (by omega)
      have d:=A1 d bO
      refine M<|G<|K<|N<|I D<|I D<|BP BV bB D<|AS QN D (Ww bN _ ⟨by omega,by omega,by omega,by omega,by omega,by omega⟩) ?_
      rintro _ cK ⟨cf,cg,et,rfl,aD,bC⟩
      refine⟨_,D,?_⟩
      have aX:=C.lt
      have aY:=A.lt
      have aZ:=u.lt
      have a0:=t.lt
      have ca:=J.lt
      have cb:=H.lt
      have aS:X.heap.size≤cJ.heap.size:=d.size
      have cE:aw<cJ.heap.size:=Ar R
      have cv:ag<cJ.heap.size:=Ar h
      have eu:aC<cJ.heap.size:=Ar bB
      have C:=V C bC
      have A:=V A bC
      have u:=V u bC
      have t:=V t bC
      have J:=V J bC
      have H:=V H bC
      have R:=Q R bC
      have h:=Q h bC
      have bB:=Q bB bC
      have d:=Ah d bC
      have ev:Ap (F cf 56 cg) (F aj (256*(P+S - 2)) ak):=fun k B e=>by have:=(aD.lt k B).1;have:=(aX k e).2;omega
      have ew:Ap (F cf 56 cg) (F al i an):=fun k B e=>by have:=(aD.lt k B).1;have:=(aY k e).2;omega
      have ey:Ap (F cf 56 cg) (F ao i aq):=fun k B e=>by have:=(aD.lt k B).1;have:=(aZ k e).2;omega
      have fz:Ap (F cf 56 cg) (F ae ab af):=fun k B e=>by have:=(aD.lt k B).1;have:=(a0 k e).2;omega
      have fA:Ap (F cf 56 cg) (F av S ar):=fun k B e=>by have:=(aD.lt k B).1;have:=(ca k e).2;omega
      have fB:Ap (F cf 56 cg) (F ah ad ai):=fun k B e=>by have:=(aD.lt k B).1;have:=(cb k e).2;omega
      have aD:=CB aD aS
      refine AS MK D (Qg 3 (P+S) _ _ _ _ _ (cl.below d (Be _)) (by omega) (by omega) (View.own aD) (CS aD)) ?_
      rintro _ fC ⟨ch,cj,rfl,br,bP⟩
      refine⟨_,D,?_⟩
      have aX:=C.lt
      have aY:=A.lt
      have aZ:=u.lt
      have a0:=t.lt
      have ca:=J.lt
      have cb:=H.lt
      have ez:=aD.lt
      have aS:X.heap.size≤cK.heap.size:=d.size
      have cE:aw<cK.heap.size:=Ar R
      have cv:ag<cK.heap.size:=Ar h
      have eu:aC<cK.heap.size:=Ar bB
      have C:=V C bP
      have A:=V A bP
      have u:=V u bP
      have t:=V t bP
      have H:=V H bP
      have h:=Q h bP
      have bB:=Q bB bP
      have aD:=V aD bP
      have d:=Ah d bP
      have fD:Ap (F ch 256 cj) (F aj (256*(P+S - 2)) ak):=fun k B e=>by have:=(br.lt k B).1;have:=(aX k e).2;omega
      have fE:Ap (F ch 256 cj) (F al i an):=fun k B e=>by have:=(br.lt k B).1;have:=(aY k e).2;omega
      have fF:Ap (F ch 256 cj) (F ao i aq):=fun k B e=>by have:=(br.lt k B).1;have:=(aZ k e).2;omega
      have fG:Ap (F ch 256 cj) (F ae ab af):=fun k B e=>by have:=(br.lt k B).1;have:=(a0 k e).2;omega
      have fH:Ap (F ch 256 cj) (F av S ar):=fun k B e=>by have:=(br.lt k B).1;have:=(ca k e).2;omega
      have fI:Ap (F ch 256 cj) (F ah ad ai):=fun k B e=>by have:=(br.lt k B).1;have:=(cb k e).2;omega
      have fJ:Ap (F ch 256 cj) (F cf 56 cg):=fun k B e=>by have:=(br.lt k B).1;have:=(ez k e).2;omega
      have br:=CB br aS
      intro aU aB
      refine Bj D (fun Aa aA=>BK aB A0 C (View.own br) (G4 _) d.size ((256*(P+S - 2))+256) (zs:=bv (aV++(Ref.Fe 3 (P+S) et))) (by rw[Nat.mul_one,List.take_of_length_le (by rw[D_];exact Nat.le_of_eq (CS br)),Hv]) ?_)
      intro a dh di fK aa bs a4
      have dj:=aJ.BR a4 (fun k B=>(A.lt k B).2)
      have dk:=aK.BR a4 (fun k B=>(u.lt k B).2)
      have dm:=aL.BR a4 (fun k B=>(t.lt k B).2)
      have eA:=aW.Df a4 (fun k B=>(H.lt k B).2)
      have eB:=A9 a4 aF (Ar h)
      have A:=Bm A a4 aJ.symm
      have u:=Bm u a4 aK.symm
      have t:=Bm t a4 aL.symm
      have H:=Bm H a4 aW
      have h:=A' h a4 aF
      have bB:=A' bB a4 bJ
      have aD:=Bm aD a4 ev
      have d:=Cm d a4 C
      refine aA _ _ ?_;revert a
      refine O D<|M<|G<|K<|N<|I D<|BP BV bB D<|E8 F_ [[E bN.v],[E bN.f],[E bN.ZG],[E bN.ZZ],[E bN.r],[E bN.c],bv bN.s.l] ?_
      intro fN aG eC U
      have A:=V A U
      have u:=V u U
      have t:=V t U
      have H:=V H U
      have h:=Q h U
      have aD:=V aD U
      have bs:=V bs U
      have d:=Ah d U
      intro aU aB
      refine Bj D (fun Aa aA=>BK aB F_ A eC C8 d.size (i+1) (CC bf bN D (Ha _)) ?_)
      intro a fO fP fQ aa cq bc
      have eD:=dj.Df bc (fun k B=>(bs.lt k B).2)
      have dn:=aN.BR bc (fun k B=>(u.lt k B).2)
      have dp:=aO.BR bc (fun k B=>(t.lt k B).2)
      have eE:=a1.Df bc (fun k B=>(H.lt k B).2)
      have eF:=A9 bc aH (Ar h)
      have u:=Bm u bc aN.symm
      have t:=Bm t bc aO.symm
      have H:=Bm H bc a1
      have h:=A' h bc aH
      have aD:=Bm aD bc ew
      have bs:=Bm bs bc dj
      have d:=Cm d bc A
      refine aA _ _ ?_;revert a
      refine O D<|M<|G<|K<|N<|I D<|I D<|D6 DK D (cs:=#[E (P+S)]) D D ?_
      intro fR aG eG U
      have u:=V u U
      have t:=V t U
      have H:=V H U
      have h:=Q h U
      have aD:=V aD U
      have bs:=V bs U
      have cq:=V cq U
      have d:=Ah d U
      intro aU aB
      refine Bj D (fun Aa aA=>BK aB DK u eG (by simp[Value.oneCell']) d.size (i+1) (CC a5 (P+S) D (En _)) ?_)
      intro a fS fT fU aa eH bd
      have eI:=dk.Df bd (fun k B=>(bs.lt k B).2)
      have eJ:=dn.Df bd (fun k B=>(cq.lt k B).2)
      have dq:=aP.BR bd (fun k B=>(t.lt k B).2)
      have eK:=a2.Df bd (fun k B=>(H.lt k B).2)
      have eL:=A9 bd aI (Ar h)
      have t:=Bm t bd aP.symm
      have eM:=Bm H bd a2
      have h:=A' h bd aI
      have aD:=Bm aD bd ey
      have bs:=Bm bs bd dk
      have cq:=Bm cq bd dn
      have d:=Cm d bd u
      refine aA _ _ ?_;revert a
      refine O D<|M<|G<|N<|I D<|A_ (q:=1) D D<|O D<|M<|Bq<|G<|N<|I D<|A_ (q:=1) D D<|O D<|M<|?_
      have dm:=eA.symm
      have dp:=eE.symm
      have dq:=eK.symm
      refine G<|?_
      intro a aa
      replace aa:=aa.HN 9 D (show(F dh ((256*(P+S - 2))+256) di)=Value.slice dh (256*(P+S+1 - 2)) di from by rw[show(256*(P+S - 2))+256=256*(P+S+1 - 2)by omega])
      exact⟨_,by omega,i+1,P+S+1,_,Y,_,_,_,_,_,_,_,_,_,_,_,_,_,D,At aa,by omega,Aw (Ux cm cN cA cB (by omega)),hm,dx,fun x b3=>Bs (MJ cB dy.2 x b3) (by omega),by have:=bu.r2;omega,Gn (fun y bG=>by have:=cZ y bG;omega) (by omega),Gn (fun y bG=>by have:=c0 y bG;omega) (by omega),cu.snoc (by omega) (by omega) (by omega) (by have:=CS aD;omega),HO (by omega) bs,cq,eH,eM,d,h,T eB,T eF,T eL,T en,AI eD,AI eI,AI eJ,AI dm,AI dp,AI dq⟩
 ·
  refine BO<|AW<|AW<|BN<|G<|K<|N<|I D<|I D<|O D<|O D<|M<|G<|AA<|IA D D<|?_
  obtain rfl:n=i:=by omega
  have cn:=cX.out
  rw[List.take_of_length_le (Nat.le_of_eq cV)]at cn
  exact⟨_,_,_,_,D,CB C cW,cu,by rw[cn],Gb,cr.trans (d.mono cW)⟩
end Go.Proofs.YtcdaflcjhimimaaGreatDoor
