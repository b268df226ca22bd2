/- Laws and walks on the road to SalvageNever and SalvageHeals (part M23). No conditions beyond each law's own. -/
import Derived.Test.YtcdaflcjhimimaaGreatDoorM01
import Derived.Test.YtcdaflcjhimimaaGreatDoorM22
import Derived.Test.YtcdaflcjhimimaaGreatDoorM04
import Derived.Test.YtcdaflcjhimimaaGreatDoorM07
import Derived.Test.YtcdaflcjhimimaaGreatDoorM05
import Derived.Test.YtcdaflcjhimimaaGreatDoorM14
import Derived.Test.YtcdaflcjhimimaaGreatDoorM17
import Derived.Test.YtcdaflcjhimimaaGreatDoorM08
set_option linter.unusedVariables false
namespace Go.Proofs.YtcdaflcjhimimaaGreatDoor
open Go.RowKit
set_option maxRecDepth 100000
set_option maxHeartbeats 1000000
def KW(x y u:Fr.Ch):Prop:=(x.g=y.g+1∧y.m≤x.m∧u=x)∨(y.g=x.g+1∧x.m≤y.m∧u=y)
theorem SC(q a:Option Addr)(c c':Nat)(l b:List UInt8)(x y u:Fr.Ch)(w:World)(i:CT w)(j:View w (.slice q 256 c) 256 1 (bv l))(k:EU l x)(n:View w (.slice a 256 c') 256 1 (bv b))(o:EU b y)(r:x.g % 2=0)(s:y.g % 2=1)(t:x.w=y.w)(v:x.p=y.p)(hu:KW x y u):
 Calls Tryz.prog 53 #[.slice q 256 c,.slice a 256 c'] w fun e w'=>e=.returned (.tuple #[Value.agg (flat [[E u.w],[E u.g],[E u.m],[E u.h],[E u.p]]),.int .i64 ((0:Nat):Int)])∧Below w.heap.size w w':=by
 rcases hu with⟨d,f,rfl⟩|⟨d,f,rfl⟩
 ·exact XD q a c c' l b u y w i j k n o r s t v d f
 ·exact Vy q a c c' l b x u w i j k n o r s t v d f
theorem V1{q:Option Addr}{n c:Nat}{l:List UInt8}{x y u:Fr.Ch}{w:World}(A:CT w)(s:View w (.slice q n c) n 1 (bv l))(aa:l.length=n)(hn:n=256*u.p)(ab:3≤u.p∧u.p≤4096)(B:EU ((l.drop (256*0)).take 256) x)(C:EU ((l.drop (256*1)).take 256) y)(H:x.g % 2=0)(J:y.g % 2=1)(L:x.w=y.w)(P:x.p=y.p)(hu:KW x y u):
 Calls Tryz.prog 27 #[F q n c] w fun e w'=>e=.returned (.tuple #[Value.agg (flat [[E u.w],[E u.g],[E u.m],[E u.h],[E u.p]]),.int .i64 ((0:Nat):Int)])∧Below w.heap.size w w':=by
 have b:Below w.heap.size w w:=Bu _ _
 refine Bx Q0 D 40 ?_
 refine K<|N<|BQ [[E 0],[E 0],[E 0],[E 0],[E 0]] ?_
 intro ad ae k r f d
 have af:=Bg b k
 have b:=Ah b d
 refine O (v:=(E 0)) D<|M<|G<|K<|K<|N<|I D<|BY Cr D<|EM (q:=256) D D<|?_
 have R:(((n % 256:Nat):Int)=((0:Nat):Int)):=by omega
 refine Dr R D D<|M<|G<|BE D<|AE<|G<|K<|N<|I D<|BY Cr D<|FK (q:=256) D D<|O D<|M<|G<|K<|K<|N<|I D<|?_
 have S:¬(((n/256:Nat):Int)<((3:Nat):Int)):=by omega
 refine DO S D D<|I D<|Ad D D D<|I D<|?_
 have T:¬(((4096:Nat):Int)<((n/256:Nat):Int)):=by omega
 refine Ad D D D<|FV T D D<|Ba D D<|M<|G<|BE D<|AE<|G<|K<|N<|I D<|AS MA D (OB (j:=0) (by omega) (s.below b)) ?_
 rintro _ ag ⟨ah,ai,rfl,i,d⟩
 refine⟨_,D,?_⟩
 have f:=Q f d
 have b:=Ah b d
 refine I D<|AS MA D (OB (j:=1) (by omega) (s.below b)) ?_
 rintro _ aj ⟨ak,al,rfl,v11,d⟩
 refine⟨_,D,?_⟩
 have f:=Q f d
 have i:=i.below d
 have b:=Ah b d
 refine AS Ns D (SC _ _ _ _ _ _ x y u _ (A.below b (Be _)) i B v11 C H J L P hu) ?_
 rintro _ an ⟨rfl,o⟩
 refine⟨_,D,?_⟩
 have f:=Q f o
 have i:=i.below o
 have v11:=v11.below o
 have b:=Ah b o
 refine I D<|BC D D<|BC D D<|BQ [[E 0],[E 0],[E 0],[E 0],[E 0]] ?_
 intro ao aq k r U d
 have ar:=Bg b k
 have au:=AP f k
 have f:=Q f d
 have i:=i.below d
 have v11:=v11.below d
 have b:=Ah b d
 refine Bi 0 5 U D D ?_
 intro av r t z
 have f:=Ag z f (by omega)
 have b:=A1 b z
 refine O (v:=(E 0)) D<|M<|G<|K<|K<|N<|I (v:=(E 0)) D<|?_
 have V:(((0:Nat):Int)=((0:Nat):Int)):=D
 refine Dr V D D<|M<|G<|BE D<|AE<|G<|K<|K<|N<|Am Bw 4 D<|AK AH 4 t D D<|I D<|?_
 have W:(((u.p:Nat):Int)=((n/256:Nat):Int)):=by omega
 refine Dr W D D<|M<|G<|BE D<|AE<|G<|K<|N<|BP Bw t D<|Bi 0 5 f D D ?_
 intro aw r X Y
 have b:=A1 b Y
 refine O (v:=(E 0)) D<|M<|G<|AA<|?_
 intro a Z
 refine DG Z D D D X Bw D (by kernel_rfl) ?_
 exact⟨D,b⟩
theorem QE{Aj sb:Nat}{z:EC}{w:World}(s:Is Aj sb w z none 0 0 [])(ah:z.AN.length≤4096):
 Calls Tryz.prog 32 #[AB sb] w fun e w'=>∃DU,e=.returned (.tuple #[])∧w'.heap[sb]? =some (.cells (flat (z.HD DU)) 66 (0,0))∧Bd (E1 sb (.slice z.AO z.Aq.length z.AJ) (.slice none 0 0)) w w':=by
 have i:=s.Pz
 have ay:sb<w.heap.size:=Ar s.bk
 have A:∀p∈z.AN,p<z.AD:=s.E9
 have ai:z.AD≤4096:=s.m
 have aj:=s.bk
 obtain⟨wd,ge,AD,Ab,Ak,Bp,AY,AV,Bv,As,Ay,qr,AR,AM,By,AG,AN,AO,AJ,Aq,AQ,ce,Cp⟩:=z
 dsimp only at A ai ah
 have b:Ai w sb [[E wd],[E ge],[E AD],[E Ab],[E Ak],[F Bp AV.length AY],[F Bv Ay.length As],[F qr AM.length AR],[F By AN.length AG],[F AO Aq.length AJ],[F none 0 0],[F AQ 257 ce]] 66:=aj
 have az:CR w.heap.size sb w Bp AV.length AY 1 (Al Ct AV):=i.k
 have aA:CR w.heap.size sb w Bv Ay.length As 102 (Al Dd Ay):=i.n
 have aB:CR w.heap.size sb w qr AM.length AR 38 (Al DY AM):=i.r
 have B:CR w.heap.size sb w By AN.length AG 1 (Al Ct AN):=i.a
 have aC:CR w.heap.size sb w AO Aq.length AJ 1 (Al EP Aq):=i.t
 have d:w.ownsRow w.heap.size 173 2 (.slice none 0 0) 0 (Al Em []):=World.ownsRow_nil _ _ _ _
 have g:Z (F none 0 0) sb:=FL
 have S:Bd (E1 sb (F AO Aq.length AJ) (F none 0 0)) w w:=Bd.refl _ _
 have f:Cd w.heap.size sb w w:=Cd.refl _ _ _
 refine Bx MV D 51 ?_
 refine K<|N<|O (v:=(E 1)) D<|M<|G<|?_
 intro a c
 refine ES (fun a W=>∃l,Ao 51 a (Ja (Ja Je 0 (AB sb)) 2 (E l))∧l≤5000∧Ai W sb [[E wd],[E ge],[E AD],[E Ab],[E Ak],[F Bp AV.length AY],[F Bv Ay.length As],[F qr AM.length AR],[F By AN.length AG],[F AO Aq.length AJ],[F none 0 0],[F AQ 257 ce]] 66∧Cd w.heap.size sb w W∧W.ownsRow w.heap.size 173 2 (.slice none 0 0) 0 (Al Em ([]))∧Z (F none 0 0) sb∧Bd (E1 sb (F AO Aq.length AJ) (F none 0 0)) w W) ?_ ?_
 ·
  revert a
  refine K<|N<|I D<|Bt D<|Am Cc 8 D<|AK Eo 8 b D D<|BY Eo D<|Ip (q:=(0:Nat)) D D<|M<|G<|Bl D (fun ak=>?_) fun ak=>?_
  ·
   intro a c
   refine Gm (by kernel_rfl) (by kernel_rfl) ?_
   intro aD i u
   have S:=S.below u
   have b:=Q b u
   have d:=V d u
   have f:=Fo f u
   revert a
   refine A3 D<|Ee D<|Cx Cc 8 D<|Dx Eo 8 b D D<|A3 D<|Ee D<|Cx Cc 8 D<|Dx Eo 8 b D D<|J_ Eo D<|HI (q:=1) D D<|?_
   obtain⟨aE,C,rfl⟩:=Ca (B.below f)
   obtain⟨H,J⟩:=getD_some (L:=AN) (j:=AN.length - 1) D (by omega)
   have al:=BJ En (B.below f) J (o:=C+(AN.length - 1)*1)
   refine C0 DK (AN.length - 1) (C+(AN.length - 1)*1) D D<|Dw AH (Dh [] (E H) [] al D) D<|?_
   have aF:=A H (List.mem_of_getElem? J)
   refine Ff D<|Er<|G<|?_
   intro a c
   exact⟨_,At c,by omega,b,f,d,T g,S⟩
  ·
   refine AE<|G<|?_
   intro a c
   exact⟨_,At c,by omega,b,f,d,T g,S⟩
 ·
  rintro a P ⟨l,c,x,b,f,d,g,S⟩
  revert a
  refine K<|K<|N<|I D<|A_ (q:=1) D D<|I D<|Bt D<|Am Cc 0 D<|Am Bw 2 D<|AK AH 2 b D D<|B5 D D<|M<|G<|Bl D (fun an=>?_) fun an=>?_
  ·
   refine K<|N<|I D<|I D<|A_ (q:=1) D D<|AS IJ D (Iw (p:=(l+1)) (y:=((172:Nat):Int)) (Hx:=[E wd,E ge,E AD,E Ab,E Ak,F Bp AV.length AY,F Bv Ay.length As,F qr AM.length AR,F By AN.length AG,F AO Aq.length AJ]) (Ho:=[F AQ 257 ce]) ⟨D,Gc (ss:=[[E wd],[E ge],[E AD],[E Ab],[E Ak],[F Bp AV.length AY],[F Bv Ay.length As],[F qr AM.length AR],[F By AN.length AG],[F AO Aq.length AJ]]) (Jc.one D (Jc.one D (Jc.one D (Jc.one D (Jc.one D (Jc.one D (Jc.one D (Jc.one D (Jc.one D (Jc.one D Jc.nil))))))))))⟩ ⟨D,Gc (ss:=[[F AQ 257 ce]]) (Jc.one D Jc.nil)⟩ f.size (by omega) b d g) ?_
   rintro _ R ⟨U,X,rfl,ao,aq,ar,aG,Y⟩
   refine⟨_,D,?_⟩
   have au:Cd w.heap.size sb P R:=Y.JF f.size (fun k h=>h.elim (fun q=>.inr q) (fun q=>.inl (d.lt k q).1))
   have S:=S.trans Y (fun k h x=>h.elim (fun q=>.inl q) (fun q=>absurd x (by have:=(d.lt k q).1;omega)))
   have b:Ai R sb [[E wd],[E ge],[E AD],[E Ab],[E Ak],[F Bp AV.length AY],[F Bv Ay.length As],[F qr AM.length AR],[F By AN.length AG],[F AO Aq.length AJ],[F U (0+1) X],[F AQ 257 ce]] 66:=ao;have d:=aq;have g:=ar
   refine M<|G<|AA<|AX<|?_
   intro a c
   refine Ec c D ?_
   exact⟨F U (0+1) X,D,b,S⟩
  ·
   refine AE<|G<|K<|N<|I D<|Bt D<|Am Cc 8 D<|AK Eo 8 b D D<|BY Eo D<|?_
   by_cases aa:((0:Nat):Int)<((AN.length:Nat):Int)
   ·
    refine Gp aa D D<|I D<|Ad D D D<|I D<|Ad D D D<|Bt D<|Ad D D D<|Am Cc 0 D<|Ad D D D<|Am Bw 3 D<|Ad D D D<|AK AH 3 b D D<|Ad D D D<|I D<|?_
    by_cases ab:((Ab:Nat):Int)=((l:Nat):Int)
    ·
     refine Ad D D D<|Dr ab D D<|Bn D D<|M<|G<|BE D<|AE<|?_
     intro a c
     refine FD ?_
     refine Ec c D ?_
     exact⟨F none 0 0,D,b,S⟩
    ·
     refine Ad D D D<|F6 ab D D<|Bn D D<|M<|G<|BS D<|N<|I D<|I D<|AS IJ D (Iw (p:=l) (y:=((173:Nat):Int)) (Hx:=[E wd,E ge,E AD,E Ab,E Ak,F Bp AV.length AY,F Bv Ay.length As,F qr AM.length AR,F By AN.length AG,F AO Aq.length AJ]) (Ho:=[F AQ 257 ce]) ⟨D,Gc (ss:=[[E wd],[E ge],[E AD],[E Ab],[E Ak],[F Bp AV.length AY],[F Bv Ay.length As],[F qr AM.length AR],[F By AN.length AG],[F AO Aq.length AJ]]) (Jc.one D (Jc.one D (Jc.one D (Jc.one D (Jc.one D (Jc.one D (Jc.one D (Jc.one D (Jc.one D (Jc.one D Jc.nil))))))))))⟩ ⟨D,Gc (ss:=[[F AQ 257 ce]]) (Jc.one D Jc.nil)⟩ f.size (by omega) b d g) ?_
     rintro _ ad ⟨ae,af,rfl,av,aw,ax,aH,ag⟩
     refine⟨_,D,?_⟩
     have au:Cd w.heap.size sb P ad:=ag.JF f.size (fun k h=>h.elim (fun q=>.inr q) (fun q=>.inl (d.lt k q).1))
     have S:=S.trans ag (fun k h x=>h.elim (fun q=>.inl q) (fun q=>absurd x (by have:=(d.lt k q).1;omega)))
     have b:Ai ad sb [[E wd],[E ge],[E AD],[E Ab],[E Ak],[F Bp AV.length AY],[F Bv Ay.length As],[F qr AM.length AR],[F By AN.length AG],[F AO Aq.length AJ],[F ae (0+1) af],[F AQ 257 ce]] 66:=av;have d:=aw;have g:=ax
     refine M<|?_
     intro a c
     refine FD ?_
     refine Ec c D ?_
     exact⟨F ae (0+1) af,D,b,S⟩
   ·
    refine FV aa D D<|I D<|Ae D D D D<|Ae D D D D<|Ae D D D D<|Ae D D D D<|Ae D D D D<|Ae D D D D<|Ae D D D D<|Ba D D<|M<|G<|BE D<|AE<|?_
    intro a c
    refine FD ?_
    refine Ec c D ?_
    exact⟨F none 0 0,D,b,S⟩
end Go.Proofs.YtcdaflcjhimimaaGreatDoor
namespace Go.Proofs.YtcdaflcjhimimaaGreatDoor
open Go.RowKit
variable {X Y:Nat→Prop} {w W BT:World} {v BL u G2 v0 IU:Value} {b sb k n m:Nat}
theorem Hi.of(h:CT w)(a:Below w.heap.size w W)(e:w.heap.size≤sb):Hi W.heap.size sb W:=
 ⟨h.below a (Be _),⟨Nat.lt_of_lt_of_le h.aQ a.size,by have:=h.aQ;omega⟩,⟨Nat.lt_of_lt_of_le h.aT a.size,by have:=h.aT;omega⟩,⟨Nat.lt_of_lt_of_le h.aR a.size,by have:=h.aR;omega⟩⟩
theorem U_{q:Nat}(h:q<sb):∀k,DL sb (.slice none 0 0) (.slice none 0 0) (.slice none 0 0) (.slice none 0 0) (.slice none 0 0) k→q<k:=by
 rintro k (r|r|r|r|r|r)
 ·omega
 all_goals cases r
theorem PA{q:Nat}{a b c d e f g c' i j:Value}(h:∀k,DL sb a b c d e k→q<k)(u:q<n)(l:AtR n f a)(m:AtR n g b)(o:AtR n c' c)(p:AtR n i d)(r:AtR n j e):∀k,DL sb f g c' i j k→q<k:=by
 intro k s
 by_cases t:k<n
 ·exact h k (GM l m o p r k s t)
 ·omega
theorem LK{B:Nat}{e:TypeId}{size c:Nat}{p:Option Addr}{xs:List Value}{b:Value}(f:W.ownsRow B e size (.slice p n c) n xs)(hn:∀k,(Value.slice p n c).ownBlock=some k→k≠sb)(g:Ap (.slice p n c) b):ER (E1 sb (.slice none 0 0) b) W p n c size xs:=by
 refine⟨View.own f,fun a d y=>?_⟩
 rcases y with y|y|y
 ·exact hn a.block (by rw[d];rfl) y
 ·cases y
 ·exact g a.block (by rw[d];rfl) y
theorem W3{B:Nat}{e:TypeId}{size c:Nat}{p:Option Addr}{xs:List Value}(b:W.ownsRow B e size (.slice p n c) n xs)(hn:∀k,(Value.slice p n c).ownBlock=some k→k≠sb):ER (DL sb (.slice none 0 0) (.slice none 0 0) (.slice none 0 0) (.slice none 0 0) (.slice none 0 0)) W p n c size xs:=by
 refine⟨View.own b,fun a d y=>?_⟩
 rcases y with y|y|y|y|y|y
 ·exact hn a.block (by rw[d];rfl) y
 all_goals cases y
theorem JN.VT{B wd ge AD Ab Ak:Nat}{AQ:Option Addr}{ce:Nat}{f:Option Addr}{m AY:Nat}{AV:List Nat}{g:Option Addr}{o As:Nat}{Ay:List DD}{i:Option Addr}{p AR:Nat}{AM:List Ef}{j:Option Addr}{t AG:Nat}{AN:List Nat}{b:Option Addr}{c e:Nat}{u:List Fd}{Cp:List Jd}
 (h:JN B sb W wd ge AD Ab Ak AQ ce f m AY AV g o As Ay i p AR AM j t AG AN b c e u)
 (d:Gg (DL sb (.slice f m AY) (.slice g o As) (.slice i p AR) (.slice j t AG) (.slice b c e)) W Ay AM AN AD)(l:m=AD)(hn:o=AD)(w:p=AD)
 (he:ER (DL sb (.slice f m AY) (.slice g o As) (.slice i p AR) (.slice j t AG) (.slice b c e)) W AQ 257 ce 32 (Al Ex Cp))(z:Cp.length=257)(hm:AD≤4096):
 Is B sb W {wd:=wd,ge:=ge,AD:=AD,Ab:=Ab,Ak:=Ak,Bp:=f,AY:=AY,AV:=AV,Bv:=g,As:=As,Ay:=Ay,qr:=i,AR:=AR,AM:=AM,By:=j,AG:=AG,AN:=AN,AO:=none,AJ:=0,Aq:=[],AQ:=AQ,ce:=ce,Cp:=Cp} b c e u:=by
 have A:=DF En (by decide) h.ZH
 have D:=DF FO (by decide) h.bn
 have F:=DF Ha (by decide) h.Zw
 have H:=DF En (by decide) h.Zv
 subst A D F H
 have v:∀k,k<W.heap.size→E1 sb (.slice none 0 0) (.slice b c e) k→DL sb (.slice f AV.length AY) (.slice g Ay.length As) (.slice i AM.length AR) (.slice j AN.length AG) (.slice b c e) k:=by
  rintro k _ (q|q|q)
  ·exact .inl q
  ·cases q
  ·exact .inr (.inr (.inr (.inr (.inr q))))
 exact⟨h.Z2,h.bk,World.ownsRow_nil _ _ _ _,h.bm,(fun k l=>by cases l),h.ZP,(fun k l=>by cases l),LK h.ZH h.aC h.aD,LK h.bn h.Z_ h.aj,LK h.Zw h.Z8 h.ah,LK h.Zv h.Z3 h.av,he.next (Bd.refl _ _) v,
  fun y J=>(d.s y J).next (Bd.refl _ _) v,(fun x K=>by cases K),z,l,hn,w,d.a,hm,d.n,d.r⟩
end Go.Proofs.YtcdaflcjhimimaaGreatDoor
namespace Go.Proofs.YtcdaflcjhimimaaGreatDoor
open Go.RowKit
set_option maxRecDepth 100000
set_option maxHeartbeats 1000000
theorem TP{q:Option Addr}{n c:Nat}{l:List UInt8}{x y u:Fr.Ch}{w:World}(aD:CT w)(aG:View w (.slice q n c) n 1 (bv l))(aH:l.length=n)(hn:n=256*u.p)(aX:3≤u.p∧u.p≤4096)(hm:2≤u.m∧u.m≤u.p)(aY:EU ((l.drop (256*0)).take 256) x)(aZ:EU ((l.drop (256*1)).take 256) y)(a0:x.g % 2=0)(a1:y.g % 2=1)(a2:x.w=y.w)(a3:x.p=y.p)(hu:KW x y u):
 Calls Tryz.prog 16 #[F q n c] w fun e w'=>∃sb,∃z:EC,∃DU,e=.returned (.tuple #[.pointer (some ⟨sb,0,none⟩),.int .i64 ((0:Nat):Int)])∧w'.heap[sb]? =some (.cells (flat (z.HD DU)) 66 (0,0))∧z.AD=u.m∧w.heap.size≤sb∧Below w.heap.size w w':=by
 have b:Below w.heap.size w w:=Bu _ _
 refine Bx PE D 65 ?_
 refine K<|N<|O D<|O (v:=(E 0)) D<|M<|G<|K<|N<|I D<|AS Q0 D (V1 aD aG aH hn aX aY aZ a0 a1 a2 a3 hu) ?_
 rintro _ bp ⟨rfl,a4⟩
 refine⟨_,D,?_⟩
 have b:=Ah b a4
 refine I D<|BC D D<|BC D D<|BQ [[E 0],[E 0],[E 0],[E 0],[E 0]] ?_
 intro ai bq au aI a5 ag
 have br:=Bg b au
 have b:=Ah b ag
 refine Bi 0 5 a5 D D ?_
 intro bs aI f a6
 have b:=A1 b a6
 refine O (v:=(E 0)) D<|M<|G<|K<|K<|N<|I (v:=(E 0)) D<|?_
 have a7:(((0:Nat):Int)=((0:Nat):Int)):=D
 refine Dr a7 D D<|M<|G<|BE D<|AE<|G<|K<|?_
 intro a o
 refine C7 (fun W=>Below w.heap.size w W∧Ai W ai [[E u.w],[E u.g],[E u.m],[E u.h],[E u.p]] 59) ?_
 intro aO aI ag
 have f:=Q f ag
 have b:=Ah b ag
 revert a
 refine A5 0 D (fun W av a o=>by obtain⟨b,f⟩:=av;exact EO o D Bw D [] [[E u.w],[E u.g],[E u.m],[E u.h],[E u.p]] [] f D (by kernel_rfl)) ⟨b,f⟩<|BW 1 D Bw 0 D ⟨b,f⟩<|A5 2 D (fun W av a o=>by obtain⟨b,f⟩:=av;exact Cl o D AH D [] (E u.w) [[E u.g],[E u.m],[E u.h],[E u.p]] f D) ⟨b,f⟩<|?_
 intro aw H
 refine A8 3 3 D D ?_
 intro Aa J
 refine B0 H #[E u.w] N' (Qu ((u.w:Nat):Int) _ (aD.below b (Be _))) ?_
 rintro _ bt ⟨A,B,aj,rfl,ak,aP⟩
 refine⟨_,D,?_⟩
 intro a o
 have a8:w.heap.size≤aO.heap.size:=b.size
 have bu:ai<aO.heap.size:=Ar f
 have f:=Q f aP
 have b:=Ah b aP
 have ak:=CB ak a8
 refine J _ _ ⟨b,f⟩ ?_;revert a
 refine A5 4 D (fun W av a o=>by obtain⟨b,f⟩:=av;exact GG o (Bf:=[(0,(Value.agg (flat [[E u.w],[E u.g],[E u.m],[E u.h],[E u.p]]))),(7,(F A 257 B))]) D (r:=flat [[E u.w],[E u.g],[E u.m],[E u.h],[E u.p],[F none 0 0],[F none 0 0],[F none 0 0],[F none 0 0],[F none 0 0],[F none 0 0],[F A 257 B]]) (GI Cc (ss:=[[E 0],[E 0],[E 0],[E 0],[E 0],[F none 0 0],[F none 0 0],[F none 0 0],[F none 0 0],[F none 0 0],[F none 0 0],[F none 0 0]]) (by kernel_rfl) (places:=[(0,5),(5,1),(6,1),(7,1),(8,1),(9,1),(10,1),(11,1)]) (by kernel_rfl) (C2 [] [[E 0],[E 0],[E 0],[E 0],[E 0]] [[F none 0 0],[F none 0 0],[F none 0 0],[F none 0 0],[F none 0 0],[F none 0 0],[F none 0 0]] [[E u.w],[E u.g],[E u.m],[E u.h],[E u.p]] D Jb.nil (Jb.one (Jb.one (Jb.one (Jb.one (Jb.one Jb.nil))))) (Jb.one (Jb.one (Jb.one (Jb.one (Jb.one Jb.nil))))) D (C2 [[E u.w],[E u.g],[E u.m],[E u.h],[E u.p],[F none 0 0],[F none 0 0],[F none 0 0],[F none 0 0],[F none 0 0],[F none 0 0]] [[F none 0 0]] [] [[F A 257 B]] D (Jb.one (Jb.one (Jb.one (Jb.one (Jb.one (Jb.one (Jb.one (Jb.one (Jb.one (Jb.one (Jb.one Jb.nil))))))))))) (Jb.one Jb.nil) (Jb.one Jb.nil) D D)))) ⟨b,f⟩<|?_
 intro aw H
 refine A8 5 1 D D ?_
 intro Aa J
 refine Nq H D (v:=(Value.agg (flat [[E u.w],[E u.g],[E u.m],[E u.h],[E u.p],[F none 0 0],[F none 0 0],[F none 0 0],[F none 0 0],[F none 0 0],[F none 0 0],[F A 257 B]]))) D (ss:=[[E u.w],[E u.g],[E u.m],[E u.h],[E u.p],[F none 0 0],[F none 0 0],[F none 0 0],[F none 0 0],[F none 0 0],[F none 0 0],[F A 257 B]]) D ?_
 intro a s aQ au o aI C ag
 have af:=Bg b au
 have bw:=AP f au
 have a9:=BM ak au
 have f:=Q f ag
 have ak:=V ak ag
 have b:=Ah b ag
 refine J _ _ ⟨b,f⟩ ?_;revert a
 refine EY 6 D D ⟨b,f⟩<|B_<|G<|K<|N<|I D<|I D<|?_
 intro aw H
 have a_:=DF G8 (by decide) ak
 have ao:ER (DL s (.slice none 0 0) (.slice none 0 0) (.slice none 0 0) (.slice none 0 0) (.slice none 0 0)) aQ A 257 B 32 (Al Ex aj):=W3 ak a9
 have al:=U_ (show ai<s from by omega)
 have a':ai<aQ.heap.size:=Ar f
 refine Bj D (fun Aa J=>B0 H #[AB s,F q n c] QQ (Xk (Aj:=w.heap.size) (sb:=s) b.size (by omega) (by omega) ((Dv.of aG).move b) aH ⟨af,C,World.ownsRow_nil _ _ _ _,World.ownsRow_nil _ _ _ _,World.ownsRow_nil _ _ _ _,World.ownsRow_nil _ _ _ _,World.ownsRow_nil _ _ _ _,(fun k d=>by cases d),(fun k d=>by cases d),(fun k d=>by cases d),(fun k d=>by cases d),(fun k d=>by cases d),(fun k d=>by cases d),(fun k d=>by cases d),(fun k d=>by cases d),(fun k d=>by cases d),(fun k d=>by cases d),(fun k d=>by cases d),(fun k d=>by cases d),(fun k d=>by cases d),(fun k d=>by cases d),(fun k d=>by cases d)⟩) ?_)
 rintro _ bx ⟨bz,bA,bB,bC,bD,bE,bF,bG,bH,bI,bJ,bK,bL,rfl,aR,aE,ax,ay,az,aA,aB,aq,P,aJ⟩
 refine⟨_,D,?_⟩
 intro a o
 have ao:=ao.next P (fun k d y=>GM ay az aA aB aq k y d)
 have ba:=al;have al:=PA al a' ay az aA aB aq
 have f:=P.Ag f (fun y=>absurd (ba _ y) (Nat.lt_irrefl _))
 have b:=b.trans aJ
 refine J _ _ ?_;revert a
 refine M<|G<|K<|K<|N<|O (v:=(E 2)) D<|M<|G<|A2<|?_
 intro a o
 refine Cb (fun aK a W=>∃i R S,∃AV:List Nat,∃T U,∃Ay:List DD,∃X Y,∃AM:List Ef,∃Z ar aa,∃AN:List Nat,∃ab t ad an,aK=u.m - i∧Ao 65 a (Ja (Ja (Ja (Ja (Ja (Ja Je 0 (F q n c)) 2 (Value.pointer none)) 3 (E 0)) 4 (AB ai)) 6 (AB s)) 7 (E i))∧(2≤i∧i≤u.m)∧JN w.heap.size s W u.w u.g u.m u.h u.p A B R i S AV T i U Ay X i Y AM Z ar aa AN ab t ad an∧Gg (DL s (F R i S) (F T i U) (F X i Y) (F Z ar aa) (F ab t ad)) W Ay AM AN i∧ER (DL s (F R i S) (F T i U) (F X i Y) (F Z ar aa) (F ab t ad)) W A 257 B 32 (Al Ex aj)∧(∀k,DL s (F R i S) (F T i U) (F X i Y) (F Z ar aa) (F ab t ad) k→ai<k)∧ar≤i∧t≤i∧(t=0→ab=none∧ad=0∧an=[])∧Below w.heap.size w W∧Ai W ai [[E u.w],[E u.g],[E u.m],[E u.h],[E u.p]] 59) _ ⟨2,_,_,_,_,_,_,_,_,_,_,_,_,_,_,_,_,_,D,At o,by omega,ax,aE,ao,al,by omega,by omega,aR.2,b,f⟩ ?_
 rintro _ a bM ⟨i,R,S,AV,T,U,Ay,X,Y,AM,Z,ar,aa,AN,ab,t,ad,an,rfl,o,bN,ax,aE,ao,al,bO,aR,aF,b,f⟩
 revert a
 refine K<|K<|N<|I D<|Am Bw 2 D<|AK AH 2 f D D<|B5 D D<|M<|G<|Bl D (fun bb=>?_) fun bb=>?_
 ·
  refine AE<|G<|K<|A2<|N<|I D<|I D<|I D<|AS Rp D (Vr (Aj:=w.heap.size) b.size ((HV.of aD).move b) ⟨by omega,by omega⟩ (by omega) (by omega) ((Dv.of aG).move b) aH (by omega) aE ax) ?_
  rintro _ bP ⟨bQ,_,bR,bS,bT,_,bU,bV,bW,_,bX,bY,bZ,b0,b1,b2,b3,b4,b5,b6,rfl,rfl,rfl,rfl,b7,bc,bd,ae,ay,az,aA,aB,aq,P,aJ⟩
  refine⟨_,D,?_⟩
  have bf:=ao.next P (fun k d y=>GM ay az aA aB aq k y d)
  have bg:=PA al (Ar f) ay az aA aB aq
  have f:=P.Ag f (fun y=>absurd (al _ y) (Nat.lt_irrefl _))
  have b:=b.trans aJ
  refine M<|Bq<|G<|N<|I D<|A_ (q:=1) D D<|O D<|M<|G<|?_
  intro a o
  exact⟨_,by omega,i+1,_,_,_,_,_,_,_,_,_,_,_,_,_,_,_,_,_,D,At o,by omega,ae,bd,bf,bg,by omega,by omega,(fun h=>by obtain⟨bh,bj,bk⟩:=bc.2 (by omega);rw[bh,bj,bk];exact aF (by omega)),b,f⟩
 ·
  refine BO<|AW<|AW<|BN<|G<|K<|K<|?_
  obtain rfl:i=u.m:=by omega
  have b8:=DF En (by decide) ax.Zv
  have ae:=ax.VT aE D D D ao a_ (by omega)
  refine N<|O (v:=(E 0)) D<|M<|G<|A2<|?_
  intro a o
  refine Cb (fun aK a W=>∃j AO AJ,∃Aq:List Ed,∃ab t ad an,aK=AN.length - j∧Ao 65 a (Ja (Ja (Ja (Ja Je 2 (Value.pointer none)) 3 (E 0)) 6 (AB s)) 8 (E j))∧j≤AN.length∧Is w.heap.size s W ({wd:=u.w,ge:=u.g,AD:=u.m,Ab:=u.h,Ak:=u.p,Bp:=R,AY:=S,AV:=AV,Bv:=T,As:=U,Ay:=Ay,qr:=X,AR:=Y,AM:=AM,By:=Z,AG:=aa,AN:=AN,AO:=AO,AJ:=AJ,Aq:=Aq,AQ:=A,ce:=B,Cp:=aj}:EC) ab t ad an∧(t=0→ab=none∧ad=0∧an=[]∧j=Aq.length∧∀x∈Aq,x.L.length≤13000*j)∧Below w.heap.size w W) _ ⟨0,_,_,_,_,_,_,_,D,At o,by omega,ae,(fun h=>⟨(aF h).1,(aF h).2.1,(aF h).2.2,D,fun x bl=>by cases bl⟩),b⟩ ?_
  rintro _ a bm ⟨j,AO,AJ,Aq,ab,t,ad,an,rfl,o,b_,ae,aL,b⟩
  have C:Ai bm s [[E u.w],[E u.g],[E u.m],[E u.h],[E u.p],[F R AV.length S],[F T Ay.length U],[F X AM.length Y],[F Z AN.length aa],[F AO Aq.length AJ],[F ab t ad],[F A 257 B]] 66:=ae.bk
  revert a
  refine K<|K<|N<|I D<|I D<|Bt D<|Am Cc 8 D<|AK Eo 8 C D D<|BY Eo D<|?_
  by_cases aS:((j:Nat):Int)<((AN.length:Nat):Int)
  ·
   refine D8 aS D D<|I D<|Ad D D D<|I D<|Ad D D D<|Bt D<|Ad D D D<|Am Cc 10 D<|Ad D D D<|AK Jo 10 C D D<|Ad D D D<|BY Jo D<|?_
   by_cases aM:((t:Nat):Int)=((0:Nat):Int)
   ·
    have ah:t=0:=by simpa using aM
    refine Ad D D D<|D5 aM D D<|Bn D D<|M<|G<|BS D<|AE<|G<|K<|A2<|N<|I D<|I D<|?_
    intro aw H
    obtain⟨rfl,rfl,rfl,aT,aN⟩:=aL ah
    obtain rfl:=ah
    refine Bj D (fun Aa J=>B0 H #[AB s,E j] SA (Ya (Aj:=w.heap.size) b.size (Hi.of aD b af) ae (by dsimp only;omega) (by dsimp only;omega) (by dsimp only;omega) aN (by dsimp only;omega)) ?_)
    rintro _ ca ⟨cb,cc,cd,cf,cg,ch,cj,rfl,bn,ck,aC,P,cl,aq⟩
    refine⟨_,D,?_⟩
    intro a o
    have b:=b.trans (P.toBelow b.size (fun k d=>by rcases d with h|h|h;exact h▸af;exact(ae.ZR.lt k h).1;cases h))
    refine J _ _ ?_;revert a
    refine M<|Bq<|G<|N<|I D<|A_ (q:=1) D D<|O D<|M<|G<|?_
    intro a o
    exact⟨_,by omega,j+1,_,_,_,_,_,_,_,D,At o,by omega,bn,fun h=>⟨(aC h).1,(aC h).2.1,(aC h).2.2.1,(aC h).2.2.2.1.symm,(aC h).2.2.2.2⟩,b⟩
   ·
    refine Ad D D D<|E0 aM D D<|Bn D D<|M<|G<|BE D<|BO<|AW<|AW<|BN<|G<|K<|K<|N<|I D<|Bt D<|Am Cc 10 D<|AK Jo 10 C D D<|BY Jo D<|Dk (q:=(0:Nat)) D D<|M<|G<|Bl D (fun aV=>?_) fun aV=>?_
    ·
     have ah:t=0:=by simpa using aV
     refine N<|I D<|?_
     intro aw H
     obtain⟨rfl,rfl,rfl,aT,aN⟩:=aL ah
     obtain rfl:=ah
     refine Bj D (fun Aa J=>B0 H #[AB s] MV (QE ae (by dsimp only;omega)) ?_)
     rintro _ cm ⟨bo,rfl,C,P⟩
     refine⟨_,D,?_⟩
     intro a o
     have b:=b.trans (P.toBelow b.size (fun k d=>by rcases d with h|h|h;exact h▸af;exact(ae.ZR.lt k h).1;cases h))
     refine J _ _ ?_;revert a
     refine M<|G<|K<|N<|I D<|O D<|O (v:=(E 0)) D<|M<|G<|AA<|IA D D<|?_
     exact⟨s,({wd:=u.w,ge:=u.g,AD:=u.m,Ab:=u.h,Ak:=u.p,Bp:=R,AY:=S,AV:=AV,Bv:=T,As:=U,Ay:=Ay,qr:=X,AR:=Y,AM:=AM,By:=Z,AG:=aa,AN:=AN,AO:=AO,AJ:=AJ,Aq:=Aq,AQ:=A,ce:=B,Cp:=aj}:EC),_,D,C,D,af,b⟩
    ·
     refine AE<|G<|K<|N<|I D<|O D<|O (v:=(E 0)) D<|M<|G<|AA<|IA D D<|?_
     exact⟨s,({wd:=u.w,ge:=u.g,AD:=u.m,Ab:=u.h,Ak:=u.p,Bp:=R,AY:=S,AV:=AV,Bv:=T,As:=U,Ay:=Ay,qr:=X,AR:=Y,AM:=AM,By:=Z,AG:=aa,AN:=AN,AO:=AO,AJ:=AJ,Aq:=Aq,AQ:=A,ce:=B,Cp:=aj}:EC),_,D,C,D,af,b⟩
  ·
   refine DO aS D D<|I D<|Ae D D D D<|Ae D D D D<|Ae D D D D<|Ae D D D D<|Ae D D D D<|Ae D D D D<|Ba D D<|M<|G<|BE D<|BO<|AW<|AW<|BN<|G<|K<|K<|N<|I D<|Bt D<|Am Cc 10 D<|AK Jo 10 C D D<|BY Jo D<|Dk (q:=(0:Nat)) D D<|M<|G<|Bl D (fun aW=>?_) fun aW=>?_
   ·
    have ah:t=0:=by simpa using aW
    refine N<|I D<|?_
    intro aw H
    obtain⟨rfl,rfl,rfl,aT,aN⟩:=aL ah
    obtain rfl:=ah
    refine Bj D (fun Aa J=>B0 H #[AB s] MV (QE ae (by dsimp only;omega)) ?_)
    rintro _ cn ⟨bo,rfl,C,P⟩
    refine⟨_,D,?_⟩
    intro a o
    have b:=b.trans (P.toBelow b.size (fun k d=>by rcases d with h|h|h;exact h▸af;exact(ae.ZR.lt k h).1;cases h))
    refine J _ _ ?_;revert a
    refine M<|G<|K<|N<|I D<|O D<|O (v:=(E 0)) D<|M<|G<|AA<|IA D D<|?_
    exact⟨s,({wd:=u.w,ge:=u.g,AD:=u.m,Ab:=u.h,Ak:=u.p,Bp:=R,AY:=S,AV:=AV,Bv:=T,As:=U,Ay:=Ay,qr:=X,AR:=Y,AM:=AM,By:=Z,AG:=aa,AN:=AN,AO:=AO,AJ:=AJ,Aq:=Aq,AQ:=A,ce:=B,Cp:=aj}:EC),_,D,C,D,af,b⟩
   ·
    refine AE<|G<|K<|N<|I D<|O D<|O (v:=(E 0)) D<|M<|G<|AA<|IA D D<|?_
    exact⟨s,({wd:=u.w,ge:=u.g,AD:=u.m,Ab:=u.h,Ak:=u.p,Bp:=R,AY:=S,AV:=AV,Bv:=T,As:=U,Ay:=Ay,qr:=X,AR:=Y,AM:=AM,By:=Z,AG:=aa,AN:=AN,AO:=AO,AJ:=AJ,Aq:=Aq,AQ:=A,ce:=B,Cp:=aj}:EC),_,D,C,D,af,b⟩
end Go.Proofs.YtcdaflcjhimimaaGreatDoor
namespace Go.Proofs.YtcdaflcjhimimaaGreatDoor
open Go.RowKit
theorem RT(z:Int)(m:Nat)(h:0<m): -(m:Int)<z.tmod m∧z.tmod m<m:=by
 have a:=Int.natAbs_tmod z (m:Int)
 have b:z.natAbs % m<m:=Nat.mod_lt _ h
 rw[Int.natAbs_natCast]at a
 omega
theorem Ug(z:Int)(b a:Nat)(h:b≤a)(c:a<4611686018427387904)(hn:z.tmod ((a - b+1:Nat):Int)<0):
 ∃k:Nat,IntKind.i64.wrap (IntKind.i64.wrap (IntKind.i64.wrap (z.tmod ((a - b+1:Nat):Int)+(a:Int)) - (b:Int))+((1:Nat):Int))=(k:Int)∧k≤a - b:=by
 have d:=RT z (a - b+1) (by omega)
 generalize z.tmod ((a - b+1:Nat):Int)=t at*
 rw[IntWalk.i64_in (t+(a:Int)) (by omega),IntWalk.i64_in (t+(a:Int) - (b:Int)) (by omega),IntWalk.i64_in _ (by omega)]
 exact⟨(t+(a:Int) - (b:Int)+1).toNat,by omega,by omega⟩
theorem VX(z:Int)(a b:Nat)(h:a≤b)(hn:¬z.tmod ((b - a+1:Nat):Int)<0):∃k:Nat,z.tmod ((b - a+1:Nat):Int)=(k:Int)∧k≤b - a:=by
 have c:=RT z (b - a+1) (by omega)
 exact⟨(z.tmod ((b - a+1:Nat):Int)).toNat,by omega,by omega⟩
section
variable {P:Program} {a:Act} {U:Nat} {f:Db} {ty:TypeId} {pos:String} {AF:Array Edge} {dst:Option Tmp} {g:Option (Nat×Bool)}
theorem VM{t e:TypeId}{w:World}(a:P.underlying t=some (.slice e))(p:Option Addr)(n c d:Nat):(Op.equalIn (d+1) t (.slice p n c) (.slice none 0 0)).run P w=.ok p.isNone w:=by
 cases p<;>simp[Op.equalIn,run_underlying a]
theorem TA{t e:TypeId}{w:World}(a:P.underlying t=some (.slice e))(p:Option Addr)(n c:Nat):(binOp .eql t (.slice p n c) (.slice none 0 0)).run P w=.ok (.bool p.isNone) w:=by
 have h:=VM (w:=w) a p n c (Op.maxDepth - 1)
 have e:(Op.equal t (.slice p n c) (.slice none 0 0)).run P w=.ok p.isNone w:=h
 show(do pure (Value.bool (←Op.equal t (.slice p n c) (.slice none 0 0))):Sem Value).run P w=_
 simp[e]
theorem XS{w:World}(b:Ao U a f){t u e:TypeId}{x y:Operand}(d:P.underlying t=some (.slice e)){p:Option Addr}{n c:Nat}(h:Au f x=some (.slice p n c))(i:Au f y=some (.slice none 0 0))(r:Bool)(j:p.isNone=r):Cy P a w ⟨dst,.binOp .eql t x y u,ty,pos,AF,g⟩ (.bool r) w:=by
 subst j
 exact EH b h i (by simp[eqGuard]) (TA d _ _ _)
end
end Go.Proofs.YtcdaflcjhimimaaGreatDoor
namespace Go.Proofs.YtcdaflcjhimimaaGreatDoor
open Go.RowKit
set_option maxRecDepth 100000
set_option maxHeartbeats 1000000
theorem Mk(z:Int)(b c:Nat)(w:World)(h:b≤c:=by omega)(i:c<4611686018427387904:=by omega):
 Calls Tryz.prog 11 #[Value.int .i64 (z:Int),E b,E c] w fun e w'=>∃x:Nat,e=.returned (.int .i64 ((x:Nat):Int))∧(b≤x∧x≤c)∧w=w':=by
 refine Bx Ld D 24 ?_
 refine K<|N<|O (v:=(E 0)) D<|M<|G<|K<|N<|I D<|I D<|I D<|E' D D<|A_ (q:=1) D D<|AT (fun _ d=>Wd d (k:=.i64) (p:=(z:Int)) (q:=(((c - b)+1:Nat):Int)) D D (by omega) D)<|O D<|M<|G<|K<|K<|N<|I D<|B5 (q:=(0:Nat)) D D<|M<|G<|Bl D (fun f=>?_) fun f=>?_
 ·
  obtain⟨k,g,j⟩:=Ug z b c h i (show _<(0:Int)from f)
  refine N<|I D<|I D<|AT (fun _ d=>Gz d (k:=.i64) (p:=(Int.tmod (z:Int) (((c - b)+1:Nat):Int):Int)) (q:=((c:Nat):Int)) D D D)<|I D<|AT (fun _ d=>LY d (k:=.i64) (p:=(IntKind.i64.wrap ((Int.tmod (z:Int) (((c - b)+1:Nat):Int):Int)+((c:Nat):Int)):Int)) (q:=((b:Nat):Int)) D D D)<|AT (fun _ d=>Gz d (k:=.i64) (p:=(IntKind.i64.wrap ((IntKind.i64.wrap ((Int.tmod (z:Int) (((c - b)+1:Nat):Int):Int)+((c:Nat):Int)):Int) - ((b:Nat):Int)):Int)) (q:=((1:Nat):Int)) D D D)<|?_
  intro a d
  replace d:=d.HN 20 D (show(Value.int .i64 (IntKind.i64.wrap ((IntKind.i64.wrap ((IntKind.i64.wrap ((Int.tmod (z:Int) (((c - b)+1:Nat):Int):Int)+((c:Nat):Int)):Int) - ((b:Nat):Int)):Int)+((1:Nat):Int)):Int))=(E k)from congrArg (Value.int .i64) g)
  revert a
  refine O D<|M<|G<|K<|N<|I D<|I D<|A_ D D<|O D<|M<|G<|AA<|AZ D<|?_
  exact⟨b+k,D,by omega,D⟩
 ·
  obtain⟨k,g,j⟩:=VX z b c h (show¬_<(0:Int)from f)
  intro a d
  replace d:=d.HN 0 D (show(Value.int .i64 (Int.tmod (z:Int) (((c - b)+1:Nat):Int):Int))=(E k)from congrArg (Value.int .i64) g)
  revert a
  refine AE<|G<|K<|N<|I D<|I D<|A_ D D<|O D<|M<|G<|AA<|AZ D<|?_
  exact⟨b+k,D,by omega,D⟩
theorem Lt{q:Option Addr}{n c:Nat}{l:List UInt8}{w:World}(f:View w (.slice q n c) n 1 (bv l))(g:l.length=n)(hn:n≤1000000000:=by omega):
 Calls Tryz.prog 7 #[F q n c] w fun e w'=>∃p k,e=.returned (.slice p n k)∧w'.ownsRow w.heap.size 5 1 (.slice p n k) n (bv l)∧Below w.heap.size w w':=by
 have b:Below w.heap.size w w:=Bu _ _
 refine Bx Kr D 5 ?_
 refine K<|N<|O D<|M<|G<|K<|N<|I D<|?_
 have own:w.ownsRow w.heap.size 5 1 (.slice none 0 0) 0 (bv []):=World.ownsRow_nil _ _ _ _
 intro m h
 refine Bj D (fun Aa i=>BK h A0 own f (G4 _) b.size (0+n) (zs:=bv ([]++l)) (by rw[Nat.mul_one,List.take_of_length_le (by rw[D_];exact Nat.le_of_eq g)];exact(Hv _ _).symm) ?_)
 intro a o r s t d j
 have b:=Cm b j own
 refine i _ _ ?_;revert a
 refine O D<|M<|G<|AA<|AZ D<|?_
 rw[Nat.zero_add,List.nil_append]at d
 exact⟨_,_,by rw[Nat.zero_add],d,b⟩
end Go.Proofs.YtcdaflcjhimimaaGreatDoor
namespace Go.Proofs.YtcdaflcjhimimaaGreatDoor
open Go.RowKit
variable {X Y:Nat→Prop} {w W BT:World} {v BL u G2 v0 IU:Value} {b sb k n m:Nat}
structure Fm where
 p:Option Addr
 L:List CV
 c:Nat
def K3(x:Fm):List Value:=[.slice x.p x.L.length x.c]
theorem QP(x:Fm):(K3 x).length=1:=rfl
theorem X':CN Tryz.prog 22 45 1 24 (.slice none 0 0):=CN.mk' KR (by kernel_rfl) D (by decide)
structure Fm.ok (W:World) (x:Fm):Prop where
 v:x.L.length≠0→View W (.slice x.p x.L.length x.c) x.L.length 34 (Al FQ x.L)
 s:∀e∈x.L,B8.Hg W e.s
theorem Fm.ok.below{x:Fm}(h:x.ok W)(a:Below W.heap.size W BT):x.ok BT:=⟨fun q=>(h.v q).below a,fun e he=>(h.s e he).below a D⟩
structure NA (m Dp:CY) (c:Nat):Prop where
 o:Dp.Pairwise (fun x y=>B' x.1 y.1<0)
 l:∀e∈Dp,e.1.length=32
 n:Dp.length≤m.length+c
 aJ:∃aJ:List (List UInt8),aJ.length=c∧(∀e∈Dp,e∈m∨e.1∈aJ)∧(∀e∈m,e∈Dp∨e.1∈aJ)
 z:c=0→Dp=m
inductive H':List CY→CY→Nat→Prop
 |nil:H' [] [] 0
 |snoc {ms:List CY} {m Dp:CY} {t c:Nat} (h:H' ms m t) (s:NA m Dp c):H' (ms++[Dp]) Dp (t+c)
theorem H'.len{ms:List CY}{m:CY}{t:Nat}(h:H' ms m t):m.length≤t:=by
 induction h with
 |nil=>exact Be _
 |snoc h s a=>have:=s.n;omega
def Hd(DA:List Fm):Nat:=(DA.map (fun x=>x.L.length)).sum
theorem XW{DA:List Fm}{i:Nat}{x:Fm}(h:DA[i]? =some x):Hd (DA.take (i+1))=Hd (DA.take i)+x.L.length:=by
 unfold Hd
 rw[List.take_add_one,h,List.map_append,List.sum_append]
 simp
theorem R'(DA:List Fm)(i:Nat):Hd (DA.take i)≤Hd DA:=by
 conv=>rhs;rw[←List.take_append_drop i DA]
 unfold Hd
 rw[List.map_append,List.sum_append]
 omega
theorem Y4{A R:List B7}{B:List CV}{n f c:Nat}(t:A.length=f)(u:R.length=n)(i:B.length=c)(hn:n≤f+c)(j:R.Pairwise Ez)(m:c=0→R=A)(o:∀x∈R,x∈A∨(x.k.l∈B.map (fun y=>y.k.l)∧∀a,x.s.p=some a→k≤a.block))(r:∀x∈A,x∈R∨x.k.l∈B.map (fun y=>y.k.l)):NA (A7 A) (A7 R) c:=by
 have d:∀ {L:List B7} {e:List UInt8×List UInt8},e∈A7 L→∃x∈L,e=(x.k.l,x.s.v):=by
  intro L e he
  obtain⟨x,b,rfl⟩:=List.mem_map.1 he
  exact⟨x,b,D⟩
 have g:∀ {L:List B7} {x:B7},x∈L→(x.k.l,x.s.v)∈A7 L:=fun {L} {x} b=>List.mem_map.2 ⟨x,b,D⟩
 refine⟨?_,?_,?_,⟨B.map (fun y=>y.k.l),by rw[List.length_map];exact i,?_,?_⟩,fun h=>by rw[m h]⟩
 ·unfold A7;rw[List.pairwise_map];exact j
 ·intro e he;obtain⟨x,_,rfl⟩:=d he;exact x.k.h
 ·unfold A7;rw[List.length_map,List.length_map];omega
 ·intro e he;obtain⟨x,b,rfl⟩:=d he;exact(o x b).elim (fun q=>.inl (g q)) (fun q=>.inr q.1)
 ·intro e he;obtain⟨x,b,rfl⟩:=d he;exact(r x b).elim (fun q=>.inl (g q)) .inr
def Io(sb:Nat)(v:Value)(k:Nat):Prop:=k=sb∨v.ownBlock=some k
theorem NR(h:AtR n BL v):∀k,k<n→Io sb BL k→Io sb v k:=by
 rintro k a (q|q)
 ·exact .inl q
 ·exact(h k q).elim .inr (fun r=>by omega)
structure HC (X:Nat→Prop) (W:World) (x:EN):Prop where
 v:ER X W x.p x.L.length x.c 33 (Al FJ x.L)
 s:∀e∈x.L,Gf X W e.s
 o:x.L.Pairwise Ez
 n:∀e∈x.L,e.s.v.length≤128
theorem HC.next{x:EN}(h:HC X w x)(f:Bd X w W)(a:∀k,k<w.heap.size→Y k→X k):HC Y W x:=⟨h.v.next f a,fun e he=>(h.s e he).next f a,h.o,h.n⟩
theorem HC.nil(X:Nat→Prop)(W:World):HC X W ⟨none,[],0⟩:=⟨⟨⟨Be _,.inl ⟨D,D,D⟩⟩,fun a b=>by cases b⟩,(fun e he=>by cases he),.nil,(fun e he=>by cases he)⟩
theorem HC.ok{x:EN}(h:HC X W x):EN.ok W x:=⟨h.v.v,fun e he=>(h.s e he).ok,h.o,h.n⟩
theorem Y3{q:Option Addr}{n c:Nat}{L:List CV}{w:World}(hn:n≤1000000000)(i:n≠0→View w (.slice q n c) n 34 (Al FQ L))(j:L.length=n)(m:∀x∈L,B8.Hg w x.s):
 Calls Tryz.prog 12 #[Value.slice q n c] w fun e w'=>∃p k d z,∃R:List CV,e=.returned (.tuple #[.slice p d k,.int .i64 ((z:Nat):Int)])∧w'.ownsRow w.heap.size 96 34 (.slice p d k) d (Al FQ R)∧d≤n∧(R.map (fun x=>x.k.l)).Nodup∧(∀x∈R,B8.ok w' x.s)∧(∀x∈R,∀a,x.s.p=some a→w.heap.size≤a.block)∧(∀x∈R,x.s.v.length≤128)∧Below w.heap.size w w':=by
 by_cases f:L0 L
 ·refine(UP q n c L w hn i j m f).mono fun e w' h=>?_
  obtain⟨p,k,R,rfl,o,pm,y,r,t,u,g⟩:=h
  exact⟨p,k,n,0,R,D,o,Be _,(keys_perm pm).nodup_iff.2 f.2.2,r,t,u,g⟩
 ·refine(T1 q n c L w hn i j m f).mono fun e w' h=>?_
  obtain⟨z,A,rfl,g⟩:=h
  exact⟨none,0,0,z,[],D,World.ownsRow_nil _ _ _ _,Nat.zero_le _,List.nodup_nil,(fun x b=>by cases b),(fun x b=>by cases b),(fun x b=>by cases b),g⟩
end Go.Proofs.YtcdaflcjhimimaaGreatDoor
