/- Laws and walks on the road to SalvageClean (part M27). No conditions beyond each law's own. -/
import Derived.Test.YtaapafoibofbjaaGreatDoorM01
import Derived.Test.YtaapafoibofbjaaGreatDoorM26
set_option linter.unusedVariables false
namespace Go.Proofs.YtaapafoibofbjaaGreatDoor
def FB(Z:Nat→Option Bf)(m:List (G.Ae×Nat)):Prop:=∀q p,G.get m q=some p→∃c,EX Z (257 - q.b) p q.b c
def F7(Z:Nat→Option Bf)(m:List (Jc×Nat)):Prop:=∀k p,G.get m k=some p→∃x,Z p=some x
section
variable {Z:Nat→Option Bf}
theorem FB.put{m:List (G.Ae×Nat)}{r:G.Ae}{p:Nat}(h:FB Z m)(d:∃c,EX Z (257 - r.b) p r.b c):FB Z (G.put m r p):=by
 intro q f a
 rw[G.OZ]at a
 by_cases e:r=q
 ·rw[if_pos e]at a;cases a;subst e;exact d
 ·rw[if_neg e]at a;exact h q f a
theorem F7.put{m:List (Jc×Nat)}{k:Jc}{p:Nat}(h:F7 Z m)(b:∃x,Z p=some x):F7 Z (G.put m k p):=by
 intro q c a
 rw[G.OZ]at a
 by_cases e:k=q
 ·rw[if_pos e]at a;cases a;exact b
 ·rw[if_neg e]at a;exact h q c a
theorem Yh{s:G.B4}{r:G.Ae}{p:Nat}{x:Bf}(h1:FB Z s.rows)(a:F7 Z s.jo)(e:∃c,EX Z (257 - r.b) p r.b c)(f:Z p=some x):FB Z (G.note s r p x.AW).rows∧F7 Z (G.note s r p x.AW).jo:=by
 refine⟨h1.put e,?_⟩
 unfold G.note
 simp only
 split
 ·exact a.put ⟨x,f⟩
 ·exact a
theorem dn:∀(f p c:Nat) (r:G.Ae) (s:G.B4),f+r.b=257→EX Z f p r.b c→FB Z s.rows→F7 Z s.jo→FB Z (G.Bn (fun p=>(Z p).map Bf.AW) f p r s).rows∧F7 Z (G.Bn (fun p=>(Z p).map Bf.AW) f p r s).jo:=by
 intro f
 induction f with
 |zero=>intro p c r s q a;exact a.elim
 |succ f k=>
  intro p c r s q a h1 t
  have u:∃c,EX Z (257 - r.b) p r.b c:=⟨c,by rw[show 257 - r.b=f+1 by omega];exact a⟩
  obtain⟨x,m,v,w,h⟩:=a
  have d:=Yh h1 t u m
  have n:(fun p=>(Z p).map Bf.AW) p=some x.AW:=by simp only[m];rfl
  rcases h with⟨g, -⟩|⟨g,J, -,hl,hr⟩
  ·rw[XD n (show x.AW.kd=1 from g)]
   exact d
  ·rw[SP n (show¬x.AW.kd=1 from g)]
   have o:∀s1,s1=(if x.AW.l=0 then G.note s r p x.AW else G.Bn (fun p=>(Z p).map Bf.AW) f x.AW.l (G.under r 0) (G.note s r p x.AW))→FB Z s1.rows∧F7 Z s1.jo:=by
    intro s1 e
    subst e
    split
    ·exact d
    ·rename_i i
     exact k _ _ _ _ (by show f+(r.b+1)=257;omega) (hl i) d.1 d.2
   split
   ·exact o _ D
   ·rename_i i
    have:=o _ D
    exact k _ _ _ _ (by show f+(r.b+1)=257;omega) (hr i) this.1 this.2
theorem cv{W:Nat}{AJ:List (G.Ae×Nat)}{AO:List (Jc×Nat)}{fr:Nat}(CM:∀p x,Z p=some x→Ge x∧2≤p∧p≤4096)(hOr:FB Z AJ):∀(f Ar Bg c:Nat) (v:Jc) (r:G.Ae) (s m:G.B4),r.b≤256→G.through (B0 W Z AJ AO fr) f Ar Bg c v r s=some m→FB Z s.rows→F7 Z s.jo→EX Z (257 - r.b) Ar r.b c∧FB Z m.rows∧F7 Z m.jo:=by
 intro f
 induction f with
 |zero=>intro Ar Bg c v r s m J h;cases h
 |succ f y=>
  intro Ar Bg c v r s m J h h1 u
  cases n:G.E7 (B0 W Z AJ AO fr) Ar Bg c r with
  |false=>rw[Td n]at h;cases h
  |true=>
   cases g:Z Ar with
   |none=>rw[Qc g]at n;cases n
   |some x=>
    rw[Kg g n]at h
    cases a:HO (B0 W Z AJ AO fr) f Ar x.AW r s with
    |none=>rw[a]at h;cases h
    |some E=>
     rw[a]at h
     simp only[Option.bind_some]at h
     have F:E=m:=by
      split at h
      ·cases h;rfl
      ·cases h
     subst F
     have hl:=n
     rw[Ic g]at hl
     have hl:=of_decide_eq_true hl
     have V:=(CM _ _ g).1
     have K:=(CM _ _ g).2
     unfold HO at a
     by_cases C:Ar<(B0 W Z AJ AO fr).fr
     ·rw[if_pos C]at a
      split at a
      ·rename_i Ad
       cases a
       have t:=Rs CM hOr g n Ad (show 257 - r.b+r.b=257 by omega)
       exact⟨t,dn _ _ _ _ _ (by omega) t h1 u⟩
      ·cases a
     ·rw[if_neg C]at a
      unfold Fh at a
      cases i:(if x.AW.l=0 then some s else G.through (B0 W Z AJ AO fr) f x.AW.l Ar x.AW.lc x.AW.ls (G.under r 0) s)with
      |none=>rw[i]at a;cases a
      |some s1=>
       rw[i]at a
       simp only[Option.bind_some]at a
       cases o:(if x.AW.r=0 then some s1 else G.through (B0 W Z AJ AO fr) f x.AW.r Ar x.AW.rc x.AW.rs (G.under r 1) s1)with
       |none=>rw[o]at a;cases a
       |some s2=>
        rw[o]at a
        simp only[Option.bind_some]at a
        split at a
        ·cases a
         have D:(¬x.l=0→r.b<256→EX Z (257 - (r.b+1)) x.l (r.b+1) x.lc)∧(x.l=0∨r.b<256→FB Z s1.rows∧F7 Z s1.jo):=by
          by_cases d:x.AW.l=0
          ·rw[if_pos d]at i
           cases i
           exact⟨fun j=>absurd d j,fun _=>⟨h1,u⟩⟩
          ·rw[if_neg d]at i
           refine⟨fun _ k=>(y _ _ _ _ (G.under r 0) _ _ (by show r.b+1≤256;omega) i h1 u).1,fun k=>(y _ _ _ _ (G.under r 0) _ _ (by show r.b+1≤256;rcases k with q|q;exact absurd q d;omega) i h1 u).2⟩
         have H:x.l=0∨r.b<256:=by
          rcases hl.2 with⟨e, -⟩|⟨-, -,q⟩
          ·exact .inl (V.z e).1
          ·exact .inr q
         have I:x.r=0∨r.b<256:=by
          rcases hl.2 with⟨e, -⟩|⟨-, -,q⟩
          ·exact .inl (V.z e).2.1
          ·exact .inr q
         have A:=D.2 H
         have B:(¬x.r=0→r.b<256→EX Z (257 - (r.b+1)) x.r (r.b+1) x.rc)∧(FB Z s2.rows∧F7 Z s2.jo):=by
          by_cases d:x.AW.r=0
          ·rw[if_pos d]at o
           cases o
           exact⟨fun j=>absurd d j,A⟩
          ·rw[if_neg d]at o
           have k:r.b<256:=I.resolve_left d
           have:=y _ _ _ _ (G.under r 1) _ _ (by show r.b+1≤256;omega) o A.1 A.2
           exact⟨fun _ _=>this.1,this.2⟩
         have t:EX Z (257 - r.b) Ar r.b c:=by
          rw[show 257 - r.b=(257 - (r.b+1))+1 by omega]
          refine⟨x,g,?_,by omega,?_⟩
          ·rcases hl.2 with⟨-,q, -⟩|⟨e,q, -⟩
           ·omega
           ·have:=V.b (V.kd.resolve_left e);omega
          ·rcases hl.2 with⟨e,q, -⟩|⟨e,q,k⟩
           ·exact .inl ⟨e,q⟩
           ·exact .inr ⟨e,k,q,fun j=>D.1 j k,fun j=>B.1 j k⟩
         exact⟨t,Yh B.2.1 B.2.2 ⟨c,t⟩ g⟩
        ·cases a
theorem SZ{Bo:Type}{p:Prop}[Decidable p]{a:Option Bo}{b:Bo}(h:(if p then a else none)=some b):p∧a=some b:=by
 by_cases q:p
 ·rw[if_pos q]at h;exact⟨q,h⟩
 ·rw[if_neg q]at h;cases h
theorem FB.nil:FB Z []:=fun q p h=>by cases h
theorem F7.nil:F7 Z []:=fun k p h=>by cases h
theorem Vt{W:Nat}{Ax:Nat→Option B9}{As:List Nat}{o o':G.Shape}{i:Nat}{x b:B9}(CM:∀p x,Z p=some x→Ge x∧2≤p∧p≤4096)(c:Ax (G.at_ As i)=some x)(d:Ax (G.at_ As 1)=some b)(ho:FB Z o.1)(h:G.version W (fun p=>(Z p).map Bf.AW) (fun p=>(Ax p).getD G.DX) As o i=some o'):FB Z o'.1∧F7 Z o'.2:=by
 rw[GC c d]at h
 have h:=(SZ h).2
 cases hr:Hq W Z As o i x with
 |none=>rw[hr]at h;cases h
 |some s=>
  rw[hr]at h
  have h:=(SZ (show(if s.A4=G.at_ As i then some (s.rows,s.jo)else none)=some o' from h)).2
  cases h
  unfold Hq at hr
  by_cases a:x.r=0
  ·rw[if_pos a]at hr
   cases(SZ hr).2
   exact⟨FB.nil,F7.nil⟩
  ·rw[if_neg a]at hr
   exact(cv CM ho _ _ _ _ _ _ _ _ (by show 0≤256;omega) hr FB.nil F7.nil).2
end
end Go.Proofs.YtaapafoibofbjaaGreatDoor
namespace Go.Proofs.YtaapafoibofbjaaGreatDoor
open Go.RowKit
set_option maxRecDepth 100000
set_option maxHeartbeats 1000000
structure O0 (x:B9):Prop where
 v:x.v≤1099511627776
 f:x.f≤1099511627776
 r:x.r≤4096
 c:x.c≤4096
def HW(o:Option Nat)(ss:List (List Value))(T:TypeId):Atom:=match o with
 |some b=>O b ss T
 |none=>⟨fun _=>False,fun _=>True,fun _ _ _ h=>h.elim,fun _ _ _ _ _=>trivial⟩
theorem gz{N:Nat}{f:BW}{F:Nat→Prop}{w0:World}{H:List Atom}{K:Act→World→Prop}(ss:List (List Value))(T:TypeId)(h:AT N f F w0 (HW none ss T::H) K):AT N f F w0 H K:=fun a w b c=>h a w b (c.new (Cn _ _) trivial (fun k e=>e.elim))
theorem Sat.ak{F:Nat→Prop}{w:World}{H:List Atom}(s:Sat F w H w):∀k,A6 H k→F k:=by
 rintro k ⟨p,A,a,b⟩
 exact(s.jQ p A a k b).resolve_right (fun q=>by have:=A.lt w (s.at_ p A a) k b;omega)
attribute [local irreducible] G.through AL.bare G.version
theorem We(Q:Nat)(z:Dl)(C a B:BX)(Av Bt:Nat)(Z:Nat→Option Bf)(Ax:Nat→Option B9)(As b:List Nat)(o:Option Nat)(v1 v2:Value)(AJ:List (G.Ae×Nat))(AO:List (Jc×Nat))(i:Nat)(x s:B9)(w:World)(F:BE [Ay Q z C a AE B,A1 z.w B,AN z.AU Av Z,Ap Tryz.prog 3 Am BT z.jk Bt Ax,Ae 3 1 (I C.p C.n C.c) C.n (Aq Bm As),Ae 230 1 (I a.p a.n a.c) a.n (Aq CC b),HW o [[v1],[v2]] 234,AQ 242 AM v1 (G.get AJ),AQ 57 AP v2 (G.get AO)] w)(A5:CG w)(H:∀k,CB k→¬A6 [Ay Q z C a AE B,A1 z.w B,AN z.AU Av Z,Ap Tryz.prog 3 Am BT z.jk Bt Ax,Ae 3 1 (I C.p C.n C.c) C.n (Aq Bm As),Ae 230 1 (I a.p a.n a.c) a.n (Aq CC b),HW o [[v1],[v2]] 234,AQ 242 AM v1 (G.get AJ),AQ 57 AP v2 (G.get AO)] k)(hw:z.w≤32)(CM:∀p x,Z p=some x→Ge x∧2≤p∧p≤4096)(J:Ax (G.at_ As i)=some x)(K:Ax (G.at_ As 1)=some s)(L:C.n≤4096)(M:∀q∈As,q≤4096)(V:a.n+1=i)(N:i≤4096)(m:O0 x)(O:O0 s)(ho:(i=1∧o=none∧AJ=[]∧AO=[])∨(2≤i∧∃AB,o=some AB∧b[i - 2]? =some AB))(hOr:FB Z AJ)(P:F7 Z AO):Calls Tryz.prog 85 #[S Q,E i] w fun e W=>(∀o',G.version z.w (fun p=>(Z p).map Bf.AW) (fun p=>(Ax p).getD G.DX) As (AJ,AO) i=some o'→∃d j t u y,e=.returned (.bool true)∧j.n=a.n+1∧Sat (A6 [Ay Q z C a AE B,A1 z.w B,AN z.AU Av Z,Ap Tryz.prog 3 Am BT z.jk Bt Ax,Ae 3 1 (I C.p C.n C.c) C.n (Aq Bm As),Ae 230 1 (I a.p a.n a.c) a.n (Aq CC b),HW o [[v1],[v2]] 234,AQ 242 AM v1 (G.get AJ),AQ 57 AP v2 (G.get AO)]) w [Ay Q z C j AE d,A1 z.w d,AN z.AU Av Z,Ap Tryz.prog 3 Am BT z.jk Bt Ax,Ae 3 1 (I C.p C.n C.c) C.n (Aq Bm As),Ae 230 1 (I j.p j.n j.c) j.n (Aq CC (b++[t])),HW (some t) [[u],[y]] 234,AQ 242 AM u (G.get o'.1),AQ 57 AP y (G.get o'.2)] W)∧(G.version z.w (fun p=>(Z p).map Bf.AW) (fun p=>(Ax p).getD G.DX) As (AJ,AO) i=none→∃g A d,e=.returned (.bool false)∧1≤g.n∧g.n≤1048576∧Sat (A6 [Ay Q z C a AE B,A1 z.w B,AN z.AU Av Z,Ap Tryz.prog 3 Am BT z.jk Bt Ax,Ae 3 1 (I C.p C.n C.c) C.n (Aq Bm As),Ae 230 1 (I a.p a.n a.c) a.n (Aq CC b),HW o [[v1],[v2]] 234,AQ 242 AM v1 (G.get AJ),AQ 57 AP v2 (G.get AO)]) w [Ay Q z C a g d,A1 z.w d,AN z.AU Av Z,Ap Tryz.prog 3 Am BT z.jk Bt Ax,Ae 3 1 (I C.p C.n C.c) C.n (Aq Bm As),Ae 195 2 (I g.p g.n g.c) g.n (Aq BQ A)] W):=by
 rcases ho with⟨D,rfl,rfl,rfl⟩|⟨D,AB,rfl,R⟩
 ·have s1:=(Sat.begin F).pick (H':=[Ay Q z C a AE B,A1 z.w B,AN z.AU Av Z,Ap Tryz.prog 3 Am BT z.jk Bt Ax,Ae 3 1 (I C.p C.n C.c) C.n (Aq Bm As),Ae 230 1 (I a.p a.n a.c) a.n (Aq CC b)]) [0,1,2,3,4,5]
  have sub:=s1.ak
  refine(aj Q z C a B Av Bt Z Ax As b i x s w s1.hold A5 (fun k T q=>H k T (sub k q)) hw CM J K L M D V N m.v O.f m.r m.c).mono ?_
  rintro e W ⟨h1,U⟩
  refine⟨fun o' h=>?_,fun h=>?_⟩
  ·obtain⟨d,j,t,u,y,he,X,q⟩:=h1 o' h
   exact⟨d,j,t,u,y,he,X,q.mono sub⟩
  ·obtain⟨g,A,d,he,d1,d2,q⟩:=U h
   exact⟨g,A,d,he,d1,d2,q.mono sub⟩
 ·exact ea Q z C a B Av Bt Z Ax As b AB v1 v2 AJ AO i x s w F A5 H hw CM J K L M D V N m.v O.f m.r m.c R hOr P
theorem YE{W:Nat}{nd:Nat→Option G.Dh}{rc:Nat→B9}{ch:List Nat}{j:Nat}(h:G.EO W nd rc ch j=none):∀n,j≤n→G.EO W nd rc ch n=none:=by
 intro n b
 induction n with
 |zero=>rw[show j=0 by omega]at h;exact h
 |succ n a=>
  by_cases e:j=n+1
  ·subst e;exact h
  ·rw[G.EO,a (by omega)];rfl
def La(W:Nat)(Z:Nat→Option Bf)(Ax:Nat→Option B9)(As:List Nat)(m h:Nat):Bool:=match G.EO W (fun p=>(Z p).map Bf.AW) (fun p=>(Ax p).getD G.DX) As As.length with
 |none=>false
 |some _=>!decide (max 1 (G.at_ As As.length)+1<m)&&!(decide (0<As.length)&&!decide (h=max 1 (G.at_ As As.length)))
theorem VD{As:List Nat}{Ax:Nat→Option B9}(a:∀p∈As,∃x,Ax p=some x){i:Nat}(h:i<As.length):∃x,Ax (G.at_ As (i+1))=some x:=by
 unfold G.at_
 rw[if_pos ⟨by omega,by omega⟩,List.getD_eq_getElem?_getD,Nat.add_sub_cancel,List.getElem?_eq_getElem h]
 exact a _ (List.getElem_mem h)
theorem iZ(Q:Nat)(z:Dl)(C B:BX)(Av Bt:Nat)(Z:Nat→Option Bf)(Ax:Nat→Option B9)(As:List Nat)(w:World)(K:BE [Ay Q z C AE AE B,A1 z.w B,AN z.AU Av Z,Ap Tryz.prog 3 Am BT z.jk Bt Ax,Ae 3 1 (I C.p C.n C.c) C.n (Aq Bm As)] w)(A5:CG w)(ag:∀k,CB k→¬A6 [Ay Q z C AE AE B,A1 z.w B,AN z.AU Av Z,Ap Tryz.prog 3 Am BT z.jk Bt Ax,Ae 3 1 (I C.p C.n C.c) C.n (Aq Bm As)] k)(hw:z.w≤32)(CM:∀p x,Z p=some x→Ge x∧2≤p∧p≤4096)(FJ:∀p x,Ax p=some x→O0 x)(X:∀p∈As,∃x,Ax p=some x)(P:C.n≤4095)(R:∀q∈As,q≤4096)(hm:z.m≤4096):Calls Tryz.prog 48 #[S Q] w fun e W=>∃Y ah t ai,e=.returned (.tuple #[])∧(t.n=0↔La z.w Z Ax As z.m z.h=true)∧t.n≤1048576∧Sat (A6 [Ay Q z C AE AE B,A1 z.w B,AN z.AU Av Z,Ap Tryz.prog 3 Am BT z.jk Bt Ax,Ae 3 1 (I C.p C.n C.c) C.n (Aq Bm As)]) w [Ay Q z C ah t Y,A1 z.w Y,AN z.AU Av Z,Ap Tryz.prog 3 Am BT z.jk Bt Ax,Ae 3 1 (I C.p C.n C.c) C.n (Aq Bm As),Ae 195 2 (I t.p t.n t.c) t.n (Aq BQ ai)] W:=by
 have L:∀F,A6 [Ay Q z C AE AE B,A1 z.w B,AN z.AU Av Z,Ap Tryz.prog 3 Am BT z.jk Bt Ax,Ae 3 1 (I C.p C.n C.c) C.n (Aq Bm As)]=F→∀k,CB k→¬F k:=fun F r k aj q=>ag k aj (r▸q)
 have N:As.length=C.n:=I3 Gj (by decide) (K.at_ 4 _ D)
 have aE:=Lx R C.n
 have P:C.n≤4096:=by omega
 refine Cb K Xc D 58 fun F r=>M ?_
 refine By D<|AG C2 8 D<|AZ Gd 0 8 D D D<|Cr Gd D<|M ?_
 refine Dr 230 1 (Aq CC [])<|gz [[Value.map none],[Value.map none]] 234<|Rh 57 AP<|Rh 242 AM<|I_ 1 (AQ 57 AP (Value.map none) (G.get [])) D D<|I_ 0 (AQ 242 AM (Value.map none) (G.get [])) D D<|DL (fun ak a W=>∃(i:Nat) (Di:BX) (Cd:BX) (l:Option Nat) (f:Value) (FG:Value) (DQ:List (G.Ae×Nat)) (ol:List (Jc×Nat)) (g:List Nat),ak=C.n - i∧AH 58 a (Jb (Jb (Jb Jk 0 (S Q)) 8 (E C.n)) 9 (E i))∧Sat F w [AQ 242 AM f (G.get DQ),AQ 57 AP FG (G.get ol),HW l [[f],[FG]] 234,Ae 230 1 (I Cd.p Cd.n Cd.c) Cd.n (Aq CC g),Ay Q z C Cd AE Di,A1 z.w Di,AN z.AU Av Z,Ap Tryz.prog 3 Am BT z.jk Bt Ax,Ae 3 1 (I C.p C.n C.c) C.n (Aq Bm As)] W∧i≤C.n∧Cd.n=i∧g.length=i∧((i=0∧l=none∧DQ=[]∧ol=[])∨(0<i∧∃AB,l=some AB∧g[i - 1]? =some AB))∧G.EO z.w (fun p=>(Z p).map Bf.AW) (fun p=>(Ax p).getD G.DX) As i=some (DQ,ol)∧FB Z DQ∧F7 Z ol) (fun a W s d=>⟨0,B,AE,none,.map none,.map none,[],[],[],D,AY s,d.pick [0,1,2,3,4,5,6,7,8],by omega,D,D,.inl ⟨D,D,D,D⟩,D,FB.nil,F7.nil⟩) ?_
 rintro _ a W ⟨i,Di,Cd,l,f,FG,DQ,ol,g,rfl,s,d,aF,aG,aa,ho,y,O,ab⟩;revert a W
 refine Je<|Jh<|Ej D D<|Jg<|Jf<|Je<|Cz D (fun al=>?_) fun al=>?_
 ·
  refine M ?_
  obtain⟨x,A⟩:=VD X (i:=i) (by omega)
  obtain⟨ad,H⟩:=VD X (i:=0) (by omega)
  cases J:G.version z.w (fun p=>(Z p).map Bf.AW) (fun p=>(Ax p).getD G.DX) As (DQ,ol) (i+1)with
  |none=>
   refine M ?_
   refine B6 (q:=1) D D<|U<|?_
   refine Ba P7 D (fun w d=>(We Q z C Cd Di Av Bt Z Ax As g l f FG DQ ol (i+1) x ad w (d.Ad (H1:=[Ay Q z C Cd AE Di,A1 z.w Di,AN z.AU Av Z,Ap Tryz.prog 3 Am BT z.jk Bt Ax,Ae 3 1 (I C.p C.n C.c) C.n (Aq Bm As),Ae 230 1 (I Cd.p Cd.n Cd.c) Cd.n (Aq CC g),HW l [[f],[FG]] 234,AQ 242 AM f (G.get DQ),AQ 57 AP FG (G.get ol)]) [4,5,6,7,8,3,2,0,1]) (A5.sat d (L F r)) (d.Eb A5 (L F r) [4,5,6,7,8,3,2,0,1]) hw CM A H P R (by omega) (by omega) (FJ _ _ A) (FJ _ _ H) (by rcases ho with⟨h1,u,v,T⟩|⟨h1,AB,u,v⟩;exact .inl ⟨by omega,u,v,T⟩;exact .inr ⟨by omega,AB,u,v⟩) O ab).mono fun e W q=>q.2 J) fun _ e W d ⟨an,ao,aq,he,aH,aI,q⟩=>⟨_,_,he,Sat.call (H1:=[Ay Q z C Cd AE Di,A1 z.w Di,AN z.AU Av Z,Ap Tryz.prog 3 Am BT z.jk Bt Ax,Ae 3 1 (I C.p C.n C.c) C.n (Aq Bm As),Ae 230 1 (I Cd.p Cd.n Cd.c) Cd.n (Aq CC g),HW l [[f],[FG]] 234,AQ 242 AM f (G.get DQ),AQ 57 AP FG (G.get ol)]) (H2:=[]) (d.pick [4,5,6,7,8,3,2,0,1]) q,?_⟩
   refine Af (fun _ _ s d=>CE s (b:=false) D)<|M ?_
   refine Ff fun W d=>?_
   subst r
   refine⟨aq,Cd,an,ao,D,⟨fun h=>by omega,fun h=>?_⟩,by omega,d.pick [0,1,2,3,4,5]⟩
   unfold La at h;rw[YE (j:=i+1) (by rw[G.EO,y];exact J) As.length (by omega)]at h;cases h
  |some on=>
   refine M ?_
   refine B6 (q:=1) D D<|U<|?_
   refine Ba P7 D (fun w d=>(We Q z C Cd Di Av Bt Z Ax As g l f FG DQ ol (i+1) x ad w (d.Ad (H1:=[Ay Q z C Cd AE Di,A1 z.w Di,AN z.AU Av Z,Ap Tryz.prog 3 Am BT z.jk Bt Ax,Ae 3 1 (I C.p C.n C.c) C.n (Aq Bm As),Ae 230 1 (I Cd.p Cd.n Cd.c) Cd.n (Aq CC g),HW l [[f],[FG]] 234,AQ 242 AM f (G.get DQ),AQ 57 AP FG (G.get ol)]) [4,5,6,7,8,3,2,0,1]) (A5.sat d (L F r)) (d.Eb A5 (L F r) [4,5,6,7,8,3,2,0,1]) hw CM A H P R (by omega) (by omega) (FJ _ _ A) (FJ _ _ H) (by rcases ho with⟨h1,u,v,T⟩|⟨h1,AB,u,v⟩;exact .inl ⟨by omega,u,v,T⟩;exact .inr ⟨by omega,AB,u,v⟩) O ab).mono fun e W q=>q.1 _ J) fun _ e W d ⟨ar,au,V,av,aw,he,aJ,q⟩=>⟨_,_,he,Sat.call (H1:=[Ay Q z C Cd AE Di,A1 z.w Di,AN z.AU Av Z,Ap Tryz.prog 3 Am BT z.jk Bt Ax,Ae 3 1 (I C.p C.n C.c) C.n (Aq Bm As),Ae 230 1 (I Cd.p Cd.n Cd.c) Cd.n (Aq CC g),HW l [[f],[FG]] 234,AQ 242 AM f (G.get DQ),AQ 57 AP FG (G.get ol)]) (H2:=[]) (d.pick [4,5,6,7,8,3,2,0,1]) q,?_⟩
   refine Af (fun _ _ s d=>CE s (b:=true) D)<|M ?_
   refine B6 (q:=1) D D<|M ?_
   exact fun a W s d=>⟨_,by omega,i+1,ar,au,some V,av,aw,on.1,on.2,g++[V],D,AY s,d.pick [7,8,6,5,0,1,2,3,4],by omega,by omega,by rw[List.length_append,aa];rfl,.inr ⟨by omega,V,D,by rw[Nat.add_sub_cancel,←aa];exact List.getElem?_concat_length⟩,by rw[G.EO,y];exact J,(Vt CM A H O J).1,(Vt CM A H O J).2⟩
 obtain rfl:i=C.n:=by omega
 refine M ?_
 refine By D<|AG C2 8 D<|AZ Gd 4 8 D D D<|Cr Gd D<|U<|Cx J2 D [4,8] (H1:=[Ay Q z C Cd AE Di,Ae 3 1 (I C.p C.n C.c) C.n (Aq Bm As)]) (fun w K=>HX Q z C Cd AE Di C.n As w K)<|Af (Mn D D (((max 1 (G.at_ As C.n)):Nat):Int))<|M ?_
 refine B6 (q:=1) D D<|Jd D<|By D<|AG C2 1 D<|AG BM 3 D<|AZ AF 4 3 D D D<|Ej D D<|M ?_
 refine Cz D (fun ax=>?_) fun ax=>?_
 ·
  refine M ?_
  refine B6 (q:=1) D D<|U<|?_
  refine Dr 195 2 (Aq BQ [])<|?_
  refine Ba EV D (fun w d=>EZ Q z C Cd AE Di ((max 1 (G.at_ As C.n))+1) 172 ([]) w (d.Ad (H1:=[Ay Q z C Cd AE Di,Ae 195 2 (I none 0 0) 0 (Aq BQ ([]))]) [5,0])) fun _ e W d ⟨ae,ay,he,az,q⟩=>⟨_,_,he,Sat.call (H1:=[Ay Q z C Cd AE Di,Ae 195 2 (I none 0 0) 0 (Aq BQ ([]))]) (H2:=[AQ 242 AM f (G.get DQ),AQ 57 AP FG (G.get ol),HW l [[f],[FG]] 234,Ae 230 1 (I Cd.p Cd.n Cd.c) Cd.n (Aq CC g),A1 z.w Di,AN z.AU Av Z,Ap Tryz.prog 3 Am BT z.jk Bt Ax,Ae 3 1 (I C.p C.n C.c) C.n (Aq Bm As)]) (d.pick [5,0,1,2,3,4,6,7,8,9]) q,?_⟩
  have aK:ae.n=1:=az
  refine Jg<|JA<|Jt<|Ff fun W d=>?_
  subst r
  refine⟨Di,Cd,ae,ay,D,⟨fun h=>by omega,fun h=>?_⟩,by omega,d.pick [0,6,7,8,9,1]⟩
  unfold La at h;rw[N,y]at h;simp at h;omega
 refine M ?_
 refine By D<|AG C2 8 D<|AZ Gd 4 8 D D D<|Cr Gd D<|Kl D D (fun aA=>?_) fun aA=>?_
 ·
  refine M ?_
  refine By D<|Jj D D D<|AG C2 1 D<|Jj D D D<|AG BM 4 D<|Jj D D D<|AZ AF 4 4 D D D<|M ?_
  refine Li D D (fun aB=>?_) fun aB=>?_
  ·
   refine M ?_
   refine Jt<|Ff fun W d=>?_
   subst r
   exact⟨Di,Cd,AE,[],D,⟨fun _=>(by unfold La;rw[N,y];simp;omega),fun _=>rfl⟩,by decide,(d.nil 195 2).pick [5,6,7,8,9,0]⟩
  refine M ?_
  refine U<|?_
  refine Dr 195 2 (Aq BQ [])<|?_
  refine Ba EV D (fun w d=>EZ Q z C Cd AE Di (max 1 (G.at_ As C.n)) 173 ([]) w (d.Ad (H1:=[Ay Q z C Cd AE Di,Ae 195 2 (I none 0 0) 0 (Aq BQ ([]))]) [5,0])) fun _ e W d ⟨af,aC,he,aD,q⟩=>⟨_,_,he,Sat.call (H1:=[Ay Q z C Cd AE Di,Ae 195 2 (I none 0 0) 0 (Aq BQ ([]))]) (H2:=[AQ 242 AM f (G.get DQ),AQ 57 AP FG (G.get ol),HW l [[f],[FG]] 234,Ae 230 1 (I Cd.p Cd.n Cd.c) Cd.n (Aq CC g),A1 z.w Di,AN z.AU Av Z,Ap Tryz.prog 3 Am BT z.jk Bt Ax,Ae 3 1 (I C.p C.n C.c) C.n (Aq Bm As)]) (d.pick [5,0,1,2,3,4,6,7,8,9]) q,?_⟩
  have aL:af.n=1:=aD
  refine Jg<|JA<|Jt<|Ff fun W d=>?_
  subst r
  refine⟨Di,Cd,af,aC,D,⟨fun h=>by omega,fun h=>?_⟩,by omega,d.pick [0,6,7,8,9,1]⟩
  unfold La at h;rw[N,y]at h;simp at h;omega
 refine M ?_
 refine Jt<|Ff fun W d=>?_
 subst r
 exact⟨Di,Cd,AE,[],D,⟨fun _=>(by unfold La;rw[N,y];simp;omega),fun _=>rfl⟩,by decide,(d.nil 195 2).pick [5,6,7,8,9,0]⟩
def AI(il:List UInt8)(p:Nat):List UInt8:=(il.drop (p*256)).take 256
theorem NR{il:List UInt8}{p:Nat}:(il.drop (p*256)).take ((p+1)*256 - p*256)=AI il p:=by unfold AI;rw[show(p+1)*256 - p*256=256 by omega]
theorem Vp(Q:Nat)(z:Dl)(C d Au B:BX)(p:Nat)(il:List UInt8)(w:World)(f:BE [Ay Q z C d Au B,Ae 5 1 (I z.ip z.jv z.jC) z.jv (bv il)] w)(k:(p+1)*256≤z.jv∧z.jv≤z.jC∧p≤4096):Calls Tryz.prog 220 #[Value.agg (flat []),S Q,E p] w fun e W=>e=.returned (E (if p<2∧Fr.CN ((AI il p).drop 64)=false then 53 else 0))∧Sat (A6 [Ay Q z C d Au B,Ae 5 1 (I z.ip z.jv z.jC) z.jv (bv il)]) w [Ay Q z C d Au B,Ae 5 1 (I z.ip z.jv z.jC) z.jv (bv il)] W:=by
 obtain⟨k,n,o⟩:=k
 have r:il.length=z.jv:=De (f.at_ 1 _ D)
 refine Cb f Sz D 18 fun F i=>Je<|Jh<|U<|Cv D fun s=>M ?_
 refine GV D D (fun l=>?_) fun l=>?_
 ·
  refine M ?_
  refine U<|Cx Mh D [1] (H1:=[Ay Q z C d Au B]) (fun w f=>Ya Q z C d Au B p w f (by omega))<|Jj D D D<|Af (Fi A3 64 ((p+1)*256 - p*256) (Db (p*256) ((p+1)*256) (BZ 2) D) D (.some D) .none)<|Jj D D D<|U<|?_
  refine Ba Ub D (fun w a=>eZ _ _ _ (((il.drop (p*256)).take ((p+1)*256 - p*256)).drop 64) w ((Db 64 ((p+1)*256 - p*256) (Db (p*256) ((p+1)*256) (BZ 2) D) (List.take_of_length_le (by rw[List.length_drop];have:((il.drop (p*256)).take ((p+1)*256 - p*256)).length=((p+1)*256 - p*256):=(by simp only[List.length_take,List.length_drop];omega);omega))) w a) (by have:((il.drop (p*256)).take ((p+1)*256 - p*256)).length=((p+1)*256 - p*256):=(by simp only[List.length_take,List.length_drop];omega);simp only[List.length_drop];omega)) fun _ e W a ⟨t,u,v,he,j,J⟩=>⟨_,_,he,a.below J,?_⟩
  refine Jj D D D<|Cr Co D<|Jj D D D<|Kl D D (fun m=>?_) fun m=>?_
  ·
   refine A7 ?_
   intro W a
   subst i
   exact⟨congrArg (fun q=>Ending.returned (E q)) (Eq.symm (if_pos ⟨by omega,by rw[←NR];exact Bool.eq_false_iff.2 (fun h=>by have:=j.2 h;omega)⟩)),a.pick [1,2]⟩
  refine A7 ?_
  intro W a
  subst i
  exact⟨congrArg (fun q=>Ending.returned (E q)) (Eq.symm (if_neg (fun⟨h1,c⟩=>by first|omega|(rw[←NR]at c;have:=j.1 (by omega);rw[this]at c;cases c)))),a.pick [1,2]⟩
 refine A7 ?_
 intro W a
 subst i
 exact⟨congrArg (fun q=>Ending.returned (E q)) (Eq.symm (if_neg (fun⟨h1,c⟩=>by first|omega|(rw[←NR]at c;have:=j.1 (by omega);rw[this]at c;cases c)))),a.pick [1,2]⟩
end Go.Proofs.YtaapafoibofbjaaGreatDoor
