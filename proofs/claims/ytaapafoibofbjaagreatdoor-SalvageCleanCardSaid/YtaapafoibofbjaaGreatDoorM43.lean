/- Laws and walks on the road to SalvageClean (part M43). No conditions beyond each law's own. -/
import Derived.Test.YtaapafoibofbjaaGreatDoorM01
import Derived.Test.YtaapafoibofbjaaGreatDoorM42
import Derived.Test.YtaapafoibofbjaaGreatDoorM41
import Derived.Test.YtaapafoibofbjaaGreatDoorM07
import Derived.Test.YtaapafoibofbjaaGreatDoorM12
import Derived.Test.YtaapafoibofbjaaGreatDoorM32
import Derived.Test.YtaapafoibofbjaaGreatDoorM33
set_option linter.unusedVariables false
namespace Go.Proofs.YtaapafoibofbjaaGreatDoor
set_option maxRecDepth 10000
theorem M0{L:List Nat}{a k:Nat}(b:a≤L.length:=by omega):G.at_ (L.take a) k=if 1≤k∧k≤a then L.getD (k - 1) 0 else 0:=by
 unfold G.at_
 rw[List.length_take,Nat.min_eq_left b]
 split
 ·rw[Qp]
 ·rfl
theorem aE{il:List UInt8}{m q:Nat}{n:G.Dh}(h:EB il m q=some n)(c:n.kd=1):n.l=0∧n.r=0:=by
 unfold EB at h
 split at h
 ·cases b:G.CW q (AI il q)with
  |nd x=>
   rw[b]at h
   cases h
   obtain⟨kd,B1,a⟩:=UG b
   unfold G.node at a
   split at a
   ·split at a
    ·cases a;exact⟨D,D⟩
    ·cases a
   ·split at a
    ·split at a
     ·cases a;cases c
     ·cases a
    ·cases a
  |no=>rw[b]at h;cases h
  |rc r=>rw[b]at h;cases h
 ·cases h
theorem hH{W:Nat}{nd:Nat→Option G.Dh}{rc:Nat→B9}{ch:List Nat}{n:Nat}{o:G.Shape}(h:G.EO W nd rc ch n=some o){j:Nat}(hj:j≤n):∃o',G.EO W nd rc ch j=some o':=by
 cases V:G.EO W nd rc ch j with
 |none=>rw[YE V n hj]at h;cases h
 |some o'=>exact⟨o',D⟩
theorem XK{Bo:Type}{c:Prop}[Decidable c]{a:Option Bo}{o:Bo}(h:(if c then a else none)=some o):c∧a=some o:=by
 by_cases b:c
 ·rw[if_pos b]at h;exact⟨b,h⟩
 ·rw[if_neg b]at h;cases h
attribute [local irreducible] G.EO
section
variable {n W P Bz:Nat} {x:List UInt8} {i j:Nat}
theorem Fl.down(h:Fl n W P Bz x i)(hj:j≤i):Fl n W P Bz x j:=⟨h.hw,h.jj,h.hl,h.jJ,h.hm,by have:=h.ji;omega⟩
theorem WB(h:Fl n W P Bz x i){q:Nat}(a:q<2):FC (Ct n W P (A9 x Bz) i x).l q=true:=by
 unfold FC
 rw[if_pos a]
 exact(h.slot a).2
theorem Uw(h:Fl n W P Bz x 0):F1 n W P (A9 x Bz) x 0=true:=by
 unfold F1
 rw[NH]
 have a:=h.A9
 have hm:(BL W P (A9 x Bz) (0+1)).m=2:=D
 rw[hm]at a⊢
 refine⟨fun q b=>WB h b,?_⟩
 unfold LA
 rw[a]
 show(match G.EO W _ _ [] 0 with|none=>false|some _=>_)=true
 have:G.EO W (EB (Ct n W P (A9 x Bz) 0 x).l 2) (fun p=>(Dy (Ct n W P (A9 x Bz) 0 x).l 2 p).getD G.DX) [] 0=some ([],[]):=by unfold G.EO;rfl
 rw[this]
 rfl
theorem Y4(h:Fl n W P Bz x i)(hj:j≤i):(BL W P (A9 x Bz) (j+1)).m≤(BL W P (A9 x Bz) (i+1)).m:=by
 by_cases a:0<j
 ·rw[(Ko a).1,(Ko (by omega)).1]
  by_cases e:j=i
  ·subst e;exact Br _
  ·have:=h.Ir.lt (j:=j - 1) (k:=i - 1) (by omega) (by have:=h.ji;omega)
   omega
 ·obtain rfl:j=0:=by omega
  by_cases h1:0<i
  ·rw[(Ko h1).1]
   have:=h.Ir.at_ (j:=i - 1) (by have:=h.ji;omega)
   show 2≤_
   omega
  ·obtain rfl:i=0:=by omega
   exact Br _
theorem TX(h:Fl n W P Bz x i)(hj:j≤i){q:Nat}(a:2≤q)(b:q<(BL W P (A9 x Bz) (j+1)).m):AI (Ct n W P (A9 x Bz) j x).l q=AI (Ct n W P (A9 x Bz) i x).l q:=by
 rw[(h.down hj).KY a b,h.KY a (Nat.lt_of_lt_of_le b (Y4 h hj))]
theorem ZT(h:Fl n W P Bz x i)(hj:j≤i)(f:F1 n W P (A9 x Bz) x i=true):F1 n W P (A9 x Bz) x j=true:=by
 rcases Nat.eq_zero_or_pos j with rfl|g
 ·exact Uw (h.down hj)
 have v:=h.ji
 have Df:=h.Ir
 have s:=h.down hj
 have C:=Y4 h hj
 unfold F1 at f⊢
 rw[NH]at f⊢
 obtain⟨h1,d⟩:=f
 have w:=h.A9
 have y:=s.A9
 refine⟨fun q t=>?_,?_⟩
 ·by_cases b:q<2
  ·exact WB s b
  ·have:=h1 q (by omega)
   unfold FC at this⊢
   rw[if_neg b]at this⊢
   unfold IT at this⊢
   rw[TX h hj (by omega) t]
   exact this
 ·unfold LA at d⊢
  rw[w]at d
  rw[y]
  have li:((A9 x Bz).take i).length=i:=by rw[List.length_take];omega
  have z:((A9 x Bz).take j).length=j:=by rw[List.length_take];omega
  rw[li]at d
  rw[z]
  cases V:G.EO W (EB (Ct n W P (A9 x Bz) i x).l (BL W P (A9 x Bz) (i+1)).m) (fun p=>(Dy (Ct n W P (A9 x Bz) i x).l (BL W P (A9 x Bz) (i+1)).m p).getD G.DX) ((A9 x Bz).take i) i with
  |none=>rw[V]at d;cases d
  |some o=>
   obtain⟨o',u⟩:=hH V hj
   have t:=Df.at_ (j:=j - 1) (by omega)
   have A:=(Ko (W:=W) (P:=P) (L:=A9 x Bz) g).1
   have B:=(Ko (W:=W) (P:=P) (L:=A9 x Bz) g).2
   have Sf:∀k,1≤k→k≤j→(A9 x Bz).getD (k - 1) 0≤(A9 x Bz).getD (j - 1) 0:=fun k a E=>by
    by_cases e:k=j
    ·subst e;exact Br _
    ·exact Nat.le_of_lt (Df.lt (by omega) (by omega))
   have key:=(G.iq (W:=W) (N:=(A9 x Bz).getD (j - 1) 0) (nd:=EB (Ct n W P (A9 x Bz) i x).l (BL W P (A9 x Bz) (i+1)).m) (F4:=EB (Ct n W P (A9 x Bz) j x).l (BL W P (A9 x Bz) (j+1)).m) (rc:=fun p=>(Dy (Ct n W P (A9 x Bz) i x).l (BL W P (A9 x Bz) (i+1)).m p).getD G.DX) (rc':=fun p=>(Dy (Ct n W P (A9 x Bz) j x).l (BL W P (A9 x Bz) (j+1)).m p).getD G.DX) (ch:=(A9 x Bz).take i) (ch':=(A9 x Bz).take j) (j:=j) ?_ (by omega) (by unfold EB;rw[if_neg (by omega)]) (fun q n h c=>aE h c) ?_ ?_ j (Br _)).1
   ·rw[key]at u
    rw[u,M0,if_pos (by omega),A,B]
    show(!decide _&&!(decide _&&!decide _))=true
    rw[decide_eq_false (by omega),decide_eq_true g,decide_eq_true (by omega)]
    rfl
   ·intro q F
    unfold EB
    by_cases b:2≤q
    ·rw[if_pos ⟨b,by omega⟩,if_pos ⟨b,by omega⟩,TX h hj b (by omega)]
    ·rw[if_neg (by omega),if_neg (by omega)]
   ·intro k c
    rw[M0,M0]
    by_cases a:1≤k
    ·rw[if_pos ⟨a,by omega⟩,if_pos ⟨a,c⟩]
     exact⟨D,Sf k a c⟩
    ·rw[if_neg (by omega),if_neg (by omega)]
     exact⟨D,Nat.zero_le _⟩
   ·intro k a c
    rw[M0,if_pos ⟨a,by omega⟩]
    have H:=Sf k a c
    have r:=Df.at_ (j:=k - 1) (by omega)
    show(Dy _ _ _).getD G.DX=(Dy _ _ _).getD G.DX
    unfold Dy
    rw[if_pos ⟨r.1,by omega⟩,if_pos ⟨r.1,by omega⟩,TX h hj r.1 (by omega)]
theorem hf(h:Fl n W P Bz x i)(hj:j≤i):F1 n W P ((A9 x Bz).take i) (Ct n W P (A9 x Bz) i x).l j=F1 n W P (A9 x Bz) x j:=by
 unfold F1
 rw[T7 h.Ir h.hl h.OT h.jJ h.ji hj,P4]
theorem ga(h:Fl n W P Bz x i)(A:0<i)(d:F1 n W P (A9 x Bz) x i=true):∃r,G.CW ((A9 x Bz).getD (i - 1) 0) (AI (Ct n W P (A9 x Bz) i x).l ((A9 x Bz).getD (i - 1) 0))=.rc r∧r.ju<(A9 x Bz).getD (i - 1) 0∧r.jt<(A9 x Bz).getD (i - 1) 0∧r.r<(A9 x Bz).getD (i - 1) 0:=by
 have E:=h.ji
 have Df:=h.Ir
 unfold F1 at d
 rw[NH]at d
 obtain⟨h1,b⟩:=d
 have g:=h.A9
 unfold LA at b
 rw[g]at b
 have li:((A9 x Bz).take i).length=i:=by rw[List.length_take];omega
 rw[li]at b
 have F:=Df.at_ (j:=i - 1) (by omega)
 have Q:=(Ko (W:=W) (P:=P) (L:=A9 x Bz) A).1
 have t:(A9 x Bz).getD (i - 1) 0∈(A9 x Bz).take i:=by
  rw[←Qp (i:=i),List.getD_eq_getElem?_getD,List.getElem?_eq_getElem (by omega)]
  exact List.getElem_mem _
 rw[←g]at t
 have a:=YC t
 unfold EA at a
 simp only[Bool.and_eq_true]at a
 have a:=a.2
 generalize u:(A9 x Bz).getD (i - 1) 0=q at*
 cases e:G.CW q (AI (Ct n W P (A9 x Bz) i x).l q)with
 |no=>rw[e]at a;cases a
 |nd z=>rw[e]at a;cases a
 |rc r=>
  refine⟨r,D,?_⟩
  cases V:G.EO W (EB (Ct n W P (A9 x Bz) i x).l (BL W P (A9 x Bz) (i+1)).m) (fun p=>(Dy (Ct n W P (A9 x Bz) i x).l (BL W P (A9 x Bz) (i+1)).m p).getD G.DX) ((A9 x Bz).take i) i with
  |none=>rw[V]at b;cases b
  |some o=>
   obtain⟨k,rfl⟩:∃k,i=k+1:=⟨i - 1,by omega⟩
   unfold G.EO at V
   cases v:G.EO W (EB (Ct n W P (A9 x Bz) (k+1) x).l (BL W P (A9 x Bz) (k+1+1)).m) (fun p=>(Dy (Ct n W P (A9 x Bz) (k+1) x).l (BL W P (A9 x Bz) (k+1+1)).m p).getD G.DX) ((A9 x Bz).take (k+1)) k with
   |none=>rw[v]at V;cases V
   |some w=>
    rw[v]at V
    simp only[Option.bind_some]at V
    unfold G.version at V
    have H:G.at_ ((A9 x Bz).take (k+1)) (k+1)=q:=by rw[M0,if_pos (by omega)];exact u
    have hr:Dy (Ct n W P (A9 x Bz) (k+1) x).l (BL W P (A9 x Bz) (k+1+1)).m q=some r:=by
     unfold Dy
     rw[if_pos ⟨F.1,by omega⟩,e]
    simp only[H,hr,Option.getD_some]at V
    have y:∀z,z≤k→G.at_ ((A9 x Bz).take (k+1)) z<q:=by
     intro z R
     rw[M0]
     split
     ·rename_i S
      rw[←u]
      exact Df.lt (by omega) (by omega)
     ·omega
    obtain⟨I,V⟩:=XK V
    obtain⟨-, -,J,K⟩:=I
    have M:r.ju<q:=by rw[J];exact y _ (by omega)
    have N:r.jt<q:=by rw[K];exact y _ (Eg Nat.and_le_right (by omega))
    refine⟨M,N,?_⟩
    by_cases O:r.r=0
    ·omega
    ·rw[if_neg O]at V
     cases f:G.through ⟨W,EB (Ct n W P (A9 x Bz) (k+1) x).l (BL W P (A9 x Bz) (k+1+1)).m,w.1,w.2,max 1 (G.at_ ((A9 x Bz).take (k+1)) (k+1 - 1))+1⟩ 4097 r.r q r.c r.s ⟨0,CU⟩ ⟨max 1 (G.at_ ((A9 x Bz).take (k+1)) (k+1 - 1))+1,[],[]⟩with
     |none=>rw[f]at V;cases V
     |some s1=>
      rw[G.through]at f
      exact(G.Y_ (XK f).1).1
end
section
variable {n i:Nat} {s:Fr.Bu} {x:List UInt8}
theorem D5.LF(h:D5 n s x i):(1≤s.w∧s.w≤32)∧(3≤s.p∧s.p≤4096)∧2≤s.m∧s.m≤s.p:=by
 have V:=h.v
 simp only[Fr.DE,Bool.and_eq_true,Bool.or_eq_true,decide_eq_true_eq]at V
 omega
theorem D5.cs(h:D5 n s x i):Fl n s.w s.p s.m x i:=⟨h.LF.1,h.LF.2.1,h.len,h.p,h.LF.2.2.2,h.le⟩
theorem D5.clean(h:D5 n s x i):F1 n s.w s.p (A9 x s.m) x i=true:=by
 by_cases a:0<i
 ·have:=h.jB.resolve_left (by omega)
  rw[show i - 1+1=i by omega]at this
  exact this
 ·obtain rfl:i=0:=by omega
  exact Uw h.cs
theorem D5.Uj(h:D5 n s x i):LR (Cl n s x i) s.w (BJ s x i).m (BJ s x i).h:=NH.1 h.clean
theorem GA:(Cl n s x i).length=n:=(Ct n s.w s.p (A9 x s.m) i x).h
theorem dC{il:List UInt8}{p:Nat}(h:FC il p=true)(b:2≤p):Fr.CZ p (AI il p)=true:=by
 unfold FC at h
 rw[if_neg (by omega)]at h
 unfold IT G.CW at h
 cases a:Fr.CZ p (AI il p)with
 |true=>rfl
 |false=>rw[a,if_neg Bool.false_ne_true]at h;cases h
theorem D5.L'(h:D5 n s x i):Gp (Cl n s x i) n (BJ s x i):=by
 have c:=h.cs
 have a:=c.slot (q:=0) (by omega)
 have b:=c.slot (q:=1) (by omega)
 refine⟨?_,?_,c.choose,?_,fun p d e=>dC (h.Uj.1 p e) d⟩
 ·unfold L1;rw[OL];exact a
 ·unfold L1;rw[OL];exact b
 ·show n=256*(BL s.w s.p (A9 x s.m) (i+1)).p
  rw[LV];exact h.p
theorem TY:(BJ s x i).w=s.w:=MZ _
theorem SX:(BJ s x i).p=s.p:=LV _
theorem D5.A9(h:D5 n s x i):A9 (Cl n s x i) (BJ s x i).m=(Go.Proofs.YtaapafoibofbjaaGreatDoor.A9 x s.m).take i:=h.cs.A9
theorem D5.self(h:D5 n s x i){a:Nat}(d:D5 n (BJ s x i) (Cl n s x i) a):Cl n (BJ s x i) (Cl n s x i) a=Cl n s x i∧BJ (BJ s x i) (Cl n s x i) a=BJ s x i:=by
 have b:=h.cs
 have hle:=d.le
 have f:=d.ji
 rw[h.A9,List.length_take,Nat.min_eq_left h.le]at hle f
 have c:a=i:=by
  rcases f with q|q
  ·exact q
  ·by_cases e:a=i
   ·exact e
   ·rw[TY,SX]at q
    have g:F1 n s.w s.p ((Go.Proofs.YtaapafoibofbjaaGreatDoor.A9 x s.m).take i) (Ct n s.w s.p (Go.Proofs.YtaapafoibofbjaaGreatDoor.A9 x s.m) i x).l (a+1)=false:=q
    rw[hf b (by omega),ZT b (by omega) h.clean]at g
    cases g
 subst c
 constructor
 ·show(Ct n (BJ s x a).w (BJ s x a).p (Go.Proofs.YtaapafoibofbjaaGreatDoor.A9 (Cl n s x a) (BJ s x a).m) a (Cl n s x a)).l=_
  rw[h.A9,TY,SX]
  show(Ct n s.w s.p ((Go.Proofs.YtaapafoibofbjaaGreatDoor.A9 x s.m).take a) a (Ct n s.w s.p (Go.Proofs.YtaapafoibofbjaaGreatDoor.A9 x s.m) a x).l).l=_
  rw[T7 b.Ir b.hl b.OT b.jJ b.ji (Br _)]
  rfl
 ·show BL (BJ s x a).w (BJ s x a).p (Go.Proofs.YtaapafoibofbjaaGreatDoor.A9 (Cl n s x a) (BJ s x a).m) (a+1)=_
  rw[h.A9,TY,SX,P4 (Br _)]
  rfl
theorem D5.head(h:D5 n s x i):((BJ s x i).h=0∧(BJ s x i).m=2)∨(2≤(BJ s x i).h∧(BJ s x i).h<(BJ s x i).m∧∃r,G.CW (BJ s x i).h (AI (Cl n s x i) (BJ s x i).h)=.rc r∧r.ju<(BJ s x i).h∧r.jt<(BJ s x i).h∧r.r<(BJ s x i).h):=by
 by_cases a:0<i
 ·have hm:=(Ko (W:=s.w) (P:=s.p) (L:=Go.Proofs.YtaapafoibofbjaaGreatDoor.A9 x s.m) a)
  have d:=h.cs.Ir.at_ (j:=i - 1) (by have:=h.le;omega)
  refine .inr ?_
  show 2≤(BL s.w s.p (Go.Proofs.YtaapafoibofbjaaGreatDoor.A9 x s.m) (i+1)).h∧(BL s.w s.p (Go.Proofs.YtaapafoibofbjaaGreatDoor.A9 x s.m) (i+1)).h<(BL s.w s.p (Go.Proofs.YtaapafoibofbjaaGreatDoor.A9 x s.m) (i+1)).m∧∃r,G.CW (BL s.w s.p (Go.Proofs.YtaapafoibofbjaaGreatDoor.A9 x s.m) (i+1)).h (AI (Cl n s x i) (BL s.w s.p (Go.Proofs.YtaapafoibofbjaaGreatDoor.A9 x s.m) (i+1)).h)=.rc r∧r.ju<(BL s.w s.p (Go.Proofs.YtaapafoibofbjaaGreatDoor.A9 x s.m) (i+1)).h∧r.jt<(BL s.w s.p (Go.Proofs.YtaapafoibofbjaaGreatDoor.A9 x s.m) (i+1)).h∧r.r<(BL s.w s.p (Go.Proofs.YtaapafoibofbjaaGreatDoor.A9 x s.m) (i+1)).h
  rw[hm.1,hm.2]
  exact⟨d.1,Nat.lt_succ_self _,ga h.cs a h.clean⟩
 ·obtain rfl:i=0:=by omega
  exact .inl ⟨D,D⟩
end
end Go.Proofs.YtaapafoibofbjaaGreatDoor
namespace Go.Proofs.YtaapafoibofbjaaGreatDoor
open Go.RowKit
set_option maxRecDepth 100000
set_option maxHeartbeats 1000000
variable {n:Nat}
abbrev Bd(Ag Ac Al n r a:Nat):Atom:=O Ag [[E r],[E 0],[E 0],[E 0],[I (some ⟨Ac,0,none⟩) (n/256) (n/256)],[I none 0 0],[Value.map (some Al)],[E 0],[C' false],[E a]] 110
abbrev BU(Al:Nat):Atom:=Ap Tryz.prog 3 Am Am Al 0 (fun _=>none)
theorem Sd:CO Tryz.prog 106 111 256 256 (.agg (flat [Ak 256])):=CO.mk' KW (by kernel_rfl) D (by decide)
theorem Zv(m:Nat):(madeCells (Value.agg (flat [Ak 256])).cells (m*256)).toList=bv (Ji.zero (m*256)).l:=by
 have a:(Value.agg (flat [Ak 256])).cells=Array.replicate 256 (.int .u8 0):=by
  show(flat [Ak 256])=_
  apply Array.toList_inj.1
  rw[Array.toList_replicate]
  show [Ak 256].flatten=_
  rw[List.flatten_cons,List.flatten_nil,List.append_nil]
  rfl
 have c:(madeCells (Value.agg (flat [Ak 256])).cells (m*256)).toList=List.replicate (m*256) (.int .u8 0):=by
  rw[a,List.eq_replicate_iff]
  refine⟨by simp[madeCells],?_⟩
  intro b J
  simp only[madeCells,Array.toList_map,List.mem_map]at J
  obtain⟨i, -,rfl⟩:=J
  have:i % 256<256:=Nat.mod_lt _ (by decide)
  simp[this]
 rw[c]
 show _=bv (List.replicate (m*256) 0)
 unfold bv
 rw[List.map_replicate]
 rfl
theorem dU(l:List UInt8)(p:Nat):[bv l].flatten=[bv (l.take (p*256)),bv (AI l p),bv (l.drop (p*256+256))].flatten:=by
 simp only[List.flatten_cons,List.flatten_nil,List.append_nil]
 rw[←Mu,←Mu]
 congr 1
 unfold AI
 rw[←List.drop_drop,List.take_append_drop,List.take_append_drop]
theorem dI{N:Nat}{f:BW}{d:Nat}{ty:TypeId}{pos:String}{An:Array Edge}{g:Option (Nat×Bool)}{F:Nat→Prop}{w0:World}{H:List Atom}{T:TypeId}{BB:TypeDesc}(hu:Tryz.prog.underlying T=some BB)(i p:Nat){x:Operand}{b:Nat}{Y:Ji n}{y:Ji 256}{tb:TypeId}(c:H[i]? =some (O b [bv Y.l] tb))(j:Aj f x=some (.pointer (some ⟨b,p*256,none⟩)))(k:y.l=AI Y.l p)(r:(p+1)*256≤n:=by omega)(m:(Tryz.prog.info? T).map (·.size)=some 256:=by kernel_rfl)(Ad:BB.isRow=true:=by exact rfl):BR Tryz.prog N f F w0 H ⟨some d,.load T x,ty,pos,An,g⟩ (.agg (flat [bv y.l])):=fun a w o q=>by
 have J:=q.Dq i c
 have e:(flat [bv Y.l])=flat ([bv (Y.l.take (p*256))]++[bv y.l]++[bv (Y.l.drop (p*256+256))]):=by
  unfold flat
  rw[dU Y.l p,k]
  rfl
 rw[e]at J
 have hl:(Y.l.take (p*256)).length=p*256:=by rw[List.length_take,Y.h];omega
 refine MY o j hu Ad [bv (Y.l.take (p*256))] [bv y.l] [bv (Y.l.drop (p*256+256))] (tb:=tb) (fr:=(0,0)) J ?_ ?_
 ·simp[DG,hl]
 ·rw[m];simp[DG,y.h]
def J'(n:Nat)(l:List UInt8):Nat→Ji n
 |0=>Ji.zero n
 |i+1=>(J' n l i).lay (i*256) (AI l i)
theorem Zt{l:List UInt8}(hl:l.length=n):∀(i:Nat),i*256≤n→∀k,k<i*256→(J' n l i).l[k]? =l[k]? :=by
 intro i
 induction i with
 |zero=>intro _ k a;omega
 |succ i b=>
  intro d k a
  have c:(AI l i).length=256:=En
  show((J' n l i).lay (i*256) (AI l i)).l[k]? =_
  rw[M1 _ (by omega),c]
  split
  ·rw[L0,if_pos (by omega)]
   congr 1
   omega
  ·exact b (by omega) k (by omega)
theorem e7{l:List UInt8}(hl:l.length=n)(a:n % 256=0):(J' n l (n/256)).l=l:=by
 apply List.ext_getElem?
 intro k
 by_cases b:k<n
 ·exact Zt hl _ (by omega) k (by omega)
 ·rw[List.getElem?_eq_none (by rw[(J' n l (n/256)).h];omega),List.getElem?_eq_none (by omega)]
theorem Q6(Ag Ac Al n r a:Nat)(w:World)(d:BE [Bd Ag Ac Al n r a] w):Calls Tryz.prog 26 #[S Ag] w fun e W=>e=.returned (.bool true)∧Sat (A6 [Bd Ag Ac Al n r a]) w [Bd Ag Ac Al n r a] W:=by
 refine Cb d Pd D 8 fun F f=>M ?_
 refine By D<|AG HR 8 D<|AZ PW 0 8 D D D<|Af (fun _ _ g c=>CE g (b:=false) D)<|A7 ?_
 intro W c
 subst f
 exact⟨D,c.pick [0]⟩
theorem Yp(Ag Ac Al n r a:Nat)(w:World)(b:BE [Bd Ag Ac Al n r a] w)(f:n≤1048576):Calls Tryz.prog 59 #[S Ag] w fun e W=>e=.returned (E (n/256))∧Sat (A6 [Bd Ag Ac Al n r a]) w [Bd Ag Ac Al n r a] W:=by
 refine Cb b SC D 8 fun F c=>M ?_
 refine By D<|AG HR 4 D<|AZ KW 0 4 D D D<|Cr KW D<|A7 ?_
 intro W d
 subst c
 exact⟨D,d.pick [0]⟩
theorem iV(Ag Ac Al n r a:Nat)(w:World)(b:BE [Bd Ag Ac Al n r a] w):Calls Tryz.prog 103 #[S Ag] w fun e W=>e=.returned (E a)∧Sat (A6 [Bd Ag Ac Al n r a]) w [Bd Ag Ac Al n r a] W:=by
 refine Cb b XH D 7 fun F c=>M ?_
 refine By D<|AG HR 9 D<|AZ AF 0 9 D D D<|A7 ?_
 intro W d
 subst c
 exact⟨D,d.pick [0]⟩
theorem aO(Ag Ac Al n r a:Nat)(p:Nat)(w:World)(b:BE [Bd Ag Ac Al n r a] w)(f:(p+1)*256≤n∧n≤1048576):Calls Tryz.prog 158 #[S Ag,E p] w fun e W=>e=.returned (.bool true)∧Sat (A6 [Bd Ag Ac Al n r a]) w [Bd Ag Ac Al n r a] W:=by
 refine Cb b Xp D 16 fun F c=>M ?_
 refine TK (by omega) D D<|M ?_
 refine By D<|Jj D D D<|AG HR 4 D<|Jj D D D<|AZ KW 0 4 D D D<|Jj D D D<|Cr KW D<|Jj D D D<|IS (by omega) D D<|A7 ?_
 intro W d
 subst c
 exact⟨D,d.pick [0]⟩
theorem gR(Ag Ac Al n r a:Nat)(w:World)(b:BE [Bd Ag Ac Al n r a] w)(f:a≤1048576):Calls Tryz.prog 88 #[S Ag] w fun e W=>e=.returned (E (a+1))∧Sat (A6 [Bd Ag Ac Al n r a]) w [Bd Ag Ac Al n r (a+1)] W:=by
 refine Cb b Up D 14 fun F c=>M ?_
 refine By D<|AG HR 9 D<|AZ AF 0 9 D D D<|B6 (q:=1) D D<|By D<|AG HR 9 D<|U<|Cq 0 9 D D D<|?_
 refine M ?_
 refine By D<|AG HR 9 D<|AZ AF 0 9 D D D<|A7 ?_
 intro W d
 subst c
 exact⟨D,d.pick [0]⟩
theorem SS(Ag Ac Al n r c:Nat)(Y:Ji n)(p:Nat)(w:World)(f:BE [Bd Ag Ac Al n r c,O Ac [bv Y.l] 111,BU Al] w)(hr:r≤1048576:=by omega)(t:(p+1)*256≤n∧n≤1048576:=by omega):Calls Tryz.prog 119 #[S Ag,E p] w fun e W=>∃j k,e=.returned (.tuple #[I j 256 k,E 0])∧Sat (A6 [Bd Ag Ac Al n r c,O Ac [bv Y.l] 111,BU Al]) w [Bd Ag Ac Al n (r+1) c,O Ac [bv Y.l] 111,BU Al,Ae 5 1 (I j 256 k) 256 (bv (AI Y.l p))] W:=by
 obtain⟨y,m⟩:∃y:Ji 256,y.l=AI Y.l p:=⟨⟨AI Y.l p,En (by rw[Y.h];omega)⟩,D⟩
 refine Cb f Ps D 53 fun F s=>M ?_
 refine By D<|AG HR 8 D<|AZ PW 0 8 D D D<|M ?_
 refine U<|Cx Xp D [0] (H1:=[Bd Ag Ac Al n r c]) (fun w f=>aO Ag Ac Al n r c p w f (by omega))<|Af (fun _ _ g d=>CE g (b:=true) D)<|M ?_
 refine By D<|AG HR 0 D<|AG Wz 0 D<|AZ AF 0 0 D D D<|B6 (q:=1) D D<|By D<|AG HR 0 D<|AG Wz 0 D<|U<|Cq 0 0 D D D<|?_
 refine M ?_
 refine By D<|AG HR 4 D<|AZ KW 0 4 D D D<|Jd D<|Af (fun _ _ g d=>Gu g Sd D (i:=((p:Nat):Int)) D p D (by omega) (o:=p*256) (by omega))<|Af (dI Uk 1 p (y:=y) D D m)<|U<|Bw [bv (Ji.zero 256).l] fun u=>U<|Bk 0 0 1 D D D<|?_
 refine M ?_
 refine By D<|AG HR 6 D<|AZ Vy 1 6 D D D<|Jd D<|Af (NM Vy (fun w d=>d.mp 3) Fg Fe (a:=p) (Fb (by omega)) D D O4 (by rfl))<|Jd D<|Bc D D<|Bc D D<|M ?_
 refine Af (Fp Uk 0 256 rfl .none .none 0)<|U<|Dr 5 1 (bv [])<|DI A3 0 (bv y.l) D D D (MS 1 0 0 256 256 (List.take_of_length_le (by rw[List.drop_zero];exact Nat.le_of_eq y.h))) (Eo _) (EL y.h) D fun v x=>A7 ?_
 intro W d
 subst s
 exact⟨_,_,D,m▸d.pick [2,3,4,0]⟩
theorem dX(a:Nat)(w:World)(hm:3≤a∧a≤4096):Calls Tryz.prog 24 #[E a] w fun e W=>∃Ag Ac Al,e=.returned (.tuple #[S Ag,E 0])∧Sat C1 w [O Ag [[E 0],[E 0],[E 0],[E 0],[I (some ⟨Ac,0,none⟩) a a],[I none 0 0],[Value.map (some Al)],[E 0],[C' false],[E 0]] 110,O Ac [bv (Ji.zero (a*256)).l] 111,BU Al] W:=by
 refine Cg w Xd D 15<|M ?_
 refine ET (by omega) D D<|M ?_
 refine HF (by omega) D D<|M ?_
 refine U<|Uz Sd a D D (Zv a) (by rw[DG,Ji.h]) fun Ac=>U<|K5 3 Am Am fun Al=>Af (fun _ _ c b=>Cs c (BH:=[(1,(I (some ⟨Ac,0,none⟩) a a)),(3,(Value.map (some Al)))]) D (v:=Value.agg (flat [[E 0],[E 0],[E 0],[E 0],[I (some ⟨Ac,0,none⟩) a a],[I none 0 0],[Value.map (some Al)],[E 0],[C' false],[E 0]])) (run_build _ _ _ _ (by kernel_rfl)))<|U<|Cv D fun d=>A7 ?_
 exact fun W b=>⟨d,Ac,Al,D,b.pick [0,2,1]⟩
theorem bH{D1:Option Addr}{c:Nat}{l:List UInt8}{w:World}(V:View w (I D1 n c) n 1 (bv l))(hl:l.length=n)(h:768≤n∧n≤1048576∧n % 256=0):Calls Tryz.prog 12 #[I D1 n c] w fun e W=>∃Ag Ac Al,∃Y:Ji n,Y.l=l∧e=.returned (.tuple #[S Ag,E 0])∧Sat C1 w [Bd Ag Ac Al n 0 0,O Ac [bv Y.l] 111,BU Al] W:=by
 refine Cg w UJ D 43<|M ?_
 refine Cr Co D<|Af (GG (q:=256) D D)<|Ci (by omega) D D<|M ?_
 refine Cr Co D<|Af (Iy (q:=256) D D)<|U<|?_
 refine Ba Xd D (fun w b=>(dX (n/256) w (by omega))) fun _ e W b ⟨Ag,Ac,Al,he,q⟩=>⟨_,_,he,b.Nk (by rw[show n/256*256=n by omega]at q;exact q),?_⟩
 refine Jd D<|Bc D D<|Bc D D<|M ?_
 refine Ci D D D<|M ?_
 refine By D<|AG HR 4 D<|AZ KW 0 4 D D D<|Cr KW D<|M ?_
 refine FO 1 [bv (J' n l 0).l] D D<|DL (fun f a W=>∃i,f=n/256 - i∧AH 43 a (Jb (Jb (Jb (Jb (Jb (Jb Jk 0 (I D1 n c)) 2 (Value.pointer none)) 3 (E 0)) 4 (S Ag)) 25 (E (n/256))) 26 (E i))∧Sat C1 w [Bd Ag Ac Al n 0 0,O Ac [bv (J' n l i).l] 111,BU Al] W∧i≤n/256) (fun a W d b=>⟨0,D,AY d,b.pick [0,1,2],by omega⟩) ?_
 rintro _ a W ⟨i,rfl,d,b,j⟩;revert a W
 refine Je<|Jh<|Ej D D<|Jg<|Jf<|Je<|Cz D (fun g=>?_) fun g=>?_
 ·
  refine M ?_
  refine DD 11<|zs (AA D)<|zs (Bp D)<|zs (AS Tryz.underlying110 4 D)<|zs (Bb Tryz.underlying106 0 4 D D D)<|zs (AA D)<|zs (fun _ _ d b=>Gu d Sd D (i:=((i:Nat):Int)) D i D (by omega) (o:=i*256) (by omega))<|zs (Fp Tryz.underlying111 0 256 rfl .none .none (i*256))<|zs (AA D)<|zs (AA D)<|zs (E3 (q:=256) D D)<|zs (Fi A3 (i*256) n (Bx V) D (.some D) .none)<|CS<|U<|HC 1 0 (i*256) 256 (Db (i*256) n (Bx V) (List.take_of_length_le (by rw[List.length_drop];have:(l).length=n:=hl;omega))) Tryz.underlying22 D D D D D En<|FO 1 [bv (J' n l (i+1)).l] D D<|M ?_
  refine B6 (q:=1) D D<|M ?_
  exact fun a W d b=>⟨_,by omega,i+1,D,AY d,b.pick [0,1,2],by omega⟩
 obtain rfl:i=n/256:=by omega
 refine A7 ?_
 exact fun W b=>⟨Ag,Ac,Al,J' n l (n/256),e7 hl (by omega),D,b.pick [0,1,2]⟩
end Go.Proofs.YtaapafoibofbjaaGreatDoor
namespace Go.Proofs.YtaapafoibofbjaaGreatDoor
open Go.RowKit
section
variable {P:Program} {N:Nat} {f:BW} {d:Nat} {ty:TypeId} {pos:String} {An:Array Edge} {g:Option (Nat×Bool)} {F:Nat→Prop} {w0:World} {H:List Atom}
theorem JZ{T u:TypeId}(A5:P.underlying T=some (.pointer (P.pointee T))){x:Operand}{q:Option Addr}(b:Aj f x=some (.pointer q))(r:Bool)(hr:q.isNone=r):BR P N f F w0 H ⟨some d,.binOp .eql T x (.const (.pointer none)) u,ty,pos,An,g⟩ (.bool r):=fun a w c e=>by
 subst hr
 exact ED c (q:=.pointer none) b D (by simp[eqGuard]) (run_eql_pointer_nil w T q A5)
end
end Go.Proofs.YtaapafoibofbjaaGreatDoor
