/- Laws and walks on the road to SalvageClean (part M39). No conditions beyond each law's own. -/
import Derived.Test.YtaapafoibofbjaaGreatDoorM01
import Derived.Test.YtaapafoibofbjaaGreatDoorM28
import Derived.Test.YtaapafoibofbjaaGreatDoorM38
import Derived.Test.YtaapafoibofbjaaGreatDoorM07
import Derived.Test.YtaapafoibofbjaaGreatDoorM12
import Derived.Test.YtaapafoibofbjaaGreatDoorM32
import Derived.Test.YtaapafoibofbjaaGreatDoorM33
import Derived.Test.YtaapafoibofbjaaGreatDoorM35
set_option linter.unusedVariables false
namespace Go.Proofs.YtaapafoibofbjaaGreatDoor
open Go.RowKit
set_option maxRecDepth 100000
set_option maxHeartbeats 1000000
variable {p n c i W P k:Nat} {l:List UInt8} {L:List Nat}
section
variable {Bj AK ib n c:Nat} {l:List UInt8} {u:Fr.Bu} {w:World}
theorem OL(l:List UInt8)(p:Nat):Dc l p=AI l p:=by unfold Dc AI;rw[Nat.mul_comm]
theorem BS.cu(h:BS Bj AK ib n c w l u)(a:256*(p+1)≤n):View w (.slice (some ⟨ib,256*p,none⟩) 256 (c - 256*p)) 256 1 (bv (AI l p)):=OL l p▸h.CW a
theorem BS.QI{H:List Atom}(h:BS Bj AK ib n c w l u)(a:256*(p+1)≤n):∀W,Sat C1 w H W→View W (.slice (some ⟨ib,256*p,none⟩) 256 (c - 256*p)) 256 1 (bv (AI l p)):=fun W b=>(h.below b.A0).cu a
theorem BS.wid(h:BS Bj AK ib n c w l u):w.cell? ⟨AK,1,none⟩=some (.int .i64 ((u.w:Nat):Int)):=by
 obtain⟨_,_,_,_,_,_,_,_,h⟩:=h
 rw[cell_of_row _ _ _ _ _ _ h.H];rfl
theorem Ni(l:List UInt8)(p:Nat):(A9 l p).length≤p:=by
 unfold A9
 exact Eg (List.length_filter_le _ _) (Nat.le_of_eq List.length_range)
theorem RD{l:List UInt8}{q:Nat}(h:q∈A9 l p):2≤q∧q<p:=by
 unfold A9 at h
 obtain⟨h1,a⟩:=List.mem_filter.1 h
 unfold EA at a
 simp only[Bool.and_eq_true,decide_eq_true_eq]at a
 exact⟨a.1,List.mem_range.1 h1⟩
theorem UI(l:List UInt8):A9 l 2=[]:=by
 rw[List.eq_nil_iff_forall_not_mem]
 intro q h
 have:=RD h
 omega
theorem SJ{l:List UInt8}(h:EA l p=false):A9 l (p+1)=A9 l p:=by rw[Nj,h];exact List.append_nil _
theorem UX{l:List UInt8}(h:EA l p=true):A9 l (p+1)=A9 l p++[p]:=by rw[Nj,h];rfl
theorem gS{l:List UInt8}(h:Fr.CZ p (AI l p)=false):EA l p=false:=by unfold EA G.CW;rw[if_neg (by rw[h];exact Bool.false_ne_true)];exact Bool.and_false _
theorem e3{l:List UInt8}(h:Fr.CZ p (AI l p)=true)(a:¬((AI l p).getD 0 0).toNat=3):EA l p=false:=by
 unfold EA G.CW
 rw[if_pos h,if_neg a]
 cases G.node ((AI l p).getD 0 0).toNat (G.load (AI l p))<;>exact Bool.and_false _
theorem hC{l:List UInt8}(h:Fr.CZ p (AI l p)=true)(a:((AI l p).getD 0 0).toNat=3)(hr:G.record (G.load (AI l p))=none):EA l p=false:=by
 unfold EA G.CW
 rw[if_pos h,if_pos a,hr]
 exact Bool.and_false _
theorem iL{l:List UInt8}{r:B9}(a:2≤p)(h:Fr.CZ p (AI l p)=true)(b:((AI l p).getD 0 0).toNat=3)(hr:G.record (G.load (AI l p))=some r):EA l p=true:=by
 unfold EA G.CW
 rw[if_pos h,if_pos b,hr,decide_eq_true a]
 rfl
end
theorem bZ{Bj AK ib n c:Nat}{l:List UInt8}{u:Fr.Bu}{w:World}(f:BS Bj AK ib n c w l u)(B:n≤1048576)(hm:2≤u.m∧256*u.m≤n):Calls Tryz.prog 41 #[S AK] w fun e W=>∃q m k,e=.returned (I q m k)∧W.ownsRow w.heap.size 3 1 (I q m k) m (Aq Bm (A9 l u.m))∧Below w.heap.size w W:=by
 have hlen:=f.len
 refine Cg w UT D 46<|M ?_
 refine Dr 3 1 (Aq Bm [])<|DL (fun t a W=>∃p o r h j,t=u.m - p∧AH 46 a (Jb (Jb (Jb (Jb Jk 0 (S AK)) 2 (I none 0 0)) 4 (E p)) 3 (I o h r))∧Sat C1 w [Ae 3 1 (I o h r) h (Aq Bm j)] W∧(2≤p∧p≤u.m)∧j=A9 l p∧h≤p) (fun a W d b=>⟨2,_,_,_,_,D,AY d,b.pick [0],by omega,(UI l).symm,by omega⟩) ?_
 rintro _ a W ⟨p,o,r,h,j,rfl,d,b,C,i,F⟩;revert a W
 refine M ?_
 refine By D<|AG F_ 1 D<|AG BM 3 D<|Af (fun _ _ d b=>Ei d D AF D (f.below b.A0).mark)<|Ej D D<|Jg<|Jf<|Cz D (fun v=>?_) fun v=>?_
 ·
  refine M ?_
  cases g:Fr.CZ p (AI l p)with
  |false=>
   refine M ?_
   refine U<|BP Fy D (fun w b=>(Ib (p:=p) (f.below b.A0)).mono (fun e W q=>And.intro q.1 (q.2▸Cn _ _)))<|U<|?_
   refine Ba E4 D (fun w b=>Xl p _ _ (AI l p) w ((f.QI (by omega)) w b) En g) fun _ e W b ⟨H,K,he,J⟩=>⟨_,_,he,b.below J,?_⟩
   refine Jd D<|Bc D D<|Bc D D<|Bc D D<|M ?_
   refine Ix (by omega) D D<|M ?_
   refine B6 (q:=1) D D<|M ?_
   exact fun a W d b=>⟨_,by omega,p+1,_,_,_,_,D,AY d,b.pick [0],by omega,by rw[SJ (gS g),i],by omega⟩
  |true=>
   by_cases s:((AI l p).getD 0 0).toNat=3
   ·
    cases hr:G.record (G.load (AI l p))with
    |none=>
     refine M ?_
     refine U<|BP Fy D (fun w b=>(Ib (p:=p) (f.below b.A0)).mono (fun e W q=>And.intro q.1 (q.2▸Cn _ _)))<|U<|?_
     refine Ba E4 D (fun w b=>Lp p _ _ (AI l p) w ((f.QI (by omega)) w b) En g) fun _ e W b ⟨L,N,he,x,J⟩=>⟨_,_,he,b.own x J,?_⟩
     refine Jd D<|Bc D D<|Bc D D<|Bc D D<|M ?_
     refine Ci D D D<|M ?_
     refine Ci (by omega) D D<|M ?_
     refine U<|BP KJ D (fun w b=>(MV ((BZ 0) w b) D).mono (fun e W q=>⟨q.1.trans (by rw[hr]),q.2⟩))<|Jd D<|Bc D D<|Bc D D<|U<|Bw [[E 0],[E 0],[E 0],[E 0],[E 0],[E 0],Ak 32] fun y=>U<|Bk 0 0 7 D D D<|?_
     refine M ?_
     refine Gi (by decide) D D<|M ?_
     refine B6 (q:=1) D D<|M ?_
     exact fun a W d b=>⟨_,by omega,p+1,_,_,_,_,D,AY d,b.pick [2],by omega,by rw[SJ (hC g s hr),i],by omega⟩
    |some Ah=>
     refine M ?_
     refine U<|BP Fy D (fun w b=>(Ib (p:=p) (f.below b.A0)).mono (fun e W q=>And.intro q.1 (q.2▸Cn _ _)))<|U<|?_
     refine Ba E4 D (fun w b=>Lp p _ _ (AI l p) w ((f.QI (by omega)) w b) En g) fun _ e W b ⟨O,P,he,z,J⟩=>⟨_,_,he,b.own z J,?_⟩
     refine Jd D<|Bc D D<|Bc D D<|Bc D D<|M ?_
     refine Ci D D D<|M ?_
     refine Ci (by omega) D D<|M ?_
     refine U<|BP KJ D (fun w b=>(MV ((BZ 0) w b) D).mono (fun e W q=>⟨q.1.trans (by rw[hr]),q.2⟩))<|Jd D<|Bc D D<|Bc D D<|U<|Bw [[E 0],[E 0],[E 0],[E 0],[E 0],[E 0],Ak 32] fun y=>U<|Bk 0 0 7 D D D<|?_
     refine M ?_
     refine EU D D D<|M ?_
     refine U<|Ey G0 (Aq Bm [p]) D D D fun Q=>U<|DI (m:=1) G0 3 (Aq Bm (j++([p]))) D D D (BZ 0) (HJ TR _) (H0 Gj D) D fun R T=>M ?_
     refine B6 (q:=1) D D<|M ?_
     exact fun a W d b=>⟨_,by omega,p+1,_,_,_,_,D,AY d,b.pick [3],by omega,by rw[UX (iL (by omega) g s hr),i],by omega⟩
   refine M ?_
   refine U<|BP Fy D (fun w b=>(Ib (p:=p) (f.below b.A0)).mono (fun e W q=>And.intro q.1 (q.2▸Cn _ _)))<|U<|?_
   refine Ba E4 D (fun w b=>Lp p _ _ (AI l p) w ((f.QI (by omega)) w b) En g) fun _ e W b ⟨V,X,he,A,J⟩=>⟨_,_,he,b.own A J,?_⟩
   refine Jd D<|Bc D D<|Bc D D<|Bc D D<|M ?_
   refine Ci D D D<|M ?_
   refine Ix (by omega) D D<|M ?_
   refine B6 (q:=1) D D<|M ?_
   exact fun a W d b=>⟨_,by omega,p+1,_,_,_,_,D,AY d,b.pick [1],by omega,by rw[SJ (e3 g s),i],by omega⟩
 refine A7 ?_
 intro W b
 obtain rfl:p=u.m:=by omega
 subst i
 exact⟨_,_,_,D,b.DQ 0,b.A0⟩
theorem O'{P:Program}{N:Nat}{f:BW}{d:Nat}{ty:TypeId}{pos:String}{An:Array Edge}{g:Option (Nat×Bool)}{F:Nat→Prop}{w0:World}{H:List Atom}{t e:TypeId}{size bytes:Nat}{z:Value}(i:CO P t e size bytes z){x:Operand}{a b:Option Operand}{y:Option Addr}(l h:Nat){v:Value}(A_:Value.slice (sp y l c size) (h - l) (c - l)=v)(j:Aj f x=some (.slice y n c))(hl:Nq f a l)(k:MI f n b h)(h1:l≤h:=by omega)(m:h≤c:=by omega):BR P N f F w0 H ⟨some d,.slice t x a b none,ty,pos,An,g⟩ v:=A_▸PI i l h j hl k h1 m
theorem Nh{b l:Nat}(h:l<c:=by omega):sp (some ⟨b,0,none⟩) l c 1=some ⟨b,l,none⟩:=by
 unfold sp
 rw[if_neg (by omega),Nat.mul_one]
 show some (Addr.add ⟨b,0,none⟩ l)=_
 unfold Addr.add
 rw[Nat.zero_add]
 split
 ·rename_i a;rw[a]
 ·rfl
theorem BS.eu{Bj AK ib:Nat}{u:Fr.Bu}{w:World}{H:List Atom}(h:BS Bj AK ib n c w l u)(o m:Nat)(a:o+m≤n):∀W,Sat C1 w H W→View W (.slice (some ⟨ib,o,none⟩) m (c - o)) m 1 (bv ((l.drop o).take m)):=fun W b=>(h.below b.A0).view o m a
def BL(W P:Nat)(L:List Nat)(g:Nat):Fr.Bu:=if 1<g then⟨W,g,L.getD (g - 2) 0+1,L.getD (g - 2) 0,P⟩else⟨W,g,2,0,P⟩
def E0(n W P:Nat)(L:List Nat)(i:Nat):Nat→Ji n
 |0=>Ji.zero n
 |k+1=>(E0 n W P L i k).lay ((i+k) % 2*256) (Fr.pack (BL W P L (i+k)))
def Ct(n W P:Nat)(L:List Nat)(i:Nat)(l:List UInt8):Ji n:=if 0<i then(E0 n W P L i 2).lay 512 ((l.drop 512).take ((L.getD (i - 1) 0+1)*256 - 512))else E0 n W P L i 2
theorem WV{j x:Nat}(h:L[j]? =some x):L.getD j 0=x:=by rw[List.getD_eq_getElem?_getD,h];rfl
theorem gJ(h:¬1<i+k):(E0 n W P L i k).lay ((i+k) % 2*256) (Fr.pack ⟨W,i+k,2,0,P⟩)=E0 n W P L i (k+1):=by rw[E0,BL,if_neg h]
theorem fG{x:Nat}(h:1<i+k)(a:L[i+k - 2]? =some x):(E0 n W P L i k).lay ((i+k) % 2*256) (Fr.pack ⟨W,i+k,x+1,x,P⟩)=E0 n W P L i (k+1):=by rw[E0,BL,if_pos h,WV a]
theorem cV{y:Nat}(h:0<i)(a:L[i - 1]? =some y):Ct n W P L i l=(E0 n W P L i 2).lay 512 ((l.drop 512).take ((y+1)*256 - 512)):=by rw[Ct,if_pos h,WV a]
theorem Rt(h:¬0<i):Ct n W P L i l=E0 n W P L i 2:=by rw[Ct,if_neg h]
theorem Q_{Bj AK ib:Nat}{u:Fr.Bu}{w:World}(f:BS Bj AK ib n c w l u)(C:n≤1048576){g:Option Addr}{nl As:Nat}(V:View w (I g nl As) nl 1 (Aq Bm L))(m:L.length=nl)(F:768≤n)(hw:1≤u.w∧u.w≤32)(G:n=256*u.p)(o:∀q∈L,2≤q∧q<u.p)(H:i≤nl∧nl≤4096:=by omega):Calls Tryz.prog 21 #[S AK,I g nl As,E i] w fun e W=>∃AB,e=.returned (.slice (some ⟨AB,0,none⟩) n n)∧W.ownsRow w.heap.size 5 1 (.slice (some ⟨AB,0,none⟩) n n) n (bv (Ct n u.w u.p L i l).l)∧Below w.heap.size w W:=by
 have hlen:=f.len
 have K:=f.cap
 refine Cg w Oq D 82<|M ?_
 refine By D<|AG F_ 0 D<|Af (fun _ _ d b=>Ei d D Co D (f.below b.A0).QY)<|Cr Co D<|U<|Yk A3 n D D (X4 _) fun AB=>M ?_
 refine FO 0 [bv (E0 n u.w u.p L i 0).l] D D<|DL (fun r a W=>∃k,r=2 - k∧AH 82 a (Jb (Jb (Jb (Jb (Jb (Jb Jk 0 (S AK)) 1 (I g nl As)) 2 (E i)) 6 (I none 0 0)) 7 (I (some ⟨AB,0,none⟩) n n)) 8 (E (i+k)))∧Sat C1 w [O AB [bv (E0 n u.w u.p L i k).l] 5] W∧k≤2) (fun a W d b=>⟨0,D,AY d,b.pick [0],by omega⟩) ?_
 rintro _ a W ⟨k,rfl,d,b,N⟩;revert a W
 refine M ?_
 refine B6 (q:=2) D D<|Ej D D<|Jg<|Jf<|Cz D (fun s=>?_) fun s=>?_
 ·
  refine M ?_
  refine CQ [0]<|Ab 0 D (AA D)<|Ab 1 D (Bp D)<|Ab 2 D (AS F_ 1 D)<|Ab 3 D (AS BM 1 D)<|Ab 4 D (fun _ _ d b=>Ei d D AF D (f.below b.A0).wid)<|Ab 5 D (AA D)<|Ab 6 D (AA D)<|Ab 7 D (Bp D)<|Ab 8 D (AS F_ 1 D)<|Ab 9 D (AS BM 5 D)<|Ab 10 D (fun _ _ d b=>Ei d D AF D (f.below b.A0).h8)<|Ab 11 D (fun _ _ d b=>Cs d (BH:=[(0,(E u.w)),(1,(E (i+k))),(2,(E 2)),(4,(E u.p))]) D (v:=Value.agg (flat [[E u.w],[E (i+k)],[E 2],[E 0],[E u.p]])) (run_build _ _ _ _ (by kernel_rfl)))<|Bh 12 D<|Bw [[E 0],[E 0],[E 0],[E 0],[E 0]] fun P=>A8 [1]<|Bh 13 D<|Bk 0 0 5 D D D<|?_
  refine A8 [1]<|Cm<|M ?_
  refine Mp D D<|Jg<|Jf<|Cz D (fun t=>?_) fun t=>?_
  ·
   refine M ?_
   refine Es (q:=2) D D<|Kz m ((i+k) - 2) fun x h=>Af (Dj G0 ((i+k) - 2) ((i+k) - 2) (Bx V) D D)<|Af (J1 AF Gj ((i+k) - 2) h (Bx V) D D)<|?_
   have Q:=o x (List.mem_of_getElem? h)
   refine AG BM 3 D<|U<|Cq 0 3 D D D<|?_
   refine Jg<|Jf<|Jh<|AG BM 3 D<|AZ AF 0 3 D D D<|B6 (q:=1) D D<|AG BM 2 D<|U<|Cq 0 2 D D D<|?_
   refine M ?_
   refine Af (BN BM 0 D D)<|U<|?_
   refine Ba SI D (fun w b=>X3 u.w (i+k) (x+1) x u.p w (by simp only[Fr.DE,Bool.and_eq_true,Bool.or_eq_true,decide_eq_true_eq];refine⟨⟨⟨⟨⟨⟨⟨?_,?_⟩,?_⟩,?_⟩,?_⟩,?_⟩,?_⟩,?_⟩<;>first|omega|exact .inl trivial)) fun _ e W b ⟨R,he,z,J⟩=>⟨_,_,he,b.own z J,?_⟩
   refine Jd D<|Bc D D<|Bc D D<|M ?_
   refine Af (GG (q:=2) D D)<|Af (E3 (q:=256) D D)<|Af (O' A3 ((i+k) % 2*256) n (v:=(I (some ⟨AB,(i+k) % 2*256,none⟩) (n - ((i+k) % 2*256)) (n - ((i+k) % 2*256)))) (by rw[Nh]) D (.some D) .none)<|Jd D<|U<|HC 2 0 ((i+k) % 2*256) 256 (BZ 0) Tryz.underlying22 D D D D (List.take_of_length_le (Nat.le_of_eq (Fr.MC _))) (Fr.MC _)<|FO 2 [bv (E0 n u.w u.p L i (k+1)).l] D (by rw[fG (by omega) h];rfl)<|M ?_
   refine B6 (q:=1) D D<|M ?_
   exact fun a W d b=>⟨_,by omega,k+1,D,AY d,b.pick [2],by omega⟩
  refine M ?_
  refine Af (BN BM 0 D D)<|U<|?_
  refine Ba SI D (fun w b=>X3 u.w (i+k) 2 0 u.p w (by simp only[Fr.DE,Bool.and_eq_true,Bool.or_eq_true,decide_eq_true_eq];refine⟨⟨⟨⟨⟨⟨⟨?_,?_⟩,?_⟩,?_⟩,?_⟩,?_⟩,?_⟩,?_⟩<;>first|omega|exact .inl trivial)) fun _ e W b ⟨T,he,A,J⟩=>⟨_,_,he,b.own A J,?_⟩
  refine Jd D<|Bc D D<|Bc D D<|M ?_
  refine Af (GG (q:=2) D D)<|Af (E3 (q:=256) D D)<|Af (O' A3 ((i+k) % 2*256) n (v:=(I (some ⟨AB,(i+k) % 2*256,none⟩) (n - ((i+k) % 2*256)) (n - ((i+k) % 2*256)))) (by rw[Nh]) D (.some D) .none)<|Jd D<|U<|HC 2 0 ((i+k) % 2*256) 256 (BZ 0) Tryz.underlying22 D D D D (List.take_of_length_le (Nat.le_of_eq (Fr.MC _))) (Fr.MC _)<|FO 2 [bv (E0 n u.w u.p L i (k+1)).l] D (by rw[gJ (by omega)];rfl)<|M ?_
  refine B6 (q:=1) D D<|M ?_
  exact fun a W d b=>⟨_,by omega,k+1,D,AY d,b.pick [2],by omega⟩
 obtain rfl:k=2:=by omega
 refine M ?_
 refine Mp D D<|Jg<|Jf<|Cz D (fun B=>?_) fun B=>?_
 ·
  refine M ?_
  refine Es (q:=1) D D<|Kz m (i - 1) fun y j=>Af (Dj G0 (i - 1) (i - 1) (Bx V) D D)<|Af (J1 AF Gj (i - 1) j (Bx V) D D)<|?_
  have X:=o y (List.mem_of_getElem? j)
  refine B6 (q:=1) D D<|Af (E3 (q:=256) D D)<|M ?_
  refine DD 9<|zs (AA D)<|zs (AA D)<|zs (O' A3 512 ((y+1)*256) (v:=(I (some ⟨AB,512,none⟩) (((y+1)*256) - 512) (n - 512))) (by rw[Nh]) D (.some D) (.some D))<|zs (AA D)<|zs (Bp D)<|zs (AS Tryz.underlying85 0 D)<|zs (fun _ _ d b=>Ei d D Tryz.underlying22 D (f.below b.A0).QY)<|zs (AA D)<|zs (O' A3 512 ((y+1)*256) (v:=(I (some ⟨ib,512,none⟩) (((y+1)*256) - 512) (c - 512))) (by rw[Nh]) D (.some D) (.some D))<|CS<|U<|HC 0 0 512 (((y+1)*256) - 512) (f.eu 512 ((y+1)*256 - 512) (by omega)) Tryz.underlying22 D D D D (List.take_of_length_le (Nat.le_of_eq (by rw[List.length_take,List.length_drop];omega))) (by rw[List.length_take,List.length_drop];omega)<|A7 ?_
  exact fun W b=>⟨AB,D,by rw[cV (by omega) j];exact b.R5 (l:=((E0 n u.w u.p L i 2).lay 512 ((l.drop 512).take ((y+1)*256 - 512)))) 0 (by unfold maxLen;omega),b.A0⟩
 refine A7 ?_
 exact fun W b=>⟨AB,D,by rw[Rt (by omega)];exact b.R5 (l:=(E0 n u.w u.p L i 2)) 0 (by unfold maxLen;omega),b.A0⟩
theorem Hy{F:Nat→Prop}{w0:World}{H:List Atom}{ib:Nat}(i p:Nat)(hl:l.length=n)(d:(p+1)*256≤n)(e:n≤c)(a:H[i]? =some (Ae 5 1 (I (some ⟨ib,0,none⟩) n c) n (bv l)):=by exact rfl):∀w,Sat F w0 H w→View w (.slice (some ⟨ib,p*256,none⟩) 256 (c - p*256)) 256 1 (bv (AI l p)):=fun w b=>by
 have h:=(Db (n:=n) (c:=c) (m:=l) (p*256) ((p+1)*256) (BZ i a) (NR (il:=l) (p:=p)) (by omega) (by omega)) w b
 rw[show(p+1)*256 - p*256=256 by omega,Nh]at h
 exact h
theorem Uh{a b:List UInt8}(h:Fr.choose a b=.error k):k=4∨k=55:=by
 unfold Fr.choose at h
 repeat' split at h
 all_goals first|(cases h;first|exact .inl D|exact .inr D)|(cases h;done)
theorem Rb{a:List UInt8}{s:Fr.Bu}(h:Fr.DP a=some s):Fr.DE s=true:=by
 unfold Fr.DP at h
 split at h
 ·split at h
  ·split at h
   ·rename_i V;cases h;exact V
   ·cases h
  ·cases h
 ·cases h
theorem gI{x y z:Fr.Bu}(a:Fr.DE x=true)(b:Fr.DE y=true)(h:Fr.Ed x y=some z):Fr.DE z=true:=by
 unfold Fr.Ed at h
 repeat' split at h
 all_goals first|(cases h;first|exact a|exact b)|(cases h;done)
theorem NT{a b:List UInt8}{s:Fr.Bu}(h:Fr.choose a b=.ok s):Fr.DE s=true:=by
 cases c:Fr.DP a with
 |none=>unfold Fr.choose at h;rw[c]at h;simp only at h;(repeat' split at h);all_goals cases h
 |some x=>
  cases d:Fr.DP b with
  |none=>unfold Fr.choose at h;rw[c,d]at h;simp only at h;(repeat' split at h);all_goals cases h
  |some y=>
   cases e:Fr.Ed x y with
   |none=>unfold Fr.choose at h;rw[c,d]at h;simp only[e]at h;cases h
   |some z=>unfold Fr.choose at h;rw[c,d]at h;simp only[e]at h;cases h;exact gI (Rb c) (Rb d) e
def OV(l:List UInt8)(n k:Nat)(s:Fr.Bu):Prop:=(k=0∧Fr.choose (AI l 0) (AI l 1)=.ok s∧n=256*s.p)∨(k≠0∧∀a,Fr.choose (AI l 0) (AI l 1)=.ok a→¬n=256*a.p)
def R6(l:List UInt8)(n k:Nat)(s:Fr.Bu):Prop:=(k=0→Fr.DE s=true∧n=256*s.p)∧∀a,Fr.choose (AI l 0) (AI l 1)=.ok a→n=256*a.p→k=0∧s=a
theorem OV.settle{s:Fr.Bu}(h:OV l n k s):R6 l n k s:=by
 rcases h with⟨h1,a,d⟩|⟨h1,a⟩
 ·exact⟨fun _=>⟨NT a,d⟩,fun c b _=>by rw[a]at b;cases b;exact⟨h1,D⟩⟩
 ·exact⟨fun h=>absurd h h1,fun c b e=>absurd e (a c b)⟩
theorem HG(AK ib n c:Nat)(u:Fr.Bu)(a b d f i j k l:Value)(p:Nat)(w:World)(o:BE [O AK [[I (some ⟨ib,0,none⟩) n c],[E u.w],[E u.g],[E u.m],[E u.h],[E u.p],[a],[b],[d],[f],[i],[j],[k],[l]] 85] w)(t:(p+1)*256≤n∧n≤1048576)(x:n≤c):Calls Tryz.prog 35 #[S AK,E p] w fun e W=>e=.returned (I (some ⟨ib,p*256,none⟩) 256 (c - p*256))∧Sat (A6 [O AK [[I (some ⟨ib,0,none⟩) n c],[E u.w],[E u.g],[E u.m],[E u.h],[E u.p],[a],[b],[d],[f],[i],[j],[k],[l]] 85]) w [O AK [[I (some ⟨ib,0,none⟩) n c],[E u.w],[E u.g],[E u.m],[E u.h],[E u.p],[a],[b],[d],[f],[i],[j],[k],[l]] 85] W:=by
 refine Cb o Fy D 15 fun F r=>M ?_
 refine By D<|AG F_ 0 D<|AZ Co 0 0 D D D<|Jd D<|Af (E3 (q:=256) D D)<|Jd D<|B6 (q:=1) D D<|Af (E3 (q:=256) D D)<|Af (O' A3 (p*256) ((p+1)*256) (v:=(I (some ⟨ib,p*256,none⟩) 256 (c - p*256))) (by rw[Nh,show(p+1)*256 - p*256=256 by omega]) D (.some D) (.some D))<|A7 ?_
 intro W s
 subst r
 exact⟨D,s.pick [0]⟩
theorem YJ(AK ib n c:Nat)(u:Fr.Bu)(a b d f i j k l:Value)(w:World)(o:BE [O AK [[I (some ⟨ib,0,none⟩) n c],[E u.w],[E u.g],[E u.m],[E u.h],[E u.p],[a],[b],[d],[f],[i],[j],[k],[l]] 85] w)(t:n≤1048576):Calls Tryz.prog 39 #[S AK] w fun e W=>e=.returned (E (n/256))∧Sat (A6 [O AK [[I (some ⟨ib,0,none⟩) n c],[E u.w],[E u.g],[E u.m],[E u.h],[E u.p],[a],[b],[d],[f],[i],[j],[k],[l]] 85]) w [O AK [[I (some ⟨ib,0,none⟩) n c],[E u.w],[E u.g],[E u.m],[E u.h],[E u.p],[a],[b],[d],[f],[i],[j],[k],[l]] 85] W:=by
 refine Cb o S7 D 9 fun F r=>M ?_
 refine By D<|AG F_ 0 D<|AZ Co 0 0 D D D<|Cr Co D<|Af (Iy (q:=256) D D)<|A7 ?_
 intro W s
 subst r
 exact⟨D,s.pick [0]⟩
theorem RQ(AK ib n c:Nat)(u:Fr.Bu)(a b d f i j o r:Value)(l:List UInt8)(w:World)(t:BE [O AK [[I (some ⟨ib,0,none⟩) n c],[E u.w],[E u.g],[E u.m],[E u.h],[E u.p],[a],[b],[d],[f],[i],[j],[o],[r]] 85,Ae 5 1 (I (some ⟨ib,0,none⟩) n c) n (bv l)] w)(G:768≤n∧n≤1048576∧n % 256=0)(x:n≤c):Calls Tryz.prog 23 #[S AK] w fun e W=>∃k,∃s:Fr.Bu,e=.returned (E k)∧OV l n k s∧Sat (A6 [O AK [[I (some ⟨ib,0,none⟩) n c],[E u.w],[E u.g],[E u.m],[E u.h],[E u.p],[a],[b],[d],[f],[i],[j],[o],[r]] 85,Ae 5 1 (I (some ⟨ib,0,none⟩) n c) n (bv l)]) w [O AK [[I (some ⟨ib,0,none⟩) n c],[E s.w],[E s.g],[E s.m],[E s.h],[E s.p],[a],[b],[d],[f],[i],[j],[o],[r]] 85,Ae 5 1 (I (some ⟨ib,0,none⟩) n c) n (bv l)] W:=by
 have z:l.length=n:=De (t.at_ 1 _ D)
 refine Cb t MH D 28 fun F A=>M ?_
 cases y:Fr.choose (AI l 0) (AI l 1)with
 |ok s=>
  refine M ?_
  refine U<|Cx Tryz.func35 D [0] (H1:=[O AK [[I (some ⟨ib,0,none⟩) n c],[E u.w],[E u.g],[E u.m],[E u.h],[E u.p],[a],[b],[d],[f],[i],[j],[o],[r]] 85]) (fun w t=>HG AK ib n c u a b d f i j o r 0 w t (by omega) x)<|Jd D<|U<|Cx Tryz.func35 D [0] (H1:=[O AK [[I (some ⟨ib,0,none⟩) n c],[E u.w],[E u.g],[E u.m],[E u.h],[E u.p],[a],[b],[d],[f],[i],[j],[o],[r]] 85]) (fun w t=>HG AK ib n c u a b d f i j o r 1 w t (by omega) x)<|U<|BP Tryz.func38 D (fun w v=>(choose_spec _ _ _ _ (AI l 0) (AI l 1) w ((Hy (ib:=ib) 1 0 z (by omega) x) w v) En ((Hy (ib:=ib) 1 1 z (by omega) x) w v) En).mono (fun e W q=>⟨q.1.trans (show _=Ending.returned (Value.tuple #[Value.agg (flat [[E s.w],[E s.g],[E s.m],[E s.h],[E s.p]]),E 0])from by rw[y];rfl),q.2⟩))<|Jd D<|Bc D D<|Bc D D<|By D<|AG Tryz.underlying85 1 D<|U<|Bk 0 1 5 D D D<|?_
  refine M ?_
  refine G9<|AR (AA D)<|AR (OY D D D)<|AR (AA D)<|B2 D D D<|AR (AA D)<|B2 D D D<|AR (Bp D)<|B2 D D D<|AR (AS F_ 1 D)<|B2 D D D<|AR (AS BM 5 D)<|B2 D D D<|AR (Bb AF 0 5 D D D)<|B2 D D D<|AR (AA D)<|B2 D D D<|KK S7 D [0] (H1:=[O AK [[I (some ⟨ib,0,none⟩) n c],[E s.w],[E s.g],[E s.m],[E s.h],[E s.p],[a],[b],[d],[f],[i],[j],[o],[r]] 85]) (fun w t=>YJ AK ib n c s a b d f i j o r w t (by omega))<|B2 D D D<|?_
  by_cases B:((s.p:Nat):Int)=((n/256:Nat):Int)
  ·
   refine AR (GY B D D)<|AR (D' D D)<|Er<|A7 ?_
   intro W v
   subst A
   exact⟨0,s,D,.inl ⟨D,y,by omega⟩,v.pick [0,1]⟩
  refine AR (Hp B D D)<|AR (D' D D)<|Er<|A7 ?_
  intro W v
  subst A
  exact⟨4,s,D,.inr ⟨by decide,fun C h=>by rw[y]at h;cases h;omega⟩,v.pick [0,1]⟩
 |error H=>
  rcases Uh y with rfl|rfl
  ·
   refine M ?_
   refine U<|Cx Tryz.func35 D [0] (H1:=[O AK [[I (some ⟨ib,0,none⟩) n c],[E u.w],[E u.g],[E u.m],[E u.h],[E u.p],[a],[b],[d],[f],[i],[j],[o],[r]] 85]) (fun w t=>HG AK ib n c u a b d f i j o r 0 w t (by omega) x)<|Jd D<|U<|Cx Tryz.func35 D [0] (H1:=[O AK [[I (some ⟨ib,0,none⟩) n c],[E u.w],[E u.g],[E u.m],[E u.h],[E u.p],[a],[b],[d],[f],[i],[j],[o],[r]] 85]) (fun w t=>HG AK ib n c u a b d f i j o r 1 w t (by omega) x)<|U<|BP Tryz.func38 D (fun w v=>(choose_spec _ _ _ _ (AI l 0) (AI l 1) w ((Hy (ib:=ib) 1 0 z (by omega) x) w v) En ((Hy (ib:=ib) 1 1 z (by omega) x) w v) En).mono (fun e W q=>⟨q.1.trans (show _=Ending.returned (Value.tuple #[Value.agg (flat [[E 0],[E 0],[E 0],[E 0],[E 0]]),E 4])from by rw[y];rfl),q.2⟩))<|Jd D<|Bc D D<|Bc D D<|By D<|AG Tryz.underlying85 1 D<|U<|Bk 0 1 5 D D D<|?_
   refine M ?_
   refine G9<|AR (AA D)<|AR (M6 (by decide) D D)<|AR (AA D)<|Bq D D D D<|Bq D D D D<|Bq D D D D<|Bq D D D D<|Bq D D D D<|Bq D D D D<|Bq D D D D<|Bq D D D D<|AR (EK D D)<|Er<|A7 ?_
   intro W v
   subst A
   exact⟨4,⟨0,0,0,0,0⟩,D,.inr ⟨by decide,fun C h=>by rw[y]at h;cases h⟩,v.pick [0,1]⟩
  ·
   refine M ?_
   refine U<|Cx Tryz.func35 D [0] (H1:=[O AK [[I (some ⟨ib,0,none⟩) n c],[E u.w],[E u.g],[E u.m],[E u.h],[E u.p],[a],[b],[d],[f],[i],[j],[o],[r]] 85]) (fun w t=>HG AK ib n c u a b d f i j o r 0 w t (by omega) x)<|Jd D<|U<|Cx Tryz.func35 D [0] (H1:=[O AK [[I (some ⟨ib,0,none⟩) n c],[E u.w],[E u.g],[E u.m],[E u.h],[E u.p],[a],[b],[d],[f],[i],[j],[o],[r]] 85]) (fun w t=>HG AK ib n c u a b d f i j o r 1 w t (by omega) x)<|U<|BP Tryz.func38 D (fun w v=>(choose_spec _ _ _ _ (AI l 0) (AI l 1) w ((Hy (ib:=ib) 1 0 z (by omega) x) w v) En ((Hy (ib:=ib) 1 1 z (by omega) x) w v) En).mono (fun e W q=>⟨q.1.trans (show _=Ending.returned (Value.tuple #[Value.agg (flat [[E 0],[E 0],[E 0],[E 0],[E 0]]),E 55])from by rw[y];rfl),q.2⟩))<|Jd D<|Bc D D<|Bc D D<|By D<|AG Tryz.underlying85 1 D<|U<|Bk 0 1 5 D D D<|?_
   refine M ?_
   refine G9<|AR (AA D)<|AR (M6 (by decide) D D)<|AR (AA D)<|Bq D D D D<|Bq D D D D<|Bq D D D D<|Bq D D D D<|Bq D D D D<|Bq D D D D<|Bq D D D D<|Bq D D D D<|AR (EK D D)<|Er<|A7 ?_
   intro W v
   subst A
   exact⟨55,⟨0,0,0,0,0⟩,D,.inr ⟨by decide,fun C h=>by rw[y]at h;cases h⟩,v.pick [0,1]⟩
theorem iH(AK ib n c:Nat)(u:Fr.Bu)(f i j o r t x y:Value)(l:List UInt8)(w:World)(z:BE [O AK [[I (some ⟨ib,0,none⟩) n c],[E u.w],[E u.g],[E u.m],[E u.h],[E u.p],[f],[i],[j],[o],[r],[t],[x],[y]] 85,Ae 5 1 (I (some ⟨ib,0,none⟩) n c) n (bv l)] w)(Q:768≤n∧n≤1048576∧n % 256=0)(A:n≤c):Calls Tryz.prog 18 #[S AK] w fun e W=>∃k,∃s:Fr.Bu,e=.returned (E k)∧R6 l n k s∧Sat (A6 [O AK [[I (some ⟨ib,0,none⟩) n c],[E u.w],[E u.g],[E u.m],[E u.h],[E u.p],[f],[i],[j],[o],[r],[t],[x],[y]] 85,Ae 5 1 (I (some ⟨ib,0,none⟩) n c) n (bv l)]) w [O AK [[I (some ⟨ib,0,none⟩) n c],[E s.w],[E s.g],[E s.m],[E s.h],[E s.p],[f],[i],[j],[o],[r],[t],[x],[y]] 85,Ae 5 1 (I (some ⟨ib,0,none⟩) n c) n (bv l)] W:=by
 have C:l.length=n:=De (z.at_ 1 _ D)
 refine Cb z W9 D 61 fun F H=>M ?_
 cases G:Fr.choose (AI l 0) (AI l 1)with
 |ok s=>
  refine M ?_
  refine U<|Cx Fy D [0] (H1:=[O AK [[I (some ⟨ib,0,none⟩) n c],[E u.w],[E u.g],[E u.m],[E u.h],[E u.p],[f],[i],[j],[o],[r],[t],[x],[y]] 85]) (fun w z=>HG AK ib n c u f i j o r t x y 0 w z (by omega) A)<|Jd D<|U<|Cx Fy D [0] (H1:=[O AK [[I (some ⟨ib,0,none⟩) n c],[E u.w],[E u.g],[E u.m],[E u.h],[E u.p],[f],[i],[j],[o],[r],[t],[x],[y]] 85]) (fun w z=>HG AK ib n c u f i j o r t x y 1 w z (by omega) A)<|U<|BP OJ D (fun w d=>(choose_spec _ _ _ _ (AI l 0) (AI l 1) w ((Hy (ib:=ib) 1 0 C (by omega) A) w d) En ((Hy (ib:=ib) 1 1 C (by omega) A) w d) En).mono (fun e W q=>⟨q.1.trans (show _=Ending.returned (Value.tuple #[Value.agg (flat [[E s.w],[E s.g],[E s.m],[E s.h],[E s.p]]),E 0])from by rw[G];rfl),q.2⟩))<|Jd D<|Bc D D<|Bc D D<|U<|Bw [[E 0],[E 0],[E 0],[E 0],[E 0]] fun K=>U<|Bk 0 0 5 D D D<|?_
  refine M ?_
  refine Ix (by decide) D D<|M ?_
  refine U<|?_
  refine Ba MH D (fun w d=>RQ AK ib n c u f i j o r t x y l w (d.Ad (H1:=[O AK [[I (some ⟨ib,0,none⟩) n c],[E u.w],[E u.g],[E u.m],[E u.h],[E u.p],[f],[i],[j],[o],[r],[t],[x],[y]] 85,Ae 5 1 (I (some ⟨ib,0,none⟩) n c) n (bv l)]) [1,2]) Q A) fun _ e W d ⟨X,Y,he,P,q⟩=>⟨_,_,he,Sat.call (H1:=[O AK [[I (some ⟨ib,0,none⟩) n c],[E u.w],[E u.g],[E u.m],[E u.h],[E u.p],[f],[i],[j],[o],[r],[t],[x],[y]] 85,Ae 5 1 (I (some ⟨ib,0,none⟩) n c) n (bv l)]) (H2:=[O K [[E s.w],[E s.g],[E s.m],[E s.h],[E s.p]] 68]) (d.pick [1,2,0]) q,?_⟩
  refine A7 ?_
  intro W d
  subst H
  exact⟨X,Y,D,P.settle,d.pick [0,1]⟩
 |error ag=>
  rcases Uh G with rfl|rfl
  ·
   refine M ?_
   refine U<|Cx Fy D [0] (H1:=[O AK [[I (some ⟨ib,0,none⟩) n c],[E u.w],[E u.g],[E u.m],[E u.h],[E u.p],[f],[i],[j],[o],[r],[t],[x],[y]] 85]) (fun w z=>HG AK ib n c u f i j o r t x y 0 w z (by omega) A)<|Jd D<|U<|Cx Fy D [0] (H1:=[O AK [[I (some ⟨ib,0,none⟩) n c],[E u.w],[E u.g],[E u.m],[E u.h],[E u.p],[f],[i],[j],[o],[r],[t],[x],[y]] 85]) (fun w z=>HG AK ib n c u f i j o r t x y 1 w z (by omega) A)<|U<|BP OJ D (fun w d=>(choose_spec _ _ _ _ (AI l 0) (AI l 1) w ((Hy (ib:=ib) 1 0 C (by omega) A) w d) En ((Hy (ib:=ib) 1 1 C (by omega) A) w d) En).mono (fun e W q=>⟨q.1.trans (show _=Ending.returned (Value.tuple #[Value.agg (flat [[E 0],[E 0],[E 0],[E 0],[E 0]]),E 4])from by rw[G];rfl),q.2⟩))<|Jd D<|Bc D D<|Bc D D<|U<|Bw [[E 0],[E 0],[E 0],[E 0],[E 0]] fun K=>U<|Bk 0 0 5 D D D<|?_
   refine M ?_
   refine Ci D D D<|M ?_
   refine DL (fun Z a W=>∃p fd,∃v:Fr.Bu,Z=2 - p∧AH 61 a (Jb (Jb (Jb (Jb Jk 0 (S AK)) 2 (E 0)) 21 (E p)) 5 (C' fd))∧Sat F w [O AK [[I (some ⟨ib,0,none⟩) n c],[E v.w],[E v.g],[E v.m],[E v.h],[E v.p],[f],[i],[j],[o],[r],[t],[x],[y]] 85,Ae 5 1 (I (some ⟨ib,0,none⟩) n c) n (bv l)] W∧p≤2∧(fd=true→Fr.DE v=true∧n=256*v.p)) (fun a W B d=>⟨0,false,u,D,AY B,d.pick [1,2],by omega,(fun h=>by cases h)⟩) ?_
   rintro _ a W ⟨p,fd,v,rfl,B,d,ah,L⟩;revert a W
   refine Je<|Jh<|Ej D D<|Jg<|Jf<|Je<|Cz D (fun aa=>?_) fun aa=>?_
   ·
    refine M ?_
    cases N:Fr.DP (AI l p)with
    |none=>
     refine M ?_
     refine U<|Cx Fy D [0] (H1:=[O AK [[I (some ⟨ib,0,none⟩) n c],[E v.w],[E v.g],[E v.m],[E v.h],[E v.p],[f],[i],[j],[o],[r],[t],[x],[y]] 85]) (fun w z=>HG AK ib n c v f i j o r t x y p w z (by omega) A)<|U<|?_
     refine Ba FW D (fun w d=>IX _ _ _ w N ((Hy (ib:=ib) 1 p C (by omega) A) w d) En) fun _ e W d ⟨ai,he,aj,J⟩=>⟨_,_,he,d.below J,?_⟩
     refine Jd D<|Bc D D<|Bc D D<|U<|Bw [[E 0],[E 0],[E 0],[E 0],[E 0]] fun ab=>U<|Bk 0 0 5 D D D<|?_
     refine M ?_
     refine G9<|AR (AA D)<|AR (M6 (by omega) D D)<|AR (AA D)<|Bq D D D D<|Bq D D D D<|Bq D D D D<|Bq D D D D<|Bq D D D D<|AR (EK D D)<|AR (AA D)<|Bq D D D D<|Bq D D D D<|Bq D D D D<|GU D D D<|GU D D D<|GU D D D<|GU D D D<|GU D D D<|GU D D D<|GU D D D<|GU D D D<|Bq D D D D<|AR (EK D D)<|Er<|M ?_
     refine B6 (q:=1) D D<|M ?_
     exact fun a W B d=>⟨_,by omega,p+1,fd,v,D,AY B,d.pick [1,2],by omega,L⟩
    |some s=>
     refine M ?_
     refine U<|Cx Fy D [0] (H1:=[O AK [[I (some ⟨ib,0,none⟩) n c],[E v.w],[E v.g],[E v.m],[E v.h],[E v.p],[f],[i],[j],[o],[r],[t],[x],[y]] 85]) (fun w z=>HG AK ib n c v f i j o r t x y p w z (by omega) A)<|U<|?_
     refine Ba FW D (fun w d=>KR _ _ _ w (s:=s) N ((Hy (ib:=ib) 1 p C (by omega) A) w d) En) fun _ e W d ⟨he,J⟩=>⟨_,_,he,d.below J,?_⟩
     refine Jd D<|Bc D D<|Bc D D<|U<|Bw [[E 0],[E 0],[E 0],[E 0],[E 0]] fun ab=>U<|Bk 0 0 5 D D D<|?_
     refine M ?_
     refine G9<|AR (AA D)<|AR (OY D D D)<|AR (AA D)<|B2 D D D<|AR (AS BM 4 D)<|B2 D D D<|AR (Bb AF 0 4 D D D)<|B2 D D D<|AR (AA D)<|B2 D D D<|KK S7 D [1] (H1:=[O AK [[I (some ⟨ib,0,none⟩) n c],[E v.w],[E v.g],[E v.m],[E v.h],[E v.p],[f],[i],[j],[o],[r],[t],[x],[y]] 85]) (fun w z=>YJ AK ib n c v f i j o r t x y w z (by omega))<|B2 D D D<|?_
     by_cases R:((s.p:Nat):Int)=((n/256:Nat):Int)
     ·
      refine AR (OY R D D)<|AR (D' D D)<|AR (AA D)<|B2 D D D<|AR (AA D)<|B2 D D D<|AR (fun _ _ B d=>CE B (b:=fd) D)<|B2 D D D<|AR (AA D)<|?_
      cases fd
      ·
       refine Bq D D D D<|Bq D D D D<|Bq D D D D<|Bq D D D D<|Bq D D D D<|Bq D D D D<|Bq D D D D<|Bq D D D D<|B2 D D D<|AR (D' D D)<|AR (D' D D)<|Er<|M ?_
       refine Af (BN BM 0 D D)<|By D<|AG F_ 1 D<|U<|Bk 1 1 5 D D D<|?_
       refine M ?_
       refine B6 (q:=1) D D<|M ?_
       exact fun a W B d=>⟨_,by omega,p+1,true,s,D,AY B,d.pick [1,2],by omega,fun _=>⟨Rb N,by omega⟩⟩
      refine B2 D D D<|AR (AS BM 1 D)<|B2 D D D<|AR (Bb AF 0 1 D D D)<|B2 D D D<|AR (AA D)<|B2 D D D<|AR (Bp D)<|B2 D D D<|AR (AS F_ 1 D)<|B2 D D D<|AR (AS BM 2 D)<|B2 D D D<|AR (Bb AF 1 2 D D D)<|B2 D D D<|?_
      by_cases T:((v.g:Nat):Int)<((s.g:Nat):Int)
      ·
       refine AR (YD T D D)<|B2 D D D<|AR (EK D D)<|AR (D' D D)<|Er<|M ?_
       refine Af (BN BM 0 D D)<|By D<|AG F_ 1 D<|U<|Bk 1 1 5 D D D<|?_
       refine M ?_
       refine B6 (q:=1) D D<|M ?_
       exact fun a W B d=>⟨_,by omega,p+1,true,s,D,AY B,d.pick [1,2],by omega,fun _=>⟨Rb N,by omega⟩⟩
      refine AR (LG T D D)<|B2 D D D<|AR (EK D D)<|AR (D' D D)<|Er<|M ?_
      refine B6 (q:=1) D D<|M ?_
      exact fun a W B d=>⟨_,by omega,p+1,true,v,D,AY B,d.pick [1,2],by omega,fun h=>L D⟩
     refine AR (M6 R D D)<|AR (D' D D)<|AR (AA D)<|Bq D D D D<|Bq D D D D<|Bq D D D D<|GU D D D<|GU D D D<|GU D D D<|GU D D D<|GU D D D<|GU D D D<|GU D D D<|GU D D D<|Bq D D D D<|AR (EK D D)<|Er<|M ?_
     refine B6 (q:=1) D D<|M ?_
     exact fun a W B d=>⟨_,by omega,p+1,fd,v,D,AY B,d.pick [1,2],by omega,L⟩
   refine M ?_
   refine Af (fun _ _ B d=>CE B (b:=fd) D)<|Jg<|Jf<|J9 D (fun V=>?_) fun V=>?_
   ·
    refine A7 ?_
    intro W d
    subst H
    exact⟨4,v,D,⟨fun h=>(by cases h),fun ad h=>by rw[G]at h;cases h⟩,d.pick [0,1]⟩
   refine A7 ?_
   intro W d
   subst H
   exact⟨0,v,D,⟨fun _=>L (by cases fd with|true=>rfl|false=>cases V),fun ad h=>by rw[G]at h;cases h⟩,d.pick [0,1]⟩
  ·
   refine M ?_
   refine U<|Cx Fy D [0] (H1:=[O AK [[I (some ⟨ib,0,none⟩) n c],[E u.w],[E u.g],[E u.m],[E u.h],[E u.p],[f],[i],[j],[o],[r],[t],[x],[y]] 85]) (fun w z=>HG AK ib n c u f i j o r t x y 0 w z (by omega) A)<|Jd D<|U<|Cx Fy D [0] (H1:=[O AK [[I (some ⟨ib,0,none⟩) n c],[E u.w],[E u.g],[E u.m],[E u.h],[E u.p],[f],[i],[j],[o],[r],[t],[x],[y]] 85]) (fun w z=>HG AK ib n c u f i j o r t x y 1 w z (by omega) A)<|U<|BP OJ D (fun w d=>(choose_spec _ _ _ _ (AI l 0) (AI l 1) w ((Hy (ib:=ib) 1 0 C (by omega) A) w d) En ((Hy (ib:=ib) 1 1 C (by omega) A) w d) En).mono (fun e W q=>⟨q.1.trans (show _=Ending.returned (Value.tuple #[Value.agg (flat [[E 0],[E 0],[E 0],[E 0],[E 0]]),E 55])from by rw[G];rfl),q.2⟩))<|Jd D<|Bc D D<|Bc D D<|U<|Bw [[E 0],[E 0],[E 0],[E 0],[E 0]] fun K=>U<|Bk 0 0 5 D D D<|?_
   refine M ?_
   refine Ix (by decide) D D<|M ?_
   refine U<|?_
   refine Ba MH D (fun w d=>RQ AK ib n c u f i j o r t x y l w (d.Ad (H1:=[O AK [[I (some ⟨ib,0,none⟩) n c],[E u.w],[E u.g],[E u.m],[E u.h],[E u.p],[f],[i],[j],[o],[r],[t],[x],[y]] 85,Ae 5 1 (I (some ⟨ib,0,none⟩) n c) n (bv l)]) [1,2]) Q A) fun _ e W d ⟨ae,af,he,P,q⟩=>⟨_,_,he,Sat.call (H1:=[O AK [[I (some ⟨ib,0,none⟩) n c],[E u.w],[E u.g],[E u.m],[E u.h],[E u.p],[f],[i],[j],[o],[r],[t],[x],[y]] 85,Ae 5 1 (I (some ⟨ib,0,none⟩) n c) n (bv l)]) (H2:=[O K [[E 0],[E 0],[E 0],[E 0],[E 0]] 68]) (d.pick [1,2,0]) q,?_⟩
   refine A7 ?_
   intro W d
   subst H
   exact⟨ae,af,D,P.settle,d.pick [0,1]⟩
theorem dc(q:Option Addr)(n c:Nat)(w:World)(h:n≤9223372036854775807)(b:¬(n % 256=0∧3≤n/256∧n/256≤4096)):Calls Tryz.prog 16 #[I q n c] w fun e W=>∃k:Nat,e=.returned (.tuple #[.pointer none,E k])∧k≠0∧Below w.heap.size w W:=by
 refine Cg w Mj D 22<|M ?_
 refine Cr Co D<|Af (GG (q:=256) D D)<|JU D D<|Jg<|Jf<|HI D (fun d=>?_) fun d=>?_
 ·
  refine A7 ?_
  exact fun W a=>⟨42,D,by decide,a.A0⟩
 refine M ?_
 refine Cr Co D<|Af (Iy (q:=256) D D)<|M ?_
 refine GV D D (fun f=>?_) fun f=>?_
 ·
  refine A7 ?_
  exact fun W a=>⟨40,D,by decide,a.A0⟩
 refine M ?_
 refine Kl D D (fun g=>?_) fun g=>?_
 ·
  refine A7 ?_
  exact fun W a=>⟨40,D,by decide,a.A0⟩
 refine M ?_
 exact absurd (by omega) b
end Go.Proofs.YtaapafoibofbjaaGreatDoor
