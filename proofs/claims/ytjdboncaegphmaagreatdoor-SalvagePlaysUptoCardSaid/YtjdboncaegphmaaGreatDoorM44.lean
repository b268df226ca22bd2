/- Laws and walks on the road to SalvagePlays (part M44). No conditions beyond each law's own. -/
import Derived.Test.YtjdboncaegphmaaGreatDoorM43
set_option linter.unusedVariables false
namespace Go.Proofs.YtjdboncaegphmaaGreatDoor
open Go.RowKit
set_option maxRecDepth 100000
set_option maxHeartbeats 2000000
variable {n c W i P p:Nat} {L:List Nat} {F:Nat→Prop} {w0:World}
theorem O'{P:Program}{N:Nat}{f:BW}{d:Nat}{ty:TypeId}{pos:String}{An:Array Edge}{g:Option (Nat×Bool)}{H:List Atom}{t e:TypeId}{size bytes:Nat}{z:Value}(a:CO P t e size bytes z){x:Operand}{BU V:Option Operand}{y:Option Addr}(l h:Nat){v:Value}(A_:Value.slice (sp y l c size) (h - l) (c - l)=v)(b:Aj f x=some (.slice y n c))(hl:Nq f BU l)(i:MI f n V h)(h1:l≤h:=by omega)(j:h≤c:=by omega):BR P N f F w0 H ⟨some d,.slice t x BU V none,ty,pos,An,g⟩ v:=A_▸PI a l h b hl i h1 j
theorem Nh{b l:Nat}(h:l<c:=by omega):sp (some ⟨b,0,none⟩) l c 1=some ⟨b,l,none⟩:=by
 unfold sp;rw[if_neg JY,Q6];show some (Addr.add ⟨b,0,none⟩ l)=_;unfold Addr.add;rw[IC];split
 ·rename_i a;rw[a]
 ·rfl
theorem BS.eu{Bj AK ib:Nat}{l:rG}{u:Fr.Bu}{w:World}{H:List Atom}(h:BS Bj AK ib n c w l u)(o m:Nat)(a:o+m≤n):∀W,Sat C1 w H W→View W (.slice (some ⟨ib,o,none⟩) m (c - o)) m 1 (bv ((l.drop o).take m)):=fun W b=>(h.below b.A0).view o m a
def BL(W P:Nat)(L:List Nat)(g:Nat):Fr.Bu:=if 1<g then⟨W,g,L.getD (g - 2) 0+1,L.getD (g - 2) 0,P⟩else⟨W,g,2,0,P⟩
def E0(n W P:Nat)(L:List Nat)(i:Nat):Nat→Ji n
 |0=>Ji.zero n
 |k+1=>(E0 n W P L i k).lay ((i+k) % 2*256) (Fr.pack (BL W P L (i+k)))
def Ct(n W P:Nat)(L:List Nat)(i:Nat)(l:rG):Ji n:=if 0<i then(E0 n W P L i 2).lay 512 ((l.drop 512).take ((L.getD (i - 1) 0+1)*256 - 512))else E0 n W P L i 2
theorem WV{j x:Nat}(h:L[j]? =some x):L.getD j 0=x:=by rw[Dm,h];rfl
theorem gJ{k:Nat}(h:¬1<i+k):(E0 n W P L i k).lay ((i+k) % 2*256) (Fr.pack ⟨W,i+k,2,0,P⟩)=E0 n W P L i (k+1):=by rw[E0,BL,if_neg h]
theorem fG{k x:Nat}(h:1<i+k)(a:L[i+k - 2]? =some x):(E0 n W P L i k).lay ((i+k) % 2*256) (Fr.pack ⟨W,i+k,x+1,x,P⟩)=E0 n W P L i (k+1):=by rw[E0,BL,if_pos h,WV a]
theorem cV{y:Nat}{l:rG}(h:0<i)(a:L[i - 1]? =some y):Ct n W P L i l=(E0 n W P L i 2).lay 512 ((l.drop 512).take ((y+1)*256 - 512)):=by rw[Ct,if_pos h,WV a]
theorem Rt{l:rG}(h:¬0<i):Ct n W P L i l=E0 n W P L i 2:=by rw[Ct,if_neg h]
theorem Q_{Bj AK ib:Nat}{l:rG}{u:Fr.Bu}{w:World}(g:BS Bj AK ib n c w l u)(G:n≤1048576){j:Option Addr}{nl As:Nat}(h:View w (I j nl As) nl 1 (Aq Bm L))(r:L.length=nl)(H:768≤n)(hw:1≤u.w∧u.w≤32)(M:n=256*u.p)(s:∀q∈L,2≤q∧q<u.p)(V:i≤nl∧nl≤4096:=by omega):Calls lp 38 #[S AK,I j nl As,E i] w fun e W=>∃f,e=.returned (.slice (some ⟨f,0,none⟩) n n)∧W.ownsRow w.heap.size 5 1 (.slice (some ⟨f,0,none⟩) n n) n (bv (Ct n u.w u.p L i l).l)∧Below w.heap.size w W:=by
 have hlen:=g.len;have N:=g.cap;refine Cg w OJ D 82<|K ?_;refine By D<|AG ts 0 D<|Af (fun _ _ d b=>Ei d D B7 D (g.below b.A0).QY)<|Cr B7 D<|U<|Yk A3 n D D (X4 _) fun f=>K ?_;refine FO 0 [bv (E0 n u.w u.p L i 0).l] D D<|DL (fun t a W=>∃k,t=2 - k∧AH 82 a (Jb (Jb (Jb (Jb (Jb (Jb Jk 0 (S AK)) 1 (I j nl As)) 2 (E i)) 6 (I none 0 0)) 7 (I (some ⟨f,0,none⟩) n n)) 8 (E (i+k)))∧Sat C1 w [O f [bv (E0 n u.w u.p L i k).l] 5] W∧k≤2) (fun a W d b=>⟨0,D,AY d,b.pick [0],JY⟩) ?_;rintro _ a W ⟨k,rfl,d,b,P⟩;revert a W;refine K ?_;refine B6 (q:=2) D D<|Ej D D<|Jg<|Jf<|Cz D (fun z=>?_) fun z=>?_
 ·
  refine K ?_;refine CQ [0]<|Ab 0 D (AA D)<|Ab 1 D (Bp D)<|Ab 2 D (AS ts 1 D)<|Ab 3 D (AS Bs 1 D)<|Ab 4 D (fun _ _ d b=>Ei d D AF D (g.below b.A0).wid)<|Ab 5 D (AA D)<|Ab 6 D (AA D)<|Ab 7 D (Bp D)<|Ab 8 D (AS ts 1 D)<|Ab 9 D (AS Bs 5 D)<|Ab 10 D (fun _ _ d b=>Ei d D AF D (g.below b.A0).h8)<|Ab 11 D (S8 [[E u.w],[E (i+k)],[E 2],[E 0],[E u.p]])<|Bh 12 D<|Bw SY fun Q=>A8 [1]<|Bh 13 D<|Bk 0 0 5 D D D<|?_;refine A8 [1]<|Cm<|K ?_;refine Mp D D<|Jg<|Jf<|Cz D (fun A=>?_) fun A=>?_
  ·
   refine K ?_;refine Es (q:=2) D D<|Kz r ((i+k) - 2) fun x m=>Af (Dj G0 ((i+k) - 2) ((i+k) - 2) (Bx h) D D)<|Af (J1 AF Gj ((i+k) - 2) m (Bx h) D D)<|?_;have R:=s x (ta m);refine AG Bs 3 D<|U<|Cq 0 3 D D D<|?_;refine Jg<|Jf<|Jh<|AG Bs 3 D<|AZ AF 0 3 D D D<|B6 (q:=1) D D<|AG Bs 2 D<|U<|Cq 0 2 D D D<|?_;refine K ?_;refine Af (BN Bs 0 D D)<|U<|Ba PY D (fun w b=>X3 u.w (i+k) (x+1) x u.p w (by simp only[Fr.DE,Kq,hy,decide_eq_true_eq];refine⟨⟨⟨⟨⟨⟨⟨?_,?_⟩,?_⟩,?_⟩,?_⟩,?_⟩,?_⟩,?_⟩<;>first|omega|exact .inl trivial)) fun _ e W b ⟨T,he,B,J⟩=>⟨_,_,he,b.own B J,?_⟩
   refine Jd D<|Bc D D<|Bc D D<|K ?_;refine Af (GG (q:=2) D D)<|Af (E3 (q:=256) D D)<|Af (O' A3 ((i+k) % 2*256) n (v:=(I (some ⟨f,(i+k) % 2*256,none⟩) (n - ((i+k) % 2*256)) (n - ((i+k) % 2*256)))) (by rw[Nh]) D (.some D) .none)<|Jd D<|U<|HC 2 0 ((i+k) % 2*256) 256 (BZ 0) Tryz.underlying29 D D D D (DV (Mk (Fr.MC _))) (Fr.MC _)<|FO 2 [bv (E0 n u.w u.p L i (k+1)).l] D (by rw[fG JY m];rfl)<|K ?_;refine B6 (q:=1) D D<|K ?_;exact fun a W d b=>⟨_,JY,k+1,D,AY d,b.pick [2],JY⟩
  refine K ?_;refine Af (BN Bs 0 D D)<|U<|Ba PY D (fun w b=>X3 u.w (i+k) 2 0 u.p w (by simp only[Fr.DE,Kq,hy,decide_eq_true_eq];refine⟨⟨⟨⟨⟨⟨⟨?_,?_⟩,?_⟩,?_⟩,?_⟩,?_⟩,?_⟩,?_⟩<;>first|omega|exact .inl trivial)) fun _ e W b ⟨X,he,C,J⟩=>⟨_,_,he,b.own C J,?_⟩
  refine Jd D<|Bc D D<|Bc D D<|K ?_;refine Af (GG (q:=2) D D)<|Af (E3 (q:=256) D D)<|Af (O' A3 ((i+k) % 2*256) n (v:=(I (some ⟨f,(i+k) % 2*256,none⟩) (n - ((i+k) % 2*256)) (n - ((i+k) % 2*256)))) (by rw[Nh]) D (.some D) .none)<|Jd D<|U<|HC 2 0 ((i+k) % 2*256) 256 (BZ 0) Tryz.underlying29 D D D D (DV (Mk (Fr.MC _))) (Fr.MC _)<|FO 2 [bv (E0 n u.w u.p L i (k+1)).l] D (by rw[gJ JY];rfl)<|K ?_;refine B6 (q:=1) D D<|K ?_;exact fun a W d b=>⟨_,JY,k+1,D,AY d,b.pick [2],JY⟩
 obtain rfl:k=2:=JY;refine K ?_;refine Mp D D<|Jg<|Jf<|Cz D (fun F=>?_) fun F=>?_
 ·
  refine K ?_;refine Es (q:=1) D D<|Kz r (i - 1) fun y o=>Af (Dj G0 (i - 1) (i - 1) (Bx h) D D)<|Af (J1 AF Gj (i - 1) o (Bx h) D D)<|?_;have Y:=s y (ta o);refine B6 (q:=1) D D<|Af (E3 (q:=256) D D)<|K ?_;refine DD 9<|zs (AA D)<|zs (AA D)<|zs (O' A3 512 ((y+1)*256) (v:=(I (some ⟨f,512,none⟩) (((y+1)*256) - 512) (n - 512))) (by rw[Nh]) D (.some D) (.some D))<|zs (AA D)<|zs (Bp D)<|zs (AS Tryz.underlying118 0 D)<|zs (fun _ _ d b=>Ei d D Tryz.underlying29 D (g.below b.A0).QY)<|zs (AA D)<|zs (O' A3 512 ((y+1)*256) (v:=(I (some ⟨ib,512,none⟩) (((y+1)*256) - 512) (c - 512))) (by rw[Nh]) D (.some D) (.some D))<|CS<|U<|HC 0 0 512 (((y+1)*256) - 512) (g.eu 512 ((y+1)*256 - 512) JY) Tryz.underlying29 D D D D (DV (Mk (by rw[FX,J3];omega))) (by rw[FX,J3];omega)<|A7 ?_;exact fun W b=>⟨f,D,by rw[cV JY o];exact b.R5 (l:=((E0 n u.w u.p L i 2).lay 512 ((l.drop 512).take ((y+1)*256 - 512)))) 0 (by unfold maxLen;omega),b.A0⟩
 refine A7 ?_;exact fun W b=>⟨f,D,by rw[Rt JY];exact b.R5 (l:=(E0 n u.w u.p L i 2)) 0 (by unfold maxLen;omega),b.A0⟩
theorem Hy{H:List Atom}{l:rG}{ib:Nat}(i p:Nat)(hl:l.length=n)(b:(p+1)*256≤n)(d:n≤c)(V:H[i]? =some (Ae 5 1 (I (some ⟨ib,0,none⟩) n c) n (bv l)):=by exact rfl):∀w,Sat F w0 H w→View w (.slice (some ⟨ib,p*256,none⟩) 256 (c - p*256)) 256 1 (bv (AI l p)):=fun w a=>by
 have h:=(Db (n:=n) (c:=c) (m:=l) (p*256) ((p+1)*256) (BZ i V) (NR (il:=l) (p:=p)) JY JY) w a;rw[show(p+1)*256 - p*256=256 by omega,Nh]at h;exact h
theorem Uh{a b:rG}{k:Nat}(h:Fr.choose a b=.error k):k=4∨k=55:=by
 unfold Fr.choose at h
 repeat' split at h
 all_goals first|(cases h;first|exact .inl D|exact .inr D)|(cases h;done)
theorem Rb{a:rG}{s:Fr.Bu}(h:Fr.DP a=some s):Fr.DE s=true:=by
 unfold Fr.DP at h;split at h
 ·split at h
  ·split at h
   ·rename_i b;cases h;exact b
   ·cases h
  ·cases h
 ·cases h
theorem HG(AK ib n c:Nat)(u:Fr.Bu)(a b d f g h i j:Value)(p:Nat)(w:World)(k:BE [O AK (ZK ib n c u a b d f g h i j) 118] w)(m:(p+1)*256≤n∧n≤1048576)(o:n≤c):Calls lp 63 #[S AK,E p] w fun e W=>e=.returned (I (some ⟨ib,p*256,none⟩) 256 (c - p*256))∧Sat (A6 [O AK (ZK ib n c u a b d f g h i j) 118]) w [O AK (ZK ib n c u a b d f g h i j) 118] W:=by
 refine Cb k Ut D 15 fun F hF=>K ?_;refine By D<|AG ts 0 D<|AZ B7 0 0 D D D<|Jd D<|Af (E3 (q:=256) D D)<|Jd D<|B6 (q:=1) D D<|Af (E3 (q:=256) D D)<|Af (O' A3 (p*256) ((p+1)*256) (v:=(I (some ⟨ib,p*256,none⟩) 256 (c - p*256))) (by rw[Nh,show(p+1)*256 - p*256=256 by omega]) D (.some D) (.some D))<|A7 ?_;intro W l;subst hF;exact⟨D,l.pick [0]⟩
theorem YJ(AK ib n c:Nat)(u:Fr.Bu)(a b d f g h i j:Value)(w:World)(k:BE [O AK (ZK ib n c u a b d f g h i j) 118] w)(m:n≤1048576):Calls lp 64 #[S AK] w fun e W=>e=.returned (E (n/256))∧Sat (A6 [O AK (ZK ib n c u a b d f g h i j) 118]) w [O AK (ZK ib n c u a b d f g h i j) 118] W:=by
 refine Cb k Sn D 9 fun F hF=>K ?_;refine By D<|AG ts 0 D<|AZ B7 0 0 D D D<|Cr B7 D<|Af (Iy (q:=256) D D)<|A7 ?_;intro W l;subst hF;exact⟨D,l.pick [0]⟩
def LA(W:Nat)(nd:Nat→Option G.Dh)(rc:Nat→Option B9)(As:List Nat)(m h:Nat):Bool:=match G.EO W nd (fun p=>(rc p).getD G.DX) As As.length with
 |none=>false
 |some _=>!decide (max 1 (G.at_ As As.length)+1<m)&&!(decide (0<As.length)&&!decide (h=max 1 (G.at_ As As.length)))
def LR(il:rG)(W m h:Nat):Prop:=(∀q,q<m→FC il q=true)∧LA W (EB il m) (Dy il m) (A9 il m) m h=true
theorem E1.whole{il:rG}{m h:Nat}{Z:Nat→Option Bf}{Ax:Nat→Option B9}{As:List Nat}(a:E1 il p Z Ax As):La W Z Ax As m h=LA W (EB il p) (Dy il p) (A9 il p) m h:=by
 unfold La LA;rw[show(fun p=>(Z p).map Bf.AW)=EB il p from funext a.nd,show Ax=Dy il p from funext a.rc,a.ch];rfl
theorem Mb.TH{il:rG}{Av Bt a b:Nat}{C EY:BX}{Z Kf:Nat→Option Bf}{Ax Ks:Nat→Option B9}{As Kv:List Nat}(h:Mb il p C Av Bt Z Ax As EY a b Kf Ks Kv):a≤Av+1∧b≤Bt+1∧EY.n≤C.n+1∧(p<2→EY.n=C.n):=by
 cases h with
 |slot=>omega
 |SB=>omega
 |TO _ _ _ _ h=>omega
theorem Un{il:rG}{d a:Nat}(h:a=d+1)(J:FC il p=false):(a=0↔∀q,q<p+1→FC il q=true):=⟨fun e=>JY,fun q=>by rw[q p JY]at J;cases J⟩
theorem eC{il:rG}{d:Nat}(h:d=0↔∀q,q<p→FC il q=true)(J:FC il p=true):(d=0↔∀q,q<p+1→FC il q=true):=⟨fun e q a=>(s9 q p).elim (h.1 e q) (fun z=>by rw[show q=p by omega];exact J),fun z=>h.2 (fun q a=>z q JY)⟩
theorem bK{N:Nat}{f:BW}{H:List Atom}{A5:Act→World→Prop}(i:Nat){b:Nat}(V:H[i]? =some (Ap Tryz.prog 3 Am J6 b n (fun _=>none)))(h:AT N f F w0 (H.set i (AN b n (fun _=>none))) A5):AT N f F w0 H A5:=fun a w d c=>h a w d (c.set i V (C7.refl _ _) ⟨c.mp i V,fun a x e=>by cases e⟩ (fun j e=>.inl (by rcases e with e|⟨a,x,e,_⟩;exact e;cases e)))
theorem gm{N:Nat}{f:BW}{H:List Atom}{A5:Act→World→Prop}(W:Nat)(h:AT N f F w0 (A1 W AE::H) A5):AT N f F w0 H A5:=fun a w b c=>h a w b (c.new (Cn _ _) (.inl D) (fun k e=>by cases e))
attribute [local irreducible] G.through AL.bare G.version
theorem look_ok(q:Option Addr)(m c:Nat)(il:rG)(J V x M L:Nat)(w:World)(N:BE [Ae 5 1 (I q m c) m (bv il)] w)(ai:CG w)(ao:∀k,CB k→¬A6 [Ae 5 1 (I q m c) m (bv il)] k)(aQ:m % 256=0)(aR:768≤m)(aS:m≤1048576)(aT:L=m/256)(aU:m≤c)(aq:Fr.choose (AI il 0) (AI il 1)=.ok ⟨J,V,x,M,L⟩)(aV:J≤32)(aW:2≤x∧x≤L):Calls Tryz.prog 94 #[I q m c] w fun e W=>∃(Q:Nat) (z:Dl) (C ar Au B:BX) (Av Bt:Nat) (Z:Nat→Option Bf) (Ax:Nat→Option B9) (As:List Nat) (Ce:List Kx),e=.returned (.tuple #[S Q,E 0])∧z.w=J∧z.m=x∧z.h=M∧z.p=L∧E1 il x Z Ax As∧(Au.n=0↔LR il J x M)∧Au.n≤1048576∧Av≤4096∧Bt≤4096∧Sat (A6 [Ae 5 1 (I q m c) m (bv il)]) w [Ay Q z C ar Au B,AN z.AU Av Z,Ap Tryz.prog 3 Am BT z.uL Bt Ax,Ae 5 1 (I q m c) m (bv il)] W:=by
 have aj:∀F,A6 [Ae 5 1 (I q m c) m (bv il)]=F→∀k,CB k→¬F k:=fun F hF k au q=>ao k au (hF▸q);have ak:il.length=m:=De (N.at_ 0 _ D);refine Cb N Nt D 85 fun F hF=>K ?_;refine Cr B7 D<|Af (GG (q:=256) D D)<|Ci JY D D<|K ?_;refine Cr B7 D<|Af (Iy (q:=256) D D)<|K ?_;refine ET JY D D<|K ?_;refine HF JY D D<|K ?_;refine U<|K5 3 Am J6 fun y=>U<|K5 3 Am BT fun A=>Af (S8 [[I q m c],[E 0],[E 0],[E 0],[E 0],[E 0],[Value.map (some y)],[Value.map (some A)],[I none 0 0],[I none 0 0],[I none 0 0],[I none 0 0]])<|U<|Cv D fun Q=>K ?_;refine U<|Cx Tryz.func128 D [0] (H1:=[O Q [[I q m c],[E 0],[E 0],[E 0],[E 0],[E 0],[Value.map (some y)],[Value.map (some A)],[I none 0 0],[I none 0 0],[I none 0 0],[I none 0 0]] 189]) (fun w N=>LO Q (⟨q,m,c,0,0,0,0,0,y,A⟩:Dl) AE AE AE AE 0 w N ⟨by show(0+1)*256≤c;omega,JY⟩)<|Jd D<|U<|Cx Tryz.func128 D [0] (H1:=[O Q [[I q m c],[E 0],[E 0],[E 0],[E 0],[E 0],[Value.map (some y)],[Value.map (some A)],[I none 0 0],[I none 0 0],[I none 0 0],[I none 0 0]] 189]) (fun w N=>LO Q (⟨q,m,c,0,0,0,0,0,y,A⟩:Dl) AE AE AE AE 1 w N ⟨by show(1+1)*256≤c;omega,JY⟩)<|U<|BP Tryz.func62 D (fun w b=>(choose_spec _ _ _ _ (AI il 0) (AI il 1) w ((LY (z:=(⟨q,m,c,0,0,0,0,0,y,A⟩:Dl)) 3 0 ak (by show(0+1)*256≤m;omega)) w b) En ((LY (z:=(⟨q,m,c,0,0,0,0,0,y,A⟩:Dl)) 3 1 ak (by show(1+1)*256≤m;omega)) w b) En).mono (fun e W q=>⟨q.1.trans (show _=Ending.returned (Value.tuple #[Value.agg (flat [[E J],[E V],[E x],[E M],[E L]]),E 0])from by rw[aq];rfl),q.2⟩))<|Jd D<|Bc D D<|Bc D D<|By D<|AG Tryz.underlying189 1 D<|U<|Bk 0 1 5 D D D<|?_;refine Js D<|Jg<|?_;obtain⟨z,o⟩:∃z:Dl,z=⟨q,m,c,J,V,x,M,L,y,A⟩:=⟨_,D⟩
 obtain rfl:q=z.ip:=by rw[o]
 obtain rfl:m=z.uX:=by rw[o]
 obtain rfl:c=z.uY:=by rw[o]
 obtain rfl:J=z.w:=by rw[o]
 obtain rfl:V=z.g:=by rw[o]
 obtain rfl:x=z.m:=by rw[o]
 obtain rfl:M=z.h:=by rw[o]
 obtain rfl:L=z.p:=by rw[o]
 obtain rfl:y=z.AU:=by rw[o]
 obtain rfl:A=z.uL:=by rw[o]
 clear o;refine K ?_;refine Ci D D D<|K ?_;refine By D<|AG Kp 1 D<|AG Bs 5 D<|AZ AF 0 5 D D D<|Jd D<|Ci JY D D<|K ?_;refine U<|BP b5 D (fun w b=>gN w)<|U<|Bw [[Value.nilIface],[Value.nilIface]] fun X=>U<|Bk 0 0 2 D D D<|?_;refine K ?_;refine By D<|AG Kp 1 D<|AG Bs 3 D<|AZ AF 1 3 D D D<|K ?_;refine Dr 3 1 (Aq Bm [])<|Dr 237 2 (Aq BQ [])<|bK 5 D<|?_;refine DL (fun ab a W=>∃(p:Nat) (C:BX) (Au:BX) (Av:Nat) (Bt:Nat) (Z:Nat→Option Bf) (Ax:Nat→Option B9) (As:List Nat) (Ce:List Kx),ab=z.m - p∧AH 85 a (Jb (Jb (Jb (Jb (Jb (Jb Jk 2 (Value.pointer none)) 3 (E 0)) 5 (S Q)) 7 (S X)) 56 (E z.m)) 57 (E p))∧Sat F w [Ae 237 2 (I Au.p Au.n Au.c) Au.n (Aq BQ Ce),Ae 3 1 (I C.p C.n C.c) C.n (Aq Bm As),O X [[Value.iface 251 (Value.agg (flat []))],[Value.iface 252 (Value.agg (flat []))]] 229,Ay Q z C AE Au AE,Ap Tryz.prog 3 Am BT z.uL Bt Ax,AN z.AU Av Z,Ae 5 1 (I z.ip z.uX z.uY) z.uX (bv il)] W∧p≤z.m∧E1 il p Z Ax As∧(Au.n=0↔∀q,q<p→FC il q=true)∧(Au.n=0→Au=AE)∧(Av≤p∧Bt≤p∧C.n≤p - 2∧Au.n≤p)) (fun a W f b=>⟨0,AE,AE,0,0,fun _=>none,fun _=>none,[],[],D,AY f,b.pick [0,1,2,3,4,5,6],JY,E1.begin,⟨fun _ q H=>JY,fun _=>rfl⟩,fun _=>rfl,⟨JY,JY,Br _,Br _⟩⟩) ?_;rintro _ a W ⟨p,C,Au,Av,Bt,Z,Ax,As,Ce,rfl,f,b,aX,G,ad,al,ae⟩;revert a W;refine Je<|Jh<|Ej D D<|Jg<|Jf<|Je<|Cz D (fun av=>?_) fun av=>?_
 ·
  refine K ?_;refine Af (BN tZ 2 D D)<|K ?_;refine DL (fun ab a W=>∃(j:Nat) (d:BX) (s:Nat) (t:Nat) (u:Nat→Option Bf) (v:Nat→Option B9) (li:List Nat),ab=2 - j∧AH 85 a (Jb (Jb (Jb (Jb (Jb (Jb (Jb (Jb (Jb Jk 2 (Value.pointer none)) 3 (E 0)) 5 (S Q)) 7 (S X)) 56 (E z.m)) 57 (E p)) 8 (E p)) 60 (Value.agg (flat [[Value.iface 251 (Value.agg (flat []))],[Value.iface 252 (Value.agg (flat []))]]))) 61 (E j))∧Sat F w [Ae 237 2 (I Au.p Au.n Au.c) Au.n (Aq BQ Ce),Ae 3 1 (I d.p d.n d.c) d.n (Aq Bm li),O X [[Value.iface 251 (Value.agg (flat []))],[Value.iface 252 (Value.agg (flat []))]] 229,Ay Q z d AE Au AE,Ap Tryz.prog 3 Am BT z.uL t v,AN z.AU s u,Ae 5 1 (I z.ip z.uX z.uY) z.uX (bv il)] W∧((j=0∧E1 il p u v li∧s≤p∧t≤p∧d.n≤p - 2)∨(j=1∧E1 il p u v li∧(p<2→Fr.CN ((AI il p).drop 64)=true)∧s≤p∧t≤p∧d.n≤p - 2)∨(j=2∧E1 il (p+1) u v li∧FC il p=true∧s≤p+1∧t≤p+1∧d.n≤p+1 - 2))) (fun a W f b=>⟨0,C,Av,Bt,Z,Ax,As,D,AY f,b.pick [0,1,2,3,4,5,6],.inl ⟨D,G,ae.1,ae.2.1,ae.2.2.1⟩⟩) ?_;rintro _ a W ⟨j,d,s,t,u,v,li,rfl,f,b,aw⟩;revert a W;refine Je<|?_
  rcases aw with⟨rfl,R,af,ag,ah⟩|⟨rfl,R,ax,af,ag,ah⟩|⟨rfl,ay,az,af,ag,ah⟩
  ·
   by_cases i:p<2∧Fr.CN ((AI il p).drop 64)=false
   ·
    have T:FC il p=false:=by unfold FC;rw[if_pos i.1];exact i.2
    refine Jh<|IS JY D D<|K ?_;refine Af (KT tZ 0 D D D ug)<|K ?_;refine U<|KZ Ma (fun _=>AB) D D (fun w b=>show Calls _ _ _ w fun e W=>e=Ending.returned (E 53)∧Sat (A6 [Ay Q z d AE Au AE,Ae 5 1 (I z.ip z.uX z.uY) z.uX (bv il)]) w [Ay Q z d AE Au AE,Ae 5 1 (I z.ip z.uX z.uY) z.uX (bv il)] W from(Vp Q z d AE Au AE p il w (b.Ad [3,6]) JY).mono fun e W q=>And.intro (q.1.trans (by rw[if_pos i])) q.2) fun _ e W b ⟨he,q⟩=>⟨_,_,he,b.As [3,6] [0,1,2,4,5] q,?_⟩
    refine K ?_;refine Ix JZ D D<|K ?_;refine U<|Ba P1 D (fun w b=>EZ Q z d AE Au AE p 53 Ce w (b.Ad [0,2])) fun _ e W b ⟨aA,aB,he,aC,q⟩=>⟨_,_,he,b.As [0,2] [1,3,4,5,6] q,?_⟩
    refine K ?_;refine B6 (q:=1) D D<|K ?_;exact fun a W f b=>⟨_,JY,p+1,d,aA,s,t,u,v,li,aB,D,AY f,b.pick [1,3,4,0,5,6,2],JY,R.bad T,Un aC T,fun h=>JY,JY⟩
   refine Jh<|IS JY D D<|K ?_;refine Af (KT tZ 0 D D D ug)<|K ?_;refine U<|KZ Ma (fun _=>AB) D D (fun w b=>show Calls _ _ _ w fun e W=>e=Ending.returned (E 0)∧Sat (A6 [Ay Q z d AE Au AE,Ae 5 1 (I z.ip z.uX z.uY) z.uX (bv il)]) w [Ay Q z d AE Au AE,Ae 5 1 (I z.ip z.uX z.uY) z.uX (bv il)] W from(Vp Q z d AE Au AE p il w (b.Ad [3,6]) JY).mono fun e W q=>And.intro (q.1.trans (by rw[if_neg i])) q.2) fun _ e W b ⟨he,q⟩=>⟨_,_,he,b.As [3,6] [0,1,2,4,5] q,?_⟩
   refine K ?_;refine Ci D D D<|K ?_;refine Af (fun _ _ f b=>Hb f (p:=0) (q:=1) (r:=1) D D D)<|K ?_;exact fun a W f b=>⟨_,JY,1,d,s,t,u,v,li,D,AY f,b.pick [2,3,4,0,5,6,1],.inr (.inl ⟨D,R,fun h=>by cases H:Fr.CN ((AI il p).drop 64)with|true=>rfl|false=>exact absurd ⟨h,H⟩ i,af,ag,ah⟩)⟩
  ·
   by_cases i:2≤p∧IT il p=false
   ·
    have T:FC il p=false:=by unfold FC;rw[if_neg JY];exact i.2
    refine Jh<|IS JY D D<|K ?_;refine Af (KT tZ 1 D D D ug)<|K ?_;refine U<|KZ js (fun _=>AB) D D (fun w b=>h6 Q z d AE Au AE p s t u v il li w (b.Ad [3,5,4,6,1]) JY JY i.1 i.2) fun _ e W b ⟨aD,aY,he,q⟩=>⟨_,_,he,b.As [3,5,4,6,1] [0,2] q,?_⟩
    refine K ?_;refine Ix JY D D<|K ?_;refine U<|Ba P1 D (fun w b=>EZ Q z d AE Au AE p aD Ce w (b.Ad [0,5])) fun _ e W b ⟨aE,aF,he,aG,q⟩=>⟨_,_,he,b.As [0,5] [1,2,3,4,6] q,?_⟩
    refine K ?_;refine B6 (q:=1) D D<|K ?_;exact fun a W f b=>⟨_,JY,p+1,d,aE,s,t,u,v,li,aF,D,AY f,b.pick [1,5,6,0,3,2,4],JY,R.bad T,Un aG T,fun h=>JY,JY⟩
   replace i:p<2∨IT il p=true:=by cases H:IT il p with|true=>exact .inr D|false=>exact .inl (Nat.lt_of_not_le (fun h=>i ⟨h,H⟩))
   refine Jh<|IS JY D D<|K ?_;refine Af (KT tZ 1 D D D ug)<|K ?_;refine U<|KZ js (fun _=>AB) D D (fun w b=>fe Q z d AE Au AE p s t u v il li w (b.Ad [3,5,4,6,1]) JY JY i) fun _ e W b ⟨OM,aH,aI,Kf,Ks,Kv,he,Y,q⟩=>⟨_,_,he,b.As [3,5,4,6,1] [0,2] q,?_⟩
   refine K ?_;refine Ci D D D<|K ?_;refine Af (fun _ _ f b=>Hb f (p:=1) (q:=1) (r:=2) D D D)<|K ?_;exact fun a W f b=>⟨_,JY,2,OM,aH,aI,Kf,Ks,Kv,D,AY f,b.pick [5,4,6,0,2,1,3],.inr (.inr ⟨D,R.step Y,by unfold FC;split;(rename_i h;exact ax h);(rename_i h;exact i.resolve_left h),by have:=Y.TH;omega,by have:=Y.TH;omega,by have:=Y.TH;omega⟩)⟩
  refine Jh<|ET JY D D<|K ?_;refine B6 (q:=1) D D<|K ?_;exact fun a W f b=>⟨_,JY,p+1,d,Au,s,t,u,v,li,Ce,D,AY f,b.pick [0,1,2,3,4,5,6],JY,ay,eC ad az,al,JY⟩
 obtain rfl:p=z.m:=JY;refine K ?_;refine By D<|AG Kp 10 D<|AZ Mi 3 10 D D D<|Cr Mi D<|E2 D D<|Jg<|Jf<|Cz D (fun aJ=>?_) fun aJ=>?_
 ·
  obtain rfl:Au=AE:=al JY;refine gm z.w<|?_;have aK:=ad.1 D;refine Jh<|Jd D<|U<|Ba uy D (fun w b=>iZ Q z C AE Av Bt Z Ax As w (b.Ad [4,0,6,5,2]) (ai.sat b (aj F hF)) (b.Eb ai (aj F hF) [4,0,6,5,2]) JY (G.CM JY) G.FJ (fun q H=>(G.mem H).2.2) JY (fun q H=>by have:=(G.mem H).1;omega) JY) fun _ e W b ⟨aL,aM,aN,aO,he,an,aP,q⟩=>⟨_,_,he,b.As [4,0,6,5,2] [1,3,7] q,?_⟩
  refine A7 ?_;intro W b;subst hF;exact⟨Q,z,C,aM,aN,aL,Av,Bt,Z,Ax,As,aO,D,D,D,D,D,G,⟨fun h=>⟨aK,by rw[←G.whole];exact an.1 h⟩,fun h=>an.2 (by rw[G.whole];exact h.2)⟩,aP,JY,JY,b.pick [0,2,3,8]⟩
 refine A7 ?_;intro W b;subst hF;exact⟨Q,z,C,AE,Au,AE,Av,Bt,Z,Ax,As,Ce,D,D,D,D,D,G,⟨fun h=>JY,fun h=>ad.2 h.1⟩,JY,JY,JY,b.pick [3,5,4,6]⟩
end Go.Proofs.YtjdboncaegphmaaGreatDoor
namespace Go.Proofs.YtjdboncaegphmaaGreatDoor
set_option maxRecDepth 100000
set_option maxHeartbeats 2000000
variable {p:Nat}
theorem Yw{c d:Nat}(h:c % 256=d % 256):UInt8.ofNat c=UInt8.ofNat d:=M'.1 (by simp;omega)
theorem dY(l:rG):Fr.seaL l=Ref.HM l:=by
 unfold Fr.seaL Ref.HM
 congr 1
 simp only[Ref.Dd];generalize At.sum l=c
 congr 1
 ·apply M'.1;simp
 congr 1
 ·apply M'.1;simp[UInt32.toNat_shiftRight,Nat.shiftRight_eq_div_pow];omega
 congr 1
 ·apply M'.1;simp[UInt32.toNat_shiftRight,Nat.shiftRight_eq_div_pow];omega
 congr 1
 ·apply M'.1;simp[UInt32.toNat_shiftRight,Nat.shiftRight_eq_div_pow];omega
theorem fX(s:Fr.Bu):(Fr.KL s).l=Iu s:=by
 have e:∀v k:Nat,UInt8.ofNat (v/k % 256)=UInt8.ofNat (v/k):=fun v k=>Yw JY;have a:∀v:Nat,UInt8.ofNat (v % 256)=UInt8.ofNat v:=fun v=>Yw JY;have h:Iu s=[76,68,71,49,UInt8.ofNat s.w,0,0,0,UInt8.ofNat (s.g/2^(8*0)),UInt8.ofNat (s.g/2^(8*1)),UInt8.ofNat (s.g/2^(8*2)),UInt8.ofNat (s.g/2^(8*3)),UInt8.ofNat (s.g/2^(8*4)),UInt8.ofNat (s.g/2^(8*5)),UInt8.ofNat (s.g/2^(8*6)),UInt8.ofNat (s.g/2^(8*7)),
  UInt8.ofNat (s.m/2^(8*0)),UInt8.ofNat (s.m/2^(8*1)),UInt8.ofNat (s.m/2^(8*2)),UInt8.ofNat (s.m/2^(8*3)),UInt8.ofNat (s.h/2^(8*0)),UInt8.ofNat (s.h/2^(8*1)),UInt8.ofNat (s.h/2^(8*2)),UInt8.ofNat (s.h/2^(8*3)),
  UInt8.ofNat (s.p/2^(8*0)),UInt8.ofNat (s.p/2^(8*1)),UInt8.ofNat (s.p/2^(8*2)),UInt8.ofNat (s.p/2^(8*3))]++List.replicate 32 0:=by
  unfold Iu;simp only[Ref.Dd,tW,e,a,Nat.reduceMul,Nat.reducePow,kB,HR,Hg]
 rw[h];unfold Fr.KL;simp only[HB];generalize UInt8.ofNat (s.g/2^(8*0))=b;generalize UInt8.ofNat (s.g/2^(8*1))=c;generalize UInt8.ofNat (s.g/2^(8*2))=d;generalize UInt8.ofNat (s.g/2^(8*3))=f;generalize UInt8.ofNat (s.g/2^(8*4))=i;generalize UInt8.ofNat (s.g/2^(8*5))=j;generalize UInt8.ofNat (s.g/2^(8*6))=n;generalize UInt8.ofNat (s.g/2^(8*7))=o;generalize UInt8.ofNat (s.m/2^(8*0))=q;generalize UInt8.ofNat (s.m/2^(8*1))=r;generalize UInt8.ofNat (s.m/2^(8*2))=t;generalize UInt8.ofNat (s.m/2^(8*3))=u;generalize UInt8.ofNat (s.h/2^(8*0))=x;generalize UInt8.ofNat (s.h/2^(8*1))=y;generalize UInt8.ofNat (s.h/2^(8*2))=z;generalize UInt8.ofNat (s.h/2^(8*3))=A;generalize UInt8.ofNat (s.p/2^(8*0))=B;generalize UInt8.ofNat (s.p/2^(8*1))=C;generalize UInt8.ofNat (s.p/2^(8*2))=D;generalize UInt8.ofNat (s.p/2^(8*3))=E;generalize UInt8.ofNat s.w=F;show(_:rG)=_
 kernel_rfl
theorem WU(s:Fr.Bu):Fr.pack s=Ref.EC s:=by
 rw[Pj,←fX,←dY];unfold Fr.pack;rw[Ji.NC _ (by rw[Fr.Q7,Ji.h];omega),Jaa,Hg,Fr.Q7,Ji.h];rfl
theorem M1{n:Nat}(x:Ji n){o:Nat}{m:rG}(h:o+m.length≤n)(i:Nat):(x.lay o m).l[i]? =if o≤i∧i<o+m.length then m[i - o]? else x.l[i]? :=by
 have b:=x.h;have a:(x.l.take o).length=o:=by rw[FX];omega
 rw[Ji.NC _ h]
 by_cases h1:i<o
 ·rw[V5 JY,LQ,if_pos h1,if_neg JY]
 ·rw[UP JY,a]
  by_cases c:i<o+m.length
  ·rw[V5 JY,if_pos JY]
  ·rw[UP JY,Q1,if_neg JY]
   congr 1
   omega
theorem L0(l:rG)(p i:Nat):(AI l p)[i]? =if i<256 then l[p*256+i]? else none:=by
 unfold AI;rw[LQ];split
 ·rw[Q1]
 ·rfl
theorem UD{n:Nat}(x:Ji n){q:Nat}{m:rG}(hm:m.length=256)(h:q*256+256≤n)(p:Nat):AI (x.lay (q*256) m).l p=if p=q then m else AI x.l p:=by
 apply Q2;intro i;rw[L0]
 by_cases e:p=q
 ·subst e;rw[if_pos D]
  by_cases V:i<256
  ·rw[if_pos V,M1 x JY,if_pos JY,Zm]
  ·rw[if_neg V,S6 JY]
 ·rw[if_neg e,L0]
  by_cases V:i<256
  ·rw[if_pos V,if_pos V,M1 x JY,if_neg JY]
  ·rw[if_neg V,if_neg V]
theorem gx{n:Nat}(x:Ji n){m:rG}(h:512+m.length≤n)(a:p<2):AI (x.lay 512 m).l p=AI x.l p:=by
 apply Q2;intro i;rw[L0,L0]
 by_cases V:i<256
 ·rw[if_pos V,if_pos V,M1 x h,if_neg JY]
 ·rw[if_neg V,if_neg V]
theorem a3{n:Nat}(x:Ji n){l:rG}{e:Nat}(hl:l.length=n)(he:512≤e∧e≤n)(a:2≤p)(b:(p+1)*256≤e):AI (x.lay 512 ((l.drop 512).take (e - 512))).l p=AI l p:=by
 have hm:((l.drop 512).take (e - 512)).length=e - 512:=by rw[FX,J3];omega
 apply Q2;intro i;rw[L0,L0]
 by_cases V:i<256
 ·rw[if_pos V,if_pos V,M1 x JY,if_pos JY,LQ,if_pos JY,Q1]
  congr 1
  omega
 ·rw[if_neg V,if_neg V]
section
variable {n W P:Nat} {L:List Nat} {l:rG} {i:Nat}
structure Gv (P:Nat) (L:List Nat):Prop where
 b:∀q∈L,2≤q∧q<P
 s:L.Pairwise (·<·)
theorem Gv.at_(h:Gv P L){j:Nat}(hj:j<L.length):2≤L.getD j 0∧L.getD j 0<P:=by
 rw[Dm,F3 hj];exact h.b _ (PV hj)
theorem Gv.lt(h:Gv P L){j k:Nat}(b:j<k)(a:k<L.length):L.getD j 0<L.getD k 0:=by
 rw[Dm,Dm,F3 a,F3 JY];exact n6.1 h.s j k JY a b
theorem Ok(a:p≤P:=by omega):Gv P (A9 l p):=⟨fun q h=>by have:=RD h;omega,by unfold A9;exact List.Pairwise.filter _ List.pairwise_lt_range⟩
theorem S0(h:Gv P L)(hw:1≤W∧W≤32)(a:3≤P∧P≤4096){g:Nat}(b:g≤L.length+1)(c:g≤8192):Fr.DE (BL W P L g)=true:=by
 unfold BL;split
 ·have:=h.at_ (j:=g - 2) JY;simp only[Fr.DE,Kq,hy,decide_eq_true_eq];refine⟨⟨⟨⟨⟨⟨⟨?_,?_⟩,?_⟩,?_⟩,?_⟩,?_⟩,?_⟩,?_⟩<;>omega
 ·simp only[Fr.DE,Kq,hy,decide_eq_true_eq];refine⟨⟨⟨⟨⟨⟨⟨?_,?_⟩,?_⟩,?_⟩,?_⟩,?_⟩,?_⟩,?_⟩<;>first|omega|exact .inl trivial
theorem Oj(g:Nat):(BL W P L g).g=g:=by unfold BL;split<;>rfl
theorem MZ(g:Nat):(BL W P L g).w=W:=by unfold BL;split<;>rfl
theorem LV(g:Nat):(BL W P L g).p=P:=by unfold BL;split<;>rfl
theorem ZS(h:Gv P L){g:Nat}(a:g≤L.length):(BL W P L g).m≤(BL W P L (g+1)).m:=by
 unfold BL
 by_cases h1:1<g
 ·rw[if_pos h1,if_pos JY];have:=h.lt (j:=g - 2) (k:=g+1 - 2) JY JY;show L.getD (g - 2) 0+1≤L.getD (g+1 - 2) 0+1;omega
 ·rw[if_neg h1];split
  ·have:=h.at_ (j:=g+1 - 2) JY;show 2≤L.getD (g+1 - 2) 0+1;omega
  ·exact Br _
theorem ZM(g:Nat):BL W P L (g+1)={BL W P L g with g:=(BL W P L g).g+1,m:=(BL W P L (g+1)).m,h:=(BL W P L (g+1)).h}:=by
 have h1:=Oj (W:=W) (P:=P) (L:=L) (g+1);have b:=MZ (W:=W) (P:=P) (L:=L) (g+1);have c:=LV (W:=W) (P:=P) (L:=L) (g+1);have d:=MZ (W:=W) (P:=P) (L:=L) g;have f:=LV (W:=W) (P:=P) (L:=L) g;have i:=Oj (W:=W) (P:=P) (L:=L) g;have e:∀s:Fr.Bu,s=⟨s.w,s.g,s.m,s.h,s.p⟩:=fun s=>rfl;show BL W P L (g+1)=⟨(BL W P L g).w,(BL W P L g).g+1,(BL W P L (g+1)).m,(BL W P L (g+1)).h,(BL W P L g).p⟩
 rw[d,f,i];have a:=e (BL W P L (g+1));rw[h1,b,c]at a;exact a
theorem Ym(a:768≤n){q:Nat}(b:q<2):AI (E0 n W P L i 2).l q=Fr.pack (BL W P L (if q=i % 2 then i else i+1)):=by
 show AI ((E0 n W P L i 1).lay ((i+1) % 2*256) (Fr.pack (BL W P L (i+1)))).l q=_;rw[UD _ (Fr.MC _) JY]
 by_cases h:q=i % 2
 ·rw[if_neg JY,if_pos h];show AI ((E0 n W P L i 0).lay ((i+0) % 2*256) (Fr.pack (BL W P L (i+0)))).l q=_;rw[UD _ (Fr.MC _) JY,if_pos (by rw[tA];exact h),tA]
 ·rw[if_pos JY,if_neg h]
theorem SV(h:Gv P L)(a:n=256*P)(V:i≤L.length)(b:0<i):768≤(L.getD (i - 1) 0+1)*256∧(L.getD (i - 1) 0+1)*256≤n:=by
 have:=h.at_ (j:=i - 1) JY;omega
theorem Tn(h:Gv P L)(hl:l.length=n)(b:768≤n)(c:n=256*P)(V:i≤L.length){q:Nat}(a:q<2):AI (Ct n W P L i l).l q=Fr.pack (BL W P L (if q=i % 2 then i else i+1)):=by
 unfold Ct;split
 ·rename_i d;have he:=SV h c V d;rw[gx _ (by rw[FX,J3];omega) a];exact Ym b a
 ·exact Ym b a
theorem h7(h:Gv P L)(hl:l.length=n)(d:768≤n)(b:n=256*P)(V:i≤L.length)(a:0<i)(c:2≤p)(e:p≤L.getD (i - 1) 0):AI (Ct n W P L i l).l p=AI l p:=by
 have he:=SV h b V a;unfold Ct;rw[if_pos a];exact a3 _ hl ⟨JY,he.2⟩ c JY
theorem NX{s:Fr.Bu}(a:Fr.DE s=true):Fr.DP (Fr.pack s)=some s:=by rw[WU];exact I7.DP (SH a)
theorem Y7(h:Gv P L)(hw:1≤W∧W≤32)(c:3≤P∧P≤4096)(hl:l.length=n)(d:768≤n)(e:n=256*P)(V:i≤L.length)(f:L.length≤4096):Fr.choose (AI (Ct n W P L i l).l 0) (AI (Ct n W P L i l).l 1)=.ok (BL W P L (i+1)):=by
 have v0:=S0 (W:=W) h hw c (g:=i) JY JY;have v1:=S0 (W:=W) h hw c (g:=i+1) JY JY;rw[Tn h hl d e V (q:=0) JY,Tn h hl d e V (q:=1) JY];have hm:=ZS (W:=W) h (g:=i) JY;have he:=ZM (W:=W) (P:=P) (L:=L) i;have j:=Oj (W:=W) (P:=P) (L:=L) i;have k:=Oj (W:=W) (P:=P) (L:=L) (i+1)
 rcases jZ i with a|a
 ·rw[if_pos a.symm,if_neg JY];unfold Fr.choose;rw[NX v0,NX v1];have b:Fr.Ed (BL W P L i) (BL W P L (i+1))=some (BL W P L (i+1)):=by
   unfold Fr.Ed;rw[if_neg JY,if_pos JY,if_pos ⟨he,hm⟩]
  show(match Fr.Ed (BL W P L i) (BL W P L (i+1))with|some s=>Except.ok s|none=>Except.error 4)=_;rw[b]
 ·rw[if_neg JY,if_pos a.symm];unfold Fr.choose;rw[NX v0,NX v1];have b:Fr.Ed (BL W P L (i+1)) (BL W P L i)=some (BL W P L (i+1)):=by
   unfold Fr.Ed;rw[if_neg JY,if_neg JY,if_pos ⟨he,hm⟩]
  show(match Fr.Ed (BL W P L (i+1)) (BL W P L i)with|some s=>Except.ok s|none=>Except.error 4)=_;rw[b]
end
def P'(il:rG)(W m h:Nat):Bool:=(List.range m).all (FC il)&&LA W (EB il m) (Dy il m) (A9 il m) m h
theorem NH{il:rG}{W m h:Nat}:P' il W m h=true↔LR il W m h:=by
 unfold P' LR;rw[Kq,XF];constructor
 ·rintro⟨h1,a⟩;exact⟨fun q b=>h1 q (QZ.2 b),a⟩
 ·rintro⟨h1,a⟩;exact⟨fun q b=>h1 q (QZ.1 b),a⟩
def F1(n W P:Nat)(L:List Nat)(l:rG)(i:Nat):Bool:=P' (Ct n W P L i l).l W (BL W P L (i+1)).m (BL W P L (i+1)).h
end Go.Proofs.YtjdboncaegphmaaGreatDoor
namespace Go.Proofs.YtjdboncaegphmaaGreatDoor
open Go.RowKit
set_option maxRecDepth 100000
set_option maxHeartbeats 2000000
theorem X9{l:rG}{p:Nat}(h:Fr.CN ((Dc l p).drop 64)=true){i:Nat}(h1:64≤i)(a:i<256)(hl:256*p+i<l.length):l.getD (256*p+i) 0=0:=by
 have b:(Dc l p)[i]? =some l[256*p+i]:=by rw[fU,if_pos a,F3 hl]
 have c:((Dc l p).drop 64)[i - 64]? =some l[256*p+i]:=by rw[Q1,show 64+(i - 64)=i by omega,b]
 rw[Dm,F3 hl];exact Vu.1 h _ (ta c)
section
variable {Bj AK ib n c p:Nat} {l:rG} {u:Fr.Bu} {w:World}
end
