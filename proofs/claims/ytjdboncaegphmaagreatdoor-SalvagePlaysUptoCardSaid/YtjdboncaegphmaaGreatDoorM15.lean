/- Laws and walks on the road to SalvagePlays (part M15). No conditions beyond each law's own. -/
import Derived.Test.YtjdboncaegphmaaGreatDoorM14
set_option linter.unusedVariables false
namespace Go.Proofs.YtjdboncaegphmaaGreatDoor
open Go.RowKit
set_option maxRecDepth 100000
set_option maxHeartbeats 2000000
variable {i w:Nat}
structure Ld (w:World):Prop where
 r:∃tb fr,w.heap[2]? =some (.cells (flat [Dx AL.Tj.l]) tb fr)
 b:∃tb fr,w.heap[0]? =some (.cells (flat [Dx AL.IP.l]) tb fr)
def Zs(k:Nat):Prop:=k=2∨k=0
theorem Ld.sat{F:Nat→Prop}{w w0:World}{H:List Atom}(h:Ld w0)(a:Sat F w0 H w)(c:∀k,Zs k→¬F k:=by first|exact fun _ _ q=>q|exact fun k d q=>hQ k d (hF▸q)):Ld w:=⟨h.r.imp fun _=>Exists.imp fun _ q=>(a.GA.block _ (DC q) (c _ (.inl D))).trans q,h.b.imp fun _=>Exists.imp fun _ q=>(a.GA.block _ (DC q) (c _ (.inr D))).trans q⟩
theorem Ld.lt{w:World}(h:Ld w){k:Nat}(a:Zs k):k<w.heap.size:=by
 rcases a with rfl|rfl
 ·obtain⟨_,_,q⟩:=h.r;exact DC q
 ·obtain⟨_,_,q⟩:=h.b;exact DC q
theorem Ld.below{w w':World}{B:Nat}(h:Ld w)(J:Below B w w')(a:B=w.heap.size):Ld w':=by subst a;exact⟨h.r.imp fun _=>Exists.imp fun _ q=>(J.block _ (DC q)).trans q,h.b.imp fun _=>Exists.imp fun _ q=>(J.block _ (DC q)).trans q⟩
theorem r5{P:Program}{N:Nat}{f:BW}{F:Nat→Prop}{w0:World}{H:List Atom}{d:Nat}{ty:TypeId}{pos:String}{An:Array Edge}{g:Option (Nat×Bool)}{t:TypeId}{x:Operand}{p:UInt32}(b:Aj f x=some (Be .u32 p.toNat)):BR P N f F w0 H ⟨some d,.unOp .xor t x,ty,pos,An,g⟩ (Be .u32 (~~~p).toNat):=fun a w c e=>by
 have:=Vi (dst:=some d) (ty:=ty) (pos:=pos) (An:=An) (g:=g) (P:=P) (w:=w) (t:=t) c b p.toNat_lt
 rwa[show At.inv p.toNat=(~~~p).toNat from by rw[UInt32.toNat_not];unfold At.inv;first|rfl|(have:=p.toNat_lt;omega)|(rw[cA];exact At.v9 _ p.toNat_lt)]at this
theorem AL.sG(g:UInt64)(h:i<8):(AL.tw g).take i++[(g>>>(56 - 8*i).toUInt64).toUInt8]=(AL.tw g).take (i+1):=by
 rw[Ol]
 congr 1
 unfold AL.tw;rw[ti,kL h];rfl
theorem AL.k3(l:rG):(AL.Md l).length≤l.length+72:=by
 have:=AL.m9 (l.length % 64);rw[AL.Yi,Gd,AL.km];omega
theorem AL.sB(l:rG)(a t:Nat):(AL.R_ (l.drop a) t).set t ((l.getD (a+(4*t)) 0).toUInt32<<<24|||(l.getD ((a+(4*t))+1) 0).toUInt32<<<16|||(l.getD ((a+(4*t))+2) 0).toUInt32<<<8|||(l.getD ((a+(4*t))+3) 0).toUInt32)=AL.R_ (l.drop a) (t+1):=by
 have e:∀i,(l.drop a).getD i 0=l.getD (a+i) 0:=fun i=>by rw[Dm,Q1,←Dm]
 show _=(AL.R_ (l.drop a) t).set t (AL.B1 (l.drop a) t);unfold AL.B1;rw[e,e,e,e];rfl
def AL.Y8(d:Jc)(w i:Nat):Jc:=⟨(List.range 32).map fun j=>if j<i∧w≤j then 0 else d.l.getD j 0,by rw[MU,Wv]⟩
theorem AL.lv(d:Jc)(w:Nat):AL.Y8 d w 0=d:=by
 apply Jc.ext;apply cI
 ·rw[(AL.Y8 d w 0).h,d.h]
 ·intro j h1 a;simp only[AL.Y8,Mw,cZ,n3,false_and,if_false];rw[Dm,F3 a];rfl
theorem AL.kr{d:Jc}(h:¬w≤i):AL.Y8 d w (i+1)=AL.Y8 d w i:=by
 apply Jc.ext;show List.map _ _=List.map _ _;refine nv fun j _=>?_
 by_cases q:j<i∧w≤j
 ·rw[if_pos q,if_pos ⟨JY,q.2⟩]
 ·rw[if_neg q,if_neg (fun z=>q ⟨JY,z.2⟩)]
theorem AL.rI{d:Jc}(h:w≤i)(V:i<32):(AL.Y8 d w i).l.set i 0=(AL.Y8 d w (i+1)).l:=by
 apply cI
 ·rw[Kh,(AL.Y8 d w i).h,(AL.Y8 d w (i+1)).h]
 ·intro j h1 a;rw[kJ];simp only[AL.Y8,Mw,cZ]
  by_cases e:i=j
  ·subst e;rw[if_pos D,if_pos ⟨JY,h⟩]
  ·rw[if_neg e]
   by_cases q:j<i∧w≤j
   ·rw[if_pos q,if_pos ⟨JY,q.2⟩]
   ·rw[if_neg q,if_neg (fun z=>q ⟨JY,z.2⟩)]
theorem AL.mH(d:Jc)(w:Nat):AL.Y8 d w 32=AL.cut d.l w:=by
 apply Jc.ext;apply Q2;intro j;have Ad:=d.h;simp only[AL.Y8,AL.cut,ti,l7,FX,LQ,eg]
 by_cases hj:j<32
 ·rw[kL hj,Ph]
  by_cases hw:w≤j
  ·rw[if_pos ⟨hj,hw⟩,if_neg JY,if_pos JY]
  ·rw[if_neg (fun q=>hw q.2),if_pos JY,if_pos JY,Dm,F3 JY];rfl
 ·rw[S6 (by rw[Wv];omega),if_neg JY,if_neg JY];rfl
def AL.dK(L:Jn 8)(X:Jn 64):Jn 8:=AL.fin (AL.Eu X.l (AL.DR L.l) 64).l L 8
theorem AL.pQ(L:Jn 8):AL.Ij.l (AL.DR L.l)=L:=by
 obtain⟨l,h⟩:=L
 match l,h with
 |[a,b,c,d,e,f,g,z],_=>rfl
theorem AL.jO(L:Jn 8)(p:rG):AL.dK L (AL.DO p 48)=AL.step L p:=(AL.pW _ _)
theorem gM(x q:UInt32)(n:Nat)(w:World)(c:n+q.toNat=32:=by decide)(d:0<q.toNat:=by decide)(h1:q.toNat<32:=by decide):Calls lp 170 #[Be .u32 x.toNat,Be .u64 n] w (sM w (Be .u32 ((AL.ID x q).toNat))):=by
 refine Cg w U4 D 13<|K ?_;refine Af (KO (32 - q) D D (by rw[UInt32.toNat_sub_of_le _ _ (by rw[UInt32.le_iff_toNat_le];show q.toNat≤32;omega)];show 32 - q.toNat=n;omega) JY)<|Jd D<|Jd D<|Af (fun _ _ b a=>Yx b (k:=.u64) (p:=((32:Nat):Int)) (q:=((n:Nat):Int)) (r:=((q.toNat:Nat):Int)) D D (by rw[show q.toNat=32 - n by omega];simp only[IntKind.wrap,IntKind.bits,IntKind.signed];simp;omega))<|Af (PJ q D D D JY)<|Af (MJ D D)<|Js D<|Jg<|CR 4 D (show _=(Be .u32 ((AL.ID x q).toNat))from by unfold AL.ID;rw[UInt32.or_comm])<|A7 ?_;exact fun W a=>⟨D,a.A0⟩
theorem kp(q:Option Addr)(n c at_:Nat)(l:rG)(w:World)(e:View w (.slice q n c) n 1 (bv l))(hl:l.length=n)(m:at_+64≤n)(o:n≤1099511627776):Calls lp 146 #[I q n c,E at_] w (sM w (rS [Dx (AL.DO (l.drop at_) 48).l])):=by
 refine Cg w XJ D 104<|Je<|Jh<|U<|Bw [Dx (Jn.zero 64).l] fun f=>K ?_;refine U<|Bw [Dx (Jn.zero 64).l] fun g=>K ?_;refine DL (fun h a W=>∃t,h=16 - t∧AH 104 a (Jb (Jb (Jb (Jb (Jb Jk 0 (I q n c)) 1 (E at_)) 4 (S f)) 5 (S g)) 6 (E t))∧Sat C1 w [O g [Dx (AL.R_ (l.drop at_) t).l] 242,O f [Dx (Jn.zero 64).l] 242] W∧t≤16) (fun a W d b=>⟨0,D,AY d,b.pick [0,1],JY⟩) ?_;rintro _ a W ⟨t,rfl,d,b,i⟩;revert a W;refine K ?_;refine Ej D D<|Jg<|Jf<|Cz D (fun j=>?_) fun j=>?_
 ·
  refine K ?_;refine Af (E3 (p:=4) D D)<|B6 D D<|K ?_;refine DD 31<|zs (AA D)<|zs (AA D)<|zs (AA D)<|zs (Dj A3 (at_+(4*t)) (at_+(4*t)) (Bx e) D D)<|zs (Fj BV (at_+(4*t)) (Bx e) D)<|zs (Pq BV Wz D)<|zs (PJ 24 D D)<|zs (AA D)<|zs (AA D)<|zs (Pc (q:=1) D D)<|zs (Dj A3 ((at_+(4*t))+1) ((at_+(4*t))+1) (Bx e) D D)<|zs (Fj BV ((at_+(4*t))+1) (Bx e) D)<|zs (Pq BV Wz D)<|zs (PJ 16 D D)<|zs (MJ D D)<|zs (AA D)<|zs (AA D)<|zs (Pc (q:=2) D D)<|zs (Dj A3 ((at_+(4*t))+2) ((at_+(4*t))+2) (Bx e) D D)<|zs (Fj BV ((at_+(4*t))+2) (Bx e) D)<|zs (Pq BV Wz D)<|zs (PJ 8 D D)<|zs (MJ D D)<|zs (AA D)<|zs (AA D)<|zs (Pc (q:=3) D D)<|zs (Dj A3 ((at_+(4*t))+3) ((at_+(4*t))+3) (Bx e) D D)<|zs (Fj BV ((at_+(4*t))+3) (Bx e) D)<|zs (Pq BV Wz D)<|zs (MJ D D)<|zs (D9 DY 1 t t D D)<|CS<|U<|H6 0 0 t D D D D (Jn.Ch _ _ _)<|Jg<|FO 0 [Dx (AL.R_ (l.drop at_) (t+1)).l] D (by rw[AL.sB];rfl)<|K ?_;refine B6 (q:=1) D D<|K ?_;exact fun a W d b=>⟨_,JY,t+1,D,AY d,b.pick [0,1],JY⟩
 refine K ?_;obtain rfl:t=16:=JY;refine DL (fun h a W=>∃t,h=48 - t∧AH 104 a (Jb (Jb (Jb Jk 4 (S f)) 5 (S g)) 8 (E (16+t)))∧Sat C1 w [O g [Dx (AL.DO (l.drop at_) t).l] 242,O f [Dx (Jn.zero 64).l] 242] W∧t≤48) (fun a W d b=>⟨0,D,AY d,b.pick [0,1],JY⟩) ?_;rintro _ a W ⟨t,rfl,d,b,i⟩;revert a W;refine K ?_;refine Ej D D<|Jg<|Jf<|Cz D (fun k=>?_) fun k=>?_
 ·
  refine K ?_;refine G9<|AR (AA D)<|AR (HS (q:=2) D D)<|AR (D9 DY 1 ((16+t) - 2) ((16+t) - 2) D D)<|AR (HA Wz 0 0 ((16+t) - 2) D D D)<|MB U4 D (fun w b=>gM ((AL.DO (l.drop at_) t).l.getD ((16+t) - 2) 0) 15 17 w)<|AR (AA D)<|AR (HS (q:=2) D D)<|AR (D9 DY 1 ((16+t) - 2) ((16+t) - 2) D D)<|AR (HA Wz 0 0 ((16+t) - 2) D D D)<|MB U4 D (fun w b=>gM ((AL.DO (l.drop at_) t).l.getD ((16+t) - 2) 0) 13 19 w)<|AR (J0 D D)<|AR (AA D)<|AR (HS (q:=2) D D)<|AR (D9 DY 1 ((16+t) - 2) ((16+t) - 2) D D)<|AR (HA Wz 0 0 ((16+t) - 2) D D D)<|AR (KO 10 D D)<|AR (J0 D D)<|AR (Ck D)<|Er<|Jf<|Je<|G9<|AR (AA D)<|AR (HS (q:=15) D D)<|AR (D9 DY 1 ((16+t) - 15) ((16+t) - 15) D D)<|AR (HA Wz 0 0 ((16+t) - 15) D D D)<|MB U4 D (fun w b=>gM ((AL.DO (l.drop at_) t).l.getD ((16+t) - 15) 0) 25 7 w)<|AR (AA D)<|AR (HS (q:=15) D D)<|AR (D9 DY 1 ((16+t) - 15) ((16+t) - 15) D D)<|AR (HA Wz 0 0 ((16+t) - 15) D D D)<|MB U4 D (fun w b=>gM ((AL.DO (l.drop at_) t).l.getD ((16+t) - 15) 0) 14 18 w)<|AR (J0 D D)<|AR (AA D)<|AR (HS (q:=15) D D)<|AR (D9 DY 1 ((16+t) - 15) ((16+t) - 15) D D)<|AR (HA Wz 0 0 ((16+t) - 15) D D D)<|AR (KO 3 D D)<|AR (J0 D D)<|AR (Ck D)<|Er<|Jf<|DD 15<|zs (AA D)<|zs (AA D)<|zs (AA D)<|zs (HS (q:=7) D D)<|zs (D9 DY 1 ((16+t) - 7) ((16+t) - 7) D D)<|zs (HA Wz 0 0 ((16+t) - 7) D D D)<|zs (II D D)<|zs (AA D)<|zs (II D D)<|zs (AA D)<|zs (HS (q:=16) D D)<|zs (D9 DY 1 ((16+t) - 16) ((16+t) - 16) D D)<|zs (HA Wz 0 0 ((16+t) - 16) D D D)<|zs (II D D)<|zs (D9 DY 1 (16+t) (16+t) D D)<|CS<|U<|H6 0 0 (16+t) D D D D (Jn.Ch _ _ _)<|K ?_;refine B6 (q:=1) D D<|K ?_;exact fun a W d b=>⟨_,JY,t+1,D,AY d,b.pick [0,1],JY⟩
 refine K ?_;refine Af (BN DY 0 D D)<|U<|Bk 1 0 1 D D D<|?_;refine Jg<|Jf<|Jq<|Fq DY 1 D D fun W b=>?_;obtain rfl:t=48:=JY;exact⟨D,b.A0⟩
theorem oa(L:Jn 8)(X:Jn 64)(w:World)(Df:Ld w):Calls lp 147 #[rS [Dx L.l],rS [Dx X.l]] w (sM w (rS [Dx (AL.dK L X).l])):=by
 refine Cg w ru D 119<|Je<|Jh<|U<|Cv D fun k=>U<|Cv D fun p=>U<|Bw [Dx (Jn.zero 8).l] fun m=>K ?_;refine Af (BN Il 2 D D)<|U<|Bw [Dx (Jn.zero 8).l] fun n=>U<|Bk 0 0 1 D D D<|?_;refine K ?_;refine FO 0 [Dx (AL.Ij.l (AL.Eu X.l (AL.DR L.l) 0)).l] D (by rw[show AL.Eu X.l (AL.DR L.l) 0=AL.DR L.l from D,AL.pQ];rfl)<|DL (fun o a W=>∃t,o=64 - t∧AH 119 a (Jb (Jb (Jb (Jb (Jb Jk 2 (S k)) 3 (S p)) 4 (S m)) 5 (S n)) 6 (E t))∧Sat C1 w [O n [Dx (AL.Ij.l (AL.Eu X.l (AL.DR L.l) t)).l] 234,O m [Dx (Jn.zero 8).l] 234,O p [Dx X.l] 242,O k [Dx L.l] 234] W∧t≤64) (fun a W j h=>⟨0,D,AY j,h.pick [0,1,2,3],JY⟩) ?_;rintro _ a W ⟨t,rfl,j,h,x⟩;revert a W;refine K ?_;refine Ej D D<|Jg<|Jf<|Cz D (fun s=>?_) fun s=>?_
 ·
  refine K ?_;refine G9<|AR (D9 Il 1 4 4 D D)<|AR (HA Wz 0 0 4 D D D)<|MB U4 D (fun w h=>gM ((AL.Eu X.l (AL.DR L.l) t).e) 26 6 w)<|AR (D9 Il 1 4 4 D D)<|AR (HA Wz 0 0 4 D D D)<|MB U4 D (fun w h=>gM ((AL.Eu X.l (AL.DR L.l) t).e) 21 11 w)<|AR (J0 D D)<|AR (D9 Il 1 4 4 D D)<|AR (HA Wz 0 0 4 D D D)<|MB U4 D (fun w h=>gM ((AL.Eu X.l (AL.DR L.l) t).e) 7 25 w)<|AR (J0 D D)<|AR (Ck D)<|Er<|Jf<|Je<|Jh<|Af (D9 Il 1 4 4 D D)<|Af (HA Wz 0 0 4 D D D)<|Af (D9 Il 1 5 5 D D)<|Af (HA Wz 0 0 5 D D D)<|Af (RW D D)<|Af (D9 Il 1 4 4 D D)<|Af (HA Wz 0 0 4 D D D)<|Af (r5 D)<|Af (D9 Il 1 6 6 D D)<|Af (HA Wz 0 0 6 D D D)<|Af (RW D D)<|Af (J0 D D)<|Js D<|Jg<|CR 8 D (show _=(Be .u32 (((AL.Eu X.l (AL.DR L.l) t).g^^^(AL.Eu X.l (AL.DR L.l) t).e&&&((AL.Eu X.l (AL.DR L.l) t).f^^^(AL.Eu X.l (AL.DR L.l) t).g)).toNat))from congrArg (Be .u32) (congrArg UInt32.toNat (AL.mR _ _ _)))<|Jf<|Je<|GR<|zs (D9 Il 1 7 7 D D)<|zs (HA Wz 0 0 7 D D D)<|zs (AA D)<|zs (II D D)<|zs (AA D)<|zs (II D D)<|zs (AA D)<|zs (D9 DY 1 t t D D)<|zs (a' Wz t (fun w h=>(Df.sat h).r) D)<|zs (II D D)<|zs (AA D)<|zs (D9 DY 1 t t D D)<|zs (HA Wz 2 0 t D D D)<|zs (II D D)<|zs (Ck D)<|CS<|CR 9 D (show _=(Be .u32 ((AL.one X.l (AL.Eu X.l (AL.DR L.l) t) t).toNat))from D)<|Jf<|Je<|G9<|AR (D9 Il 1 0 0 D D)<|AR (HA Wz 0 0 0 D D D)<|MB U4 D (fun w h=>gM ((AL.Eu X.l (AL.DR L.l) t).a) 30 2 w)<|AR (D9 Il 1 0 0 D D)<|AR (HA Wz 0 0 0 D D D)<|MB U4 D (fun w h=>gM ((AL.Eu X.l (AL.DR L.l) t).a) 19 13 w)<|AR (J0 D D)<|AR (D9 Il 1 0 0 D D)<|AR (HA Wz 0 0 0 D D D)<|MB U4 D (fun w h=>gM ((AL.Eu X.l (AL.DR L.l) t).a) 10 22 w)<|AR (J0 D D)<|AR (Ck D)<|Er<|Jf<|Je<|Jh<|Af (D9 Il 1 0 0 D D)<|Af (HA Wz 0 0 0 D D D)<|Af (D9 Il 1 1 1 D D)<|Af (HA Wz 0 0 1 D D D)<|Af (RW D D)<|Af (D9 Il 1 0 0 D D)<|Af (HA Wz 0 0 0 D D D)<|Af (D9 Il 1 2 2 D D)<|Af (HA Wz 0 0 2 D D D)<|Af (RW D D)<|Af (J0 D D)<|Af (D9 Il 1 1 1 D D)<|Af (HA Wz 0 0 1 D D D)<|Af (D9 Il 1 2 2 D D)<|Af (HA Wz 0 0 2 D D D)<|Af (RW D D)<|Af (J0 D D)<|Js D<|Jg<|CR 11 D (show _=(Be .u32 (((AL.Eu X.l (AL.DR L.l) t).a&&&(AL.Eu X.l (AL.DR L.l) t).b|||(AL.Eu X.l (AL.DR L.l) t).c&&&((AL.Eu X.l (AL.DR L.l) t).a|||(AL.Eu X.l (AL.DR L.l) t).b)).toNat))from congrArg (Be .u32) (congrArg UInt32.toNat (AL.ry _ _ _)))<|K ?_;refine Af (II D D)<|Jd D<|Af (II D D)<|Af (D9 Il 1 0 0 D D)<|Af (HA Wz 0 0 0 D D D)<|Af (D9 Il 1 1 1 D D)<|Af (HA Wz 0 0 1 D D D)<|Af (D9 Il 1 2 2 D D)<|Af (HA Wz 0 0 2 D D D)<|Af (D9 Il 1 3 3 D D)<|Af (HA Wz 0 0 3 D D D)<|Jd D<|Af (II D D)<|Af (D9 Il 1 4 4 D D)<|Af (HA Wz 0 0 4 D D D)<|Af (D9 Il 1 5 5 D D)<|Af (HA Wz 0 0 5 D D D)<|Af (D9 Il 1 6 6 D D)<|Af (HA Wz 0 0 6 D D D)<|CR 87 D (show _=(Be .u32 ((AL.one X.l (AL.Eu X.l (AL.DR L.l) t) t+AL.two (AL.Eu X.l (AL.DR L.l) t)).toNat))from congrArg (Be .u32) (congrArg UInt32.toNat (UInt32.add_assoc _ _ _)))<|Af (fun _ _ j h=>Cs j (BH:=[(0,(Be .u32 ((AL.one X.l (AL.Eu X.l (AL.DR L.l) t) t+AL.two (AL.Eu X.l (AL.DR L.l) t)).toNat))),(1,(Be .u32 ((AL.Eu X.l (AL.DR L.l) t).a.toNat))),(2,(Be .u32 ((AL.Eu X.l (AL.DR L.l) t).b.toNat))),(3,(Be .u32 ((AL.Eu X.l (AL.DR L.l) t).c.toNat))),(4,(Be .u32 (((AL.Eu X.l (AL.DR L.l) t).d+(AL.one X.l (AL.Eu X.l (AL.DR L.l) t) t)).toNat))),(5,(Be .u32 ((AL.Eu X.l (AL.DR L.l) t).e.toNat))),(6,(Be .u32 ((AL.Eu X.l (AL.DR L.l) t).f.toNat))),(7,(Be .u32 ((AL.Eu X.l (AL.DR L.l) t).g.toNat)))]) D (v:=(rS [Dx (AL.Ij.l (AL.eA X.l (AL.Eu X.l (AL.DR L.l) t) t)).l])) (run_build _ _ _ _ AB))<|U<|Bk 0 0 1 D D D<|?_;refine K ?_;refine B6 (q:=1) D D<|K ?_;exact fun a W j h=>⟨_,JY,t+1,D,AY j,h.pick [0,1,2,3],JY⟩
 refine K ?_;obtain rfl:t=64:=JY;refine DL (fun o a W=>∃i,o=8 - i∧AH 119 a (Jb (Jb (Jb (Jb Jk 2 (S k)) 4 (S m)) 5 (S n)) 12 (E i))∧Sat C1 w [O n [Dx (AL.fin (AL.Ij.l (AL.Eu X.l (AL.DR L.l) 64)) L i).l] 234,O m [Dx (Jn.zero 8).l] 234,O k [Dx L.l] 234] W∧i≤8) (fun a W j h=>⟨0,D,AY j,h.pick [0,1,3],JY⟩) ?_;rintro _ a W ⟨i,rfl,j,h,V⟩;revert a W;refine K ?_;refine Ej D D<|Jg<|Jf<|Cz D (fun u=>?_) fun u=>?_
 ·
  refine K ?_;refine DD 9<|zs (AA D)<|zs (AA D)<|zs (D9 Il 1 i i D D)<|zs (HA Wz 0 0 i D D D)<|zs (AA D)<|zs (D9 Il 1 i i D D)<|zs (HA Wz 2 0 i D D D)<|zs (II D D)<|zs (D9 Il 1 i i D D)<|CS<|U<|H6 0 0 i D D D D (Jn.Ch _ _ _)<|K ?_;refine B6 (q:=1) D D<|K ?_;exact fun a W j h=>⟨_,JY,i+1,D,AY j,h.pick [0,1,2],JY⟩
 refine K ?_;refine Af (BN Il 0 D D)<|U<|Bk 1 0 1 D D D<|?_;refine Jg<|Jf<|Jq<|Fq Il 1 D D fun W h=>?_;obtain rfl:i=8:=JY;exact⟨D,h.A0⟩
theorem nW(q:Option Addr)(n c:Nat)(l:rG)(w:World)(u:View w (I q n c) n 1 (bv l))(hl:l.length=n)(z:n≤1099511627776):Calls lp 145 #[I q n c] w fun e W=>∃r s,e=.returned (I r (AL.Md l).length s)∧W.ownsRow w.heap.size 5 1 (I r (AL.Md l).length s) (AL.Md l).length (bv (AL.Md l))∧Below w.heap.size w W:=by
 refine Cg w TE D 38<|K ?_;refine U<|Dr 5 1 (bv [])<|DI A3 0 (bv l) D D D (Bx u) (Eo _) (EL hl) D fun A B=>K ?_;refine U<|Ey A3 (bv [128]) D D D fun C=>U<|DI (m:=1) A3 1 (bv (l++([128]))) D D D (BZ 0) (Eo _) (EL (l':=[128]) D) D fun F G=>K ?_;refine DL (fun h a W=>∃j k o,h=((119 - n % 64) % 64) - j∧AH 38 a (Jb (Jb (Jb Jk 0 (I q n c)) 2 (I none 0 0)) 3 (I k (0+n+1+j) o))∧Sat C1 w [Ae 5 1 (I k (0+n+1+j) o) (0+n+1+j) (bv (l++128::List.replicate j 0))] W∧j≤((119 - n % 64) % 64)) (fun a W d b=>⟨0,_,_,D,AY d,b.pick [1],JY⟩) ?_;rintro _ a W ⟨j,k,o,rfl,d,b,hj⟩;revert a W;refine K ?_;refine Cr B7 D<|Af (GG (q:=64) D D)<|JU D D<|Jg<|Jf<|HI D (fun v=>?_) fun v=>?_
 ·
  refine K ?_;refine U<|Ey A3 (bv [0]) D D D fun H=>U<|DI (m:=1) A3 1 (bv (l++128::List.replicate j 0++([0]))) D D D (BZ 0) (Eo _) (EL (l':=[0]) D) D fun J L=>Js D<|Jg<|Tf 1 (bv (l++128::List.replicate j 0++([0]))) (bv (l++128::List.replicate (j+1) 0)) (by rw[C9,HR,←hs])<|JA<|Jf<|?_;exact fun a W d b=>⟨_,JY,j+1,_,_,D,AY d,b.pick [1],JY⟩
 refine K ?_;refine Cr B7 D<|Af (aB AF kR D)<|Af (iG (q:=8) D D)<|K ?_;obtain rfl:j=((119 - n % 64) % 64):=JY;refine Tf 0 (bv (l++128::List.replicate ((119 - n % 64) % 64) 0)) (bv (l++128::(List.replicate ((119 - n % 64) % 64) 0++(AL.tw (n.toUInt64*8)).take 0))) (by rw[Jaa,Ha])<|DL (fun h a W=>∃i f g,h=8 - i∧AH 38 a (Jb (Jb (Jb (Jb Jk 2 (I none 0 0)) 4 (Be .u64 ((n.toUInt64*8).toNat))) 5 (E i)) 3 (I f (0+n+1+((119 - n % 64) % 64)+i) g))∧Sat C1 w [Ae 5 1 (I f (0+n+1+((119 - n % 64) % 64)+i) g) (0+n+1+((119 - n % 64) % 64)+i) (bv (l++128::(List.replicate ((119 - n % 64) % 64) 0++(AL.tw (n.toUInt64*8)).take i)))] W∧i≤8) (fun a W d b=>⟨0,_,_,D,AY d,b.pick [0],JY⟩) ?_;rintro _ a W ⟨i,f,g,rfl,d,b,V⟩;revert a W;refine K ?_;refine Ej D D<|Jg<|Jf<|Cz D (fun x=>?_) fun x=>?_
 ·
  refine K ?_;refine Af (E3 (p:=8) D D)<|Es (p:=56) D D<|Af (Gg AF K1 D)<|Af (av D D)<|Af (eD kR BV D)<|U<|Ey A3 (bv [((n.toUInt64*8)>>>(56 - 8*i).toUInt64).toUInt8]) D D D fun M=>U<|DI (m:=1) A3 1 (bv (l++128::(List.replicate ((119 - n % 64) % 64) 0++(AL.tw (n.toUInt64*8)).take i)++([((n.toUInt64*8)>>>(56 - 8*i).toUInt64).toUInt8]))) D D D (BZ 0) (Eo _) (EL (l':=[((n.toUInt64*8)>>>(56 - 8*i).toUInt64).toUInt8]) D) D fun N O=>Js D<|Jg<|Tf 1 (bv (l++128::(List.replicate ((119 - n % 64) % 64) 0++(AL.tw (n.toUInt64*8)).take i)++([((n.toUInt64*8)>>>(56 - 8*i).toUInt64).toUInt8]))) (bv (l++128::(List.replicate ((119 - n % 64) % 64) 0++(AL.tw (n.toUInt64*8)).take (i+1)))) (by rw[C9,HR,C9,AL.sG _ JY])<|K ?_;refine B6 (q:=1) D D<|K ?_;exact fun a W d b=>⟨_,JY,i+1,_,_,D,AY d,b.pick [1],JY⟩
 refine A7 ?_;intro W b;obtain rfl:i=8:=JY;have t:AL.Md l=l++128::(List.replicate ((119 - n % 64) % 64) 0++(AL.tw (n.toUInt64*8)).take 8):=by
  unfold AL.Md AL.tail AL.pad;rw[hl,DV (Mk (AL.lM _)),Nat.mod_mod,Yp]
 have y:(AL.Md l).length=0+n+1+((119 - n % 64) % 64)+8:=by
  rw[t,Gd,Cw,Gd,He,FX,AL.lM,hl];omega
 rw[y,t];exact⟨f,g,D,b.DQ 0,b.A0⟩
theorem kk(q:Option Addr)(n c:Nat)(l:rG)(w:World)(Df:Ld w)(r:View w (I q n c) n 1 (bv l))(hl:l.length=n)(x:n≤1000000000000):Calls lp 113 #[I q n c] w (sM w (rS [bv (AL.Lz l).l])):=by
 have y:=AL.k3 l;have z:=AL.mf l;refine Cg w Uv D 42<|Je<|Jh<|U<|Bw [Ak 32] fun g=>K ?_;refine U<|Ba TE D (fun w d=>nW _ _ _ l w ((Bx r) w d) hl JY) fun _ e W d ⟨m,c2,he,ho,J⟩=>⟨_,_,he,d.own ho J,?_⟩
 refine K ?_;refine Af (iK Il (fun w d=>(Df.sat d).b) D)<|U<|Bw [Dx (Jn.zero 8).l] fun h=>U<|Bk 0 0 1 D D D<|?_;refine K ?_;refine DL (fun k a W=>∃j,k=((AL.Md l).length+64 - 64*j)∧AH 42 a (Jb (Jb (Jb (Jb Jk 2 (S g)) 3 (I m ((AL.Md l).length) c2)) 4 (S h)) 5 (E (64*j)))∧Sat C1 w [O h [Dx (AL.GO AL.IP (AL.Md l) j).l] 234,Ae 5 1 (I m ((AL.Md l).length) c2) ((AL.Md l).length) (bv (AL.Md l)),O g [Ak 32] 136] W∧64*j≤(AL.Md l).length) (fun a W f d=>⟨0,D,AY f,d.pick [0,1,2],JY⟩) ?_;rintro _ a W ⟨j,rfl,f,d,hj⟩;revert a W;refine K ?_;refine Cr B7 D<|Ej D D<|Jg<|Jf<|Cz D (fun s=>?_) fun s=>?_
 ·
  refine K ?_;refine U<|BP XJ D (fun w d=>kp _ ((AL.Md l).length) _ (64*j) (AL.Md l) w ((BZ 1) w d) D JY JY)<|U<|Bw [Dx (Jn.zero 64).l] fun A=>U<|Bk 0 0 1 D D D<|?_;refine Jg<|Jf<|Jh<|Af (BN Il 1 D D)<|Af (BN DY 0 D D)<|U<|BP ru D (fun w d=>oa (AL.GO AL.IP (AL.Md l) j) (AL.DO ((AL.Md l).drop (64*j)) 48) w (Df.sat d))<|U<|Bk 1 0 1 D D D<|?_;refine Jg<|FO 1 [Dx (AL.GO AL.IP (AL.Md l) (j+1)).l] D (by rw[AL.jO,AL.PB];rfl)<|K ?_;refine B6 (q:=64) D D<|K ?_;exact fun a W f d=>⟨_,JY,j+1,D,AY f,d.pick [1,2,3],JY⟩
 refine K ?_;refine U<|Bw [Ak 32] fun o=>K ?_;have t:j=(AL.Md l).length/64:=JY;refine DL (fun k a W=>∃i,k=32 - i∧AH 42 a (Jb (Jb (Jb (Jb Jk 2 (S g)) 4 (S h)) 7 (S o)) 8 (E i))∧Sat C1 w [O o [bv (AL.QS (AL.GO AL.IP (AL.Md l) j) i).l] 136,O h [Dx (AL.GO AL.IP (AL.Md l) j).l] 234,O g [Ak 32] 136] W∧i≤32) (fun a W f d=>⟨0,D,AY f,d.pick [0,1,3],JY⟩) ?_;rintro _ a W ⟨i,rfl,f,d,V⟩;revert a W;refine K ?_;refine Ej D D<|Jg<|Jf<|Cz D (fun u=>?_) fun u=>?_
 ·
  refine K ?_;refine Af (Iy (q:=4) D D)<|Af (D9 Il 1 (i/4) (i/4) D D)<|Af (HA Wz 1 0 (i/4) D D D)<|Jd D<|Af (GG (q:=4) D D)<|Af (E3 (p:=8) D D)<|Es (p:=24) D D<|Af (Gg AF K1 D)<|Af (KO (24 - 8*(i % 4)).toUInt32 D D (s_ JY) JY)<|Af (Lj Wz BV D)<|Af (D9 Nl 1 i i D D)<|U<|eQ 0 0 i (((AL.GO AL.IP (AL.Md l) j).l.getD (i/4) 0>>>(24 - 8*(i % 4)).toUInt32).toUInt8) D D D fun B v=>Jg<|?_;refine FO 0 [bv (AL.QS (AL.GO AL.IP (AL.Md l) j) (i+1)).l] D (by rw[v];rfl)<|K ?_;refine B6 (q:=1) D D<|K ?_;exact fun a W f d=>⟨_,JY,i+1,D,AY f,d.pick [0,1,2],JY⟩
 refine K ?_;refine Af (BN Nl 0 D D)<|U<|Bk 2 0 1 D D D<|?_;refine Jg<|Jf<|Jq<|Fq Nl 2 D D fun W d=>?_;obtain rfl:i=32:=JY;rw[AL.oG,←t];exact⟨D,d.A0⟩
theorem rQ(d:Jc)(n:Nat)(w:World):Calls lp 114 #[rS [bv d.l],E n] w (sM w (rS [bv (AL.cut d.l n).l])):=by
 refine Cg w bz D 16<|Je<|Jh<|U<|Cv D fun e=>U<|Bw [Ak 32] fun f=>K ?_;refine FO 1 [bv (AL.Y8 d n 0).l] D (by rw[AL.lv])<|DL (fun g a W=>∃i,g=32 - i∧AH 16 a (Jb (Jb (Jb (Jb Jk 1 (E n)) 2 (S e)) 4 (S f)) 5 (E i))∧Sat C1 w [O f [Ak 32] 136,O e [bv (AL.Y8 d n i).l] 136] W∧i≤32) (fun a W c b=>⟨0,D,AY c,b.pick [0,1],JY⟩) ?_;rintro _ a W ⟨i,rfl,c,b,V⟩;revert a W;refine K ?_;refine Ej D D<|Jg<|Jf<|Cz D (fun h=>?_) fun h=>?_
 ·
  refine K ?_;refine dE D D<|Jg<|Jf<|Cz D (fun j=>?_) fun j=>?_
  ·
   refine Jh<|Jd D<|Af (D9 Nl 1 i i D D)<|U<|eQ 1 0 i 0 D D D fun m k=>Jg<|?_;refine FO 1 [bv (AL.Y8 d n (i+1)).l] D (by rw[k,AL.rI JY JY];rfl)<|K ?_;refine B6 (q:=1) D D<|K ?_;exact fun a W c b=>⟨_,JY,i+1,D,AY c,b.pick [0,1],JY⟩
  refine FO 1 [bv (AL.Y8 d n (i+1)).l] D (by rw[AL.kr JY])<|K ?_;refine B6 (q:=1) D D<|K ?_;exact fun a W c b=>⟨_,JY,i+1,D,AY c,b.pick [0,1],JY⟩
 refine K ?_;refine Af (BN Nl 1 D D)<|U<|Bk 0 0 1 D D D<|?_;refine Jg<|Jf<|Jq<|Fq Nl 0 D D fun W b=>?_;obtain rfl:i=32:=JY;rw[←AL.mH];exact⟨D,b.A0⟩
theorem Oz{ss:List (List Value)}{m n:Nat}(h:ss.flatten.length=m:=by exact Jp)(e:m=n:=by rfl):(rS ss).cells.size=n:=by subst e;subst h;simp[Value.cells,flat]
theorem tg{Bo:Type}{a:Bo→List Value}{x:Bo}{ss:List (List Value)}(h:a x=ss.flatten):(rS ss).cells.toList=Aq a [x]:=by simp[Value.cells,flat,Aq,h]
theorem pK(x:Jc):EJ x=[bv x.l].flatten:=rfl
theorem sm(x:Jc):∀u∈EJ x,u.oneCell'=true:=OR (.row x.row .nil)
theorem RT{l:rG}(h:i<l.length):l.take i++[l.getD i 0]=l.take (i+1):=by
 rw[Ol,Dm,F3 h];rfl
def SS(W n:Nat):List Jc:=(List.range n).map (AL.bare W)
theorem oS(W n:Nat):SS W n++[AL.bare W n]=SS W (n+1):=by unfold SS;rw[Qt,l8];rfl
theorem ma{W n:Nat}:(SS W n).length=n:=by unfold SS;rw[MU,Wv]
theorem QB{W n j:Nat}{x:Jc}(h:(SS W n)[j]? =some x):x=AL.bare W j:=by
 unfold SS at h;rw[ti]at h;cases hr:(List.range n)[j]? with
 |none=>rw[hr]at h;cases h
 |some i=>
  rw[hr]at h;obtain⟨h1,a⟩:=EH.1 hr;rw[cZ]at a;subst a;exact(Option.some.inj h).symm
theorem k8{l:rG}(h:¬255<i):Ea l i=(l.getD (i/8) 0).toNat/2^(7 - i % 8) % 2:=by unfold Ea;rw[if_neg h]
theorem oZ{k d:Jc}{h:Nat}(a:Ea k.l (255 - h)=0):AL.Gr w k d (h+1)=AL.ER w (AL.Gr w k d h) (AL.bare w h):=by rw[AL.Gr,if_pos a]
theorem rl{k d:Jc}{h:Nat}(a:¬Ea k.l (255 - h)=0):AL.Gr w k d (h+1)=AL.ER w (AL.bare w h) (AL.Gr w k d h):=by rw[AL.Gr,if_neg a]
theorem oF(n BU V:Nat)(w:World)(h1:BU≤n:=by omega)(b:n≤V:=by omega):Calls lp 148 #[E n,E BU,E V] w (sM w (E n)):=by
 refine Cg w c4 D 16<|K ?_;refine Ej D D<|Jg<|Jf<|CR 9 D (congrArg Value.bool (decide_eq_false JY))<|K ?_;refine Mp D D<|Jg<|Jf<|CR 13 D (congrArg Value.bool (decide_eq_false JY))<|A7 ?_;exact fun W a=>⟨D,a.A0⟩
theorem pG(x:Jc)(q:Option Addr)(m c:Nat)(l:rG)(w:World)(o:View w (I q m c) m 1 (bv l))(hl:l.length=m)(hm:m≤1048576):Calls lp 153 #[rS [bv x.l],I q m c] w fun e W=>∃p r,e=.returned (.slice p (1+32+m) r)∧W.ownsRow w.heap.size 5 1 (.slice p (1+32+m) r) (1+32+m) (bv (AL.Pt x l))∧Below w.heap.size w W:=by
 refine Cg w O_ D 33<|Je<|Jh<|U<|Cv D fun s=>K ?_;refine U<|Ey A3 (bv [0]) D D D fun v=>K ?_;refine DL (fun f a W=>∃i g j,f=32 - i∧AH 33 a (Jb (Jb (Jb (Jb (Jb Jk 1 (I q m c)) 2 (S s)) 4 (I none 0 0)) 6 (E i)) 5 (I g (1+i) j))∧Sat C1 w [Ae 5 1 (I g (1+i) j) (1+i) (bv (0::x.l.take i)),O s [bv x.l] 48] W∧i≤32) (fun a W d b=>⟨0,_,_,D,AY d,b.pick [0,1],JY⟩) ?_;rintro _ a W ⟨i,g,j,rfl,d,b,V⟩;revert a W;refine K ?_;refine Ej D D<|Jg<|Jf<|Cz D (fun t=>?_) fun t=>?_
 ·
  refine K ?_;refine Af (D9 CI 1 i i D D)<|Af (K3 BV 1 0 i D D D)<|U<|Ey A3 (bv [x.l.getD i 0]) D D D fun y=>U<|DI (m:=1) A3 1 (bv ((0::x.l.take i)++([x.l.getD i 0]))) D D D (BZ 0) (Eo _) (EL (l':=[x.l.getD i 0]) D) D fun z A=>Js D<|Jg<|Tf 1 (bv ((0::x.l.take i)++([x.l.getD i 0]))) (bv (0::x.l.take (i+1))) (by rw[HR,RT (by rw[x.h];omega)])<|K ?_;refine B6 (q:=1) D D<|K ?_;exact fun a W d b=>⟨_,JY,i+1,_,_,D,AY d,b.pick [1,2],JY⟩
 refine K ?_;obtain rfl:i=32:=JY;refine Tf 0 (bv (0::x.l.take 32)) (bv (0::(x.l++l.take 0))) (by rw[Jaa,Ha,DV (Mk x.h)])<|DL (fun f a W=>∃i k n,f=m - i∧AH 33 a (Jb (Jb (Jb (Jb Jk 1 (I q m c)) 4 (I none 0 0)) 7 (E i)) 5 (I k (1+32+i) n))∧Sat C1 w [Ae 5 1 (I k (1+32+i) n) (1+32+i) (bv (0::(x.l++l.take i)))] W∧i≤m) (fun a W d b=>⟨0,_,_,D,AY d,b.pick [0],JY⟩) ?_;rintro _ a W ⟨i,k,n,rfl,d,b,V⟩;revert a W;refine K ?_;refine Cr B7 D<|Ej D D<|Jg<|Jf<|Cz D (fun u=>?_) fun u=>?_
 ·
  refine K ?_;refine Af (Dj A3 i i (Bx o) D D)<|Af (Fj BV i (Bx o) D)<|U<|Ey A3 (bv [l.getD i 0]) D D D fun B=>U<|DI (m:=1) A3 1 (bv (0::(x.l++l.take i)++([l.getD i 0]))) D D D (BZ 0) (Eo _) (EL (l':=[l.getD i 0]) D) D fun C F=>Js D<|Jg<|Tf 1 (bv (0::(x.l++l.take i)++([l.getD i 0]))) (bv (0::(x.l++l.take (i+1)))) (by rw[HR,C9,RT JY])<|K ?_;refine B6 (q:=1) D D<|K ?_;exact fun a W d b=>⟨_,JY,i+1,_,_,D,AY d,b.pick [1],JY⟩
 refine A7 ?_;intro W b;obtain rfl:i=m:=JY;rw[show AL.Pt x l=0::(x.l++l.take i)from by rw[DV (Mk hl)];rfl];exact⟨_,_,D,b.DQ 0,b.A0⟩
theorem r4(k:Nat)(x y:Jc)(w:World)(z:k≤32):Calls lp 115 #[E k,rS [bv x.l],rS [bv y.l]] w fun e W=>∃r s,e=.returned (.slice r (1+k+k) s)∧W.ownsRow w.heap.size 5 1 (.slice r (1+k+k) s) (1+k+k) (bv (AL.QL k x y))∧Below w.heap.size w W:=by
 refine Cg w hx D 37<|Je<|Jh<|U<|Cv D fun t=>U<|Cv D fun d=>K ?_;refine U<|BP c4 D (fun w b=>oF k 0 32 w)<|K ?_;refine U<|Ey A3 (bv [1]) D D D fun A=>K ?_;refine DL (fun f a W=>∃i g n,f=k - i∧AH 37 a (Jb (Jb (Jb (Jb (Jb (Jb Jk 4 (S t)) 5 (S d)) 6 (I none 0 0)) 7 (E k)) 9 (E i)) 8 (I g (1+i) n))∧Sat C1 w [Ae 5 1 (I g (1+i) n) (1+i) (bv (1::x.l.take i)),O d [bv y.l] 136,O t [bv x.l] 136] W∧i≤k) (fun a W c b=>⟨0,_,_,D,AY c,b.pick [0,1,2],JY⟩) ?_;rintro _ a W ⟨i,g,n,rfl,c,b,V⟩;revert a W;refine K ?_;refine Ej D D<|Jg<|Jf<|Cz D (fun u=>?_) fun u=>?_
 ·
  refine K ?_;refine Af (D9 Nl 1 i i D D)<|Af (K3 BV 2 0 i D D D)<|U<|Ey A3 (bv [x.l.getD i 0]) D D D fun B=>U<|DI (m:=1) A3 1 (bv ((1::x.l.take i)++([x.l.getD i 0]))) D D D (BZ 0) (Eo _) (EL (l':=[x.l.getD i 0]) D) D fun C F=>Js D<|Jg<|Tf 1 (bv ((1::x.l.take i)++([x.l.getD i 0]))) (bv (1::x.l.take (i+1))) (by rw[HR,RT (by rw[x.h];omega)])<|K ?_;refine B6 (q:=1) D D<|K ?_;exact fun a W c b=>⟨_,JY,i+1,_,_,D,AY c,b.pick [1,2,3],JY⟩
 refine K ?_;obtain rfl:i=k:=JY;refine Tf 0 (bv (1::x.l.take i)) (bv (1::(x.l.take i++y.l.take 0))) (by rw[Jaa,Ha])<|DL (fun f a W=>∃j o p,f=i - j∧AH 37 a (Jb (Jb (Jb (Jb (Jb Jk 5 (S d)) 6 (I none 0 0)) 7 (E i)) 10 (E j)) 8 (I o (1+i+j) p))∧Sat C1 w [Ae 5 1 (I o (1+i+j) p) (1+i+j) (bv (1::(x.l.take i++y.l.take j))),O d [bv y.l] 136] W∧j≤i) (fun a W c b=>⟨0,_,_,D,AY c,b.pick [0,1],JY⟩) ?_;rintro _ a W ⟨j,o,p,rfl,c,b,hj⟩;revert a W;refine K ?_;refine Ej D D<|Jg<|Jf<|Cz D (fun v=>?_) fun v=>?_
 ·
  refine K ?_;refine Af (D9 Nl 1 j j D D)<|Af (K3 BV 1 0 j D D D)<|U<|Ey A3 (bv [y.l.getD j 0]) D D D fun G=>U<|DI (m:=1) A3 1 (bv (1::(x.l.take i++y.l.take j)++([y.l.getD j 0]))) D D D (BZ 0) (Eo _) (EL (l':=[y.l.getD j 0]) D) D fun H J=>Js D<|Jg<|Tf 1 (bv (1::(x.l.take i++y.l.take j)++([y.l.getD j 0]))) (bv (1::(x.l.take i++y.l.take (j+1)))) (by rw[HR,C9,RT (by rw[y.h];omega)])<|K ?_;refine B6 (q:=1) D D<|K ?_;exact fun a W c b=>⟨_,JY,j+1,_,_,D,AY c,b.pick [1,2],JY⟩
 refine A7 ?_;intro W b;obtain rfl:j=i:=JY;rw[show AL.QL j x y=1::(x.l.take j++y.l.take j)from D];exact⟨_,_,D,b.DQ 0,b.A0⟩
theorem n_(q:Option Addr)(m c:Nat)(l:rG)(k:Nat)(w:World)(Df:Ld w)(b:View w (I q m c) m 1 (bv l))(hl:l.length=m)(hm:m≤2097152:=by omega):Calls lp 82 #[I q m c,E k] w (sM w (rS [bv (AL.cut (AL.Lz l).l k).l])):=by
 refine Cg w KJ D 11<|Je<|Jh<|U<|Bw [Ak 32] fun d=>K ?_;refine U<|BP Uv D (fun w a=>kk _ _ _ l w (Df.sat a) ((Bx b) w a) hl JY)<|U<|Bw [Ak 32] fun e=>U<|Bk 0 0 1 D D D<|?_;refine K ?_;refine Af (BN Nl 0 D D)<|Jd D<|U<|BP bz D (fun w a=>rQ (AL.Lz l) k w)<|U<|Bk 1 0 1 D D D<|?_;refine Jg<|Jf<|Jq<|Fq Nl 1 D D fun W a=>?_;exact⟨D,a.A0⟩
theorem kb(k:Nat)(x y:Jc)(w:World)(Df:Ld w)(c:k≤32:=by omega):Calls lp 83 #[E k,rS [bv x.l],rS [bv y.l]] w (sM w (rS [bv (AL.ER k x y).l])):=by
 refine Cg w NN D 15<|Je<|Jh<|U<|Cv D fun d=>U<|Cv D fun f=>U<|Bw [Ak 32] fun g=>K ?_;refine Af (BN Nl 2 D D)<|Af (BN Nl 1 D D)<|U<|Ba hx D (fun w a=>r4 k x y w JY) fun _ e W a ⟨h,i,he,b,J⟩=>⟨_,_,he,a.own b J,?_⟩
 refine K ?_;refine U<|BP KJ D (fun w a=>n_ _ _ _ (AL.QL k x y) k w (Df.sat a) ((BZ 0) w a) (De (a.rw 0)))<|U<|Bk 1 0 1 D D D<|?_;refine Jg<|Jf<|Jq<|Fq Nl 1 D D fun W a=>?_;exact⟨D,a.A0⟩
theorem pw(k:Nat)(x:Jc)(q:Option Addr)(m c:Nat)(l:rG)(w:World)(Df:Ld w)(b:View w (I q m c) m 1 (bv l))(hl:l.length=m)(hm:m≤1048576:=by omega):Calls lp 125 #[E k,rS [bv x.l],I q m c] w (sM w (rS [bv (AL.leaf k x l).l])):=by
 refine Cg w Lh D 14<|Je<|Jh<|U<|Cv D fun f=>U<|Bw [Ak 32] fun g=>K ?_;refine Af (BN CI 1 D D)<|Jd D<|U<|Ba O_ D (fun w a=>pG x _ _ _ l w ((Bx b) w a) hl JY) fun _ e W a ⟨h,i,he,d,J⟩=>⟨_,_,he,a.own d J,?_⟩
 refine K ?_;refine U<|BP KJ D (fun w a=>n_ _ _ _ (AL.Pt x l) k w (Df.sat a) ((BZ 0) w a) (De (a.rw 0)))<|U<|Bk 1 0 1 D D D<|?_;refine Jg<|Jf<|Jq<|Fq Nl 1 D D fun W a=>?_;exact⟨D,a.A0⟩
theorem oI(k:Nat)(w:World)(Df:Ld w)(p:k≤32:=by omega):Calls lp 51 #[E k] w fun e W=>∃g i,e=.returned (I g 257 i)∧W.ownsRow w.heap.size 136 32 (I g 257 i) 257 (Aq EJ (SS k 257))∧Below w.heap.size w W:=by
 refine Cg w Si D 24<|K ?_;refine U<|Ey A3 (bv [2]) D D D fun r=>Jd D<|U<|BP KJ D (fun w b=>n_ _ _ _ ([2]) k w (Df.sat b) ((BZ 0) w b) (De (b.rw 0)))<|U<|Bw [Ak 32] fun j=>U<|Bk 0 0 1 D D D<|?_;refine K ?_;refine Af (BN Nl 0 D D)<|U<|Ey Kt (Aq EJ [AL.cut (AL.Lz ([2])).l k]) D (tg (pK _)) Oz fun s=>K ?_;refine DL (fun n a W=>∃h d f,n=256 - h∧AH 24 a (Jb (Jb (Jb (Jb (Jb Jk 0 (E k)) 2 (I none 0 0)) 3 (S j)) 5 (E h)) 4 (I d (1+h) f))∧Sat C1 w [Ae 136 32 (I d (1+h) f) (1+h) (Aq EJ (SS k (1+h))),O j [bv (AL.bare k h).l] 136] W∧h≤256) (fun a W c b=>⟨0,_,_,D,AY c,b.pick [0,1],JY⟩) ?_;rintro _ a W ⟨h,d,f,rfl,c,b,t⟩;revert a W;refine K ?_;refine Ej D D<|Jg<|Jf<|Cz D (fun o=>?_) fun o=>?_
 ·
  refine K ?_;refine Af (BN Nl 1 D D)<|Af (BN Nl 1 D D)<|U<|BP NN D (fun w b=>kb k (AL.bare k h) (AL.bare k h) w (Df.sat b))<|U<|Bk 1 0 1 D D D<|?_;refine Jg<|FO 1 [bv (AL.bare k (h+1)).l] D D<|K ?_;refine Af (BN Nl 1 D D)<|U<|Ey Kt (Aq EJ [AL.bare k (h+1)]) D (tg (pK _)) Oz fun u=>U<|DI (m:=1) Kt 1 (Aq EJ (SS k (1+h)++([AL.bare k (h+1)]))) D D D (BZ 0) (HJ sm _) (H0 Hh D) D fun v x=>Js D<|Jg<|Tf 1 (Aq EJ (SS k (1+h)++([AL.bare k (h+1)]))) (Aq EJ (SS k (1+(h+1)))) (by rw[show AL.bare k (h+1)=AL.bare k (1+h)from congrArg _ (j7 _ _),oS];rfl)<|K ?_;refine B6 (q:=1) D D<|K ?_;exact fun a W c b=>⟨_,JY,h+1,_,_,D,AY c,b.pick [1,2],JY⟩
 refine A7 ?_;intro W b;obtain rfl:h=256:=JY;exact⟨_,_,D,b.DQ 0,b.A0⟩
theorem kh(k:Jc)(i:Nat)(w:World)(V:i<256):Calls lp 151 #[rS [bv k.l],E i] w (sM w (E (Ea k.l i))):=by
 have g:=Cj (k.l.getD (i/8) 0);refine Cg w Nc D 22<|Je<|Jh<|U<|Cv D fun h=>K ?_;refine Af (Iy (q:=8) D D)<|Af (D9 CI 1 (i/8) (i/8) D D)<|Af (K3 BV 0 0 (i/8) D D D)<|Af (Gg BV AF D)<|K ?_;refine Af (GG (q:=8) D D)<|K ?_;refine CR 5 D (show _=(E ((k.l.getD (i/8) 0).toNat/2^0))from by rw[Ry,kB])<|DL (fun e a W=>∃d,e=7 - (i % 8+d)∧AH 22 a (Jb (Jb (Jb Jk 4 (E 0)) 6 (E (i % 8+d))) 5 (E ((k.l.getD (i/8) 0).toNat/2^d)))∧Sat C1 w [] W∧i % 8+d≤7∧(k.l.getD (i/8) 0).toNat/2^d≤255) (fun a W c b=>⟨0,D,AY c,b.pick [],JY,by have:=gE (k.l.getD (i/8) 0).toNat (2^0);omega⟩) ?_;rintro _ a W ⟨d,rfl,c,b,Ad,j⟩;revert a W;refine K ?_;refine Ej D D<|Jg<|Jf<|Cz D (fun f=>?_) fun f=>?_
 ·
  refine K ?_;refine Af (Iy (q:=2) D D)<|Js D<|Jg<|CR 5 D (show _=(E ((k.l.getD (i/8) 0).toNat/2^(d+1)))from by rw[fW,tW])<|K ?_;refine B6 (q:=1) D D<|K ?_;exact fun a W c b=>⟨_,JY,d+1,D,AY c,b.pick [],JY,by have:=gE (k.l.getD (i/8) 0).toNat (2^(d+1));omega⟩
 refine K ?_;refine Af (GG (q:=2) D D)<|A7 ?_;intro W b;obtain rfl:d=7 - i % 8:=JY;rw[k8 JY];exact⟨D,b.A0⟩
theorem qT(q:Option Addr)(c wd:Nat)(k d:Jc)(e:Nat)(w:World)(Df:Ld w)(hw:wd≤32)(g:View w (I q 257 c) 257 32 (Aq EJ (SS wd 257)))(x:e≤256):Calls lp 122 #[I q 257 c,E wd,rS [bv k.l],E 0,rS [bv d.l],E e] w (sM w (rS [bv (AL.Gr wd k (AL.cut d.l wd) e).l])):=by
 refine Cg w Pk D 51<|Je<|Jh<|U<|Cv D fun i=>U<|Cv D fun j=>U<|Bw [Ak 32] fun m=>K ?_;refine U<|BP c4 D (fun w b=>oF 0 0 256 w)<|K ?_;refine U<|BP c4 D (fun w b=>oF e 0 256 w)<|K ?_;refine Af (BN Nl 1 D D)<|Jd D<|U<|BP bz D (fun w b=>rQ d wd w)<|U<|Bk 1 0 1 D D D<|?_;refine K ?_;refine DL (fun t a W=>∃h,t=e - h∧AH 51 a (Jb (Jb (Jb (Jb (Jb (Jb (Jb Jk 0 (I q 257 c)) 1 (E wd)) 8 (S i)) 10 (S j)) 12 (S m)) 14 (E e)) 15 (E h))∧Sat C1 w [O m [Ak 32] 136,O j [bv (AL.Gr wd k (AL.cut d.l wd) h).l] 136,O i [bv k.l] 48] W∧h≤e) (fun a W f b=>⟨0,D,AY f,b.pick [0,1,2],JY⟩) ?_;rintro _ a W ⟨h,rfl,f,b,y⟩;revert a W;refine K ?_;refine Ej D D<|Jg<|Jf<|Cz D (fun u=>?_) fun u=>?_
 ·
  refine K ?_;refine Af (BN CI 2 D D)<|Jd D<|Es (p:=255) D D<|U<|BP Nc D (fun w b=>kh k (255 - h) w JY)<|K ?_;refine E2 D D<|Jg<|Jf<|Cz D (fun v=>?_) fun v=>?_
  ·
   refine DD 6<|zs (AA D)<|zs (BN Nl 1 D D)<|zs (AA D)<|zs (AA D)<|Kz ma h fun n o=>zs (Dj Kt h (h*32) (Bx g) D D)<|zs (LH Nl Hh h 0 1 [bv n.l] o (Bx g) D D)<|CS<|U<|BP NN D (fun w b=>kb wd (AL.Gr wd k (AL.cut d.l wd) h) n w (Df.sat b))<|U<|Bk 1 0 1 D D D<|?_;refine Jg<|?_;refine FO 1 [bv (AL.Gr wd k (AL.cut d.l wd) (h+1)).l] D (by rw[oZ JY,QB o];rfl)<|K ?_;refine B6 (q:=1) D D<|K ?_;exact fun a W f b=>⟨_,JY,h+1,D,AY f,b.pick [0,1,2],JY⟩
  refine DD 6<|zs (AA D)<|zs (AA D)<|zs (AA D)<|Kz ma h fun r s=>zs (Dj Kt h (h*32) (Bx g) D D)<|zs (LH Nl Hh h 0 1 [bv r.l] s (Bx g) D D)<|zs (BN Nl 1 D D)<|CS<|U<|BP NN D (fun w b=>kb wd r (AL.Gr wd k (AL.cut d.l wd) h) w (Df.sat b))<|U<|Bk 1 0 1 D D D<|?_;refine Jg<|?_;refine FO 1 [bv (AL.Gr wd k (AL.cut d.l wd) (h+1)).l] D (by rw[rl JY,QB s];rfl)<|K ?_;refine B6 (q:=1) D D<|K ?_;exact fun a W f b=>⟨_,JY,h+1,D,AY f,b.pick [0,1,2],JY⟩
 refine K ?_;refine Af (BN Nl 1 D D)<|U<|Bk 0 0 1 D D D<|?_;refine Jg<|Jf<|Jq<|Fq Nl 0 D D fun W b=>?_;obtain rfl:h=e:=JY;exact⟨D,b.A0⟩
