/- Laws and walks on the road to SalvageClean (part M06). No conditions beyond each law's own. -/
import Derived.Test.YtaapafoibofbjaaGreatDoorM01
import Derived.Test.YtaapafoibofbjaaGreatDoorM05
import Derived.Test.YtaapafoibofbjaaGreatDoorM04
set_option linter.unusedVariables false
namespace Go.Proofs.YtaapafoibofbjaaGreatDoor
open Go.RowKit Go.Maps
set_option maxRecDepth 100000
set_option maxHeartbeats 1600000
variable {n tb Bi:Nat} {w W:World} {cs:Array Value}
def Hm(w w':World)(tb Bi n:Nat)(cs:Array Value)(T:TypeId):Prop:=
 ∃a,w.grownBy w' (some tb)∧w'.heap[tb]? =some (.cells a T (0,0))∧TabIs w' tb Bi n a∧a.size=cs.size∧∀j,j<Bi∨Bi+3<j→a[j]? =cs[j]?
theorem TabIs.kept(h:TabIs w tb Bi n cs)(J:∀k,k<w.heap.size→(∃es c,w.heap[k]? =some (.map es c))→W.heap[k]? =w.heap[k]?):TabIs W tb Bi n cs:=by
 refine⟨h.1,?_⟩
 rcases h.2 with h1|⟨Al,h1,b,a⟩
 ·exact .inl h1
 ·have hl:=a.lt
  have d:=a
  obtain⟨es,c,q,_⟩:=d
  exact .inr ⟨Al,h1,b,Kb a (J Al hl ⟨es,c,q⟩)⟩
theorem TabIs.below(h:TabIs w tb Bi n cs)(b:Below w.heap.size w W):TabIs W tb Bi n cs:=h.kept fun k a _=>b.block k a
theorem Hm.size{w':World}{T:TypeId}(h:Hm w w' tb Bi n cs T):w.heap.size≤w'.heap.size:=by
 obtain⟨a,g,_⟩:=h
 exact g.size
theorem Hm.below{w':World}{T:TypeId}(h:Hm w w' tb Bi n cs T)(hl:tb<w.heap.size)(b:Below w'.heap.size w' W):Hm w W tb Bi n cs T:=by
 obtain⟨a,g,h1,c,d⟩:=h
 exact⟨a,H_ g b,(b.block tb (by have:=g.size;omega)).trans h1,c.below b,d⟩
theorem Hm.other{w':World}{k:Nat}{T:TypeId}(h:Hm w w' tb Bi n cs T)(g:w'.grownBy W (some k))(a:w.heap.size≤k)(b:tb≠k)(d:∃c t,w'.heap[k]? =some (.cells c t (0,0))):Hm w W tb Bi n cs T:=by
 obtain⟨f,i,h1,l,m⟩:=h
 obtain⟨c,t,hr⟩:=d
 refine⟨f,Sk i g a,Bn g h1 b,l.kept fun j hj ⟨es,As,hm⟩=>g.block j hj ?_,m⟩
 intro e
 cases e
 rw[hr]at hm
 cases hm
def Mc(n d:Nat):Value:=match At.last (At.EG n) d with|some j=>.tuple #[.int .i64 (j:Int),.bool true]|none=>.tuple #[.int .i64 0,.bool false]
theorem a_{d Al:Nat}{c:Int}(a:(At.Fa (At.EG n) (.map []:DataW Unit)).atKey (.int .u32 (d:Int)) (.lit (.int .i64 0))=.lit (.int .i64 c)):
 Value.tuple #[.int .i64 c,.bool (Maps.has (At.Fa (At.EG n) (.map []:DataW Unit)) (.int .u32 (d:Int)))]=Mc n d:=by
 obtain⟨h1,f⟩:=At.look (H:=Unit) (At.EG n) d
 rw[f]at a
 rw[h1]
 unfold Mc
 cases hl:At.last (At.EG n) d with
 |none=>
  rw[hl]at a
  simp only at a
  injection a with e
  injection e with g b
  rw[b]
  rfl
 |some j=>
  rw[hl]at a
  simp only at a
  injection a with e
  injection e with g b
  rw[←b]
  rfl
theorem find_spec(tb Bi n d:Nat)(cs:Array Value)(T:TypeId)(w:World)(r:w.heap[tb]? =some (.cells cs T (0,0)))(K:TabIs w tb Bi n cs)(h1:1≤n)(L:n≤4096)(Ad:d<4294967296):
 Calls Tryz.prog 75 #[.pointer (some ⟨tb,Bi,none⟩),.int .i64 n,.int .u32 d] w fun e w'=>e=.returned (Mc n d)∧Hm w w' tb Bi n cs T:=by
 have S:tb<w.heap.size:=(Array.getElem?_eq_some_iff.1 r).1
 have U:∀(fn:Fn) (first cap:Array Value) (w:World),(Instr.makeFunc fn first cap).run Tryz.prog w=.ok (.func fn first cap) w:=fun _ _ _ _=>rfl
 have M:=AX r
 clear r
 go_enter bB,Tryz.ntmps75
 go_wp2_with (with_reducible refine OP 183 ?_)
 refine⟨Ob D 183 (.tmp 0) D D ?_⟩
 intro i N s t
 simp only[Value.cells]at s
 have z:=AX s
 have V:w.heap.size+1≤i.heap.size:=by omega
 clear s N
 go_wp2_with (with_reducible refine OP 3 ?_)
 refine⟨Ob D 3 (.tmp 1) D D ?_⟩
 intro a O u k
 simp only[Value.cells]at u
 have A:=AX u
 have l:Hid (a.heap[w.heap.size]? =some (.cells #[.pointer (some ⟨tb,Bi,none⟩)] 183 (0,0))):=AX ((k.block _ (by omega)).trans z.out)
 have o:Hid (a.heap[tb]? =some (.cells cs T (0,0))):=AX ((k.block _ (by omega)).trans ((t.block _ (by omega)).trans M.out))
 have B:w.grownBy a (some tb):=H_ (H_ (NG w (some tb)) t) k
 have W:i.heap.size+1≤a.heap.size:=by omega
 clear u O
 have Kk:a.cell? ⟨w.heap.size,0,none⟩=some (.pointer (some ⟨tb,Bi,none⟩)):=IM (j:=0) l.out D
 obtain⟨v,C⟩:=K
 have Au:Calls Tryz.prog 113 #[.pointer (some ⟨tb,Bi,none⟩),.func (.func 114) #[] #[.pointer (some ⟨i.heap.size,0,none⟩),.pointer (some ⟨w.heap.size,0,none⟩)]] a fun e w'=>∃Al b,e=.returned (.tuple #[])∧a.grownBy w' (some tb)∧
  w'.heap[tb]? =some (.cells b T (0,0))∧b[Bi]? =some (.int .u32 1)∧b[Bi+3]? =some (.map (some Al))∧b.size=cs.size∧(∀j,j<Bi∨Bi+3<j→b[j]? =cs[j]?)∧w'.ownsMap Tryz.prog 72 (plainElem (H:=Unit) Tryz.prog 3) Al (8*n+32) (At.Fa (At.EG n) (.map [])):=by
  rcases C with⟨f,P⟩|⟨Al,f,h,m⟩
  ·refine(db i.heap.size w.heap.size tb Bi n cs T a A.out l.out o.out v (by omega) (by omega) h1 L f P).mono ?_
   rintro e w' ⟨Al,rfl,g,_,q,m⟩
   exact⟨Al,H9 cs Bi Al,D,g,q,fI _ _ _ v,hv _ _ _ v,fZ _ _ _,fun j hj=>aJ _ _ _ _ (by omega) (by omega) (by omega),m⟩
  ·refine(eO tb Bi _ a (by rw[cell_of_row _ _ _ _ _ _ o.out];exact f)).mono ?_
   rintro e w' ⟨rfl,rfl⟩
   have lm:=m.lt
   exact⟨Al,cs,D,NG _ _,o.out,f,h,D,fun _ _=>rfl,Kb m ((k.block _ (by omega)).trans (t.block _ lm))⟩
 clear C
 go_wp2_with (first|(go_at_call 113;with_reducible refine C_ ?_))
 refine⟨Au.mono ?_⟩
 rintro e p ⟨Al,b,rfl,x,y,f,h,E,G,I⟩
 clear Kk
 have Kk:p.cell? ⟨w.heap.size,0,none⟩=some (.pointer (some ⟨tb,Bi,none⟩)):=IM (j:=0) (Bn x l.out (by omega)) D
 have X:p.cell? ⟨tb,Bi+3,none⟩=some (.map (some Al)):=by rw[cell_of_row _ _ _ _ _ _ y];exact h
 have Q:Hm w p tb Bi n cs T:=⟨b,I2 B x,y,⟨by omega,.inr ⟨Al,f,h,I⟩⟩,E,G⟩
 clear y f h E G x B o l A z
 go_wp2_with (first|go_skip|(with_reducible refine gy ?_))
 refine⟨wpList_lookup_own_ok_int (H:=Unit) p D (.tmp 19) (.tmp 20) 81 D 72 3 .i64 Sq Ss AF (dO _) Al (8*n+32) _ D I (.int .u32 (d:Int)) (.int .u32 (d:Int)) D (keyOf_int_mk CI (Sr Ad)) ?_⟩
 intro c J Y
 have F:=a_ (Al:=Al) J
 clear J
 generalize Maps.has (At.Fa (At.EG n) (.map []:DataW Unit)) (.int .u32 (d:Int))=AK at F⊢
 have R:=AX F
 clear F
 go_wp2
 go_ret2
 exact⟨congrArg Ending.returned R.out,Q⟩
end Go.Proofs.YtaapafoibofbjaaGreatDoor
namespace Go.Proofs.YtaapafoibofbjaaGreatDoor
open Go.RowKit
set_option maxRecDepth 100000
set_option maxHeartbeats 1000000
theorem Gw{w:World}{b off n:Nat}{l:List UInt8}(h:Cells w b off (((bv l).drop (n*1)).take 1))(a:n<l.length:=by omega):w.cell? ⟨b,off,none⟩=some (.int .u8 (l.getD n 0).toNat):=by
 have:=h 0 (.int .u8 (l.getD n 0).toNat) (by simp[bv,List.getElem?_drop,a,List.getD_eq_getElem?_getD])
 simpa using this
theorem View.pre{w:World}{q:Option Addr}{n c:Nat}{l:List UInt8}(V:View w (.slice q n c) n 1 (bv l))(m:Nat)(hm:m≤n)(hl:n≤l.length):View w (.slice q m c) m 1 (bv (l.take m)):=by
 have a:=V.cap
 have:=(V.hd m c (by omega) (Br _) (by simp[DG];omega)).trim
 rwa[List.take_take,Nat.mul_one,Nat.mul_one,Nat.min_eq_left (by omega),Ip]at this
theorem ig(q:Option Addr)(m c:Nat)(l:List UInt8)(w:World)(V:View w (.slice q (m+4) c) (m+4) 1 (bv l))(hl:l.length=m+4)
 (a:(l.getD (m+0) 0).toNat≠At.sum (l.take m)/1 % 256):
 Calls Tryz.prog 71 #[.slice q (m+4) c] w fun e w'=>e=.returned (.bool false)∧Below w.heap.size w w':=by
 have x:=V.cap
 have z:=V.max
 have A:IntKind.i64.wrap (((m+4:Nat):Int) - 4)=(m:Int):=by
  rw[show((m+4:Nat):Int) - 4=(m:Int)by omega]
  exact IntWalk.i64_in _ (by omega)
 obtain⟨s,b⟩:∃s,s=At.sum (l.take m):=⟨_,D⟩
 have s1:s<4294967296:=by rw[b];exact At.G7 _
 rw[←b]at a
 obtain⟨h,d⟩:∃g,g=(l.getD (m+0) 0).toNat:=⟨_,D⟩
 rw[←d]at a
 have i:=AX d
 clear d
 have j:=AX a
 clear a
 have k:=AX b
 clear b
 have B:decide (((m:Nat):Int)<0)=false:=by simp
 have o:View w (.slice q m c) m 1 (bv (l.take m)):=V.pre m (by omega) (by omega)
 have p:=AX hl
 have C:m+4≤l.length:=by omega
 clear hl
 go_enter LM,Tryz.ntmps71
 go_wp2_with (with_reducible refine GQ ?_)
 refine⟨IB A3 D (.tmp 10) (.tmp 11) D (y:=q) (n:=m+4) (c:=c) D m D (by omega) ?_⟩
 go_wp2_with (first|(go_at_call 76;with_reducible refine C_ ?_))
 refine⟨(I4 q m c (l.take m) w o (by rw[List.length_take,p.out];omega)).mono ?_⟩
 rintro e r ⟨rfl,J⟩
 rw[←k.out]
 have t:=V.below J
 go_wp2_with (first|go_skip|(with_reducible refine HD 22 ?_))
 refine⟨idx A3 D (.tmp 14) (.tmp 15) D (y:=q) (n:=m+4) (c:=c) D t D (m+0) (by simp) (by omega) ?_⟩
 intro u v f _
 have E:r.cell? ⟨u,v,none⟩=some (.int .u8 h):=by rw[i.out];exact Gw f
 clear f
 go_wp2_with (first|go_skip|(with_reducible refine FM 5 ?_))
 refine⟨Hx D D D D false (by have:=j.out;simp;omega) ?_⟩
 go_wp2
 go_ret
 exact⟨D,J⟩
theorem b1(q:Option Addr)(m c:Nat)(l:List UInt8)(w:World)(V:View w (.slice q (m+4) c) (m+4) 1 (bv l))(hl:l.length=m+4)
 (a:(l.getD (m+0) 0).toNat=At.sum (l.take m)/1 % 256)(b:(l.getD (m+1) 0).toNat≠At.sum (l.take m)/256 % 256):
 Calls Tryz.prog 71 #[.slice q (m+4) c] w fun e w'=>e=.returned (.bool false)∧Below w.heap.size w w':=by
 have H:=V.cap
 have I:=V.max
 have K:IntKind.i64.wrap (((m+4:Nat):Int) - 4)=(m:Int):=by
  rw[show((m+4:Nat):Int) - 4=(m:Int)by omega]
  exact IntWalk.i64_in _ (by omega)
 obtain⟨s,d⟩:∃s,s=At.sum (l.take m):=⟨_,D⟩
 have s1:s<4294967296:=by rw[d];exact At.G7 _
 rw[←d]at a b
 obtain⟨p,f⟩:∃g,g=(l.getD (m+0) 0).toNat:=⟨_,D⟩
 rw[←f]at a
 have r:=AX f
 clear f
 have t:=AX a
 clear a
 obtain⟨u,h⟩:∃g,g=(l.getD (m+1) 0).toNat:=⟨_,D⟩
 rw[←h]at b
 have v:=AX h
 clear h
 have x:=AX b
 clear b
 have z:=AX d
 clear d
 have L:decide (((m:Nat):Int)<0)=false:=by simp
 have A:View w (.slice q m c) m 1 (bv (l.take m)):=V.pre m (by omega) (by omega)
 have B:=AX hl
 have M:m+4≤l.length:=by omega
 clear hl
 go_enter LM,Tryz.ntmps71
 go_wp2_with (with_reducible refine GQ ?_)
 refine⟨IB A3 D (.tmp 10) (.tmp 11) D (y:=q) (n:=m+4) (c:=c) D m D (by omega) ?_⟩
 go_wp2_with (first|(go_at_call 76;with_reducible refine C_ ?_))
 refine⟨(I4 q m c (l.take m) w A (by rw[List.length_take,B.out];omega)).mono ?_⟩
 rintro e i ⟨rfl,J⟩
 rw[←z.out]
 have j:=V.below J
 go_wp2_with (first|go_skip|(with_reducible refine HD 22 ?_))
 refine⟨idx A3 D (.tmp 14) (.tmp 15) D (y:=q) (n:=m+4) (c:=c) D j D (m+0) (by simp) (by omega) ?_⟩
 intro C E k _
 have N:i.cell? ⟨C,E,none⟩=some (.int .u8 p):=by rw[r.out];exact Gw k
 clear k
 go_wp2_with (first|go_skip|(with_reducible refine FM 5 ?_))
 refine⟨Hx D D D D true (by have:=t.out;simp;omega) ?_⟩
 go_wp2_with (first|go_skip|(with_reducible refine Ki 22 ?_))
 refine⟨idx A3 D (.tmp 22) (.tmp 24) D (y:=q) (n:=m+4) (c:=c) D j D (m+1) (by simp) (by omega) ?_⟩
 intro F G o _
 have O:i.cell? ⟨F,G,none⟩=some (.int .u8 u):=by rw[v.out];exact Gw o
 clear o
 go_wp2_with (first|go_skip|(with_reducible refine KI 5 ?_))
 refine⟨Hx D D D D false (by have:=x.out;simp;omega) ?_⟩
 go_wp2
 go_ret
 exact⟨D,J⟩
theorem dz(q:Option Addr)(m c:Nat)(l:List UInt8)(w:World)(V:View w (.slice q (m+4) c) (m+4) 1 (bv l))(hl:l.length=m+4)
 (a:(l.getD (m+0) 0).toNat=At.sum (l.take m)/1 % 256)(b:(l.getD (m+1) 0).toNat=At.sum (l.take m)/256 % 256)(d:(l.getD (m+2) 0).toNat≠At.sum (l.take m)/65536 % 256):
 Calls Tryz.prog 71 #[.slice q (m+4) c] w fun e w'=>e=.returned (.bool false)∧Below w.heap.size w w':=by
 have Q:=V.cap
 have R:=V.max
 have S:IntKind.i64.wrap (((m+4:Nat):Int) - 4)=(m:Int):=by
  rw[show((m+4:Nat):Int) - 4=(m:Int)by omega]
  exact IntWalk.i64_in _ (by omega)
 obtain⟨s,f⟩:∃s,s=At.sum (l.take m):=⟨_,D⟩
 have s1:s<4294967296:=by rw[f];exact At.G7 _
 rw[←f]at a b d
 obtain⟨u,h⟩:∃g,g=(l.getD (m+0) 0).toNat:=⟨_,D⟩
 rw[←h]at a
 have v:=AX h
 clear h
 have x:=AX a
 clear a
 obtain⟨z,i⟩:∃g,g=(l.getD (m+1) 0).toNat:=⟨_,D⟩
 rw[←i]at b
 have A:=AX i
 clear i
 have B:=AX b
 clear b
 obtain⟨C,j⟩:∃g,g=(l.getD (m+2) 0).toNat:=⟨_,D⟩
 rw[←j]at d
 have E:=AX j
 clear j
 have F:=AX d
 clear d
 have G:=AX f
 clear f
 have T:decide (((m:Nat):Int)<0)=false:=by simp
 have H:View w (.slice q m c) m 1 (bv (l.take m)):=V.pre m (by omega) (by omega)
 have I:=AX hl
 have U:m+4≤l.length:=by omega
 clear hl
 go_enter LM,Tryz.ntmps71
 go_wp2_with (with_reducible refine GQ ?_)
 refine⟨IB A3 D (.tmp 10) (.tmp 11) D (y:=q) (n:=m+4) (c:=c) D m D (by omega) ?_⟩
 go_wp2_with (first|(go_at_call 76;with_reducible refine C_ ?_))
 refine⟨(I4 q m c (l.take m) w H (by rw[List.length_take,I.out];omega)).mono ?_⟩
 rintro e k ⟨rfl,J⟩
 rw[←G.out]
 have o:=V.below J
 go_wp2_with (first|go_skip|(with_reducible refine HD 22 ?_))
 refine⟨idx A3 D (.tmp 14) (.tmp 15) D (y:=q) (n:=m+4) (c:=c) D o D (m+0) (by simp) (by omega) ?_⟩
 intro K L p _
 have W:k.cell? ⟨K,L,none⟩=some (.int .u8 u):=by rw[v.out];exact Gw p
 clear p
 go_wp2_with (first|go_skip|(with_reducible refine FM 5 ?_))
 refine⟨Hx D D D D true (by have:=x.out;simp;omega) ?_⟩
 go_wp2_with (first|go_skip|(with_reducible refine Ki 22 ?_))
 refine⟨idx A3 D (.tmp 22) (.tmp 24) D (y:=q) (n:=m+4) (c:=c) D o D (m+1) (by simp) (by omega) ?_⟩
 intro M N r _
 have X:k.cell? ⟨M,N,none⟩=some (.int .u8 z):=by rw[A.out];exact Gw r
 clear r
 go_wp2_with (first|go_skip|(with_reducible refine KI 5 ?_))
 refine⟨Hx D D D D true (by have:=B.out;simp;omega) ?_⟩
 go_wp2_with (first|go_skip|(with_reducible refine Ki 22 ?_))
 refine⟨idx A3 D (.tmp 33) (.tmp 35) D (y:=q) (n:=m+4) (c:=c) D o D (m+2) (by simp) (by omega) ?_⟩
 intro O P t _
 have Y:k.cell? ⟨O,P,none⟩=some (.int .u8 C):=by rw[E.out];exact Gw t
 clear t
 go_wp2_with (first|go_skip|(with_reducible refine KI 5 ?_))
 refine⟨Hx D D D D false (by have:=F.out;simp;omega) ?_⟩
 go_wp2
 go_ret
 exact⟨D,J⟩
theorem dx(q:Option Addr)(m c:Nat)(l:List UInt8)(w:World)(V:View w (.slice q (m+4) c) (m+4) 1 (bv l))(hl:l.length=m+4)
 (a:(l.getD (m+0) 0).toNat=At.sum (l.take m)/1 % 256)(b:(l.getD (m+1) 0).toNat=At.sum (l.take m)/256 % 256)(d:(l.getD (m+2) 0).toNat=At.sum (l.take m)/65536 % 256)(f:(l.getD (m+3) 0).toNat≠At.sum (l.take m)/16777216 % 256):
 Calls Tryz.prog 71 #[.slice q (m+4) c] w fun e w'=>e=.returned (.bool false)∧Below w.heap.size w w':=by
 have Y:=V.cap
 have Z:=V.max
 have aa:IntKind.i64.wrap (((m+4:Nat):Int) - 4)=(m:Int):=by
  rw[show((m+4:Nat):Int) - 4=(m:Int)by omega]
  exact IntWalk.i64_in _ (by omega)
 obtain⟨s,h⟩:∃s,s=At.sum (l.take m):=⟨_,D⟩
 have s1:s<4294967296:=by rw[h];exact At.G7 _
 rw[←h]at a b d f
 obtain⟨z,k⟩:∃g,g=(l.getD (m+0) 0).toNat:=⟨_,D⟩
 rw[←k]at a
 have A:=AX k
 clear k
 have B:=AX a
 clear a
 obtain⟨C,o⟩:∃g,g=(l.getD (m+1) 0).toNat:=⟨_,D⟩
 rw[←o]at b
 have E:=AX o
 clear o
 have F:=AX b
 clear b
 obtain⟨G,p⟩:∃g,g=(l.getD (m+2) 0).toNat:=⟨_,D⟩
 rw[←p]at d
 have H:=AX p
 clear p
 have I:=AX d
 clear d
 obtain⟨K,r⟩:∃g,g=(l.getD (m+3) 0).toNat:=⟨_,D⟩
 rw[←r]at f
 have L3:=AX r
 clear r
 have L:=AX f
 clear f
 have M:=AX h
 clear h
 have ab:decide (((m:Nat):Int)<0)=false:=by simp
 have N:View w (.slice q m c) m 1 (bv (l.take m)):=V.pre m (by omega) (by omega)
 have O:=AX hl
 have ad:m+4≤l.length:=by omega
 clear hl
 go_enter LM,Tryz.ntmps71
 go_wp2_with (with_reducible refine GQ ?_)
 refine⟨IB A3 D (.tmp 10) (.tmp 11) D (y:=q) (n:=m+4) (c:=c) D m D (by omega) ?_⟩
 go_wp2_with (first|(go_at_call 76;with_reducible refine C_ ?_))
 refine⟨(I4 q m c (l.take m) w N (by rw[List.length_take,O.out];omega)).mono ?_⟩
 rintro e i ⟨rfl,J⟩
 rw[←M.out]
 have j:=V.below J
 go_wp2_with (first|go_skip|(with_reducible refine HD 22 ?_))
 refine⟨idx A3 D (.tmp 14) (.tmp 15) D (y:=q) (n:=m+4) (c:=c) D j D (m+0) (by simp) (by omega) ?_⟩
 intro P Q t _
 have ae:i.cell? ⟨P,Q,none⟩=some (.int .u8 z):=by rw[A.out];exact Gw t
 clear t
 go_wp2_with (first|go_skip|(with_reducible refine FM 5 ?_))
 refine⟨Hx D D D D true (by have:=B.out;simp;omega) ?_⟩
 go_wp2_with (first|go_skip|(with_reducible refine Ki 22 ?_))
 refine⟨idx A3 D (.tmp 22) (.tmp 24) D (y:=q) (n:=m+4) (c:=c) D j D (m+1) (by simp) (by omega) ?_⟩
 intro R S u _
 have af:i.cell? ⟨R,S,none⟩=some (.int .u8 C):=by rw[E.out];exact Gw u
 clear u
 go_wp2_with (first|go_skip|(with_reducible refine KI 5 ?_))
 refine⟨Hx D D D D true (by have:=F.out;simp;omega) ?_⟩
 go_wp2_with (first|go_skip|(with_reducible refine Ki 22 ?_))
 refine⟨idx A3 D (.tmp 33) (.tmp 35) D (y:=q) (n:=m+4) (c:=c) D j D (m+2) (by simp) (by omega) ?_⟩
 intro T U v _
 have ag:i.cell? ⟨T,U,none⟩=some (.int .u8 G):=by rw[H.out];exact Gw v
 clear v
 go_wp2_with (first|go_skip|(with_reducible refine KI 5 ?_))
 refine⟨Hx D D D D true (by have:=I.out;simp;omega) ?_⟩
 go_wp2_with (first|go_skip|(with_reducible refine Ki 22 ?_))
 refine⟨idx A3 D (.tmp 44) (.tmp 46) D (y:=q) (n:=m+4) (c:=c) D j D (m+3) (by simp) (by omega) ?_⟩
 intro W X x _
 have ah:i.cell? ⟨W,X,none⟩=some (.int .u8 K):=by rw[L3.out];exact Gw x
 clear x
 go_wp2_with (first|go_skip|(with_reducible refine KI 5 ?_))
 refine⟨Hx D D D D false (by have:=L.out;simp;omega) ?_⟩
 go_wp2
 go_ret
 exact⟨D,J⟩
theorem h_(q:Option Addr)(m c:Nat)(l:List UInt8)(w:World)(V:View w (.slice q (m+4) c) (m+4) 1 (bv l))(hl:l.length=m+4)
 (a:(l.getD (m+0) 0).toNat=At.sum (l.take m)/1 % 256)(b:(l.getD (m+1) 0).toNat=At.sum (l.take m)/256 % 256)(d:(l.getD (m+2) 0).toNat=At.sum (l.take m)/65536 % 256)(f:(l.getD (m+3) 0).toNat=At.sum (l.take m)/16777216 % 256):
 Calls Tryz.prog 71 #[.slice q (m+4) c] w fun e w'=>e=.returned (.bool true)∧Below w.heap.size w w':=by
 have Y:=V.cap
 have Z:=V.max
 have aa:IntKind.i64.wrap (((m+4:Nat):Int) - 4)=(m:Int):=by
  rw[show((m+4:Nat):Int) - 4=(m:Int)by omega]
  exact IntWalk.i64_in _ (by omega)
 obtain⟨s,h⟩:∃s,s=At.sum (l.take m):=⟨_,D⟩
 have s1:s<4294967296:=by rw[h];exact At.G7 _
 rw[←h]at a b d f
 obtain⟨z,k⟩:∃g,g=(l.getD (m+0) 0).toNat:=⟨_,D⟩
 rw[←k]at a
 have A:=AX k
 clear k
 have B:=AX a
 clear a
 obtain⟨C,o⟩:∃g,g=(l.getD (m+1) 0).toNat:=⟨_,D⟩
 rw[←o]at b
 have E:=AX o
 clear o
 have F:=AX b
 clear b
 obtain⟨G,p⟩:∃g,g=(l.getD (m+2) 0).toNat:=⟨_,D⟩
 rw[←p]at d
 have H:=AX p
 clear p
 have I:=AX d
 clear d
 obtain⟨K,r⟩:∃g,g=(l.getD (m+3) 0).toNat:=⟨_,D⟩
 rw[←r]at f
 have L3:=AX r
 clear r
 have L:=AX f
 clear f
 have M:=AX h
 clear h
 have ab:decide (((m:Nat):Int)<0)=false:=by simp
 have N:View w (.slice q m c) m 1 (bv (l.take m)):=V.pre m (by omega) (by omega)
 have O:=AX hl
 have ad:m+4≤l.length:=by omega
 clear hl
 go_enter LM,Tryz.ntmps71
 go_wp2_with (with_reducible refine GQ ?_)
 refine⟨IB A3 D (.tmp 10) (.tmp 11) D (y:=q) (n:=m+4) (c:=c) D m D (by omega) ?_⟩
 go_wp2_with (first|(go_at_call 76;with_reducible refine C_ ?_))
 refine⟨(I4 q m c (l.take m) w N (by rw[List.length_take,O.out];omega)).mono ?_⟩
 rintro e i ⟨rfl,J⟩
 rw[←M.out]
 have j:=V.below J
 go_wp2_with (first|go_skip|(with_reducible refine HD 22 ?_))
 refine⟨idx A3 D (.tmp 14) (.tmp 15) D (y:=q) (n:=m+4) (c:=c) D j D (m+0) (by simp) (by omega) ?_⟩
 intro P Q t _
 have ae:i.cell? ⟨P,Q,none⟩=some (.int .u8 z):=by rw[A.out];exact Gw t
 clear t
 go_wp2_with (first|go_skip|(with_reducible refine FM 5 ?_))
 refine⟨Hx D D D D true (by have:=B.out;simp;omega) ?_⟩
 go_wp2_with (first|go_skip|(with_reducible refine Ki 22 ?_))
 refine⟨idx A3 D (.tmp 22) (.tmp 24) D (y:=q) (n:=m+4) (c:=c) D j D (m+1) (by simp) (by omega) ?_⟩
 intro R S u _
 have af:i.cell? ⟨R,S,none⟩=some (.int .u8 C):=by rw[E.out];exact Gw u
 clear u
 go_wp2_with (first|go_skip|(with_reducible refine KI 5 ?_))
 refine⟨Hx D D D D true (by have:=F.out;simp;omega) ?_⟩
 go_wp2_with (first|go_skip|(with_reducible refine Ki 22 ?_))
 refine⟨idx A3 D (.tmp 33) (.tmp 35) D (y:=q) (n:=m+4) (c:=c) D j D (m+2) (by simp) (by omega) ?_⟩
 intro T U v _
 have ag:i.cell? ⟨T,U,none⟩=some (.int .u8 G):=by rw[H.out];exact Gw v
 clear v
 go_wp2_with (first|go_skip|(with_reducible refine KI 5 ?_))
 refine⟨Hx D D D D true (by have:=I.out;simp;omega) ?_⟩
 go_wp2_with (first|go_skip|(with_reducible refine Ki 22 ?_))
 refine⟨idx A3 D (.tmp 44) (.tmp 46) D (y:=q) (n:=m+4) (c:=c) D j D (m+3) (by simp) (by omega) ?_⟩
 intro W X x _
 have ah:i.cell? ⟨W,X,none⟩=some (.int .u8 K):=by rw[L3.out];exact Gw x
 clear x
 go_wp2_with (first|go_skip|(with_reducible refine KI 5 ?_))
 refine⟨Hx D D D D true (by have:=L.out;simp;omega) ?_⟩
 go_wp2
 go_ret
 exact⟨D,J⟩
theorem IY(q:Option Addr)(m c:Nat)(l:List UInt8)(w:World)(V:View w (.slice q (m+4) c) (m+4) 1 (bv l))(hl:l.length=m+4):
 Calls Tryz.prog 71 #[.slice q (m+4) c] w fun e w'=>e=.returned (.bool (decide (At.C5 l m=0)))∧Below w.heap.size w w':=by
 have g:=At.G7 (l.take m)
 have h:=(l.getD m 0).toNat_lt
 have h1:=(l.getD (m+1) 0).toNat_lt
 have i:=(l.getD (m+2) 0).toNat_lt
 have j:=(l.getD (m+3) 0).toNat_lt
 have key:At.C5 l m=0↔At.sum (l.take m)=(l.getD m 0).toNat+(l.getD (m+1) 0).toNat*256+(l.getD (m+2) 0).toNat*65536+(l.getD (m+3) 0).toNat*16777216:=by rw[At.XP,At.Sh]
 by_cases a:(l.getD (m+0) 0).toNat=At.sum (l.take m)/1 % 256
 ·by_cases b:(l.getD (m+1) 0).toNat=At.sum (l.take m)/256 % 256
  ·by_cases d:(l.getD (m+2) 0).toNat=At.sum (l.take m)/65536 % 256
   ·by_cases f:(l.getD (m+3) 0).toNat=At.sum (l.take m)/16777216 % 256
    ·have:decide (At.C5 l m=0)=true:=by simp only[decide_eq_true_eq,key];simp only[Nat.add_zero]at a;omega
     rw[this]
     exact h_ q m c l w V hl a b d f
    ·have:decide (At.C5 l m=0)=false:=by simp only[decide_eq_false_iff_not,key];omega
     rw[this]
     exact dx q m c l w V hl a b d f
   ·have:decide (At.C5 l m=0)=false:=by simp only[decide_eq_false_iff_not,key];omega
    rw[this]
    exact dz q m c l w V hl a b d
  ·have:decide (At.C5 l m=0)=false:=by simp only[decide_eq_false_iff_not,key];omega
   rw[this]
   exact b1 q m c l w V hl a b
 ·have:decide (At.C5 l m=0)=false:=by simp only[decide_eq_false_iff_not,key];simp only[Nat.add_zero]at a;omega
  rw[this]
  exact ig q m c l w V hl a
end Go.Proofs.YtaapafoibofbjaaGreatDoor
namespace Go.Proofs.YtaapafoibofbjaaGreatDoor
open Go.RowKit Go.Maps
set_option maxRecDepth 100000
set_option maxHeartbeats 1600000
def IL(l:List UInt8)(n:Nat):Nat→Nat
 |0=>0
 |k+1=>IL l n k|||(l.getD (n+k) 0).toNat*2^(8*k)
theorem WD(l:List UInt8)(n k:Nat)(h:k≤4):IL l n k<2^(8*k):=by
 induction k with
 |zero=>simp[IL]
 |succ k a=>
  have h1:=a (by omega)
  have b:=(l.getD (n+k) 0).toNat_lt
  have:IL l n (k+1)=IL l n k+(l.getD (n+k) 0).toNat*2^(8*k):=At.MX _ _ _ h1
  rw[this,show 8*(k+1)=8*k+8 by omega,Nat.pow_add]
  have c:(l.getD (n+k) 0).toNat*2^(8*k)≤255*2^(8*k):=Nat.mul_le_mul_right _ (by omega)
  have d:2^(8*k)*2^8=255*2^(8*k)+2^(8*k):=by rw[Nat.mul_comm];omega
  omega
theorem UC(l:List UInt8)(n:Nat):IL l n 4=At.stored l n:=by
 simp[IL,At.stored]
theorem eo(tb Bi n m c:Nat)(q:Option Addr)(l:List UInt8)(cs:Array Value)(T:TypeId)(w:World)(u:w.heap[tb]? =some (.cells cs T (0,0)))(R:TabIs w tb Bi n cs)(h1:1≤n)(S:n≤4096)
 (V:View w (.slice q m c) m 1 (bv l))(hl:l.length=m)(hm:n+4≤m)(U:At.last (At.EG n) (At.C5 l n)=none):
 Calls Tryz.prog 37 #[.pointer (some ⟨tb,Bi,none⟩),.slice q m c,.int .i64 n] w fun e w'=>e=.returned (.tuple #[.nilFunc,.bool false])∧Hm w w' tb Bi n cs T:=by
 have W:tb<w.heap.size:=(Array.getElem?_eq_some_iff.1 u).1
 have aw:=V.cap
 have X:=AX u
 have ax:=AX hl
 have Y:m≤l.length:=by omega
 clear u hl
 have ay:∀(x:Bool) (w:World),(Op.unary .not (.bool x)).run Tryz.prog w=.ok (.bool (!x)) w:=fun _ _=>rfl
 go_enter Lm,Tryz.ntmps37
 go_wp2_with (with_reducible refine OP 22 ?_)
 refine⟨Ob D 22 (.tmp 1) D (v:=.slice q m c) D ?_⟩
 intro a Z f h
 simp only[Value.cells]at f
 have az:=AX f
 have aA:w.heap.size+1≤a.heap.size:=by omega
 have aa:Hid (a.heap[tb]? =some (.cells cs T (0,0))):=AX ((h.block _ (by omega)).trans X.out)
 have aB:=IM (j:=0) f D
 have H:=V.below h
 clear f Z
 go_wp2
 go_loop [8,13] (fun s i=>∃(k x:Nat),k≤4∧i=.int .i64 k∧s=.int .u32 x∧Hid (x=IL l n k)) (fun _ i=>4 - (intOf i).toNat)
 case atStart=>exact⟨0,0,by omega,D,D,AX D⟩
 case round=>
  obtain⟨k,x,aC,rfl,rfl,o⟩:=hrel
  by_cases aD:k<4
  ·have A:x<4294967296:=by
    have:=WD l n k (by omega)
    have I:2^(8*k)≤2^32:=Nat.pow_le_pow_right (by decide) (by omega)
    rw[←o.out]at this
    omega
   go_wp2_with (first|go_skip|(with_reducible refine HD 22 ?_))
   refine⟨idx A3 D (.tmp 17) (.tmp 20) D (y:=q) (n:=m) (c:=c) D H D (n+k) (by simp) (by omega) ?_⟩
   intro ab ad J _
   obtain⟨g,B⟩:∃g,g=(l.getD (n+k) 0).toNat:=⟨_,D⟩
   have aE:g<256:=by rw[B];exact(l.getD (n+k) 0).toNat_lt
   have BO:=AX B
   clear B
   have aF:a.cell? ⟨ab,ad,none⟩=some (.int .u8 g):=by rw[BO.out];exact Gw J
   clear J
   go_wp2_with (first|go_skip|(with_reducible refine FM 72 ?_))
   have ae:g*2^(8*k)<4294967296:=by
    have I:2^(8*k)≤2^24:=Nat.pow_le_pow_right (by decide) (by omega)
    have r:g*2^(8*k)≤255*2^24:=Nat.mul_le_mul (by omega) I
    omega
   obtain⟨y,K⟩:∃y,y=g*2^(8*k):=⟨_,D⟩
   have L:=AX K
   have af:y<4294967296:=by omega
   clear K
   refine⟨WI D D (p:=g) (n:=8*k) (i:=8*(k:Int)) D D (by simp) (by omega) ae y L.out.symm ?_⟩
   go_wp2_with (first|go_skip|(with_reducible refine FM 72 ?_))
   obtain⟨z,C⟩:∃z,z=x|||y:=⟨_,D⟩
   have ag:Hid (z=IL l n (k+1)):=AX (by rw[C,o.out,L.out,BO.out];rfl)
   have ah:=AX C
   clear C
   refine⟨W7 D D (p:=x) (q:=y) D D A af z ah.out.symm ?_⟩
   go_wp2
   go_round
   case rel=>exact⟨k+1,z,by omega,by go_num,D,ag⟩
   case measure=>simp[intOf];omega
  ·have ai:k=4:=by omega
   subst ai
   have E:x=At.stored l n:=by rw[o.out,UC]
   have A:x<4294967296:=by rw[E];exact At.Ts _ _
   have aj:=AX E
   clear E o
   go_wp2_with (first|go_skip|(with_reducible refine GQ ?_))
   refine⟨IB A3 D (.tmp 32) (.tmp 33) D (y:=q) (n:=m) (c:=c) D n D (by omega) ?_⟩
   go_wp2_with (first|go_skip|(go_at_call 76;with_reducible refine C_ ?_))
   refine⟨(I4 q n c (l.take n) a (H.pre n (by omega) Y) (by rw[List.length_take];omega)).mono ?_⟩
   rintro e M ⟨rfl,F⟩
   obtain⟨s,t⟩:∃s,s=At.sum (l.take n):=⟨_,D⟩
   have s1:s<4294967296:=by rw[t];exact At.G7 _
   rw[←t]
   obtain⟨d,Ad⟩:∃d,d=s^^^x:=⟨_,D⟩
   have N:Hid (d=At.C5 l n):=AX (by rw[Ad,t,aj.out];rfl)
   have d1:d<4294967296:=by rw[N.out];exact At.Uo _ _
   have ak:=AX Ad
   clear t Ad
   have al:Hid (M.heap[tb]? =some (.cells cs T (0,0))):=AX ((F.block _ (by omega)).trans aa.out)
   go_wp2_with (first|go_skip|(with_reducible refine FM 72 ?_))
   refine⟨LW D D (p:=s) (q:=x) D D s1 A d ak.out.symm ?_⟩
   go_wp2_with (first|go_skip|(go_at_call 75;with_reducible refine C_ ?_))
   refine⟨(find_spec tb Bi n d cs T M al.out (R.below (h.trans (F.mono (by omega)))) h1 S d1).mono ?_⟩
   rintro e O ⟨rfl,t3⟩
   have P:Mc n d=.tuple #[.int .i64 0,.bool false]:=by unfold Mc;rw[N.out,U]
   rw[P]
   have G:Hm w O tb Bi n cs T:=by
    obtain⟨an,EF,Ev⟩:=t3
    exact⟨an,I2 (H_ (H_ (NG w (some tb)) h) F) EF,Ev⟩
   clear t3 P
   go_wp2_with (first|go_skip|(with_reducible refine LX 3 ?_))
   refine⟨KE D 3 D (z:=.int .i64 0) (by kernel_rfl) ?_⟩
   intro aG ao r aq
   simp only[Value.cells]at r
   have Q:=AX r
   have t4:=G.below W aq
   clear r
   go_wp2_with (first|go_skip|(with_reducible refine HV 3 ?_))
   refine⟨PS D 3 (.tmp 10) (.tmp 39) D (b:=O.heap.size) (off:=0) (v:=.int .i64 0) D Q.out D D (by kernel_rfl) (by decide) ?_⟩
   intro aH ar au av
   have t5:=t4.other av (by have:=G.size;omega) (by have:=G.size;omega) ⟨_,_,Q.out⟩
   clear au ao ar
   go_wp2
   go_ret2
   exact⟨D,t5⟩
end Go.Proofs.YtaapafoibofbjaaGreatDoor
namespace Go.Proofs.YtaapafoibofbjaaGreatDoor
open Go.RowKit
set_option maxRecDepth 100000
set_option maxHeartbeats 1000000
def FK:Value:=.agg #[.int .i64 0,.int .i64 0,.int .i64 0,.int .i64 0,.int .i64 0]
theorem ZK(q:Option Addr)(c:Nat)(l:List UInt8)(w:World)(V:View w (.slice q 256 c) 256 1 (bv l))(hl:l.length=256)(i:At.C5 (l.take 64) 60≠0):
 Calls Tryz.prog 36 #[.slice q 256 c] w fun e w'=>e=.returned (.tuple #[FK,.int .i64 52])∧Below w.heap.size w w':=by
 have t:=V.cap
 have j:View w (.slice q 64 c) 64 1 (bv (l.take 64)):=V.pre 64 (by omega) (by omega)
 have f:=IY q 60 c (l.take 64)
 have Ad:decide (At.C5 (l.take 64) 60=0)=false:=by simpa using i
 rw[Ad]at f
 go_enter FW,Tryz.ntmps36
 go_wp2_with (with_reducible refine LX 68 ?_)
 refine⟨KE D 68 D (z:=FK) (by kernel_rfl) ?_⟩
 intro m u h1 a
 simp only[Value.cells,FK]at h1
 have H1:=AX h1
 clear h1
 have A:=V.below a
 go_wp2_with (with_reducible refine GQ ?_)
 refine⟨IB A3 D (.tmp 10) (.const (.int .i64 64)) D (y:=q) (n:=256) (c:=c) D 64 D (by omega) ?_⟩
 go_wp2_with (first|(go_at_call 71;with_reducible refine C_ ?_))
 refine⟨(f m (j.below a) (by simp[hl])).mono ?_⟩
 rintro e o ⟨rfl,d⟩
 have g:o.heap[w.heap.size]? =_:=(d.block w.heap.size (by omega)).trans H1.out
 have B:∀(x:Bool) (w:World),(Op.unary .not (.bool x)).run Tryz.prog w=.ok (.bool (!x)) w:=fun _ _=>rfl
 go_wp2_with (with_reducible refine HV 68 ?_)
 refine⟨Kn D 68 (.tmp 2) (.tmp 14) D (b:=w.heap.size) (c':=#[.int .i64 0,.int .i64 0,.int .i64 0,.int .i64 0,.int .i64 0]) D g D (by kernel_rfl) D (by kernel_rfl) ?_⟩
 intro C E h p
 obtain⟨r,Jp⟩:=live h
 clear g h
 go_wp2
 exact bodyPost_ret (v:=.tuple #[FK,.int .i64 52]) (by simp[results,Tryz.results36,go_sem,r,FK]) D ⟨D,(a.trans (d.mono (by omega))).grown p (by have:=d.size;omega) (fun k s=>by cases s;exact Br _)⟩


end Go.Proofs.YtaapafoibofbjaaGreatDoor
namespace Go.Proofs.YtaapafoibofbjaaGreatDoor
open Go.RowKit Go.Maps
set_option maxRecDepth 100000
set_option maxHeartbeats 1000000
variable {w:World} {AK n c:Nat} {cs:Array Value} {q:Option Addr} {l:List UInt8}
def KH(c:Array Value)(o:Nat):List Value→Array Value
 |[]=>c
 |v::CV=>KH (c.setIfInBounds o v) (o+1) CV
theorem R8(CV:List Value):∀(c:Array Value) (o j:Nat),j<o∨o+CV.length≤j→(KH c o CV)[j]? =c[j]? :=by
 induction CV with
 |nil=>intro c o j _;rfl
 |cons v CV a=>
  intro c o j h
  simp only[List.length_cons]at h
  rw[KH,a _ _ _ (by omega),Array.getElem?_setIfInBounds,if_neg (by omega)]
theorem aW(CV:List Value):∀(c:Array Value) (o j:Nat),j<CV.length→o+CV.length≤c.size→(KH c o CV)[o+j]? =CV[j]? :=by
 induction CV with
 |nil=>intro c o j h _;simp at h
 |cons v CV a=>
  intro c o j h b
  simp only[List.length_cons]at h b
  cases j with
  |zero=>
   rw[KH,R8 _ _ _ _ (by omega)]
   have:o<c.size:=by omega
   simp[this]
  |succ j=>
   rw[KH,show o+(j+1)=o+1+j by omega,a _ _ _ (by omega) (by simp;omega)]
   rfl
theorem c5(b:Nat)(T:TypeId)(CV:List Value):∀(o:Nat) (w:World) (c:Array Value),w.heap[b]? =some (.cells c T (0,0))→(w.setCells b o CV).heap[b]? =some (.cells (KH c o CV) T (0,0))∧w.grownBy (w.setCells b o CV) (some b):=by
 induction CV with
 |nil=>intro o w c h;exact⟨h,NG _ _⟩
 |cons v CV a=>
  intro o w c h
  obtain⟨h1,d⟩:=a (o+1) (w.setCell ⟨b,o,none⟩ v) _ (K' h v)
  exact⟨h1,I2 (Ka w b o v) d⟩
def IH(w:World)(AK:Nat)(cs:Array Value)(q:Option Addr)(n c:Nat)(l:List UInt8):Prop:=
 w.heap[AK]? =some (.cells cs 85 (0,0))∧cs.size=14∧cs[0]? =some (.slice q n c)∧View w (.slice q n c) n 1 (bv l)∧l.length=n∧(∀k,(Value.slice q n c).ownBlock=some k→k≠AK)∧TabIs w AK 6 252 cs∧TabIs w AK 10 60 cs
theorem IH.lt(h:IH w AK cs q n c l):AK<w.heap.size:=(Array.getElem?_eq_some_iff.1 h.1).1
theorem IH.below{W:World}(h:IH w AK cs q n c l)(b:Below w.heap.size w W):IH W AK cs q n c l:=by
 have hl:=h.lt
 obtain⟨h1,a,d,e,f,g,i,j⟩:=h
 exact⟨(b.block AK hl).trans h1,a,d,e.below b,f,g,i.below b,j.below b⟩
theorem IH.drew(h:IH w AK cs q n c l):IH w.drew AK cs q n c l:=h.below (Cn _ _).drew
theorem IH.other{W:World}{k:Nat}(h:IH w AK cs q n c l)(g:w.grownBy W (some k))(J:AK<k)(b:∀j,(Value.slice q n c).ownBlock=some j→j<k)(d:∃c t,w.heap[k]? =some (.cells c t (0,0))):IH W AK cs q n c l:=by
 have hl:=h.lt
 obtain⟨h1,f,i,m,o,p,r,s⟩:=h
 obtain⟨c',u,hr⟩:=d
 have hm:∀j,j<w.heap.size→(∃es c,w.heap[j]? =some (.map es c))→W.heap[j]? =w.heap[j]? :=fun j hj ⟨es,As,a⟩=>g.block j hj (by
  intro e
  cases e
  rw[hr]at a
  cases a)
 exact⟨Bn g h1 (by omega),f,i,m.grown g (fun j hj e=>by have:=b j hj;simp at e;omega),o,p,r.kept hm,s.kept hm⟩
def f_(q:Option Addr)(n c:Nat):Array Value:=#[.slice q n c,.int .i64 0,.int .i64 0,.int .i64 0,.int .i64 0,.int .i64 0,.int .u32 0,.int .i32 0,.int .u32 0,.map none,.int .u32 0,.int .i32 0,.int .u32 0,.map none]
end Go.Proofs.YtaapafoibofbjaaGreatDoor
