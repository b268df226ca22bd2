/- Laws and walks on the road to SalvageClean (part M29). No conditions beyond each law's own. -/
import Derived.Test.YtaapafoibofbjaaGreatDoorM01
import Derived.Test.YtaapafoibofbjaaGreatDoorM04
import Derived.Test.YtaapafoibofbjaaGreatDoorM12
import Derived.Test.YtaapafoibofbjaaGreatDoorM07
import Derived.Test.YtaapafoibofbjaaGreatDoorM09
import Derived.Test.YtaapafoibofbjaaGreatDoorM10
set_option linter.unusedVariables false
namespace Go.Proofs.YtaapafoibofbjaaGreatDoor
open Go.RowKit
variable {x:Operand} {v:Value} {t:TypeId}
section
variable {P:Program} {w w':World} {ops:Array Oper} {rest:List Oper} {Aa:Exit→Act→World→Prop} {N:Nat} {f:BW} {d:Nat} {ty:TypeId} {pos:String} {An:Array Edge} {dst:Option Tmp} {BK:World→Prop} {fuel Cy:Nat} {listed:Array Bool}
abbrev FI(P:Program)(ops:Array Oper)(Aa:Exit→Act→World→Prop)(BK:World→Prop)(N:Nat)(w:World)(f:BW)(fuel:Nat)(listed:Array Bool):Prop:=∀a,AH N a f→wpAnyH P .any ops Aa BK fuel listed a w
theorem C4(i:Nat){op:Op}(e:ops[i]? =some ⟨some d,op,ty,pos,An,none⟩)(g:∀W,BK W→∀a,AH N a f→CD P a W ⟨some d,op,ty,pos,An,none⟩ v W)(j:BK w)(h:FI P ops Aa BK N w (Jb f d v) fuel (listed.setIfInBounds i true))(k:Cy=fuel+1:=by exact rfl)(zs:Region.noSelect ops=true:=by kernel_rfl)(l:Region.free .any ops listed i=true:=by kernel_rfl)(m:(Region.ready .any ops listed).contains i=true:=by kernel_rfl)(AR:∀c (a:Act) w,Aa (.panic c) (a.put (some d) v) w→Aa (.panic c) a w:=by exact fun _ _ _ h=>h)(n:Nat.blt d N=true:=by exact rfl):FI P ops Aa BK N w f Cy listed:=
 fun a b=>Zq b n e k zs l m AR (fun W q=>g W q a b) j h
theorem KC(h:∀a,AH N a f→Aa .normal a w)(hr:Region.ready .any ops listed=[]:=by kernel_rfl):FI P ops Aa BK N w f fuel listed:=fun a b=>XO hr (h a b)
theorem Hc(i:Nat)(b:ops[i]? =some ⟨some d,.move x,ty,pos,An,none⟩)(e:Aj f x=some v)(g:BK w)(h:FI P ops Aa BK N w (Jb f d v) fuel (listed.setIfInBounds i true))(j:Cy=fuel+1:=by exact rfl)(zs:Region.noSelect ops=true:=by kernel_rfl)(k:Region.free .any ops listed i=true:=by kernel_rfl)(l:(Region.ready .any ops listed).contains i=true:=by kernel_rfl)(AR:∀c (a:Act) w,Aa (.panic c) (a.put (some d) v) w→Aa (.panic c) a w:=by exact fun _ _ _ h=>h)(m:Nat.blt d N=true:=by exact rfl):FI P ops Aa BK N w f Cy listed:=C4 i b (fun W _ a n=>Qz n e) g h j zs k l AR m
theorem I'(i:Nat)(b:ops[i]? =some ⟨some d,.assign x,ty,pos,An,none⟩)(e:Aj f x=some v)(g:BK w)(h:FI P ops Aa BK N w (Jb f d v) fuel (listed.setIfInBounds i true))(j:Cy=fuel+1:=by exact rfl)(zs:Region.noSelect ops=true:=by kernel_rfl)(k:Region.free .any ops listed i=true:=by kernel_rfl)(l:(Region.ready .any ops listed).contains i=true:=by kernel_rfl)(AR:∀c (a:Act) w,Aa (.panic c) (a.put (some d) v) w→Aa (.panic c) a w:=by exact fun _ _ _ h=>h)(m:Nat.blt d N=true:=by exact rfl):FI P ops Aa BK N w f Cy listed:=C4 i b (fun W _ a n=>Pw n e) g h j zs k l AR m
theorem RU(i:Nat){p:Addr}(b:ops[i]? =some ⟨some d,.nilCheck x,ty,pos,An,none⟩)(e:Aj f x=some (.pointer (some p)))(g:BK w)(h:FI P ops Aa BK N w (Jb f d (.pointer (some p))) fuel (listed.setIfInBounds i true))(j:Cy=fuel+1:=by exact rfl)(zs:Region.noSelect ops=true:=by kernel_rfl)(k:Region.free .any ops listed i=true:=by kernel_rfl)(l:(Region.ready .any ops listed).contains i=true:=by kernel_rfl)(AR:∀c (a:Act) w,Aa (.panic c) (a.put (some d) (.pointer (some p))) w→Aa (.panic c) a w:=by exact fun _ _ _ h=>h)(m:Nat.blt d N=true:=by exact rfl):FI P ops Aa BK N w f Cy listed:=C4 i b (fun W _ a n=>S4 n e) g h j zs k l AR m
theorem No(i:Nat){CV:Array Value}{i1:Nat}(b:ops[i]? =some ⟨some d,.extract x i1,ty,pos,An,none⟩)(e:Aj f x=some (.tuple CV))(V:CV[i1]? =some v)(g:BK w)(h:FI P ops Aa BK N w (Jb f d v) fuel (listed.setIfInBounds i true))(j:Cy=fuel+1:=by exact rfl)(zs:Region.noSelect ops=true:=by kernel_rfl)(k:Region.free .any ops listed i=true:=by kernel_rfl)(l:(Region.ready .any ops listed).contains i=true:=by kernel_rfl)(AR:∀c (a:Act) w,Aa (.panic c) (a.put (some d) v) w→Aa (.panic c) a w:=by exact fun _ _ _ h=>h)(m:Nat.blt d N=true:=by exact rfl):FI P ops Aa BK N w f Cy listed:=C4 i b (fun W _ a n=>TS n e V) g h j zs k l AR m
theorem G4(i:Nat){e:TypeId}(b:ops[i]? =some ⟨some d,.call {callee:=.builtin .len,args:=#[x],argTypes:=#[t]},ty,pos,An,none⟩)(g:P.underlying t=some (.slice e)){p:Option Addr}{n c:Nat}(j:Aj f x=some (.slice p n c))(k:BK w)(h:FI P ops Aa BK N w (Jb f d (.int .i64 n)) fuel (listed.setIfInBounds i true))(l:Cy=fuel+1:=by exact rfl)(zs:Region.noSelect ops=true:=by kernel_rfl)(m:Region.free .any ops listed i=true:=by kernel_rfl)(o:(Region.ready .any ops listed).contains i=true:=by kernel_rfl)(AR:∀c (a:Act) w,Aa (.panic c) (a.put (some d) (.int .i64 n)) w→Aa (.panic c) a w:=by exact fun _ _ _ h=>h)(q:Nat.blt d N=true:=by exact rfl):FI P ops Aa BK N w f Cy listed:=C4 i b (fun W _ a r=>Rz r g j) k h l zs m o AR q
theorem G_(i:Nat){s:TypeId}{i1:Nat}{b off:Nat}{e:Array Field}(g:ops[i]? =some ⟨some d,.fieldAddr s x i1,ty,pos,An,none⟩)(hu:P.underlying s=some (.struct e))(o:Nat)(j:Aj f x=some (.pointer (some ⟨b,off,none⟩)))(k:BK w)(h:FI P ops Aa BK N w (Jb f d (.pointer (some ⟨b,o,none⟩))) fuel (listed.setIfInBounds i true)){Ce:Field}(l:e[i1]? =some Ce:=by exact rfl)(m:(P.info? Ce.type).any (fun i=>Nat.blt 0 i.size)=true:=by kernel_rfl)(ho:off+Ce.offset=o:=by first|rfl|omega)(n:Cy=fuel+1:=by exact rfl)(zs:Region.noSelect ops=true:=by kernel_rfl)(p:Region.free .any ops listed i=true:=by kernel_rfl)(q:(Region.ready .any ops listed).contains i=true:=by kernel_rfl)(AR:∀c (a:Act) w,Aa (.panic c) (a.put (some d) (.pointer (some ⟨b,o,none⟩))) w→Aa (.panic c) a w:=by exact fun _ _ _ h=>h)(r:Nat.blt d N=true:=by exact rfl):FI P ops Aa BK N w f Cy listed:=C4 i g (fun W _ a t=>P9 t j hu l m ho) k h n zs p q AR r
theorem Zl(i:Nat){u:TypeId}{y:Operand}{p q:Nat}(b:ops[i]? =some ⟨some d,.binOp .add t x y u,ty,pos,An,none⟩)(e:Aj f x=some (.int .i64 p))(g:Aj f y=some (.int .i64 q))(j:BK w)(h:FI P ops Aa BK N w (Jb f d (.int .i64 ((p+q:Nat):Int))) fuel (listed.setIfInBounds i true))(J:p+q≤9223372036854775807:=by omega)(k:Cy=fuel+1:=by exact rfl)(zs:Region.noSelect ops=true:=by kernel_rfl)(l:Region.free .any ops listed i=true:=by kernel_rfl)(m:(Region.ready .any ops listed).contains i=true:=by kernel_rfl)(AR:∀c (a:Act) w,Aa (.panic c) (a.put (some d) (.int .i64 ((p+q:Nat):Int))) w→Aa (.panic c) a w:=by exact fun _ _ _ h=>h)(n:Nat.blt d N=true:=by exact rfl):FI P ops Aa BK N w f Cy listed:=C4 i b (fun W _ a o=>Hb o e g D J) j h k zs l m AR n
theorem Ns(i:Nat){u:TypeId}{y:Operand}{p q:Nat}(b:ops[i]? =some ⟨some d,.binOp .sub t x y u,ty,pos,An,none⟩)(e:Aj f x=some (.int .i64 p))(g:Aj f y=some (.int .i64 q))(j:BK w)(h:FI P ops Aa BK N w (Jb f d (.int .i64 ((p - q:Nat):Int))) fuel (listed.setIfInBounds i true))(hr:p=q+(p - q):=by omega)(J:p≤9223372036854775807:=by omega)(k:Cy=fuel+1:=by exact rfl)(zs:Region.noSelect ops=true:=by kernel_rfl)(l:Region.free .any ops listed i=true:=by kernel_rfl)(m:(Region.ready .any ops listed).contains i=true:=by kernel_rfl)(AR:∀c (a:Act) w,Aa (.panic c) (a.put (some d) (.int .i64 ((p - q:Nat):Int))) w→Aa (.panic c) a w:=by exact fun _ _ _ h=>h)(n:Nat.blt d N=true:=by exact rfl):FI P ops Aa BK N w f Cy listed:=C4 i b (fun W _ a o=>Km o e g hr J) j h k zs l m AR n
theorem Sf(i:Nat){u:TypeId}{y:Operand}{k:IntKind}{p q:Int}(b:ops[i]? =some ⟨some d,.binOp .leq t x y u,ty,pos,An,none⟩)(e:Aj f x=some (.int k p))(g:Aj f y=some (.int k q))(j:BK w)(h:FI P ops Aa BK N w (Jb f d (.bool (decide (p≤q)))) fuel (listed.setIfInBounds i true))(l:Cy=fuel+1:=by exact rfl)(zs:Region.noSelect ops=true:=by kernel_rfl)(m:Region.free .any ops listed i=true:=by kernel_rfl)(n:(Region.ready .any ops listed).contains i=true:=by kernel_rfl)(AR:∀c (a:Act) w,Aa (.panic c) (a.put (some d) (.bool (decide (p≤q)))) w→Aa (.panic c) a w:=by exact fun _ _ _ h=>h)(o:Nat.blt d N=true:=by exact rfl):FI P ops Aa BK N w f Cy listed:=C4 i b (fun W _ a r=>PR r e g _ D) j h l zs m n AR o
end
end Go.Proofs.YtaapafoibofbjaaGreatDoor
namespace Go.Proofs.YtaapafoibofbjaaGreatDoor
open Go.RowKit
set_option maxRecDepth 100000
set_option maxHeartbeats 1000000
theorem dA(l:List UInt8)(i:Nat)(h:i<l.length):l.take i++[l.getD i 0]=l.take (i+1):=by
 rw[List.take_add_one,List.getElem?_eq_getElem h,List.getD_eq_getElem?_getD,List.getElem?_eq_getElem h];rfl
end Go.Proofs.YtaapafoibofbjaaGreatDoor
namespace Go.Proofs.YtaapafoibofbjaaGreatDoor
open Go.RowKit
theorem ir:∀(l m:List UInt8),l.length=m.length→FT l m=0→l=m:=by
 intro l
 induction l with
 |nil=>intro m h _;match m,h with|[],_=>rfl
 |cons x l b=>
  intro m h a
  match m,h with
  |y::m,h=>
   simp only[List.length_cons,Nat.add_right_cancel_iff]at h
   unfold FT at a
   by_cases e:x=y
   ·rw[if_pos e]at a
    rw[e,b m h a]
   ·rw[if_neg e]at a
    split at a<;>omega
theorem e'(l:List UInt8):FT l l=0:=by
 induction l with
 |nil=>unfold FT;rfl
 |cons x l a=>unfold FT;rw[if_pos D];exact a
theorem Xa:∀(l m:List UInt8),l.length=m.length→FT m l= - FT l m:=by
 intro l
 induction l with
 |nil=>intro m h;match m,h with|[],_=>unfold FT;rfl
 |cons x l a=>
  intro m h
  match m,h with
  |y::m,h=>
   simp only[List.length_cons,Nat.add_right_cancel_iff]at h
   unfold FT
   by_cases e:x=y
   ·rw[if_pos e,if_pos e.symm];exact a m h
   ·rw[if_neg e,if_neg (Ne.symm e)]
    have:x.toNat≠y.toNat:=fun q=>e (UInt8.toNat_inj.1 q)
    by_cases q:x.toNat<y.toNat
    ·rw[if_pos q,if_neg (by omega)];rfl
    ·rw[if_neg q,if_pos (by omega)]
end Go.Proofs.YtaapafoibofbjaaGreatDoor
namespace Go.Proofs.YtaapafoibofbjaaGreatDoor
open Go.RowKit
set_option maxRecDepth 100000
set_option maxHeartbeats 1000000
def LZ(x y:Eh):Prop:=FT x.k.l y.k.l<0
structure OU (A:List Eh) (B:List MN) (R:List Eh) (i j:Nat):Prop where
 j7:R.Pairwise LZ
 a:∀x∈R,∀y∈A.drop i,FT x.k.l y.k.l<0
 b:∀x∈R,∀y∈B.drop j,FT x.k.l y.k.l<0
 n:R.length≤i+j
 m:∀x∈R,x∈A∨∃y∈B,y.d=false∧x=⟨y.k,y.s⟩
 z:B=[]→R=A.take i
 d:∀x∈A.take i,x∈R∨∃y∈B,y.k.l=x.k.l
theorem OU.nil(A:List Eh)(B:List MN):OU A B [] 0 0:=⟨.nil,(fun x a=>by cases a),(fun x a=>by cases a),Br _,(fun x a=>by cases a),fun _=>rfl,fun x a=>by simp at a⟩
theorem fw{Bo:Type}{L:List Bo}{i:Nat}{x:Bo}(h:x∈L.drop (i+1)):x∈L.drop i:=by
 rw[←List.drop_drop]at h
 exact List.mem_of_mem_drop h
variable {A R:List Eh} {B:List MN} {i j:Nat} {x:Eh} {y:MN}
theorem OU.skip(h:OU A B R i j):OU A B R i (j+1):=⟨h.j7,h.a,fun x c y e=>h.b x c y (fw e),by have:=h.n;omega,h.m,h.z,h.d⟩
end Go.Proofs.YtaapafoibofbjaaGreatDoor
namespace Go.Proofs.YtaapafoibofbjaaGreatDoor
open Go.RowKit
end Go.Proofs.YtaapafoibofbjaaGreatDoor
namespace Go.Proofs.YtaapafoibofbjaaGreatDoor
open Go.RowKit
set_option maxHeartbeats 1000000
theorem T6(kd g:Nat)(q:Option Addr)(n c:Nat)(l:List UInt8)(w:World)(z:DA w)(L:g≤4611686018427387904)(M:n≤100000)(V:View w (.slice q n c) n 1 (bv l))(hl:l.length=n):
 Calls Tryz.prog 62 #[E kd,E g,I q n c] w fun e w'=>∃p k,e=.returned (.slice p 256 k)∧w'.ownsRow w.heap.size 5 1 (.slice p 256 k) 256 (bv (Ref.Gc kd g l))∧Below w.heap.size w w':=by
 have b:Below w.heap.size w w:=Cn _ _
 refine DZ Rr D 24 ?_
 refine Ao<|AD<|AV D<|Aw<|Ai<|Ao<|AD<|Az D<|Cc (fun _ f=>Ex f (p:=((kd:Nat):Int)) (r:=(((UInt8.ofNat kd).toNat:Nat):Int)) D AF BV (H5 kd))<|Az D<|HT Co D<|Cc (fun _ f=>Ex f (p:=((n:Nat):Int)) (r:=(((UInt8.ofNat n).toNat:Nat):Int)) D AF BV (H5 n))<|?_
 intro N A
 refine Cp D (fun K B=>Wk A D (e:=5) (BH:=[(0,(Value.int .u8 ((((UInt8.ofNat kd).toNat:Nat):Int):Int))),(1,(Value.int .u8 ((((UInt8.ofNat n).toNat:Nat):Int):Int)))]) D (cs:=#[Value.int .u8 ((((UInt8.ofNat kd).toNat:Nat):Int):Int),Value.int .u8 ((((UInt8.ofNat n).toNat:Nat):Int):Int)]) D (by unfold maxLen;omega) (by kernel_rfl) ?_)
 intro a s f O v2 J
 have v2:View s (I (some ⟨w.heap.size,0,none⟩) 2 2) 2 1 (bv [UInt8.ofNat kd,UInt8.ofNat n]):=v2
 have b:=BG b J
 refine B _ _ ?_;revert a
 refine AV D<|Aw<|Ai<|Ao<|AD<|Az D<|Az D<|CL Nx D (OH g 4 _) ?_
 rintro _ C ⟨P,Q,rfl,h,t⟩
 refine⟨_,D,?_⟩
 have d:w.heap.size≤s.heap.size:=b.size
 have v2:=v2.below t
 have b:=BG b t
 have h:=Ew h d
 refine CL My D (MP _ _ _ _ _ _ _ _ _ (by omega) v2 (by rfl) (View.own h) (De h)) ?_
 rintro _ F ⟨R,S,rfl,i,u⟩
 refine⟨_,D,?_⟩
 have d:w.heap.size≤C.heap.size:=b.size
 have v2:=v2.below u
 have b:=BG b u
 have i:=Ew i d
 refine AV D<|Aw<|Ai<|Ao<|AD<|Az D<|Az D<|CL My D (MP _ _ _ _ _ _ _ _ _ (by omega) (View.own i) (De i) (V.below b) hl) ?_
 rintro _ G ⟨T,U,rfl,j,v⟩
 refine⟨_,D,?_⟩
 have d:w.heap.size≤F.heap.size:=b.size
 have v2:=v2.below v
 have b:=BG b v
 have j:=Ew j d
 refine AV D<|Aw<|Ai<|Ao<|AD<|Az D<|CL PY D (Rw _ _ _ 252 _ _ (by omega) (by omega) (View.own j) (De j)) ?_
 rintro _ H ⟨W,X,rfl,m,x⟩
 refine⟨_,D,?_⟩
 have d:w.heap.size≤G.heap.size:=b.size
 have v2:=v2.below x
 have b:=BG b x
 have m:=Ew m d
 refine CL R4 D (W_ _ _ _ _ _ (z.below b (Br _)) (by omega) (View.own m) (De m)) ?_
 rintro _ Y ⟨Z,aa,rfl,o,y⟩
 refine⟨_,D,?_⟩
 have d:w.heap.size≤H.heap.size:=b.size
 have v2:=v2.below y
 have b:=BG b y
 have o:=Ew o d
 refine AV D<|Aw<|Ai<|C0<|EE D<|?_
 exact⟨_,_,D,by unfold Ref.Gc;rw[hl];exact o,b⟩
theorem Ww(s:Fr.Bu)(w:World)(R:DA w)(h1:s.g≤4611686018427387904)(ai:s.m≤4611686018427387904)(aj:s.h≤4611686018427387904)(ak:s.p≤4611686018427387904):
 Calls Tryz.prog 34 #[Value.agg (flat [[E s.w],[E s.g],[E s.m],[E s.h],[E s.p]])] w fun e w'=>∃p k,e=.returned (.slice p 256 k)∧w'.ownsRow w.heap.size 5 1 (.slice p 256 k) 256 (bv (Ref.EC s))∧Below w.heap.size w w':=by
 have b:Below w.heap.size w w:=Cn _ _
 refine DZ TU D 32 ?_
 refine Ao<|AD<|Hf D ?_
 intro al S T U f J
 have an:=C8 b T
 have b:=BG b J
 refine AV D<|Aw<|Ai<|Ao<|AD<|Gt BM 0 D<|Hv AF 0 f D D<|Cc (fun _ L=>Ex L (p:=((s.w:Nat):Int)) (r:=(((UInt8.ofNat s.w).toNat:Nat):Int)) D AF BV (H5 s.w))<|?_
 intro ao V
 refine Cp D (fun K W=>Wk V D (e:=5) (BH:=[(0,(Value.int .u8 (((76:Nat):Int):Int))),(1,(Value.int .u8 (((68:Nat):Int):Int))),(2,(Value.int .u8 (((71:Nat):Int):Int))),(3,(Value.int .u8 (((49:Nat):Int):Int))),(4,(Value.int .u8 ((((UInt8.ofNat s.w).toNat:Nat):Int):Int))),(5,(Value.int .u8 (((0:Nat):Int):Int))),(6,(Value.int .u8 (((0:Nat):Int):Int))),(7,(Value.int .u8 (((0:Nat):Int):Int)))]) D (cs:=#[Value.int .u8 (((76:Nat):Int):Int),Value.int .u8 (((68:Nat):Int):Int),Value.int .u8 (((71:Nat):Int):Int),Value.int .u8 (((49:Nat):Int):Int),Value.int .u8 ((((UInt8.ofNat s.w).toNat:Nat):Int):Int),Value.int .u8 (((0:Nat):Int):Int),Value.int .u8 (((0:Nat):Int):Int),Value.int .u8 (((0:Nat):Int):Int)]) D (by unfold maxLen;omega) (by kernel_rfl) ?_)
 intro a M L U c J
 have c:View M (I (some ⟨S.heap.size,0,none⟩) 8 8) 8 1 (bv [76,68,71,49,UInt8.ofNat s.w,0,0,0]):=c
 have f:=Bl f J
 have b:=BG b J
 refine W _ _ ?_;revert a
 refine AV D<|Aw<|Ai<|Ao<|AD<|Az D<|Gt BM 1 D<|Hv AF 1 f D D<|CL Nx D (OH s.g 8 _) ?_
 rintro _ X ⟨aq,ar,rfl,n,A⟩
 refine⟨_,D,?_⟩
 have d:w.heap.size≤M.heap.size:=b.size
 have f:=Bl f A
 have c:=c.below A
 have b:=BG b A
 have n:=Ew n d
 refine CL My D (MP _ _ _ _ _ _ _ _ _ (by omega) c (by rfl) (View.own n) (De n)) ?_
 rintro _ Y ⟨au,av,rfl,i,B⟩
 refine⟨_,D,?_⟩
 have d:w.heap.size≤X.heap.size:=b.size
 have f:=Bl f B
 have c:=c.below B
 have b:=BG b B
 have i:=Ew i d
 refine AV D<|Aw<|Ai<|Ao<|AD<|Az D<|Gt BM 2 D<|Hv AF 2 f D D<|CL Nx D (OH s.m 4 _) ?_
 rintro _ Z ⟨aw,ax,rfl,o,q⟩
 refine⟨_,D,?_⟩
 have d:w.heap.size≤Y.heap.size:=b.size
 have f:=Bl f q
 have c:=c.below q
 have i:=EN i q
 have b:=BG b q
 have o:=Ew o d
 refine CL My D (MP _ _ _ _ _ _ _ _ _ (by omega) (View.own i) (De i) (View.own o) (De o)) ?_
 rintro _ aa ⟨ay,az,rfl,j,C⟩
 refine⟨_,D,?_⟩
 have d:w.heap.size≤Z.heap.size:=b.size
 have f:=Bl f C
 have c:=c.below C
 have b:=BG b C
 have j:=Ew j d
 refine AV D<|Aw<|Ai<|Ao<|AD<|Az D<|Gt BM 3 D<|Hv AF 3 f D D<|CL Nx D (OH s.h 4 _) ?_
 rintro _ ab ⟨aA,aB,rfl,t,u⟩
 refine⟨_,D,?_⟩
 have d:w.heap.size≤aa.heap.size:=b.size
 have f:=Bl f u
 have c:=c.below u
 have j:=EN j u
 have b:=BG b u
 have t:=Ew t d
 refine CL My D (MP _ _ _ _ _ _ _ _ _ (by omega) (View.own j) (De j) (View.own t) (De t)) ?_
 rintro _ ad ⟨aC,aD,rfl,l,F⟩
 refine⟨_,D,?_⟩
 have d:w.heap.size≤ab.heap.size:=b.size
 have f:=Bl f F
 have c:=c.below F
 have b:=BG b F
 have l:=Ew l d
 refine AV D<|Aw<|Ai<|Ao<|AD<|Az D<|Gt BM 4 D<|Hv AF 4 f D D<|CL Nx D (OH s.p 4 _) ?_
 rintro _ ae ⟨aE,aF,rfl,v,G⟩
 refine⟨_,D,?_⟩
 have d:w.heap.size≤ad.heap.size:=b.size
 have c:=c.below G
 have l:=EN l G
 have b:=BG b G
 have v:=Ew v d
 refine CL My D (MP _ _ _ _ _ _ _ _ _ (by omega) (View.own l) (De l) (View.own v) (De v)) ?_
 rintro _ af ⟨aG,aH,rfl,x,N⟩
 refine⟨_,D,?_⟩
 have d:w.heap.size≤ae.heap.size:=b.size
 have c:=c.below N
 have b:=BG b N
 have x:=Ew x d
 refine AV D<|Aw<|Ai<|Ao<|AD<|Az D<|CL PY D (Rw _ _ _ 60 _ _ (by omega) (by omega) (View.own x) (De x)) ?_
 rintro _ ag ⟨aI,aJ,rfl,y,O⟩
 refine⟨_,D,?_⟩
 have d:w.heap.size≤af.heap.size:=b.size
 have c:=c.below O
 have b:=BG b O
 have y:=Ew y d
 refine CL R4 D (W_ _ _ _ _ _ (R.below b (Br _)) (by omega) (View.own y) (De y)) ?_
 rintro _ ah ⟨aK,aL,rfl,z,P⟩
 refine⟨_,D,?_⟩
 have d:w.heap.size≤ag.heap.size:=b.size
 have c:=c.below P
 have b:=BG b P
 have z:=Ew z d
 refine CL PY D (Rw _ _ _ 256 _ _ (by omega) (by omega) (View.own z) (De z)) ?_
 rintro _ aM ⟨aN,aO,rfl,H,Q⟩
 refine⟨_,D,?_⟩
 have d:w.heap.size≤ah.heap.size:=b.size
 have c:=c.below Q
 have b:=BG b Q
 have H:=Ew H d
 refine AV D<|Aw<|Ai<|C0<|EE D<|?_
 exact⟨_,_,D,by unfold Ref.EC;exact H,b⟩
theorem cQ(l:List UInt8)(n:Nat):At.C5 l n=0↔∀i,i<4→l.getD (n+i) 0=UInt8.ofNat (At.sum (l.take n)/2^(8*i)):=by
 rw[At.XP,At.Sh]
 have f:=At.G7 (l.take n)
 generalize At.sum (l.take n)=s at*
 have key:∀(b:UInt8) (x:Nat),b=UInt8.ofNat x↔b.toNat=x % 256:=by
  intro b x
  rw[←UInt8.toNat_inj]
  simp
 have g:=(l.getD n 0).toNat_lt
 have j:=(l.getD (n+1) 0).toNat_lt
 have k:=(l.getD (n+2) 0).toNat_lt
 have m:=(l.getD (n+3) 0).toNat_lt
 constructor
 ·intro h i d
  rw[key]
  match i,d with
  |0,_=>simp only[Nat.add_zero,Nat.mul_zero,Nat.pow_zero,Nat.div_one];omega
  |1,_=>show _=s/256 % 256;omega
  |2,_=>show _=s/65536 % 256;omega
  |3,_=>show _=s/16777216 % 256;omega
 ·intro h
  have e:=(key _ _).1 (h 0 (by decide))
  have h1:=(key _ _).1 (h 1 (by decide))
  have a:=(key _ _).1 (h 2 (by decide))
  have c:=(key _ _).1 (h 3 (by decide))
  simp only[Nat.add_zero,Nat.mul_zero,Nat.pow_zero,Nat.div_one]at e
  have h1:(l.getD (n+1) 0).toNat=s/256 % 256:=h1
  have a:(l.getD (n+2) 0).toNat=s/65536 % 256:=a
  have c:(l.getD (n+3) 0).toNat=s/16777216 % 256:=c
  omega
end Go.Proofs.YtaapafoibofbjaaGreatDoor
namespace Go.Proofs.YtaapafoibofbjaaGreatDoor
open Go.RowKit
theorem b0(p:Nat)(l:List UInt8)(a:2≤p∧p<4096)(h1:1≤(l.getD 0 0).toNat)(b:(l.getD 0 0).toNat≤3)(c:(l.getD 1 0).toNat≤246)(d:Fr.le ((l.drop 2).take 4)=p)(e:At.C5 l 252=0)(f:Fr.CN ((l.drop (6+(l.getD 1 0).toNat)).take (252 - (6+(l.getD 1 0).toNat)))=true):Fr.CZ p l=true:=by
 unfold Fr.CZ
 rw[f,decide_eq_true a.1,decide_eq_true a.2,decide_eq_true e,decide_eq_true h1,decide_eq_true b,decide_eq_true c,decide_eq_true d]
 rfl
structure I7 (l:List UInt8) (s:Fr.Bu):Prop where
 len:l.length=256
 C5:At.C5 (l.take 64) 60=0
 Bz:(l.getD 0 0).toNat=76
 Dt:(l.getD 1 0).toNat=68
 jW:(l.getD 2 0).toNat=71
 kf:(l.getD 3 0).toNat=49
 jV:Fr.CN ((l.drop 5).take (8 - 5))=true
 kg:Fr.CN ((l.drop 28).take (60 - 28))=true
 w:(l.getD 4 0).toNat=s.w
 g:Fr.le ((l.drop 8).take 8)=s.g
 m:Fr.le ((l.drop 16).take 4)=s.m
 h:Fr.le ((l.drop 20).take 4)=s.h
 p:Fr.le ((l.drop 24).take 4)=s.p
 valid:Fr.DE s=true
theorem I7.HZ{l:List UInt8}{s:Fr.Bu}(h:I7 l s):s.g≤1099511627776:=by
 have:=h.valid
 simp only[Fr.DE,Bool.and_eq_true,decide_eq_true_eq]at this
 omega
end Go.Proofs.YtaapafoibofbjaaGreatDoor
