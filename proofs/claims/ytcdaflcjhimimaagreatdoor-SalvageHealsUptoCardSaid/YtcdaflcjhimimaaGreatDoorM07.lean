/- Laws and walks on the road to SalvageNever and SalvageHeals (part M07). No conditions beyond each law's own. -/
import Derived.Test.YtcdaflcjhimimaaGreatDoorM01
import Derived.Test.YtcdaflcjhimimaaGreatDoorM05
import Derived.Test.YtcdaflcjhimimaaGreatDoorM06
import Derived.Test.YtcdaflcjhimimaaGreatDoorM04
set_option linter.unusedVariables false
namespace Go.Proofs.YtcdaflcjhimimaaGreatDoor
open Go.RowKit
variable {x y:Operand} {t u e:TypeId} {W BT:World} {p b n i size q c:Nat} {v:Value} {ss:List (List Value)} {l m:List UInt8} {k:IntKind}
section
variable {P:Program} {w w':World} {ops:Array Oper} {rest:List Oper} {Ac:Exit→Act→World→Prop} {U:Nat} {f:Db} {d:Nat} {ty:TypeId} {pos:String} {AF:Array Edge} {g:Option (Nat×Bool)} {dst:Option Tmp} {R:Act→Prop} {Aa:Act→World→Prop} {a:Act}
theorem C8(h:Jc ss:=by(repeat(first|exact Jc.nil|(apply Jc.one rfl)|(apply Jc.row;(first|assumption|exact Jd.row _|exact Jg _|exact Jk _|exact Jh (by first|assumption|exact List.length_replicate|exact Jd.h _)|exact Jf.row (by first|assumption|exact Jf.zero _|exact Jj)))))):∀u∈(flat ss).toList,u.oneCell'=true:=UN h
theorem EK(c:Ao U a f){bytes:Nat}{z:Value}(i:CN P t e size bytes z)(ss:List (List Value))
 (h:∀b W,Ao U b (Ja f d (.slice (some ⟨w.heap.size,0,none⟩) 1 1))→W.heap.size=w.heap.size+1→View W (.slice (some ⟨w.heap.size,0,none⟩) 1 1) 1 size (flat ss).toList→Below w.heap.size w W→Aa b W)
 (j:Au f x=some (.agg (flat ss)):=by exact rfl)(s1:ss.flatten.length=p:=by(repeat(first|exact Jb.nil|(apply Jb.one)|(apply Jb.row;(first|assumption|exact Jd.row _|exact Jg _|exact Jk _|exact Jh (by first|assumption|exact List.length_replicate|exact Jd.h _)|exact Jf.row (by first|assumption|exact Jf.zero _|exact Jj))))))(k:p=size:=by exact rfl)(l:Nat.ble size 16777216=true:=by exact rfl)(Ab:Nat.blt d U=true:=by exact rfl):DP P ⟨some d,.buildSlice t 1 #[(0,x)],ty,pos,AF,g⟩ a w Aa Ac:=
 Gh c Ab i j D (R5 (s1.trans k)) (Nat.le_of_ble_eq_true l) h
theorem E8{bytes:Nat}{z:Value}(b:CN P t e size bytes z)(ss:List (List Value))
 (h:∀W,W.heap.size=w.heap.size+1→View W (.slice (some ⟨w.heap.size,0,none⟩) 1 1) 1 size (flat ss).toList→Below w.heap.size w W→BG P ops Ac U W (Ja f d (.slice (some ⟨w.heap.size,0,none⟩) 1 1)) rest)
 (c:Au f x=some (.agg (flat ss)):=by exact rfl)(s1:ss.flatten.length=p:=by(repeat(first|exact Jb.nil|(apply Jb.one)|(apply Jb.row;(first|assumption|exact Jd.row _|exact Jg _|exact Jk _|exact Jh (by first|assumption|exact List.length_replicate|exact Jd.h _)|exact Jf.row (by first|assumption|exact Jf.zero _|exact Jj))))))(g:p=size:=by exact rfl)(i:Nat.ble size 16777216=true:=by exact rfl)(Ab:Nat.blt d U=true:=by exact rfl):BG P ops Ac U w f (⟨some d,.buildSlice t 1 #[(0,x)],ty,pos,AF,none⟩::rest):=
 fun a j=>Bj D (fun Aa k=>EK j b ss (fun l W m n o q=>k _ _ (h W n o q l m)) c s1 g i Ab)
theorem Pf{o a m:Nat}{C:List Value}{pre mid post:List (List Value)}(c:Cells w b o C)(d:C=ss.flatten)(f:ss.take i=pre)(g:(ss.drop i).take m=mid)(h:ss.drop (i+m)=post)(s1:pre.flatten.length=p)(j:o+p=a):Cells w b a mid.flatten:=by
 subst d
 have e:ss=pre++mid++post:=by rw[←f,←g,←h,←List.drop_drop,List.append_assoc,List.take_append_drop,List.take_append_drop]
 rw[e]at c
 exact HM pre mid post c s1 j
theorem D9{Az:TypeId}{BU:TypeDesc}(hu:P.underlying Az=some BU)(i m:Nat)(mid:List (List Value)){o a:Nat}{C:List Value}{pre post:List (List Value)}(c:Cells w b o C)(e:Au f x=some (.pointer (some ⟨b,a,none⟩)))(h:BG P ops Ac U w (Ja f d (.agg (flat mid))) rest)
 (g:C=ss.flatten:=by exact rfl)(j:ss.take i=pre:=by first|(simp only[List.take_succ_cons,List.take_zero,List.take_nil,List.drop_succ_cons,List.drop_zero,List.drop_nil,List.cons_append,List.nil_append,List.append_nil]<;>rfl)|exact rfl)(k:(ss.drop i).take m=mid:=by first|(simp only[List.take_succ_cons,List.take_zero,List.take_nil,List.drop_succ_cons,List.drop_zero,List.drop_nil,List.cons_append,List.nil_append,List.append_nil]<;>rfl)|exact rfl)(l:ss.drop (i+m)=post:=by first|(simp only[List.take_succ_cons,List.take_zero,List.take_nil,List.drop_succ_cons,List.drop_zero,List.drop_nil,List.cons_append,List.nil_append,List.append_nil]<;>rfl)|exact rfl)(s1:pre.flatten.length=p:=by(repeat(first|exact Jb.nil|(apply Jb.one)|(apply Jb.row;(first|assumption|exact Jd.row _|exact Jg _|exact Jk _|exact Jh (by first|assumption|exact List.length_replicate|exact Jd.h _)|exact Jf.row (by first|assumption|exact Jf.zero _|exact Jj))))))(n:o+p=a:=by first|rfl|omega)(s2:mid.flatten.length=q:=by(repeat(first|exact Jb.nil|(apply Jb.one)|(apply Jb.row;(first|assumption|exact Jd.row _|exact Jg _|exact Jk _|exact Jh (by first|assumption|exact List.length_replicate|exact Jd.h _)|exact Jf.row (by first|assumption|exact Jf.zero _|exact Jj))))))(r:(P.info? Az).map (·.size)=some q:=by kernel_rfl)(s:BU.isRow=true:=by exact rfl)(Ab:Nat.blt d U=true:=by exact rfl):
 BG P ops Ac U w f (⟨some d,.load Az x,ty,pos,AF,none⟩::rest):=AT (fun _ t=>H9 t e hu s (Pf c g j k l s1 n) (by rw[s2];exact r)) h Ab
theorem FG{Az:TypeId}{BU:TypeDesc}(hu:P.underlying Az=some BU)(i m:Nat)(mid:List (List Value)){o a:Nat}{C:List Value}{pre post:List (List Value)}(c:Cells w b o C)(e:Au f x=some (.pointer (some ⟨b,a,none⟩)))(h:Cw P ops R U w (Ja f d (.agg (flat mid))) rest)
 (g:C=ss.flatten:=by exact rfl)(j:ss.take i=pre:=by first|(simp only[List.take_succ_cons,List.take_zero,List.take_nil,List.drop_succ_cons,List.drop_zero,List.drop_nil,List.cons_append,List.nil_append,List.append_nil]<;>rfl)|exact rfl)(k:(ss.drop i).take m=mid:=by first|(simp only[List.take_succ_cons,List.take_zero,List.take_nil,List.drop_succ_cons,List.drop_zero,List.drop_nil,List.cons_append,List.nil_append,List.append_nil]<;>rfl)|exact rfl)(l:ss.drop (i+m)=post:=by first|(simp only[List.take_succ_cons,List.take_zero,List.take_nil,List.drop_succ_cons,List.drop_zero,List.drop_nil,List.cons_append,List.nil_append,List.append_nil]<;>rfl)|exact rfl)(s1:pre.flatten.length=p:=by(repeat(first|exact Jb.nil|(apply Jb.one)|(apply Jb.row;(first|assumption|exact Jd.row _|exact Jg _|exact Jk _|exact Jh (by first|assumption|exact List.length_replicate|exact Jd.h _)|exact Jf.row (by first|assumption|exact Jf.zero _|exact Jj))))))(n:o+p=a:=by first|rfl|omega)(s2:mid.flatten.length=q:=by(repeat(first|exact Jb.nil|(apply Jb.one)|(apply Jb.row;(first|assumption|exact Jd.row _|exact Jg _|exact Jk _|exact Jh (by first|assumption|exact List.length_replicate|exact Jd.h _)|exact Jf.row (by first|assumption|exact Jf.zero _|exact Jj))))))(r:(P.info? Az).map (·.size)=some q:=by kernel_rfl)(s:BU.isRow=true:=by exact rfl)(Ab:Nat.blt d U=true:=by exact rfl):
 Cw P ops R U w f (⟨some d,.load Az x,ty,pos,AF,none⟩::rest):=Cz (fun _ t=>H9 t e hu s (Pf c g j k l s1 n) (by rw[s2];exact r)) h Ab
end
structure Jd where
 l:List UInt8
 h:l.length=32
theorem Jd.row(x:Jd):Row 32 (bv x.l):=Jh x.h
structure B8 where
 p:Option Addr
 v:List UInt8
 c:Nat
def B8.val(s:B8):Value:=.slice s.p s.v.length s.c
def B8.ok(W:World)(s:B8):Prop:=View W s.val s.v.length 1 (bv s.v)
def B8.Hg(W:World)(s:B8):Prop:=s.v.length≠0→s.ok W
theorem B8.Hg.below{s:B8}(h:s.Hg W)(a:Below n W BT)(hn:n=W.heap.size):s.Hg BT:=by
 subst hn;exact fun q=>View.below (h q) a
theorem B8.ok.z{s:B8}(h:s.ok W):s.Hg W:=fun _=>h
theorem B8.ok.below{s:B8}(h:s.ok W)(a:Below n W BT)(hn:n=W.heap.size):s.ok BT:=by
 subst hn;exact View.below h a
structure CV where
 k:Jd
 d:Bool
 s:B8
def FQ(x:CV):List Value:=List.flatten [bv x.k.l,[.bool x.d],[.slice x.s.p x.s.v.length x.s.c]]
theorem CI(x:CV):(FQ x).length=34:=Jb.row x.k.row (Jb.one (Jb.one Jb.nil))
structure B7 where
 k:Jd
 s:B8
def FJ(x:B7):List Value:=List.flatten [bv x.k.l,[.slice x.s.p x.s.v.length x.s.c]]
theorem Ep(x:B7):(FJ x).length=33:=Jb.row x.k.row (Jb.one Jb.nil)
structure DD where
 ZI:Nat
 l:Nat
 r:Nat
 lc:Nat
 rc:Nat
 ls:Jd
 rs:Jd
 k:Jd
 s:B8
def Dd(x:DD):List Value:=List.flatten [[.int .i64 ((x.ZI:Nat):Int)],[.int .i64 ((x.l:Nat):Int)],[.int .i64 ((x.r:Nat):Int)],[.int .i64 ((x.lc:Nat):Int)],[.int .i64 ((x.rc:Nat):Int)],bv x.ls.l,bv x.rs.l,bv x.k.l,[.slice x.s.p x.s.v.length x.s.c]]
theorem FO(x:DD):(Dd x).length=102:=Jb.one (Jb.one (Jb.one (Jb.one (Jb.one (Jb.row x.ls.row (Jb.row x.rs.row (Jb.row x.k.row (Jb.one Jb.nil))))))))
structure Ef where
 v:Nat
 f:Nat
 ZG:Nat
 ZZ:Nat
 r:Nat
 c:Nat
 s:Jd
def DY(x:Ef):List Value:=List.flatten [[.int .i64 ((x.v:Nat):Int)],[.int .i64 ((x.f:Nat):Int)],[.int .i64 ((x.ZG:Nat):Int)],[.int .i64 ((x.ZZ:Nat):Int)],[.int .i64 ((x.r:Nat):Int)],[.int .i64 ((x.c:Nat):Int)],bv x.s.l]
theorem Ha(x:Ef):(DY x).length=38:=Jb.one (Jb.one (Jb.one (Jb.one (Jb.one (Jb.one (Jb.row x.s.row Jb.nil))))))
structure Co where
 b:Nat
 p:Nat
 k:Jd
 s:Jd
def CA(x:Co):List Value:=List.flatten [[.int .i64 ((x.b:Nat):Int)],[.int .i64 ((x.p:Nat):Int)],bv x.k.l,bv x.s.l]
theorem D3(x:Co):(CA x).length=66:=Jb.one (Jb.one (Jb.row x.k.row (Jb.row x.s.row Jb.nil)))
def Ex(x:Jd):List Value:=List.flatten [bv x.l]
theorem G8(x:Jd):(Ex x).length=32:=Jb.row x.row Jb.nil
def Ct(x:Nat):List Value:=[.int .i64 ((x:Nat):Int)]
theorem En(x:Nat):(Ct x).length=1:=rfl
theorem CH:CN Tryz.prog 45 96 34 64 (.agg (flat [Av 32,[.bool false],[.slice none 0 0]])):=CN.mk' F1 (by kernel_rfl) D (by decide)
theorem DH:CN Tryz.prog 44 53 33 56 (.agg (flat [Av 32,[.slice none 0 0]])):=CN.mk' FB (by kernel_rfl) D (by decide)
theorem EL:CN Tryz.prog 60 127 102 160 (.agg (flat [[.int .i64 0],[.int .i64 0],[.int .i64 0],[.int .i64 0],[.int .i64 0],Av 32,Av 32,Av 32,[.slice none 0 0]])):=CN.mk' FN (by kernel_rfl) D (by decide)
theorem F_:CN Tryz.prog 61 131 38 80 (.agg (flat [[.int .i64 0],[.int .i64 0],[.int .i64 0],[.int .i64 0],[.int .i64 0],[.int .i64 0],Av 32])):=CN.mk' Hb (by kernel_rfl) D (by decide)
theorem DW:CN Tryz.prog 119 190 66 80 (.agg (flat [[.int .i64 0],[.int .i64 0],Av 32,Av 32])):=CN.mk' Ds (by kernel_rfl) D (by decide)
theorem HF:CN Tryz.prog 64 125 32 32 (.agg (flat [Av 32])):=CN.mk' ID (by kernel_rfl) D (by decide)
theorem DK:CN Tryz.prog 29 3 1 8 (.int .i64 0):=CN.mk' Eo (by kernel_rfl) D (by decide)
theorem Jn{P:Nat→Prop}(h:∀j,j<i→P j)(a:P i):∀j,j<i+1→P j:=by
 intro j b
 rcases Nat.lt_or_ge j i with q|q
 ·exact h j q
 ·obtain rfl:j=i:=by omega
  exact a
def Bh:Jd:=⟨List.replicate 32 0,D⟩
def DZ:B8:=⟨none,[],0⟩
theorem DZ.isOk(W:World):DZ.ok W:=⟨Be _,.inl ⟨D,D,D⟩⟩
theorem Gc(h:Jc ss):∀u∈ss.flatten,u.oneCell'=true:=by
 intro u hu
 obtain⟨s,a,hu⟩:=List.mem_flatten.1 hu
 exact h s a u hu
theorem B8.ok.lt{s:B8}(h:s.ok W):∀a,s.p=some a→a.block<W.heap.size:=by
 intro a d
 rcases h.2 with⟨c,_⟩|⟨b,off,cap,c,_,_,_,e,_⟩
 ·simp only[B8.val,Value.slice.injEq]at c
  rw[d]at c
  cases c.1
 ·simp only[B8.val,Value.slice.injEq]at c
  rw[d]at c
  have:=c.1
  simp only[Option.some.injEq]at this
  subst this
  exact e
theorem B8.ok.PW{s:B8}(h:s.ok W){r:Option Nat}(g:W.grownBy BT r)(ne:∀a,s.p=some a→r≠some a.block):s.ok BT:=by
 refine⟨h.1,?_⟩
 rcases h.2 with q|⟨b,off,cap,c,f,i,j,d,k⟩
 ·exact .inl q
 ·refine .inr ⟨b,off,cap,c,f,i,j,Nat.lt_of_lt_of_le d g.size,?_⟩
  simp only[B8.val,Value.slice.injEq]at c
  exact k.FR (g.block b d (fun e=>ne _ c.1 e.symm))
theorem B8.ok.grown{s:B8}(h:s.ok W)(g:W.grownBy BT (some b))(ne:∀a,s.p=some a→a.block≠b):s.ok BT:=
 h.PW g (fun a c e=>ne a c (by cases e;rfl))
theorem B8.ok.C9{s:B8}(h:s.ok W){BL:Value}(b:C' W BT v BL)(ne:∀k,v.ownBlock=some k→∀a,s.p=some a→a.block≠k):s.ok BT:=
 h.PW b.ai (fun a c e=>ne _ e a c D)
theorem QY{base k:Nat}{p:Option Addr}{xs:List Value}(h:W.ownsRow base e size (.slice p k c) n xs):∀a,p=some a→base≤a.block:=by
 intro a b
 subst b
 exact(h.lt a.block D).1
theorem B8.own{base:Nat}{p:Option Addr}(h:W.ownsRow base 5 1 (.slice p n c) n (bv l)):B8.ok W ⟨p,l,c⟩:=by
 have a:=CS h
 subst a
 exact View.own h
def Cu(l:List UInt8)(i:Nat):Nat:=if 255<i then 0 else(l.getD (i/8) 0).toNat/2^(7 - i % 8) % 2
theorem PJ(l:List UInt8)(i:Nat):Cu l i<2:=by unfold Cu;split<;>omega
def Da(l m:List UInt8):Nat:=((List.range 256).find? (fun i=>Cu l i !=Cu m i)).getD 256
theorem Yy(a:i<256)(h:∀j,j<i→Cu l j=Cu m j)(hn:¬Cu l i=Cu m i):Da l m=i:=by
 unfold Da
 have:(List.range 256).find? (fun i=>Cu l i !=Cu m i)=some i:=by
  rw[List.find?_range_eq_some]
  refine⟨by simpa using hn,by simpa using a,fun j b=>by simpa using h j b⟩
 rw[this];rfl
theorem VK(h:∀j,j<256→Cu l j=Cu m j):Da l m=256:=by
 unfold Da
 have:(List.range 256).find? (fun i=>Cu l i !=Cu m i)=none:=by
  rw[List.find?_eq_none]
  intro i a
  simpa using h i (List.mem_range.1 a)
 rw[this];rfl
theorem Mi(l m:List UInt8):Da l m≤256:=by
 unfold Da
 cases h:(List.range 256).find? (fun i=>Cu l i !=Cu m i)with
 |none=>exact Be _
 |some i=>have:=List.mem_of_find?_eq_some h;have:=List.mem_range.1 this;simp;omega
def B':List UInt8→List UInt8→Int
 |x::l,y::m=>if x=y then B' l m else if x.toNat<y.toNat then -1 else 1
 |_,_=>0
theorem Tx(a:i<l.length)(hm:i<m.length):B' (l.drop i) (m.drop i)=if(l.getD i 0).toNat=(m.getD i 0).toNat then B' (l.drop (i+1)) (m.drop (i+1))else if(l.getD i 0).toNat<(m.getD i 0).toNat then -1 else 1:=by
 rw[List.drop_eq_getElem_cons a,List.drop_eq_getElem_cons hm]
 have b:l.getD i 0=l[i]:=by rw[List.getD_eq_getElem?_getD,List.getElem?_eq_getElem a];rfl
 have c:m.getD i 0=m[i]:=by rw[List.getD_eq_getElem?_getD,List.getElem?_eq_getElem hm];rfl
 rw[b,c]
 show(if l[i]=m[i]then _ else _)=_
 simp only[UInt8.toNat_inj]
theorem Ts(a:l.length≤i):B' (l.drop i) (m.drop i)=0:=by
 rw[List.drop_of_length_le a];unfold B';rfl
theorem UC(l m:List UInt8):B' l m= -1∨B' l m=0∨B' l m=1:=by
 induction l generalizing m with
 |nil=>right;left;unfold B';rfl
 |cons x l a=>
  cases m with
  |nil=>right;left;unfold B';rfl
  |cons y m=>
   unfold B'
   split
   ·exact a m
   ·split<;>simp
section
variable {P:Program} {w w':World} {ops:Array Oper} {rest:List Oper} {Ac:Exit→Act→World→Prop} {U:Nat} {f:Db} {d:Nat} {ty:TypeId} {pos:String} {AF:Array Edge} {dst:Option Tmp} {A4:World→Prop} {fuel B3:Nat} {listed:Array Bool}
abbrev CD(P:Program)(ops:Array Oper)(Ac:Exit→Act→World→Prop)(A4:World→Prop)(U:Nat)(w:World)(f:Db)(fuel:Nat)(listed:Array Bool):Prop:=∀a,Ao U a f→wpAnyH P .any ops Ac A4 fuel listed a w
theorem A5(i:Nat){op:Op}(e:ops[i]? =some ⟨some d,op,ty,pos,AF,none⟩)(g:∀W,A4 W→∀a,Ao U a f→Cy P a W ⟨some d,op,ty,pos,AF,none⟩ v W)(j:A4 w)(h:CD P ops Ac A4 U w (Ja f d v) fuel (listed.setIfInBounds i true))(k:B3=fuel+1:=by exact rfl)(zs:Region.noSelect ops=true:=by kernel_rfl)(l:Region.free .any ops listed i=true:=by kernel_rfl)(m:(Region.ready .any ops listed).contains i=true:=by kernel_rfl)(n:∀c (a:Act) w,Ac (.panic c) (a.put (some d) v) w→Ac (.panic c) a w:=by exact fun _ _ _ h=>h)(o:Nat.blt d U=true:=by exact rfl):CD P ops Ac A4 U w f B3 listed:=
 fun a b=>TY b o e k zs l m n (fun W q=>g W q a b) j h
theorem B_(h:∀a,Ao U a f→Ac .normal a w)(b:Region.ready .any ops listed=[]:=by kernel_rfl):CD P ops Ac A4 U w f fuel listed:=fun a c=>Tm b (h a c)
theorem Bk(i:Nat)(b:ops[i]? =some ⟨some d,.move x,ty,pos,AF,none⟩)(e:Au f x=some v)(g:A4 w)(h:CD P ops Ac A4 U w (Ja f d v) fuel (listed.setIfInBounds i true))(j:B3=fuel+1:=by exact rfl)(zs:Region.noSelect ops=true:=by kernel_rfl)(k:Region.free .any ops listed i=true:=by kernel_rfl)(l:(Region.ready .any ops listed).contains i=true:=by kernel_rfl)(m:∀c (a:Act) w,Ac (.panic c) (a.put (some d) v) w→Ac (.panic c) a w:=by exact fun _ _ _ h=>h)(n:Nat.blt d U=true:=by exact rfl):CD P ops Ac A4 U w f B3 listed:=A5 i b (fun W _ a o=>Ew o e) g h j zs k l m n
theorem EY(i:Nat)(b:ops[i]? =some ⟨some d,.assign x,ty,pos,AF,none⟩)(e:Au f x=some v)(g:A4 w)(h:CD P ops Ac A4 U w (Ja f d v) fuel (listed.setIfInBounds i true))(j:B3=fuel+1:=by exact rfl)(zs:Region.noSelect ops=true:=by kernel_rfl)(k:Region.free .any ops listed i=true:=by kernel_rfl)(l:(Region.ready .any ops listed).contains i=true:=by kernel_rfl)(m:∀c (a:Act) w,Ac (.panic c) (a.put (some d) v) w→Ac (.panic c) a w:=by exact fun _ _ _ h=>h)(n:Nat.blt d U=true:=by exact rfl):CD P ops Ac A4 U w f B3 listed:=A5 i b (fun W _ a o=>Kb o e) g h j zs k l m n
theorem CF(i:Nat){p:Addr}(b:ops[i]? =some ⟨some d,.nilCheck x,ty,pos,AF,none⟩)(e:Au f x=some (.pointer (some p)))(g:A4 w)(h:CD P ops Ac A4 U w (Ja f d (.pointer (some p))) fuel (listed.setIfInBounds i true))(j:B3=fuel+1:=by exact rfl)(zs:Region.noSelect ops=true:=by kernel_rfl)(k:Region.free .any ops listed i=true:=by kernel_rfl)(l:(Region.ready .any ops listed).contains i=true:=by kernel_rfl)(m:∀c (a:Act) w,Ac (.panic c) (a.put (some d) (.pointer (some p))) w→Ac (.panic c) a w:=by exact fun _ _ _ h=>h)(n:Nat.blt d U=true:=by exact rfl):CD P ops Ac A4 U w f B3 listed:=A5 i b (fun W _ a o=>Lz o e) g h j zs k l m n
theorem F5(i:Nat){CQ:Array Value}{i1:Nat}(b:ops[i]? =some ⟨some d,.extract x i1,ty,pos,AF,none⟩)(e:Au f x=some (.tuple CQ))(g:CQ[i1]? =some v)(j:A4 w)(h:CD P ops Ac A4 U w (Ja f d v) fuel (listed.setIfInBounds i true))(k:B3=fuel+1:=by exact rfl)(zs:Region.noSelect ops=true:=by kernel_rfl)(l:Region.free .any ops listed i=true:=by kernel_rfl)(m:(Region.ready .any ops listed).contains i=true:=by kernel_rfl)(n:∀c (a:Act) w,Ac (.panic c) (a.put (some d) v) w→Ac (.panic c) a w:=by exact fun _ _ _ h=>h)(o:Nat.blt d U=true:=by exact rfl):CD P ops Ac A4 U w f B3 listed:=A5 i b (fun W _ a p=>RA p e g) j h k zs l m n o
theorem Hh(i:Nat){c:Operand}(b:ops[i]? =some ⟨some d,.pick c x y,ty,pos,AF,none⟩)(e:Au f c=some (.bool true))(g:Au f x=some v)(j:A4 w)(h:CD P ops Ac A4 U w (Ja f d v) fuel (listed.setIfInBounds i true))(k:B3=fuel+1:=by exact rfl)(zs:Region.noSelect ops=true:=by kernel_rfl)(l:Region.free .any ops listed i=true:=by kernel_rfl)(m:(Region.ready .any ops listed).contains i=true:=by kernel_rfl)(n:∀c (a:Act) w,Ac (.panic c) (a.put (some d) v) w→Ac (.panic c) a w:=by exact fun _ _ _ h=>h)(o:Nat.blt d U=true:=by exact rfl):CD P ops Ac A4 U w f B3 listed:=A5 i b (fun W _ a p=>M1 p e g) j h k zs l m n o
theorem Ik(i:Nat){c:Operand}(b:ops[i]? =some ⟨some d,.pick c x y,ty,pos,AF,none⟩)(e:Au f c=some (.bool false))(g:Au f y=some v)(j:A4 w)(h:CD P ops Ac A4 U w (Ja f d v) fuel (listed.setIfInBounds i true))(k:B3=fuel+1:=by exact rfl)(zs:Region.noSelect ops=true:=by kernel_rfl)(l:Region.free .any ops listed i=true:=by kernel_rfl)(m:(Region.ready .any ops listed).contains i=true:=by kernel_rfl)(n:∀c (a:Act) w,Ac (.panic c) (a.put (some d) v) w→Ac (.panic c) a w:=by exact fun _ _ _ h=>h)(o:Nat.blt d U=true:=by exact rfl):CD P ops Ac A4 U w f B3 listed:=A5 i b (fun W _ a p=>Oe p e g) j h k zs l m n o
theorem Se(i:Nat){b:Bool}(e:ops[i]? =some ⟨some d,.unOp .not t x,ty,pos,AF,none⟩)(g:Au f x=some (.bool b))(j:A4 w)(h:CD P ops Ac A4 U w (Ja f d (.bool (!b))) fuel (listed.setIfInBounds i true))(k:B3=fuel+1:=by exact rfl)(zs:Region.noSelect ops=true:=by kernel_rfl)(l:Region.free .any ops listed i=true:=by kernel_rfl)(m:(Region.ready .any ops listed).contains i=true:=by kernel_rfl)(n:∀c (a:Act) w,Ac (.panic c) (a.put (some d) (.bool (!b))) w→Ac (.panic c) a w:=by exact fun _ _ _ h=>h)(o:Nat.blt d U=true:=by exact rfl):CD P ops Ac A4 U w f B3 listed:=A5 i e (fun W _ a p=>LN p g) j h k zs l m n o
theorem Oy(i:Nat)(b:ops[i]? =some ⟨some d,.call {callee:=.builtin .len,args:=#[x],argTypes:=#[t]},ty,pos,AF,none⟩)(g:P.underlying t=some (.slice e)){p:Option Addr}(j:Au f x=some (.slice p n c))(k:A4 w)(h:CD P ops Ac A4 U w (Ja f d (.int .i64 n)) fuel (listed.setIfInBounds i true))(l:B3=fuel+1:=by exact rfl)(zs:Region.noSelect ops=true:=by kernel_rfl)(m:Region.free .any ops listed i=true:=by kernel_rfl)(o:(Region.ready .any ops listed).contains i=true:=by kernel_rfl)(q:∀c (a:Act) w,Ac (.panic c) (a.put (some d) (.int .i64 n)) w→Ac (.panic c) a w:=by exact fun _ _ _ h=>h)(r:Nat.blt d U=true:=by exact rfl):CD P ops Ac A4 U w f B3 listed:=A5 i b (fun W _ a s=>Nt s g j) k h l zs m o q r
theorem BW(i:Nat){s:TypeId}{i1:Nat}{off:Nat}{e:Array Field}(g:ops[i]? =some ⟨some d,.fieldAddr s x i1,ty,pos,AF,none⟩)(hu:P.underlying s=some (.struct e))(o:Nat)(j:Au f x=some (.pointer (some ⟨b,off,none⟩)))(k:A4 w)(h:CD P ops Ac A4 U w (Ja f d (.pointer (some ⟨b,o,none⟩))) fuel (listed.setIfInBounds i true)){Cs:Field}(l:e[i1]? =some Cs:=by exact rfl)(m:(P.info? Cs.type).any (fun i=>Nat.blt 0 i.size)=true:=by kernel_rfl)(n:off+Cs.offset=o:=by first|rfl|omega)(p:B3=fuel+1:=by exact rfl)(zs:Region.noSelect ops=true:=by kernel_rfl)(q:Region.free .any ops listed i=true:=by kernel_rfl)(r:(Region.ready .any ops listed).contains i=true:=by kernel_rfl)(t:∀c (a:Act) w,Ac (.panic c) (a.put (some d) (.pointer (some ⟨b,o,none⟩))) w→Ac (.panic c) a w:=by exact fun _ _ _ h=>h)(u:Nat.blt d U=true:=by exact rfl):CD P ops Ac A4 U w f B3 listed:=A5 i g (fun W _ a v=>Mh v j hu l m n) k h p zs q r t u
theorem KL(i:Nat)(b:ops[i]? =some ⟨some d,.binOp .add t x y u,ty,pos,AF,none⟩)(e:Au f x=some (.int .i64 p))(g:Au f y=some (.int .i64 q))(j:A4 w)(h:CD P ops Ac A4 U w (Ja f d (.int .i64 ((p+q:Nat):Int))) fuel (listed.setIfInBounds i true))(k:p+q≤9223372036854775807:=by omega)(l:B3=fuel+1:=by exact rfl)(zs:Region.noSelect ops=true:=by kernel_rfl)(m:Region.free .any ops listed i=true:=by kernel_rfl)(n:(Region.ready .any ops listed).contains i=true:=by kernel_rfl)(o:∀c (a:Act) w,Ac (.panic c) (a.put (some d) (.int .i64 ((p+q:Nat):Int))) w→Ac (.panic c) a w:=by exact fun _ _ _ h=>h)(r:Nat.blt d U=true:=by exact rfl):CD P ops Ac A4 U w f B3 listed:=A5 i b (fun W _ a s=>Lq s e g D k) j h l zs m n o r
theorem Ko(i:Nat)(b:ops[i]? =some ⟨some d,.binOp .sub t x y u,ty,pos,AF,none⟩)(e:Au f x=some (.int .i64 p))(g:Au f y=some (.int .i64 q))(j:A4 w)(h:CD P ops Ac A4 U w (Ja f d (.int .i64 ((p - q:Nat):Int))) fuel (listed.setIfInBounds i true))(k:p=q+(p - q):=by omega)(l:p≤9223372036854775807:=by omega)(m:B3=fuel+1:=by exact rfl)(zs:Region.noSelect ops=true:=by kernel_rfl)(n:Region.free .any ops listed i=true:=by kernel_rfl)(o:(Region.ready .any ops listed).contains i=true:=by kernel_rfl)(r:∀c (a:Act) w,Ac (.panic c) (a.put (some d) (.int .i64 ((p - q:Nat):Int))) w→Ac (.panic c) a w:=by exact fun _ _ _ h=>h)(s:Nat.blt d U=true:=by exact rfl):CD P ops Ac A4 U w f B3 listed:=A5 i b (fun W _ a v=>Lg v e g k l) j h m zs n o r s
theorem WX(i:Nat){p q:Int}(b:ops[i]? =some ⟨some d,.binOp .gtr t x y u,ty,pos,AF,none⟩)(e:q<p)(g:Au f x=some (.int k p))(j:Au f y=some (.int k q))(l:A4 w)(h:CD P ops Ac A4 U w (Ja f d (.bool true)) fuel (listed.setIfInBounds i true))(m:B3=fuel+1:=by exact rfl)(zs:Region.noSelect ops=true:=by kernel_rfl)(n:Region.free .any ops listed i=true:=by kernel_rfl)(o:(Region.ready .any ops listed).contains i=true:=by kernel_rfl)(r:∀c (a:Act) w,Ac (.panic c) (a.put (some d) (.bool true)) w→Ac (.panic c) a w:=by exact fun _ _ _ h=>h)(s:Nat.blt d U=true:=by exact rfl):CD P ops Ac A4 U w f B3 listed:=A5 i b (fun W _ a v=>JP v g j true (decide_eq_true e)) l h m zs n o r s
theorem Xb(i:Nat){p q:Int}(b:ops[i]? =some ⟨some d,.binOp .gtr t x y u,ty,pos,AF,none⟩)(e:¬(q<p))(g:Au f x=some (.int k p))(j:Au f y=some (.int k q))(l:A4 w)(h:CD P ops Ac A4 U w (Ja f d (.bool false)) fuel (listed.setIfInBounds i true))(m:B3=fuel+1:=by exact rfl)(zs:Region.noSelect ops=true:=by kernel_rfl)(n:Region.free .any ops listed i=true:=by kernel_rfl)(o:(Region.ready .any ops listed).contains i=true:=by kernel_rfl)(r:∀c (a:Act) w,Ac (.panic c) (a.put (some d) (.bool false)) w→Ac (.panic c) a w:=by exact fun _ _ _ h=>h)(s:Nat.blt d U=true:=by exact rfl):CD P ops Ac A4 U w f B3 listed:=A5 i b (fun W _ a v=>JP v g j false (decide_eq_false e)) l h m zs n o r s
theorem Ou(i:Nat){p q:Int}(b:ops[i]? =some ⟨some d,.binOp .eql t x y u,ty,pos,AF,none⟩)(e:p=q)(g:Au f x=some (.int k p))(j:Au f y=some (.int k q))(l:A4 w)(h:CD P ops Ac A4 U w (Ja f d (.bool true)) fuel (listed.setIfInBounds i true))(m:B3=fuel+1:=by exact rfl)(zs:Region.noSelect ops=true:=by kernel_rfl)(n:Region.free .any ops listed i=true:=by kernel_rfl)(o:(Region.ready .any ops listed).contains i=true:=by kernel_rfl)(r:∀c (a:Act) w,Ac (.panic c) (a.put (some d) (.bool true)) w→Ac (.panic c) a w:=by exact fun _ _ _ h=>h)(s:Nat.blt d U=true:=by exact rfl):CD P ops Ac A4 U w f B3 listed:=A5 i b (fun W _ a v=>IT v g j true (decide_eq_true e)) l h m zs n o r s
theorem Oo(i:Nat){p q:Int}(b:ops[i]? =some ⟨some d,.binOp .eql t x y u,ty,pos,AF,none⟩)(e:¬(p=q))(g:Au f x=some (.int k p))(j:Au f y=some (.int k q))(l:A4 w)(h:CD P ops Ac A4 U w (Ja f d (.bool false)) fuel (listed.setIfInBounds i true))(m:B3=fuel+1:=by exact rfl)(zs:Region.noSelect ops=true:=by kernel_rfl)(n:Region.free .any ops listed i=true:=by kernel_rfl)(o:(Region.ready .any ops listed).contains i=true:=by kernel_rfl)(r:∀c (a:Act) w,Ac (.panic c) (a.put (some d) (.bool false)) w→Ac (.panic c) a w:=by exact fun _ _ _ h=>h)(s:Nat.blt d U=true:=by exact rfl):CD P ops Ac A4 U w f B3 listed:=A5 i b (fun W _ a v=>IT v g j false (decide_eq_false e)) l h m zs n o r s
theorem GY(i:Nat){bytes:Nat}{z:Value}{g:Operand}{off:Nat}{i0:Int}(l:ops[i]? =some ⟨some d,.indexAddr t x g,ty,pos,AF,none⟩)(m:CN P t e size bytes z)(j:Nat)(o:Nat)(p:Au f x=some (.slice (some ⟨b,off,none⟩) n c))(q:Au f g=some (.int k i0))(r:A4 w)(h:CD P ops Ac A4 U w (Ja f d (.pointer (some ⟨b,o,none⟩))) fuel (listed.setIfInBounds i true))(s:i0=j:=by omega)(u:j<n:=by omega)(v:off+j*size=o:=by first|rfl|omega)(y:B3=fuel+1:=by exact rfl)(zs:Region.noSelect ops=true:=by kernel_rfl)(A:Region.free .any ops listed i=true:=by kernel_rfl)(B:(Region.ready .any ops listed).contains i=true:=by kernel_rfl)(C:∀c (a:Act) w,Ac (.panic c) (a.put (some d) (.pointer (some ⟨b,o,none⟩))) w→Ac (.panic c) a w:=by exact fun _ _ _ h=>h)(D:Nat.blt d U=true:=by exact rfl):CD P ops Ac A4 U w f B3 listed:=A5 i l (fun W _ a E=>Fz E m p q j s u v) r h y zs A B C D
end
end Go.Proofs.YtcdaflcjhimimaaGreatDoor
namespace Go.Proofs.YtcdaflcjhimimaaGreatDoor
open Go.RowKit
set_option maxRecDepth 100000
set_option maxHeartbeats 1000000
variable {i j:Nat}
theorem Oz(x:Jd)(i:Nat)(w:World)(u:i≤4611686018427387904:=by omega):
 Calls Tryz.prog 131 #[Value.agg (flat [bv x.l]),E i] w fun e w'=>e=.returned (.int .i64 ((Cu x.l i:Nat):Int))∧Below w.heap.size w w':=by
 have c:Below w.heap.size w w:=Bu _ _
 refine Bx Mu D 28 ?_
 refine K<|N<|CW D ?_
 intro b2 g j y m n
 have z:=Bg c j
 have c:=Ah c n
 refine O (v:=(E 0)) D<|M<|G<|K<|K<|N<|I D<|?_
 have o:¬(((i:Nat):Int)<((0:Nat):Int)):=by omega
 refine DO o D D<|I D<|Ad D D D<|I D<|?_
 by_cases d:((255:Nat):Int)<((i:Nat):Int)
 ·
  refine Ad D D D<|Gp d D D<|Ba D D<|M<|G<|BS D<|K<|N<|O (v:=(E 0)) D<|M<|G<|AA<|AX<|AZ D<|?_
  exact⟨by rw[show Cu x.l i=0 from if_pos (by omega)],c⟩
 ·
  refine Ad D D D<|FV d D D<|Ba D D<|M<|G<|BE D<|AE<|G<|K<|N<|I D<|FK (q:=8) D D<|Dg Ce 1 (i/8) (i/8) D D<|Cg BA (Ib m x.h (i/8)) D<|AT (fun _ b=>C3 b (p:=((((x.l.getD (i/8) 0).toNat:Nat):Int):Int)) (r:=(((x.l.getD (i/8) 0).toNat:Nat):Int)) D BA AH (GR ((x.l.getD (i/8) 0).toNat) (Nat.lt_trans (UInt8.toNat_lt _) (by decide))))<|O D<|M<|G<|K<|K<|N<|I D<|EM (q:=8) D D<|O D<|M<|G<|A2<|?_
  intro a b
  refine Cb (fun s a W=>∃k v,s=7 - k∧W=g∧Ao 28 a (Ja (Ja Je 5 (E v)) 6 (E k))∧(i % 8≤k∧k≤7)∧Hid (v=(x.l.getD (i/8) 0).toNat/2^(k - i % 8))∧v<256) _ ⟨_,_,D,D,At b,by omega,Aw (by rw[Nat.sub_self];simp),UInt8.toNat_lt _⟩ ?_
  rintro _ a _ ⟨k,v,rfl,rfl,b,A,f,B⟩
  revert a
  refine K<|K<|N<|I D<|B5 (q:=(7:Nat)) D D<|M<|G<|Bl D (fun t=>?_) fun t=>?_
  ·
   refine AE<|G<|K<|A2<|N<|I D<|FK (q:=2) D D<|O D<|M<|Bq<|G<|N<|I D<|A_ (q:=1) D D<|O D<|M<|G<|?_
   intro a b
   exact⟨_,by omega,k+1,_,D,D,At b,by omega,Aw (by rw[f.out,Nat.div_div_eq_div_mul,show k+1 - i % 8=(k - i % 8)+1 by omega,Nat.pow_succ]),by omega⟩
  ·
   refine BO<|AW<|AW<|BN<|G<|K<|N<|I D<|EM (q:=2) D D<|O D<|M<|G<|AA<|AZ D<|?_
   exact⟨by rw[show Cu x.l i=v % 2 from by rw[f.out,show k - i % 8=7 - i % 8 by omega];exact if_neg (by omega)],c⟩
theorem JW(x y:Jd)(w:World):
 Calls Tryz.prog 123 #[Value.agg (flat [bv x.l]),Value.agg (flat [bv y.l])] w fun e w'=>e=.returned (.int .i64 ((Da x.l y.l:Nat):Int))∧Below w.heap.size w w':=by
 have b:Below w.heap.size w w:=Bu _ _
 refine Bx Jl D 22 ?_
 refine K<|N<|CW D ?_
 intro b2 u f o c g
 have z:=Bg b f
 have b:=Ah b g
 refine CW D ?_
 intro n A f o d g
 have B:=Bg b f
 have C:=AP c f
 have c:=Q c g
 have b:=Ah b g
 refine O (v:=(E 0)) D<|M<|G<|K<|K<|N<|O (v:=(E 0)) D<|M<|G<|A2<|?_
 intro a h
 refine Cb (fun p a W=>∃i,p=256 - i∧Ao 22 a (Ja (Ja (Ja Je 2 (AB b2)) 3 (AB n)) 5 (E i))∧i≤256∧Hid (∀j,j<i→Cu x.l j=Cu y.l j)∧Ai W b2 [bv x.l] 51∧Ai W n [bv y.l] 51∧Below w.heap.size w W) _ ⟨0,D,At h,Nat.zero_le _,Aw (fun j r=>by omega),c,d,b⟩ ?_
 rintro _ a F ⟨i,rfl,h,H,he,c,d,b⟩
 revert a
 refine K<|K<|N<|I D<|B5 (q:=(256:Nat)) D D<|M<|G<|Bl D (fun s=>?_) fun s=>?_
 ·
  refine AE<|G<|K<|A2<|K<|N<|BP Ce c D<|I D<|AS Mu D (Oz x i _) ?_
  rintro _ J ⟨rfl,k⟩
  refine⟨_,D,?_⟩
  have c:=Q c k
  have d:=Q d k
  have b:=Ah b k
  refine O D<|M<|G<|K<|N<|BP Ce d D<|I D<|AS Mu D (Oz y i _) ?_
  rintro _ L ⟨rfl,m⟩
  refine⟨_,D,?_⟩
  have c:=Q c m
  have d:=Q d m
  have b:=Ah b m
  refine O D<|M<|G<|K<|N<|I D<|I D<|Fi D D<|M<|G<|E7 D (fun t=>?_) fun t=>?_
  ·
   refine K<|N<|I D<|O D<|M<|G<|AA<|C1<|AX<|AX<|C1<|AX<|AZ D<|?_
   exact⟨by rw[Yy (i:=i) (by omega) he.out (by omega)],b⟩
  ·
   refine AE<|Bq<|G<|N<|I D<|A_ (q:=1) D D<|O D<|M<|G<|?_
   intro a h
   exact⟨_,by omega,i+1,D,At h,by omega,Aw (Jn he.out (by omega)),c,d,b⟩
 ·
  refine BO<|AW<|AW<|BN<|G<|K<|N<|O (v:=(E 256)) D<|M<|G<|AA<|AZ D<|?_
  exact⟨by rw[VK (fun j r=>he.out j (by omega))],b⟩
theorem L8(x y:Jd)(w:World):
 Calls Tryz.prog 24 #[Value.agg (flat [bv x.l]),Value.agg (flat [bv y.l])] w fun e w'=>e=.returned (.int .i64 (B' x.l y.l))∧Below w.heap.size w w':=by
 have b:Below w.heap.size w w:=Bu _ _
 refine Bx KP D 24 ?_
 refine K<|N<|CW D ?_
 intro b2 u j k c d
 have z:=Bg b j
 have b:=Ah b d
 refine CW D ?_
 intro o A j k f d
 have B:=Bg b j
 have C:=AP c j
 have c:=Q c d
 have b:=Ah b d
 refine O (v:=(E 0)) D<|M<|G<|K<|K<|N<|O (v:=(E 0)) D<|M<|G<|A2<|?_
 intro a g
 refine Cb (fun p a W=>∃i,p=32 - i∧Ao 24 a (Ja (Ja (Ja Je 2 (AB b2)) 3 (AB o)) 5 (E i))∧i≤32∧Hid (B' x.l y.l=B' (x.l.drop i) (y.l.drop i))∧Ai W b2 [bv x.l] 51∧Ai W o [bv y.l] 51∧Below w.heap.size w W) _ ⟨0,D,At g,Nat.zero_le _,Aw D,c,f,b⟩ ?_
 rintro _ a F ⟨i,rfl,g,H,he,c,f,b⟩
 revert a
 refine K<|K<|N<|I D<|B5 (q:=(32:Nat)) D D<|M<|G<|Bl D (fun r=>?_) fun r=>?_
 ·
  have n:=Tx (l:=x.l) (m:=y.l) (i:=i) (by rw[x.h];omega) (by rw[y.h];omega)
  refine AE<|G<|K<|A2<|K<|?_
  intro a g
  refine Gm (by kernel_rfl) (by kernel_rfl) ?_
  intro J k d
  have c:=Q c d
  have f:=Q f d
  have b:=Ah b d
  revert a
  refine A3 D<|GJ Ce 1 i i D D<|Dw BA (Ib c x.h i) D<|A3 D<|GJ Ce 1 i i D D<|Dw BA (Ib f y.h i) D<|Wr D D<|Er<|G<|E7 D (fun s=>?_) fun s=>?_
  ·
   refine K<|K<|?_
   intro a g
   refine Gm (by kernel_rfl) (by kernel_rfl) ?_
   intro L k d
   have c:=Q c d
   have f:=Q f d
   have b:=Ah b d
   revert a
   refine A3 D<|GJ Ce 1 i i D D<|Dw BA (Ib c x.h i) D<|A3 D<|GJ Ce 1 i i D D<|Dw BA (Ib f y.h i) D<|V_ D D<|Er<|G<|Bl D (fun t=>?_) fun t=>?_
   ·
    refine K<|N<|O (v:=(Value.int .i64 (-1:Int))) D<|M<|G<|AA<|AX<|C1<|AX<|AX<|C1<|AX<|AZ D<|?_
    exact⟨by rw[he.out,n,if_neg (by omega),if_pos (by omega)],b⟩
   ·
    refine AE<|G<|K<|N<|O (v:=(E 1)) D<|M<|G<|AA<|C1<|AX<|AX<|C1<|AX<|AZ D<|?_
    exact⟨by rw[he.out,n,if_neg (by omega),if_neg (by omega)];rfl,b⟩
  ·
   refine AE<|Bq<|G<|N<|I D<|A_ (q:=1) D D<|O D<|M<|G<|?_
   intro a g
   exact⟨_,by omega,i+1,D,At g,by omega,Aw (by rw[he.out,n,if_pos (by omega)]),c,f,b⟩
 ·
  refine BO<|AW<|AW<|BN<|G<|K<|N<|O (v:=(E 0)) D<|M<|G<|AA<|AZ D<|?_
  exact⟨by rw[he.out,Ts (by rw[x.h];omega)];rfl,b⟩
theorem P0(l:List UInt8)(i:Nat)(h:i<l.length):l.take i++[l.getD i 0]=l.take (i+1):=by
 rw[List.take_add_one,List.getElem?_eq_getElem h,List.getD_eq_getElem?_getD,List.getElem?_eq_getElem h];rfl
theorem YW(q:Option Addr)(n c:Nat)(l:List UInt8)(w:World)(hn:n≤4611686018427)(g:n≠0→View w (.slice q n c) n 1 (bv l))(m:l.length=n):
 Calls Tryz.prog 78 #[F q n c] w fun e w'=>∃p k,e=.returned (.slice p n k)∧w'.ownsRow w.heap.size 5 1 (.slice p n k) n (bv l)∧Below w.heap.size w w':=by
 have b:Below w.heap.size w w:=Bu _ _
 refine Bx Sy D 19 ?_
 refine K<|N<|O D<|M<|G<|K<|N<|O D<|?_
 have own:w.ownsRow w.heap.size 5 1 (.slice none 0 0) 0 (bv []):=World.ownsRow_nil _ _ _ _
 refine M<|G<|K<|K<|N<|O (v:=(E 0)) D<|M<|G<|A2<|?_
 intro a d
 refine Cb (fun r a W=>∃i p f,r=n - i∧Ao 19 a (Ja (Ja (Ja Je 0 (F q n c)) 3 (F p i f)) 4 (E i))∧i≤n∧W.ownsRow w.heap.size 5 1 (.slice p i f) i (bv (l.take i))∧Below w.heap.size w W) _ ⟨0,_,_,D,At d,Nat.zero_le _,own,b⟩ ?_
 rintro _ a B ⟨i,p,f,rfl,d,C,own,b⟩
 revert a
 refine K<|K<|N<|I D<|I D<|BY Cr D<|B5 D D<|M<|G<|Bl D (fun s=>?_) fun s=>?_
 ·
  refine AE<|G<|K<|A2<|N<|I D<|I D<|I D<|?_
  obtain⟨H,h,rfl⟩:=Ca ((g (by omega)).below b)
  have t:=De ((g (by omega)).below b) i (o:=h+i*1)
  refine Cn A0 i (h+i*1) D D<|Cg BA t D<|D6 A0 D (cs:=#[Value.int .u8 ((((l.getD i 0).toNat:Nat):Int):Int)]) D D ?_
  intro J L u j
  have own:=V own j
  have b:=Ah b j
  intro P x
  refine Bj D (fun Aa y=>BK x A0 own u (by simp[Value.oneCell']) b.size (i+1) (zs:=bv (l.take i++[l.getD i 0])) (by simp[bv]) ?_)
  intro a Q R S d z A
  have b:=Cm b A own
  refine y _ _ ?_;revert a
  refine O D<|M<|Bq<|G<|N<|I D<|A_ (q:=1) D D<|O D<|M<|G<|?_
  intro a d
  exact⟨_,by omega,i+1,_,_,D,At d,by omega,by rw[←P0 l i (by omega)];exact z,b⟩
 ·
  obtain rfl:n=i:=by omega
  rw[List.take_of_length_le (Nat.le_of_eq m)]at own
  refine BO<|AW<|AW<|BN<|G<|K<|N<|I D<|O D<|M<|G<|AA<|AZ D<|?_
  exact⟨_,_,D,own,b⟩
def GF(x:CV):Jd×Bool×List UInt8:=(x.k,x.d,x.s.v)
def G0(x:CV):Jd×Bool×List UInt8:=(x.k,x.d,if x.d then []else x.s.v)
def DJ(x y:CV):Bool:=decide (B' x.k.l y.k.l≤0)
theorem YJ(x:CV)(w:World)(O:x.d=false→x.s.v.length≤4096)(P:x.s.Hg w):
 Calls Tryz.prog 41 #[Value.agg (flat [bv x.k.l,[Br x.d],[F x.s.p x.s.v.length x.s.c]])] w fun e w'=>∃y:CV,e=.returned (.agg (flat [bv y.k.l,[Br y.d],[F y.s.p y.s.v.length y.s.c]]))∧GF y=G0 x∧y.s.ok w'∧(∀a,y.s.p=some a→w.heap.size≤a.block)∧Below w.heap.size w w':=by
 have b:Below w.heap.size w w:=Bu _ _
 have R:x.s.v.length≠0→View w (.slice x.s.p x.s.v.length x.s.c) x.s.v.length 1 (bv x.s.v):=P
 refine Bx Qf D 17 ?_
 refine K<|N<|CW D ?_
 intro b2 ad j o f m
 have ae:=Bg b j
 have b:=Ah b m
 refine BQ [Av 32,[Br false],[F none 0 0]] ?_
 intro I af j o g m
 have ag:=Bg b j
 have ah:=AP f j
 have f:=Q f m
 have b:=Ah b m
 refine M<|G<|K<|N<|Am Dj 0 D<|Eu Ce 0 1 [bv x.k.l] f D<|Am Dj 32 D<|AK FP 1 f D D<|AT (fun _ q=>GG q (Bf:=[(0,(Value.agg (flat [bv x.k.l]))),(1,(Br x.d))]) D (r:=flat [bv x.k.l,[Br x.d],[F none 0 0]]) (GI Dj (ss:=[Av 32,[Br false],[F none 0 0]]) (by kernel_rfl) (places:=[(0,32),(32,1),(33,1)]) (by kernel_rfl) (C2 [] [Av 32] [[Br false],[F none 0 0]] [bv x.k.l] D Jb.nil (Jb.row (Jg 32) Jb.nil) (Jb.row x.k.row Jb.nil) D (C2 [bv x.k.l] [[Br false]] [[F none 0 0]] [[Br x.d]] D (Jb.row x.k.row Jb.nil) (Jb.one Jb.nil) (Jb.one Jb.nil) D D))))<|BQ [Av 32,[Br false],[F none 0 0]] ?_
 intro J ai j o n m
 have aj:=Bg b j
 have ak:=AP f j
 have al:=AP g j
 have f:=Q f m
 have g:=Q g m
 have b:=Ah b m
 refine Bi 0 3 n D D ?_
 intro t o S z
 have f:=Ag z f (by omega)
 have g:=Ag z g (by omega)
 have b:=A1 b z
 have n:=S
 refine M<|G<|K<|K<|N<|Am Dj 32 D<|AK FP 1 f D D<|Dn D<|M<|G<|Ej D (fun A=>?_) fun A=>?_
 ·
  have u:=A
  refine N<|Am Dj 33 D<|AK Cr 2 f D D<|?_
  have an:=O (by simpa using u)
  refine AS Sy D (YW _ _ _ _ _ (by omega) (fun h=>(R h).below b) D) ?_
  rintro _ ao ⟨B,C,rfl,i,E⟩
  refine⟨_,D,?_⟩
  have T:w.heap.size≤t.heap.size:=b.size
  have aq:b2<t.heap.size:=Ar f
  have ar:I<t.heap.size:=Ar g
  have au:J<t.heap.size:=Ar n
  have g:=Q g E
  have n:=Q n E
  have b:=Ah b E
  have U:Z (F B x.s.v.length C) I:=D2 i
  have V:Z (F B x.s.v.length C) J:=D2 i
  have i:=CB i T
  refine Am Dj 33 D<|C_ 2 n D D ?_
  intro av o W H
  have g:=Ag H g (by omega)
  have i:=Ax i H V
  have b:=A1 b H
  refine M<|G<|K<|N<|BP Dj W D<|Bi 0 3 g D D ?_
  intro aw o X L
  have i:=Ax i L U
  have b:=A1 b L
  refine M<|G<|AA<|?_
  intro a q
  refine E4 q D D X Dj D (Cf 34) ?_
  exact⟨⟨x.k,x.d,⟨B,x.s.v,C⟩⟩,D,by have:x.d=false:=(by simpa using u);simp[GF,G0,this],B8.own i,QY i,b⟩
 ·
  have u:=A
  refine AE<|G<|K<|N<|BP Dj n D<|Bi 0 3 g D D ?_
  intro ax o Y aa
  have b:=A1 b aa
  refine M<|G<|AA<|?_
  intro a q
  refine E4 q D D Y Dj D (Cf 34) ?_
  exact⟨⟨x.k,x.d,DZ⟩,D,by have:x.d=true:=(by simpa using u);simp[GF,G0,this,DZ],DZ.isOk _,(fun a ab=>by cases ab),b⟩
theorem Ie{Ck:Type}{L:List Ck}{x:Ck}(h:L[i]? =some x):L.drop i=x::L.drop (i+1):=by
 obtain⟨a,rfl⟩:=List.getElem?_eq_some_iff.1 h
 exact List.drop_eq_getElem_cons a
theorem P3{A B:List CV}{x y:CV}(a:A[i]? =some x)(b:B[j]? =some y)(h:DJ x y=true):List.merge (A.drop i) (B.drop j) DJ=x::List.merge (A.drop (i+1)) (B.drop j) DJ:=by
 rw[Ie a,Ie b,List.cons_merge_cons,if_pos h]
theorem Mq{A B:List CV}{x:CV}(a:A[i]? =some x)(b:B.length≤j:=by omega):List.merge (A.drop i) (B.drop j) DJ=x::List.merge (A.drop (i+1)) (B.drop j) DJ:=by
 rw[Ie a,List.drop_of_length_le b,List.merge_right,List.merge_right]
theorem RM{A B:List CV}{x y:CV}(a:A[i]? =some x)(b:B[j]? =some y)(h:DJ x y=false):List.merge (A.drop i) (B.drop j) DJ=y::List.merge (A.drop i) (B.drop (j+1)) DJ:=by
 rw[Ie a,Ie b,List.cons_merge_cons,if_neg (by rw[h];decide)]
theorem MB{A B:List CV}{y:CV}(a:B[j]? =some y)(b:A.length≤i:=by omega):List.merge (A.drop i) (B.drop j) DJ=y::List.merge (A.drop i) (B.drop (j+1)) DJ:=by
 rw[Ie a,List.drop_of_length_le b,List.nil_merge,List.nil_merge]
theorem Vj(aq ar:Option Addr)(n r au av:Nat)(A B:List CV)(w:World)(hn:n+r≤1000000000)(y:View w (.slice aq n au) n 34 (Al FQ A))(ae:A.length=n)(z:View w (.slice ar r av) r 34 (Al FQ B))(af:B.length=r):
 Calls Tryz.prog 42 #[F aq n au,F ar r av] w fun e w'=>∃p k,e=.returned (.slice p (n+r) k)∧w'.ownsRow w.heap.size 96 34 (.slice p (n+r) k) (n+r) (Al FQ (List.merge A B DJ))∧Below w.heap.size w w':=by
 have b:Below w.heap.size w w:=Bu _ _
 refine Bx Ps D 67 ?_
 refine K<|N<|O D<|M<|G<|K<|N<|O D<|?_
 have own:w.ownsRow w.heap.size 96 34 (.slice none 0 0) 0 (Al FQ []):=World.ownsRow_nil _ _ _ _
 refine M<|G<|K<|N<|O (v:=(E 0)) D<|M<|G<|K<|N<|O (v:=(E 0)) D<|M<|G<|K<|A2<|?_
 intro a f
 refine Cb (fun a2 a W=>∃i j t u p aw,a2=n+r - (i+j)∧Ao 67 a (Ja (Ja (Ja (Ja (Ja Je 0 (F aq n au)) 1 (F ar r av)) 5 (F p t aw)) 6 (E i)) 7 (E j))∧(i≤n∧j≤r∧t=i+j)∧Hid (u++List.merge (A.drop i) (B.drop j) DJ=List.merge A B DJ)∧W.ownsRow w.heap.size 96 34 (.slice p t aw) t (Al FQ u)∧Below w.heap.size w W) _ ⟨0,0,0,_,_,_,D,At f,by omega,Aw D,own,b⟩ ?_
 rintro _ a bV ⟨i,j,t,u,p,aw,rfl,f,bW,C,own,b⟩
 revert a
 refine K<|K<|N<|I D<|I D<|BY F1 D<|?_
 by_cases aD:((i:Nat):Int)<((n:Nat):Int)
 ·
  refine D8 aD D D<|I D<|Ae D D D D<|Ae D D D D<|Ae D D D D<|Ae D D D D<|Bn D D<|M<|G<|BS D<|AE<|G<|A2<|K<|N<|I D<|I D<|BY F1 D<|JT D D<|O D<|M<|G<|K<|K<|N<|I D<|I D<|BY F1 D<|?_
  by_cases aE:((i:Nat):Int)<((n:Nat):Int)
  ·
   refine D8 aE D D<|I D<|Ad D D D<|I D<|Ad D D D<|I D<|Ad D D D<|BY F1 D<|?_
   by_cases aF:((j:Nat):Int)<((r:Nat):Int)
   ·
    refine Ad D D D<|D8 aF D D<|Bn D D<|M<|G<|BS D<|K<|?_
    intro a f
    refine EJ 10 ?_
    intro bX H g
    have own:=V own g
    have b:=Ah b g
    revert a
    refine A3 D<|A3 D<|?_
    obtain⟨bY,ag,rfl⟩:=Ca (y.below b)
    obtain⟨J,ak⟩:=getD_some (L:=A) (j:=i) ae (by omega)
    have a3:=BJ CI (y.below b) ak (o:=ag+i*34)
    refine C0 CH i (ag+i*34) D D<|Cx Dj (ag+i*34) D<|FG Ce 0 1 [bv J.k.l] a3 D<|A3 D<|A3 D<|?_
    obtain⟨bZ,ah,rfl⟩:=Ca (z.below b)
    obtain⟨P,al⟩:=getD_some (L:=B) (j:=j) af (by omega)
    have a4:=BJ CI (z.below b) al (o:=ah+j*34)
    refine C0 CH j (ah+j*34) D D<|Cx Dj (ah+j*34) D<|FG Ce 0 1 [bv P.k.l] a4 D<|?_
    intro a f;refine EG ?_;revert a
    refine AS KP D (L8 J.k P.k _) ?_
    rintro _ b0 ⟨rfl,aG⟩
    refine⟨_,D,?_⟩
    have own:=V own aG
    have b:=Ah b aG
    refine O D<|M<|G<|N<|I D<|QT (q:=(0:Nat)) D D<|O D<|M<|G<|K<|N<|I D<|M<|G<|Bl D (fun ax=>?_) fun ax=>?_
    ·
     have x:=ax
     refine K<|N<|I D<|I D<|I D<|?_
     have a5:=BJ CI (y.below b) ak (o:=ag+i*34)
     refine Cn CH i (ag+i*34) D D<|D9 Dj 0 3 [bv J.k.l,[Br J.d],[F J.s.p J.s.v.length J.s.c]] a5 D<|E8 CH [bv J.k.l,[Br J.d],[F J.s.p J.s.v.length J.s.c]] ?_
     intro b1 H a6 g
     have own:=V own g
     have b:=Ah b g
     intro S h
     refine Bj D (fun Aa m=>BK h CH own a6 C8 b.size (t+1) (CC u J D (CI _)) ?_)
     intro a b2 b3 b4 f a7 a8
     have b:=Cm b a8 own
     refine m _ _ ?_;revert a
     refine O D<|M<|G<|N<|I D<|A_ (q:=1) D D<|O D<|M<|Bq<|G<|?_
     intro a f
     exact⟨_,by omega,i+1,j,_,_,_,_,D,At f,by omega,Aw (by rw[←C.out,P3 ak al (by simpa[DJ]using x)];simp),a7,b⟩
    ·
     have x:=ax
     refine K<|N<|I D<|I D<|I D<|?_
     have a9:=BJ CI (z.below b) al (o:=ah+j*34)
     refine Cn CH j (ah+j*34) D D<|D9 Dj 0 3 [bv P.k.l,[Br P.d],[F P.s.p P.s.v.length P.s.c]] a9 D<|E8 CH [bv P.k.l,[Br P.d],[F P.s.p P.s.v.length P.s.c]] ?_
     intro b5 H a_ g
     have own:=V own g
     have b:=Ah b g
     intro S h
     refine Bj D (fun Aa m=>BK h CH own a_ C8 b.size (t+1) (CC u P D (CI _)) ?_)
     intro a b6 b7 b8 f a' ba
     have b:=Cm b ba own
     refine m _ _ ?_;revert a
     refine O D<|M<|G<|N<|I D<|A_ (q:=1) D D<|O D<|M<|Bq<|G<|?_
     intro a f
     exact⟨_,by omega,i,j+1,_,_,_,_,D,At f,by omega,Aw (by rw[←C.out,RM ak al (by simpa[DJ]using x)];simp),a',b⟩
   ·
    refine Ad D D D<|DO aF D D<|Bn D D<|M<|G<|BE D<|AE<|G<|K<|N<|I D<|M<|G<|Bl D (fun ay=>?_) fun ay=>?_
    ·
     have x:=ay
     refine K<|N<|I D<|I D<|I D<|?_
     obtain⟨b9,aH,rfl⟩:=Ca (y.below b)
     obtain⟨T,aI⟩:=getD_some (L:=A) (j:=i) ae (by omega)
     have bb:=BJ CI (y.below b) aI (o:=aH+i*34)
     refine Cn CH i (aH+i*34) D D<|D9 Dj 0 3 [bv T.k.l,[Br T.d],[F T.s.p T.s.v.length T.s.c]] bb D<|E8 CH [bv T.k.l,[Br T.d],[F T.s.p T.s.v.length T.s.c]] ?_
     intro b_ H bc g
     have own:=V own g
     have b:=Ah b g
     intro S h
     refine Bj D (fun Aa m=>BK h CH own bc C8 b.size (t+1) (CC u T D (CI _)) ?_)
     intro a b' ca cb f bd bf
     have b:=Cm b bf own
     refine m _ _ ?_;revert a
     refine O D<|M<|G<|N<|I D<|A_ (q:=1) D D<|O D<|M<|Bq<|G<|?_
     intro a f
     exact⟨_,by omega,i+1,j,_,_,_,_,D,At f,by omega,Aw (by rw[←C.out,Mq aI];simp),bd,b⟩
    ·
     have x:=ay
     refine K<|N<|I D<|I D<|I D<|?_
     obtain⟨cc,aJ,rfl⟩:=Ca (z.below b)
     obtain⟨U,aK⟩:=getD_some (L:=B) (j:=j) af (by omega)
     have bg:=BJ CI (z.below b) aK (o:=aJ+j*34)
     refine Cn CH j (aJ+j*34) D D<|D9 Dj 0 3 [bv U.k.l,[Br U.d],[F U.s.p U.s.v.length U.s.c]] bg D<|E8 CH [bv U.k.l,[Br U.d],[F U.s.p U.s.v.length U.s.c]] ?_
     intro cd H bh g
     have own:=V own g
     have b:=Ah b g
     intro S h
     refine Bj D (fun Aa m=>BK h CH own bh C8 b.size (t+1) (CC u U D (CI _)) ?_)
     intro a cf cg ch f bj bk
     have b:=Cm b bk own
     refine m _ _ ?_;revert a
     refine O D<|M<|G<|N<|I D<|A_ (q:=1) D D<|O D<|M<|Bq<|G<|?_
     intro a f
     exact⟨_,by omega,i,j+1,_,_,_,_,D,At f,by omega,Aw (by rw[←C.out,MB aK];simp),bj,b⟩
  ·
   refine DO aE D D<|I D<|Ae D D D D<|Ae D D D D<|Ae D D D D<|Ae D D D D<|Ba D D<|M<|G<|BE D<|AE<|G<|K<|N<|I D<|M<|G<|Bl D (fun az=>?_) fun az=>?_
   ·
    have x:=az
    refine K<|N<|I D<|I D<|I D<|?_
    obtain⟨cj,aL,rfl⟩:=Ca (y.below b)
    obtain⟨X,aM⟩:=getD_some (L:=A) (j:=i) ae (by omega)
    have bl:=BJ CI (y.below b) aM (o:=aL+i*34)
    refine Cn CH i (aL+i*34) D D<|D9 Dj 0 3 [bv X.k.l,[Br X.d],[F X.s.p X.s.v.length X.s.c]] bl D<|E8 CH [bv X.k.l,[Br X.d],[F X.s.p X.s.v.length X.s.c]] ?_
    intro ck H bm g
    have own:=V own g
    have b:=Ah b g
    intro S h
    refine Bj D (fun Aa m=>BK h CH own bm C8 b.size (t+1) (CC u X D (CI _)) ?_)
    intro a cl cm cn f bn bo
    have b:=Cm b bo own
    refine m _ _ ?_;revert a
    refine O D<|M<|G<|N<|I D<|A_ (q:=1) D D<|O D<|M<|Bq<|G<|?_
    intro a f
    exact⟨_,by omega,i+1,j,_,_,_,_,D,At f,by omega,Aw (by rw[←C.out,Mq aM];simp),bn,b⟩
   ·
    have x:=az
    refine K<|N<|I D<|I D<|I D<|?_
    obtain⟨cp,aN,rfl⟩:=Ca (z.below b)
    obtain⟨Y,aO⟩:=getD_some (L:=B) (j:=j) af (by omega)
    have bp:=BJ CI (z.below b) aO (o:=aN+j*34)
    refine Cn CH j (aN+j*34) D D<|D9 Dj 0 3 [bv Y.k.l,[Br Y.d],[F Y.s.p Y.s.v.length Y.s.c]] bp D<|E8 CH [bv Y.k.l,[Br Y.d],[F Y.s.p Y.s.v.length Y.s.c]] ?_
    intro cq H bq g
    have own:=V own g
    have b:=Ah b g
    intro S h
    refine Bj D (fun Aa m=>BK h CH own bq C8 b.size (t+1) (CC u Y D (CI _)) ?_)
    intro a cr ct cu f br bs
    have b:=Cm b bs own
    refine m _ _ ?_;revert a
    refine O D<|M<|G<|N<|I D<|A_ (q:=1) D D<|O D<|M<|Bq<|G<|?_
    intro a f
    exact⟨_,by omega,i,j+1,_,_,_,_,D,At f,by omega,Aw (by rw[←C.out,MB aO];simp),br,b⟩
 ·
  refine DO aD D D<|I D<|Ad D D D<|I D<|Ad D D D<|I D<|Ad D D D<|BY F1 D<|?_
  by_cases aP:((j:Nat):Int)<((r:Nat):Int)
  ·
   refine Ad D D D<|D8 aP D D<|Ba D D<|M<|G<|BS D<|AE<|G<|A2<|K<|N<|I D<|I D<|BY F1 D<|JT D D<|O D<|M<|G<|K<|K<|N<|I D<|I D<|BY F1 D<|?_
   by_cases aQ:((i:Nat):Int)<((n:Nat):Int)
   ·
    refine D8 aQ D D<|I D<|Ad D D D<|I D<|Ad D D D<|I D<|Ad D D D<|BY F1 D<|?_
    by_cases aR:((j:Nat):Int)<((r:Nat):Int)
    ·
     refine Ad D D D<|D8 aR D D<|Bn D D<|M<|G<|BS D<|K<|?_
     intro a f
     refine EJ 10 ?_
     intro cv H g
     have own:=V own g
     have b:=Ah b g
     revert a
     refine A3 D<|A3 D<|?_
     obtain⟨cw,ai,rfl⟩:=Ca (y.below b)
     obtain⟨Q,an⟩:=getD_some (L:=A) (j:=i) ae (by omega)
     have bt:=BJ CI (y.below b) an (o:=ai+i*34)
     refine C0 CH i (ai+i*34) D D<|Cx Dj (ai+i*34) D<|FG Ce 0 1 [bv Q.k.l] bt D<|A3 D<|A3 D<|?_
     obtain⟨cx,aj,rfl⟩:=Ca (z.below b)
     obtain⟨R,ao⟩:=getD_some (L:=B) (j:=j) af (by omega)
     have bu:=BJ CI (z.below b) ao (o:=aj+j*34)
     refine C0 CH j (aj+j*34) D D<|Cx Dj (aj+j*34) D<|FG Ce 0 1 [bv R.k.l] bu D<|?_
     intro a f;refine EG ?_;revert a
     refine AS KP D (L8 Q.k R.k _) ?_
     rintro _ cy ⟨rfl,aS⟩
     refine⟨_,D,?_⟩
     have own:=V own aS
     have b:=Ah b aS
     refine O D<|M<|G<|N<|I D<|QT (q:=(0:Nat)) D D<|O D<|M<|G<|K<|N<|I D<|M<|G<|Bl D (fun aA=>?_) fun aA=>?_
     ·
      have x:=aA
      refine K<|N<|I D<|I D<|I D<|?_
      have bw:=BJ CI (y.below b) an (o:=ai+i*34)
      refine Cn CH i (ai+i*34) D D<|D9 Dj 0 3 [bv Q.k.l,[Br Q.d],[F Q.s.p Q.s.v.length Q.s.c]] bw D<|E8 CH [bv Q.k.l,[Br Q.d],[F Q.s.p Q.s.v.length Q.s.c]] ?_
      intro cz H bx g
      have own:=V own g
      have b:=Ah b g
      intro S h
      refine Bj D (fun Aa m=>BK h CH own bx C8 b.size (t+1) (CC u Q D (CI _)) ?_)
      intro a cA cB cC f bz bA
      have b:=Cm b bA own
      refine m _ _ ?_;revert a
      refine O D<|M<|G<|N<|I D<|A_ (q:=1) D D<|O D<|M<|Bq<|G<|?_
      intro a f
      exact⟨_,by omega,i+1,j,_,_,_,_,D,At f,by omega,Aw (by rw[←C.out,P3 an ao (by simpa[DJ]using x)];simp),bz,b⟩
     ·
      have x:=aA
      refine K<|N<|I D<|I D<|I D<|?_
      have bB:=BJ CI (z.below b) ao (o:=aj+j*34)
      refine Cn CH j (aj+j*34) D D<|D9 Dj 0 3 [bv R.k.l,[Br R.d],[F R.s.p R.s.v.length R.s.c]] bB D<|E8 CH [bv R.k.l,[Br R.d],[F R.s.p R.s.v.length R.s.c]] ?_
      intro cD H bC g
      have own:=V own g
      have b:=Ah b g
      intro S h
      refine Bj D (fun Aa m=>BK h CH own bC C8 b.size (t+1) (CC u R D (CI _)) ?_)
      intro a cE cF cG f bD bE
      have b:=Cm b bE own
      refine m _ _ ?_;revert a
      refine O D<|M<|G<|N<|I D<|A_ (q:=1) D D<|O D<|M<|Bq<|G<|?_
      intro a f
      exact⟨_,by omega,i,j+1,_,_,_,_,D,At f,by omega,Aw (by rw[←C.out,RM an ao (by simpa[DJ]using x)];simp),bD,b⟩
    ·
     refine Ad D D D<|DO aR D D<|Bn D D<|M<|G<|BE D<|AE<|G<|K<|N<|I D<|M<|G<|Bl D (fun aB=>?_) fun aB=>?_
     ·
      have x:=aB
      refine K<|N<|I D<|I D<|I D<|?_
      obtain⟨cH,aT,rfl⟩:=Ca (y.below b)
      obtain⟨Z,aU⟩:=getD_some (L:=A) (j:=i) ae (by omega)
      have bF:=BJ CI (y.below b) aU (o:=aT+i*34)
      refine Cn CH i (aT+i*34) D D<|D9 Dj 0 3 [bv Z.k.l,[Br Z.d],[F Z.s.p Z.s.v.length Z.s.c]] bF D<|E8 CH [bv Z.k.l,[Br Z.d],[F Z.s.p Z.s.v.length Z.s.c]] ?_
      intro cI H bG g
      have own:=V own g
      have b:=Ah b g
      intro S h
      refine Bj D (fun Aa m=>BK h CH own bG C8 b.size (t+1) (CC u Z D (CI _)) ?_)
      intro a cJ cK cL f bH bI
      have b:=Cm b bI own
      refine m _ _ ?_;revert a
      refine O D<|M<|G<|N<|I D<|A_ (q:=1) D D<|O D<|M<|Bq<|G<|?_
      intro a f
      exact⟨_,by omega,i+1,j,_,_,_,_,D,At f,by omega,Aw (by rw[←C.out,Mq aU];simp),bH,b⟩
     ·
      have x:=aB
      refine K<|N<|I D<|I D<|I D<|?_
      obtain⟨cM,aV,rfl⟩:=Ca (z.below b)
      obtain⟨aa,aW⟩:=getD_some (L:=B) (j:=j) af (by omega)
      have bJ:=BJ CI (z.below b) aW (o:=aV+j*34)
      refine Cn CH j (aV+j*34) D D<|D9 Dj 0 3 [bv aa.k.l,[Br aa.d],[F aa.s.p aa.s.v.length aa.s.c]] bJ D<|E8 CH [bv aa.k.l,[Br aa.d],[F aa.s.p aa.s.v.length aa.s.c]] ?_
      intro cN H bK g
      have own:=V own g
      have b:=Ah b g
      intro S h
      refine Bj D (fun Aa m=>BK h CH own bK C8 b.size (t+1) (CC u aa D (CI _)) ?_)
      intro a cO cP cQ f bL bM
      have b:=Cm b bM own
      refine m _ _ ?_;revert a
      refine O D<|M<|G<|N<|I D<|A_ (q:=1) D D<|O D<|M<|Bq<|G<|?_
      intro a f
      exact⟨_,by omega,i,j+1,_,_,_,_,D,At f,by omega,Aw (by rw[←C.out,MB aW];simp),bL,b⟩
   ·
    refine DO aQ D D<|I D<|Ae D D D D<|Ae D D D D<|Ae D D D D<|Ae D D D D<|Ba D D<|M<|G<|BE D<|AE<|G<|K<|N<|I D<|M<|G<|Bl D (fun aC=>?_) fun aC=>?_
    ·
     have x:=aC
     refine K<|N<|I D<|I D<|I D<|?_
     obtain⟨cR,aX,rfl⟩:=Ca (y.below b)
     obtain⟨ab,aY⟩:=getD_some (L:=A) (j:=i) ae (by omega)
     have bN:=BJ CI (y.below b) aY (o:=aX+i*34)
     refine Cn CH i (aX+i*34) D D<|D9 Dj 0 3 [bv ab.k.l,[Br ab.d],[F ab.s.p ab.s.v.length ab.s.c]] bN D<|E8 CH [bv ab.k.l,[Br ab.d],[F ab.s.p ab.s.v.length ab.s.c]] ?_
     intro cS H bO g
     have own:=V own g
     have b:=Ah b g
     intro S h
     refine Bj D (fun Aa m=>BK h CH own bO C8 b.size (t+1) (CC u ab D (CI _)) ?_)
     intro a cT cU cV f bP bQ
     have b:=Cm b bQ own
     refine m _ _ ?_;revert a
     refine O D<|M<|G<|N<|I D<|A_ (q:=1) D D<|O D<|M<|Bq<|G<|?_
     intro a f
     exact⟨_,by omega,i+1,j,_,_,_,_,D,At f,by omega,Aw (by rw[←C.out,Mq aY];simp),bP,b⟩
    ·
     have x:=aC
     refine K<|N<|I D<|I D<|I D<|?_
     obtain⟨cW,aZ,rfl⟩:=Ca (z.below b)
     obtain⟨ad,a0⟩:=getD_some (L:=B) (j:=j) af (by omega)
     have bR:=BJ CI (z.below b) a0 (o:=aZ+j*34)
     refine Cn CH j (aZ+j*34) D D<|D9 Dj 0 3 [bv ad.k.l,[Br ad.d],[F ad.s.p ad.s.v.length ad.s.c]] bR D<|E8 CH [bv ad.k.l,[Br ad.d],[F ad.s.p ad.s.v.length ad.s.c]] ?_
     intro cX H bS g
     have own:=V own g
     have b:=Ah b g
     intro S h
     refine Bj D (fun Aa m=>BK h CH own bS C8 b.size (t+1) (CC u ad D (CI _)) ?_)
     intro a cY cZ c0 f bT bU
     have b:=Cm b bU own
     refine m _ _ ?_;revert a
     refine O D<|M<|G<|N<|I D<|A_ (q:=1) D D<|O D<|M<|Bq<|G<|?_
     intro a f
     exact⟨_,by omega,i,j+1,_,_,_,_,D,At f,by omega,Aw (by rw[←C.out,MB a0];simp),bT,b⟩
  ·
   refine Ad D D D<|DO aP D D<|Ba D D<|M<|G<|BE D<|BO<|AW<|AW<|BN<|G<|K<|N<|I D<|O D<|M<|G<|AA<|AZ D<|?_
   obtain rfl:n=i:=by omega
   obtain rfl:r=j:=by omega
   obtain rfl:t=n+r:=by omega
   have a1:=C.out
   rw[List.drop_of_length_le (Nat.le_of_eq ae),List.drop_of_length_le (Nat.le_of_eq af),List.nil_merge,List.append_nil]at a1
   exact⟨_,_,D,by rw[←a1];exact own,b⟩
end Go.Proofs.YtcdaflcjhimimaaGreatDoor
