/- Laws and walks on the road to SalvagePlays (part M16). No conditions beyond each law's own. -/
import Derived.Test.YtjdboncaegphmaaGreatDoorM10
set_option linter.unusedVariables false
namespace Go.Proofs.YtjdboncaegphmaaGreatDoor
open Go.RowKit
set_option maxRecDepth 100000
set_option maxHeartbeats 2000000
variable {x:Operand} {v:Value}
section
variable {P:Program} {w w':World} {ops:Array Oper} {rest:List Oper} {Aa:Exit→Act→World→Prop} {N:Nat} {f:BW} {d:Nat} {ty:TypeId} {pos:String} {An:Array Edge} {dst:Option Tmp} {BK:World→Prop} {fuel Cy:Nat} {listed:Array Bool}
abbrev FI(P:Program)(ops:Array Oper)(Aa:Exit→Act→World→Prop)(BK:World→Prop)(N:Nat)(w:World)(f:BW)(fuel:Nat)(listed:Array Bool):Prop:=∀a,AH N a f→wpAnyH P .any ops Aa BK fuel listed a w
theorem C4(i:Nat){op:Op}(V:ops[i]? =some ⟨some d,op,ty,pos,An,none⟩)(e:∀W,BK W→∀a,AH N a f→CD P a W ⟨some d,op,ty,pos,An,none⟩ v W)(g:BK w)(h:FI P ops Aa BK N w (Jb f d v) fuel (listed.setIfInBounds i true))(j:Cy=fuel+1:=by exact rfl)(zs:Region.noSelect ops=true:=by kernel_rfl)(k:Region.free .any ops listed i=true:=by kernel_rfl)(l:(Region.ready .any ops listed).contains i=true:=by kernel_rfl)(AR:∀c (a:Act) w,Aa (.panic c) (a.put (some d) v) w→Aa (.panic c) a w:=by exact fun _ _ _ h=>h)(m:Nat.blt d N=true:=by exact rfl):FI P ops Aa BK N w f Cy listed:=
 fun a b=>Zq b m V j zs k l AR (fun W q=>e W q a b) g h
theorem KC(h:∀a,AH N a f→Aa .normal a w)(hr:Region.ready .any ops listed=[]:=by kernel_rfl):FI P ops Aa BK N w f fuel listed:=fun a b=>XO hr (h a b)
theorem Hc(i:Nat)(V:ops[i]? =some ⟨some d,.move x,ty,pos,An,none⟩)(b:Aj f x=some v)(e:BK w)(h:FI P ops Aa BK N w (Jb f d v) fuel (listed.setIfInBounds i true))(g:Cy=fuel+1:=by exact rfl)(zs:Region.noSelect ops=true:=by kernel_rfl)(j:Region.free .any ops listed i=true:=by kernel_rfl)(k:(Region.ready .any ops listed).contains i=true:=by kernel_rfl)(AR:∀c (a:Act) w,Aa (.panic c) (a.put (some d) v) w→Aa (.panic c) a w:=by exact fun _ _ _ h=>h)(l:Nat.blt d N=true:=by exact rfl):FI P ops Aa BK N w f Cy listed:=C4 i V (fun W _ a m=>Qz m b) e h g zs j k AR l
theorem I'(i:Nat)(V:ops[i]? =some ⟨some d,.assign x,ty,pos,An,none⟩)(b:Aj f x=some v)(e:BK w)(h:FI P ops Aa BK N w (Jb f d v) fuel (listed.setIfInBounds i true))(g:Cy=fuel+1:=by exact rfl)(zs:Region.noSelect ops=true:=by kernel_rfl)(j:Region.free .any ops listed i=true:=by kernel_rfl)(k:(Region.ready .any ops listed).contains i=true:=by kernel_rfl)(AR:∀c (a:Act) w,Aa (.panic c) (a.put (some d) v) w→Aa (.panic c) a w:=by exact fun _ _ _ h=>h)(l:Nat.blt d N=true:=by exact rfl):FI P ops Aa BK N w f Cy listed:=C4 i V (fun W _ a m=>Pw m b) e h g zs j k AR l
theorem RU(i:Nat){p:Addr}(V:ops[i]? =some ⟨some d,.nilCheck x,ty,pos,An,none⟩)(b:Aj f x=some (.pointer (some p)))(e:BK w)(h:FI P ops Aa BK N w (Jb f d (.pointer (some p))) fuel (listed.setIfInBounds i true))(g:Cy=fuel+1:=by exact rfl)(zs:Region.noSelect ops=true:=by kernel_rfl)(j:Region.free .any ops listed i=true:=by kernel_rfl)(k:(Region.ready .any ops listed).contains i=true:=by kernel_rfl)(AR:∀c (a:Act) w,Aa (.panic c) (a.put (some d) (.pointer (some p))) w→Aa (.panic c) a w:=by exact fun _ _ _ h=>h)(l:Nat.blt d N=true:=by exact rfl):FI P ops Aa BK N w f Cy listed:=C4 i V (fun W _ a m=>S4 m b) e h g zs j k AR l
theorem No(i:Nat){CV:Array Value}{i1:Nat}(V:ops[i]? =some ⟨some d,.extract x i1,ty,pos,An,none⟩)(b:Aj f x=some (.tuple CV))(e:CV[i1]? =some v)(g:BK w)(h:FI P ops Aa BK N w (Jb f d v) fuel (listed.setIfInBounds i true))(j:Cy=fuel+1:=by exact rfl)(zs:Region.noSelect ops=true:=by kernel_rfl)(k:Region.free .any ops listed i=true:=by kernel_rfl)(l:(Region.ready .any ops listed).contains i=true:=by kernel_rfl)(AR:∀c (a:Act) w,Aa (.panic c) (a.put (some d) v) w→Aa (.panic c) a w:=by exact fun _ _ _ h=>h)(m:Nat.blt d N=true:=by exact rfl):FI P ops Aa BK N w f Cy listed:=C4 i V (fun W _ a n=>TS n b e) g h j zs k l AR m
theorem G4(i:Nat){t e:TypeId}(V:ops[i]? =some ⟨some d,.call {callee:=.builtin .len,args:=#[x],argTypes:=#[t]},ty,pos,An,none⟩)(b:P.underlying t=some (.slice e)){p:Option Addr}{n c:Nat}(g:Aj f x=some (.slice p n c))(j:BK w)(h:FI P ops Aa BK N w (Jb f d (.int .i64 n)) fuel (listed.setIfInBounds i true))(k:Cy=fuel+1:=by exact rfl)(zs:Region.noSelect ops=true:=by kernel_rfl)(l:Region.free .any ops listed i=true:=by kernel_rfl)(m:(Region.ready .any ops listed).contains i=true:=by kernel_rfl)(AR:∀c (a:Act) w,Aa (.panic c) (a.put (some d) (.int .i64 n)) w→Aa (.panic c) a w:=by exact fun _ _ _ h=>h)(o:Nat.blt d N=true:=by exact rfl):FI P ops Aa BK N w f Cy listed:=C4 i V (fun W _ a q=>Rz q b g) j h k zs l m AR o
theorem G_(i:Nat){s:TypeId}{i1:Nat}{b off:Nat}{e:Array Field}(V:ops[i]? =some ⟨some d,.fieldAddr s x i1,ty,pos,An,none⟩)(hu:P.underlying s=some (.struct e))(o:Nat)(g:Aj f x=some (.pointer (some ⟨b,off,none⟩)))(j:BK w)(h:FI P ops Aa BK N w (Jb f d (.pointer (some ⟨b,o,none⟩))) fuel (listed.setIfInBounds i true)){Ce:Field}(k:e[i1]? =some Ce:=by exact rfl)(l:(P.info? Ce.type).any (fun i=>Nat.blt 0 i.size)=true:=by kernel_rfl)(ho:off+Ce.offset=o:=by first|rfl|omega)(m:Cy=fuel+1:=by exact rfl)(zs:Region.noSelect ops=true:=by kernel_rfl)(n:Region.free .any ops listed i=true:=by kernel_rfl)(p:(Region.ready .any ops listed).contains i=true:=by kernel_rfl)(AR:∀c (a:Act) w,Aa (.panic c) (a.put (some d) (.pointer (some ⟨b,o,none⟩))) w→Aa (.panic c) a w:=by exact fun _ _ _ h=>h)(q:Nat.blt d N=true:=by exact rfl):FI P ops Aa BK N w f Cy listed:=C4 i V (fun W _ a r=>P9 r g hu k l ho) j h m zs n p AR q
theorem Sf(i:Nat){t u:TypeId}{y:Operand}{k:IntKind}{p q:Int}(V:ops[i]? =some ⟨some d,.binOp .leq t x y u,ty,pos,An,none⟩)(b:Aj f x=some (.int k p))(e:Aj f y=some (.int k q))(g:BK w)(h:FI P ops Aa BK N w (Jb f d (.bool (decide (p≤q)))) fuel (listed.setIfInBounds i true))(j:Cy=fuel+1:=by exact rfl)(zs:Region.noSelect ops=true:=by kernel_rfl)(l:Region.free .any ops listed i=true:=by kernel_rfl)(m:(Region.ready .any ops listed).contains i=true:=by kernel_rfl)(AR:∀c (a:Act) w,Aa (.panic c) (a.put (some d) (.bool (decide (p≤q)))) w→Aa (.panic c) a w:=by exact fun _ _ _ h=>h)(n:Nat.blt d N=true:=by exact rfl):FI P ops Aa BK N w f Cy listed:=C4 i V (fun W _ a o=>PR o b e _ D) g h j zs l m AR n
end
theorem qz(l:rG)(k j:Nat)(a:k<j)(hj:j≤l.length):Fr.CN ((l.drop k).take (j - k))=(decide ((l.getD k 0).toNat=0)&&Fr.CN ((l.drop (k+1)).take (j - (k+1)))):=by
 rw[Xy (show k<l.length by omega),show j - k=(j - (k+1))+1 by omega,Ra];have:l.getD k 0=l[k]'JY:=by rw[Dm,F3 JY];rfl
 rw[this];unfold Fr.CN;rw[List.all_cons]
 congr 1
 rw[tp];simp[←UInt8.toNat_inj]
theorem l6(i j:Nat)(q:Option Addr)(n c:Nat)(l:rG)(w:World)(f:View w (.slice q n c) n 1 (bv l))(hl:l.length=n)(h:i≤j:=by omega)(hj:j≤n:=by omega)(v:n≤1000000000:=by omega):
 Calls lp 79 #[I q n c,E i,E j] w fun e w'=>e=.returned (.bool (Fr.CN ((l.drop i).take (j - i))))∧w=w':=by
 refine DZ Lu D 19 ?_;refine Ao<|AD<|AV D<|Aw<|Ai<|Ao<|Ao<|AD<|Az D<|AV D<|Aw<|Ai<|B'<|?_;intro a b;refine Ec (fun m a W=>∃k,m=j - k∧W=w∧AH 19 a (Jb (Jb (Jb Jk 0 (I q n c)) 2 (E j)) 7 (E k))∧k≤j∧i≤k∧Hid (Fr.CN ((l.drop i).take (j - i))=Fr.CN ((l.drop k).take (j - k)))) _ ⟨i,D,D,AY b,h,Br _,AX D⟩ ?_;rintro _ a _ ⟨k,rfl,rfl,b,x,y,d⟩;revert a;refine Ao<|Ao<|AD<|Az D<|Az D<|D_ D D<|Aw<|Ai<|DU D (fun p=>?_) fun p=>?_
 ·
  refine CA<|Ai<|Ao<|B'<|Ao<|AD<|Az D<|Az D<|?_;obtain⟨z,g,rfl⟩:=IW f;have r:=GH f k (o:=g+k*1);refine Ou A3 k (g+k*1) D D<|D8 BV r D<|Rq D D<|Aw<|Ai<|OM D (fun s=>?_) fun s=>?_
  ·
   have t:Fr.CN ((l.drop i).take (j - i))=false:=by rw[d.out,qz l k j JY JY];simp only[lB,decide_eq_false_iff_not];omega
   refine Ao<|AD<|AV D<|Aw<|Ai<|C0<|FE<|DK<|DK<|FE<|DK<|EE D<|?_;exact⟨by rw[t],D⟩
  ·
   have u:Hid (Fr.CN ((l.drop i).take (j - i))=Fr.CN ((l.drop (k+1)).take (j - (k+1)))):=AX (by rw[d.out,qz l k j JY JY];simp only[Bool.and_eq_right_iff_imp,decide_eq_true_eq];omega);refine CA<|DN<|Ai<|AD<|Az D<|Dz (q:=1) D D<|AV D<|Aw<|Ai<|?_;intro a b;exact⟨_,JY,k+1,D,D,AY b,JY,JY,u⟩
 ·
  refine Dv<|BY<|BY<|Ds<|Ai<|Ao<|AD<|AV D<|Aw<|Ai<|C0<|EE D<|?_;exact⟨by rw[d.out,show j - k=0 by omega];rfl,D⟩
theorem qE(s:Fr.Bu)(w:World)(h1:s.g≤9223372036854775807):
 Calls lp 81 #[rS (Z1 s)] w fun e w'=>e=.returned (.bool (Fr.DE s))∧Below w.heap.size w w':=by
 have a:Below w.heap.size w w:=Cn _ _;refine DZ Sc D 56 ?_;refine Ao<|AD<|Hf D ?_;intro v x u y c J;have z:=C8 a u;have a:=BG a J;refine AV D<|Aw<|Ai<|Ao<|Ao<|AD<|Gt Bs 0 D<|Hv AF 0 c D D<|?_
 by_cases d:((s.w:Nat):Int)<((1:Nat):Int)
 ·
  refine Ur d D D<|Az D<|E6 D D D D<|E6 D D D D<|E6 D D D D<|LD D D<|Az D<|E6 D D D D<|E6 D D D D<|E6 D D D D<|LD D D<|Az D<|E6 D D D D<|E6 D D D D<|E6 D D D D<|LD D D<|Aw<|Ai<|Gf D<|Ao<|AD<|AV D<|Aw<|Ai<|C0<|DK<|EE D<|?_;refine⟨congrArg (fun b=>Ending.returned (C' b)) ?_,a⟩;simp only[Fr.DE];rw[tp];simp;omega
 ·
  refine Zn d D D<|Az D<|ES D D D<|Gt Bs 0 D<|ES D D D<|Hv AF 0 c D D<|?_
  by_cases f:((32:Nat):Int)<((s.w:Nat):Int)
  ·
   refine ES D D D<|ko f D D<|I0 D D<|Az D<|E6 D D D D<|E6 D D D D<|E6 D D D D<|LD D D<|Az D<|E6 D D D D<|E6 D D D D<|E6 D D D D<|LD D D<|Aw<|Ai<|Gf D<|Ao<|AD<|AV D<|Aw<|Ai<|C0<|DK<|EE D<|?_;refine⟨congrArg (fun b=>Ending.returned (C' b)) ?_,a⟩;simp only[Fr.DE];rw[tp];simp;omega
  ·
   refine ES D D D<|jX f D D<|I0 D D<|Az D<|ES D D D<|Gt Bs 1 D<|ES D D D<|Hv AF 1 c D D<|?_
   by_cases i:((s.g:Nat):Int)<((0:Nat):Int)
   ·
    refine ES D D D<|Ur i D D<|I0 D D<|Az D<|E6 D D D D<|E6 D D D D<|E6 D D D D<|LD D D<|Aw<|Ai<|Gf D<|Ao<|AD<|AV D<|Aw<|Ai<|C0<|DK<|EE D<|?_;refine⟨congrArg (fun b=>Ending.returned (C' b)) ?_,a⟩;simp only[Fr.DE];rw[tp];simp;omega
   ·
    refine ES D D D<|Zn i D D<|I0 D D<|Az D<|ES D D D<|Gt Bs 1 D<|ES D D D<|Hv AF 1 c D D<|?_
    by_cases j:((1099511627776:Nat):Int)<((s.g:Nat):Int)
    ·
     refine ES D D D<|ko j D D<|I0 D D<|Aw<|Ai<|Gf D<|Ao<|AD<|AV D<|Aw<|Ai<|C0<|DK<|EE D<|?_;refine⟨congrArg (fun b=>Ending.returned (C' b)) ?_,a⟩;simp only[Fr.DE];rw[tp];simp;omega
    ·
     refine ES D D D<|jX j D D<|I0 D D<|Aw<|Ai<|FQ D<|CA<|Ai<|Ao<|Ao<|AD<|Gt Bs 4 D<|Hv AF 4 c D D<|?_
     by_cases k:((s.p:Nat):Int)<((3:Nat):Int)
     ·
      refine Ur k D D<|Az D<|E6 D D D D<|E6 D D D D<|E6 D D D D<|LD D D<|Az D<|E6 D D D D<|E6 D D D D<|E6 D D D D<|LD D D<|Az D<|E6 D D D D<|E6 D D D D<|E6 D D D D<|E6 D D D D<|E6 D D D D<|LD D D<|Aw<|Ai<|Gf D<|Ao<|AD<|AV D<|Aw<|Ai<|C0<|DK<|EE D<|?_;refine⟨congrArg (fun b=>Ending.returned (C' b)) ?_,a⟩;simp only[Fr.DE];rw[tp];simp;omega
     ·
      refine Zn k D D<|Az D<|ES D D D<|Gt Bs 4 D<|ES D D D<|Hv AF 4 c D D<|?_
      by_cases l:((4096:Nat):Int)<((s.p:Nat):Int)
      ·
       refine ES D D D<|ko l D D<|I0 D D<|Az D<|E6 D D D D<|E6 D D D D<|E6 D D D D<|LD D D<|Az D<|E6 D D D D<|E6 D D D D<|E6 D D D D<|E6 D D D D<|E6 D D D D<|LD D D<|Aw<|Ai<|Gf D<|Ao<|AD<|AV D<|Aw<|Ai<|C0<|DK<|EE D<|?_;refine⟨congrArg (fun b=>Ending.returned (C' b)) ?_,a⟩;simp only[Fr.DE];rw[tp];simp;omega
      ·
       refine ES D D D<|jX l D D<|I0 D D<|Az D<|ES D D D<|Gt Bs 2 D<|ES D D D<|Hv AF 2 c D D<|?_
       by_cases n:((s.m:Nat):Int)<((2:Nat):Int)
       ·
        refine ES D D D<|Ur n D D<|I0 D D<|Az D<|E6 D D D D<|E6 D D D D<|E6 D D D D<|E6 D D D D<|E6 D D D D<|LD D D<|Aw<|Ai<|Gf D<|Ao<|AD<|AV D<|Aw<|Ai<|C0<|DK<|EE D<|?_;refine⟨congrArg (fun b=>Ending.returned (C' b)) ?_,a⟩;simp only[Fr.DE];rw[tp];simp;omega
       ·
        refine ES D D D<|Zn n D D<|I0 D D<|Az D<|ES D D D<|Gt Bs 2 D<|ES D D D<|Hv AF 2 c D D<|ES D D D<|Gt Bs 4 D<|ES D D D<|Hv AF 4 c D D<|?_
        by_cases o:((s.p:Nat):Int)<((s.m:Nat):Int)
        ·
         refine ES D D D<|ko o D D<|I0 D D<|Aw<|Ai<|Gf D<|Ao<|AD<|AV D<|Aw<|Ai<|C0<|DK<|EE D<|?_;refine⟨congrArg (fun b=>Ending.returned (C' b)) ?_,a⟩;simp only[Fr.DE];rw[tp];simp;omega
        ·
         refine ES D D D<|jX o D D<|I0 D D<|Aw<|Ai<|FQ D<|CA<|Ai<|Ao<|AD<|Gt Bs 3 D<|Hv AF 3 c D D<|?_
         by_cases q:((s.h:Nat):Int)=((0:Nat):Int)
         ·
          refine MD q D D<|Az D<|E6 D D D D<|E6 D D D D<|E6 D D D D<|E6 D D D D<|fO D D D<|fO D D D<|fO D D D<|fO D D D<|fO D D D<|E6 D D D D<|LD D D<|AV D<|Aw<|Ai<|C0<|EE D<|?_;refine⟨congrArg (fun b=>Ending.returned (C' b)) ?_,a⟩;simp only[Fr.DE];rw[tp];simp;omega
         ·
          refine Kr q D D<|Az D<|ES D D D<|Gt Bs 3 D<|ES D D D<|Hv AF 3 c D D<|?_
          by_cases r:((2:Nat):Int)≤((s.h:Nat):Int)
          ·
           refine ES D D D<|p0 r D D<|ES D D D<|Az D<|ES D D D<|Gt Bs 3 D<|ES D D D<|Hv AF 3 c D D<|ES D D D<|Gt Bs 2 D<|ES D D D<|Hv AF 2 c D D<|?_
           by_cases t:((s.h:Nat):Int)<((s.m:Nat):Int)
           ·
            refine ES D D D<|Ur t D D<|ES D D D<|LD D D<|I0 D D<|AV D<|Aw<|Ai<|C0<|EE D<|?_;refine⟨congrArg (fun b=>Ending.returned (C' b)) ?_,a⟩;simp only[Fr.DE];rw[tp];simp;omega
           ·
            refine ES D D D<|Zn t D D<|ES D D D<|LD D D<|I0 D D<|AV D<|Aw<|Ai<|C0<|EE D<|?_;refine⟨congrArg (fun b=>Ending.returned (C' b)) ?_,a⟩;simp only[Fr.DE];rw[tp];simp;omega
          ·
           refine ES D D D<|rY r D D<|ES D D D<|Az D<|E6 D D D D<|E6 D D D D<|E6 D D D D<|E6 D D D D<|E6 D D D D<|ES D D D<|I0 D D<|I0 D D<|AV D<|Aw<|Ai<|C0<|EE D<|?_;refine⟨congrArg (fun b=>Ending.returned (C' b)) ?_,a⟩;simp only[Fr.DE];rw[tp];simp;omega
theorem T6(Bd g:Nat)(q:Option Addr)(n c:Nat)(l:rG)(w:World)(z:DA w)(L:g≤4611686018427387904)(M:n≤100000)(A:View w (.slice q n c) n 1 (bv l))(hl:l.length=n):
 Calls lp 53 #[E Bd,E g,I q n c] w fun e w'=>∃p k,e=.returned (.slice p 256 k)∧w'.ownsRow w.heap.size 5 1 (.slice p 256 k) 256 (bv (Ref.Gc Bd g l))∧Below w.heap.size w w':=by
 have b:Below w.heap.size w w:=Cn _ _;refine DZ R3 D 24 ?_;refine Ao<|AD<|AV D<|Aw<|Ai<|Ao<|AD<|Az D<|Cc (fun _ f=>Ex f (p:=((Bd:Nat):Int)) (r:=(((UInt8.ofNat Bd).toNat:Nat):Int)) D AF BV (H5 Bd))<|Az D<|HT B7 D<|Cc (fun _ f=>Ex f (p:=((n:Nat):Int)) (r:=(((UInt8.ofNat n).toNat:Nat):Int)) D AF BV (H5 n))<|?_;intro N B;refine Cp D (fun A5 C=>Wk B D (e:=5) (BH:=[(0,(Value.int .u8 ((((UInt8.ofNat Bd).toNat:Nat):Int):Int))),(1,(Value.int .u8 ((((UInt8.ofNat n).toNat:Nat):Int):Int)))]) D (cs:=#[Value.int .u8 ((((UInt8.ofNat Bd).toNat:Nat):Int):Int),Value.int .u8 ((((UInt8.ofNat n).toNat:Nat):Int):Int)]) D (by unfold maxLen;omega) AB ?_);intro a s f O v2 J;have v2:View s (I (some ⟨w.heap.size,0,none⟩) 2 2) 2 1 (bv [UInt8.ofNat Bd,UInt8.ofNat n]):=v2;have b:=BG b J;refine C _ _ ?_;revert a;refine AV D<|Aw<|Ai<|Ao<|AD<|Az D<|Az D<|CL SC D (OH g 4 _) ?_;rintro _ F ⟨P,Q,rfl,h,t⟩;refine⟨_,D,?_⟩;have d:w.heap.size≤s.heap.size:=b.size;have v2:=v2.below t;have b:=BG b t;have h:=Ew h d;refine CL XI D (MP _ _ _ _ _ _ _ _ _ JY v2 (by rfl) (View.own h) (De h)) ?_;rintro _ G ⟨R,S,rfl,i,u⟩;refine⟨_,D,?_⟩;have d:w.heap.size≤F.heap.size:=b.size;have v2:=v2.below u;have b:=BG b u;have i:=Ew i d;refine AV D<|Aw<|Ai<|Ao<|AD<|Az D<|Az D<|CL XI D (MP _ _ _ _ _ _ _ _ _ JY (View.own i) (De i) (A.below b) hl) ?_;rintro _ H ⟨T,U,rfl,j,v⟩;refine⟨_,D,?_⟩;have d:w.heap.size≤G.heap.size:=b.size;have v2:=v2.below v;have b:=BG b v;have j:=Ew j d;refine AV D<|Aw<|Ai<|Ao<|AD<|Az D<|CL TN D (Rw _ _ _ 252 _ _ JY JY (View.own j) (De j)) ?_;rintro _ K ⟨V,W,rfl,m,x⟩;refine⟨_,D,?_⟩;have d:w.heap.size≤H.heap.size:=b.size;have v2:=v2.below x;have b:=BG b x;have m:=Ew m d;refine CL Tu D (W_ _ _ _ _ _ (z.below b (Br _)) JY (View.own m) (De m)) ?_;rintro _ X ⟨Y,Z,rfl,o,y⟩;refine⟨_,D,?_⟩;have d:w.heap.size≤K.heap.size:=b.size;have v2:=v2.below y;have b:=BG b y;have o:=Ew o d;refine AV D<|Aw<|Ai<|C0<|EE D<|?_;exact⟨_,_,D,by unfold Ref.Gc;rw[hl];exact o,b⟩
theorem Ww(s:Fr.Bu)(w:World)(P:DA w)(h1:s.g≤4611686018427387904:=by dsimp only;omega)(ag:s.m≤4611686018427387904:=by dsimp only;omega)(ah:s.h≤4611686018427387904:=by dsimp only;omega)(ai:s.p≤4611686018427387904:=by dsimp only;omega):
 Calls lp 32 #[rS (Z1 s)] w fun e w'=>∃p k,e=.returned (.slice p 256 k)∧w'.ownsRow w.heap.size 5 1 (.slice p 256 k) 256 (bv (Ref.EC s))∧Below w.heap.size w w':=by
 have b:Below w.heap.size w w:=Cn _ _;refine DZ VL D 32 ?_;refine Ao<|AD<|Hf D ?_;intro aj Q R S f J;have ak:=C8 b R;have b:=BG b J;refine AV D<|Aw<|Ai<|Ao<|AD<|Gt Bs 0 D<|Hv AF 0 f D D<|Cc (fun _ H=>Ex H (p:=((s.w:Nat):Int)) (r:=(((UInt8.ofNat s.w).toNat:Nat):Int)) D AF BV (H5 s.w))<|?_;intro al T;refine Cp D (fun A5 U=>Wk T D (e:=5) (BH:=[(0,(Value.int .u8 (((76:Nat):Int):Int))),(1,(Value.int .u8 (((68:Nat):Int):Int))),(2,(Value.int .u8 (((71:Nat):Int):Int))),(3,(Value.int .u8 (((49:Nat):Int):Int))),(4,(Value.int .u8 ((((UInt8.ofNat s.w).toNat:Nat):Int):Int))),(5,(Value.int .u8 (((0:Nat):Int):Int))),(6,(Value.int .u8 (((0:Nat):Int):Int))),(7,(Value.int .u8 (((0:Nat):Int):Int)))]) D (cs:=#[Value.int .u8 (((76:Nat):Int):Int),Value.int .u8 (((68:Nat):Int):Int),Value.int .u8 (((71:Nat):Int):Int),Value.int .u8 (((49:Nat):Int):Int),Value.int .u8 ((((UInt8.ofNat s.w).toNat:Nat):Int):Int),Value.int .u8 (((0:Nat):Int):Int),Value.int .u8 (((0:Nat):Int):Int),Value.int .u8 (((0:Nat):Int):Int)]) D (by unfold maxLen;omega) AB ?_);intro a K H S c J;have c:View K (I (some ⟨Q.heap.size,0,none⟩) 8 8) 8 1 (bv [76,68,71,49,UInt8.ofNat s.w,0,0,0]):=c;have f:=Bl f J;have b:=BG b J;refine U _ _ ?_;revert a;refine AV D<|Aw<|Ai<|Ao<|AD<|Az D<|Gt Bs 1 D<|Hv AF 1 f D D<|CL SC D (OH s.g 8 _) ?_;rintro _ V ⟨an,ao,rfl,n,A⟩;refine⟨_,D,?_⟩;have d:w.heap.size≤K.heap.size:=b.size;have f:=Bl f A;have c:=c.below A;have b:=BG b A;have n:=Ew n d;refine CL XI D (MP _ _ _ _ _ _ _ _ _ JY c (by rfl) (View.own n) (De n)) ?_;rintro _ W ⟨aq,ar,rfl,i,B⟩;refine⟨_,D,?_⟩;have d:w.heap.size≤V.heap.size:=b.size;have f:=Bl f B;have c:=c.below B;have b:=BG b B;have i:=Ew i d;refine AV D<|Aw<|Ai<|Ao<|AD<|Az D<|Gt Bs 2 D<|Hv AF 2 f D D<|CL SC D (OH s.m 4 _) ?_;rintro _ X ⟨au,av,rfl,o,q⟩;refine⟨_,D,?_⟩;have d:w.heap.size≤W.heap.size:=b.size;have f:=Bl f q;have c:=c.below q;have i:=EN i q;have b:=BG b q;have o:=Ew o d;refine CL XI D (MP _ _ _ _ _ _ _ _ _ JY (View.own i) (De i) (View.own o) (De o)) ?_;rintro _ Y ⟨aw,ax,rfl,j,C⟩;refine⟨_,D,?_⟩;have d:w.heap.size≤X.heap.size:=b.size;have f:=Bl f C;have c:=c.below C;have b:=BG b C;have j:=Ew j d;refine AV D<|Aw<|Ai<|Ao<|AD<|Az D<|Gt Bs 3 D<|Hv AF 3 f D D<|CL SC D (OH s.h 4 _) ?_;rintro _ Z ⟨ay,az,rfl,t,u⟩;refine⟨_,D,?_⟩;have d:w.heap.size≤Y.heap.size:=b.size;have f:=Bl f u;have c:=c.below u;have j:=EN j u;have b:=BG b u;have t:=Ew t d;refine CL XI D (MP _ _ _ _ _ _ _ _ _ JY (View.own j) (De j) (View.own t) (De t)) ?_;rintro _ aa ⟨aA,aB,rfl,l,E⟩;refine⟨_,D,?_⟩;have d:w.heap.size≤Z.heap.size:=b.size;have f:=Bl f E;have c:=c.below E;have b:=BG b E;have l:=Ew l d;refine AV D<|Aw<|Ai<|Ao<|AD<|Az D<|Gt Bs 4 D<|Hv AF 4 f D D<|CL SC D (OH s.p 4 _) ?_;rintro _ ab ⟨aC,aD,rfl,v,F⟩;refine⟨_,D,?_⟩;have d:w.heap.size≤aa.heap.size:=b.size;have c:=c.below F;have l:=EN l F;have b:=BG b F;have v:=Ew v d;refine CL XI D (MP _ _ _ _ _ _ _ _ _ JY (View.own l) (De l) (View.own v) (De v)) ?_;rintro _ ad ⟨aE,aF,rfl,x,L⟩;refine⟨_,D,?_⟩;have d:w.heap.size≤ab.heap.size:=b.size;have c:=c.below L;have b:=BG b L;have x:=Ew x d;refine AV D<|Aw<|Ai<|Ao<|AD<|Az D<|CL TN D (Rw _ _ _ 60 _ _ JY JY (View.own x) (De x)) ?_;rintro _ ae ⟨aG,aH,rfl,y,M⟩;refine⟨_,D,?_⟩;have d:w.heap.size≤ad.heap.size:=b.size;have c:=c.below M;have b:=BG b M;have y:=Ew y d;refine CL Tu D (W_ _ _ _ _ _ (P.below b (Br _)) JY (View.own y) (De y)) ?_;rintro _ af ⟨aI,aJ,rfl,z,N⟩;refine⟨_,D,?_⟩;have d:w.heap.size≤ae.heap.size:=b.size;have c:=c.below N;have b:=BG b N;have z:=Ew z d;refine CL TN D (Rw _ _ _ 256 _ _ JY JY (View.own z) (De z)) ?_;rintro _ aK ⟨aL,aM,rfl,G,O⟩;refine⟨_,D,?_⟩;have d:w.heap.size≤af.heap.size:=b.size;have c:=c.below O;have b:=BG b O;have G:=Ew G d;refine AV D<|Aw<|Ai<|C0<|EE D<|?_;exact⟨_,_,D,by unfold Ref.EC;exact G,b⟩
theorem cQ(l:rG)(n:Nat):At.C5 l n=0↔∀i,i<4→l.getD (n+i) 0=UInt8.ofNat (At.sum (l.take n)/2^(8*i)):=by
 rw[At.XP,At.Sh];have e:=At.G7 (l.take n);generalize At.sum (l.take n)=s at*;have key:∀(b:UInt8) (x:Nat),b=UInt8.ofNat x↔b.toNat=x % 256:=by
  intro b x;rw[←M'];simp
 have f:=(l.getD n 0).toNat_lt;have g:=(l.getD (n+1) 0).toNat_lt;have j:=(l.getD (n+2) 0).toNat_lt;have k:=(l.getD (n+3) 0).toNat_lt;constructor
 ·intro h i V;rw[key]
  match i,V with
  |0,_=>simp only[tA,m',Ry,kB];omega
  |1,_=>show _=s/256 % 256;omega
  |2,_=>show _=s/65536 % 256;omega
  |3,_=>show _=s/16777216 % 256;omega
 ·intro h;have d:=(key _ _).1 (h 0 JZ);have h1:=(key _ _).1 (h 1 JZ);have a:=(key _ _).1 (h 2 JZ);have c:=(key _ _).1 (h 3 JZ);simp only[tA,m',Ry,kB]at d;have h1:(l.getD (n+1) 0).toNat=s/256 % 256:=h1;have a:(l.getD (n+2) 0).toNat=s/65536 % 256:=a;have c:(l.getD (n+3) 0).toNat=s/16777216 % 256:=c;omega
theorem rC(q:Option Addr)(m c n:Nat)(l:rG)(w:World)(B:DA w)(N:m=n+4)(O:n≤100000000)(h:View w (.slice q m c) m 1 (bv l))(hl:l.length=m):
 Calls lp 78 #[I q m c] w fun e w'=>e=.returned (.bool (decide (At.C5 l n=0)))∧Below w.heap.size w w':=by
 have d:Below w.heap.size w w:=Cn _ _;refine DZ SO D 32 ?_;refine Ao<|AD<|AV D<|Aw<|Ai<|Ao<|AD<|Az D<|HT B7 D<|Cc (fun _ b=>Km b (p:=m) (q:=4) (r:=n) D D)<|AV D<|Aw<|Ai<|Ao<|Ao<|AD<|Az D<|?_;have C:¬(((n:Nat):Int)<((0:Nat):Int)):=JY;refine Zn C D D<|Aw<|Ai<|FQ D<|CA<|Ai<|Ao<|AD<|Az D<|Az D<|?_;have P:=h.cap;have u:=mD h n JY;simp only[Q6,Ip]at u;have F:(l.take n).length=n:=by have:=hl;simp only[FX];omega
 refine Cc (fun _ b=>Rm b A3 D n (k:=.i64) D)<|CL Wi D (a2 _ _ _ _ _ B JY u F) ?_;rintro _ G ⟨rfl,H⟩;refine⟨_,D,?_⟩;have d:=BG d H;refine AV D<|Aw<|Ai<|Ao<|Ao<|AD<|AV (v:=(E 0)) D<|Aw<|Ai<|B'<|?_;intro a b;refine Ec (fun J a W=>∃i,J=4 - i∧W=G∧AH 32 a (Jb (Jb (Jb (Jb Jk 0 (I q m c)) 3 (E n)) 4 (Value.int .u32 ((((At.sum (l.take n)):Nat):Int):Int))) 5 (E i))∧i≤4∧Hid (∀j,j<i→l.getD (n+j) 0=UInt8.ofNat (At.sum (l.take n)/2^(8*j)))) _ ⟨0,D,D,AY b,F2 _,AX (fun j hj=>JY)⟩ ?_;rintro _ a _ ⟨i,rfl,rfl,b,V,x⟩;revert a;refine Ao<|Ao<|AD<|Az D<|D_ (q:=(4:Nat)) D D<|Aw<|Ai<|DU D (fun K=>?_) fun K=>?_
 ·
  have Q:i<4:=JY;refine CA<|Ai<|Ao<|B'<|Ao<|AD<|Az D<|Az D<|Az D<|Dz D D<|?_;obtain⟨R,y,rfl⟩:=IW (h.below d);have L:=GH (h.below d) (n+i) (o:=y+(n+i)*1);refine Ou A3 (n+i) (y+(n+i)*1) D D<|D8 BV L D<|Az D<|Az D<|Nv (p:=8) D D<|Cc (fun _ b=>Ex b (p:=((8*i:Nat):Int)) (r:=((8*i:Nat):Int)) D AF K1 (JB (8*i)))<|?_;obtain⟨f,s⟩:∃g:Nat,g=(At.sum (l.take n))/2^(8*i):=⟨_,D⟩
  have S:f<4294967296:=by rw[s];exact jP (gE _ _) (At.G7 _)
  refine Cc (fun _ b=>IG b (k:=.u32) (p:=(At.sum (l.take n))) (n:=8*i) (r:=f) D D (by simp only[IntKind.bits];omega) s.symm)<|Cc (fun _ b=>Ex b (p:=(((f:Nat):Int):Int)) (r:=(((UInt8.ofNat f).toNat:Nat):Int)) D Tryz.underlying105 Tryz.underlying5 (H5 f))<|Rq D D<|Aw<|Ai<|OM D (fun z=>?_) fun z=>?_
  ·
   have t:¬At.C5 l n=0:=fun q=>by
    have A:=(cQ l n).1 q i JY;rw[←s]at A;rw[A]at z;omega
   refine Ao<|AD<|AV D<|Aw<|Ai<|C0<|FE<|DK<|DK<|FE<|DK<|EE D<|?_;exact⟨by rw[decide_eq_false t],d⟩
  ·
   have M:Hid (∀j,j<i+1→l.getD (n+j) 0=UInt8.ofNat (At.sum (l.take n)/2^(8*j))):=AX (fun j hj=>by
    rcases s9 j i with q|q
    ·exact x.out j q
    ·obtain rfl:j=i:=JY;apply M'.1;rw[←s];omega)
   refine CA<|DN<|Ai<|AD<|Az D<|Dz (q:=1) D D<|AV D<|Aw<|Ai<|?_;intro a b;exact⟨_,JY,i+1,D,D,AY b,JY,M⟩
 ·
  refine Dv<|BY<|BY<|Ds<|Ai<|Ao<|AD<|AV D<|Aw<|Ai<|C0<|EE D<|?_;have t:At.C5 l n=0:=(cQ l n).2 (fun j hj=>x.out j JY);exact⟨by rw[decide_eq_true t],d⟩
theorem np(l:rG)(k:Nat)(h:k<l.length):Fr.le (l.drop k)=(l.getD k 0).toNat+256*Fr.le (l.drop (k+1)):=by
 rw[Xy h];have:l.getD k 0=l[k]:=by rw[Dm,F3 h];rfl
 rw[this];rfl
theorem p8(l:rG)(k:Nat):Fr.le (l.drop (k+1))≤Fr.le (l.drop k):=by
 rcases s9 k l.length with h|h
 ·rw[np l k h];omega
 ·rw[tI h,tI JY];exact Br _
theorem r6(l:rG)(i n k:Nat)(a:k<n):((l.drop i).take n).getD k 0=l.getD (i+k) 0:=by
 simp only[Dm,LQ,if_pos a,Q1]
theorem oP(i n:Nat)(q:Option Addr)(m c:Nat)(l:rG)(w:World)(F:1≤n)(G:i+n≤m)(hm:m≤1000)(h:Hid ((∀k,k<n→Fr.le (((l.drop i).take n).drop (n - k))≤35184372088832)∧Fr.le (((l.drop i).take n).drop 1)≤35184372088832))(f:View w (.slice q m c) m 1 (bv l))(hl:l.length=m):
 Calls lp 80 #[I q m c,E i,E n] w fun e w'=>e=.returned (.int .i64 ((Fr.le ((l.drop i).take n):Nat):Int))∧w=w':=by
 refine DZ Tv D 28 ?_;refine Ao<|AD<|AV (v:=(E 0)) D<|Aw<|Ai<|Ao<|AD<|AV (v:=(E 0)) D<|Aw<|Ai<|Ao<|Ao<|AD<|Az D<|Rv (q:=1) D D<|AV D<|Aw<|Ai<|B'<|?_;intro a b;refine Ec (fun s a W=>∃k x j,s=n - k∧W=w∧AH 28 a (Jb (Jb (Jb (Jb Jk 0 (I q m c)) 1 (E i)) 7 (E x)) 8 (Value.int .i64 (j:Int)))∧k≤n∧j=(n:Int) - 1 - k∧Hid (x=Fr.le (((l.drop i).take n).drop (n - k)))∧x≤9007199254741248) _ ⟨0,0,_,D,D,AY b,F2 _,JY,AX (by rw[tI (by rw[FX];omega)];rfl),JY⟩ ?_;rintro _ a _ ⟨k,x,j,rfl,rfl,b,H,hj,d,J⟩;revert a;refine Ao<|Ao<|AD<|Az D<|cw (q:=(0:Nat)) D D<|Aw<|Ai<|DU D (fun t=>?_) fun t=>?_
 ·
  have K:x≤35184372088832:=by rw[d.out];exact h.out.1 k JY
  refine CA<|Ai<|Ao<|B'<|Ao<|Ao<|AD<|Az D<|?_;have u:¬(((35184372088832:Nat):Int)<((x:Nat):Int)):=JY;refine jX u D D<|Aw<|Ai<|FQ D<|CA<|Ai<|AD<|Az D<|Nv (q:=256) D D<|Az D<|Az D<|Az D<|?_;obtain⟨y,z⟩:∃y:Nat,y=i+(n - (k+1)):=⟨_,D⟩
  have A:IntKind.i64.wrap ((i:Int)+j)=(y:Int):=by rw[IntWalk.i64_in _ JY];omega
  refine Cc (fun _ b=>HY b (k:=.i64) (p:=((i:Nat):Int)) (q:=j) D D A)<|?_;obtain⟨L,g,rfl⟩:=IW f;have B:=GH f y (o:=g+y*1);refine Ou A3 y (g+y*1) D D<|D8 BV B D<|Cc (fun _ b=>Ex b (p:=((((l.getD y 0).toNat:Nat):Int):Int)) (r:=(((l.getD y 0).toNat:Nat):Int)) D BV AF (JG ((l.getD y 0).toNat) (RE (Cj _) JZ)))<|?_;have M:=(l.getD y 0).toNat_lt;refine Dz D D<|?_;have C:Hid ((x*256)+((l.getD y 0).toNat)=Fr.le (((l.drop i).take n).drop (n - (k+1)))):=AX (by rw[np _ (n - (k+1)) (by simp;omega),show n - (k+1)+1=n - k by omega,←d.out,z,r6 l i n (n - (k+1)) JY];omega);refine AV D<|Aw<|DN<|Ai<|AD<|Az D<|Cc (fun _ b=>Yx b (k:=.i64) (p:=(j:Int)) (q:=((1:Nat):Int)) D D D)<|AV D<|Aw<|Ai<|?_;intro a b;exact⟨_,JY,k+1,_,_,D,D,AY b,JY,by rw[IntWalk.i64_in _ JY];omega,C,JY⟩
 ·
  obtain rfl:n=k:=JY;refine Dv<|BY<|BY<|Ds<|Ai<|Ao<|AD<|Az D<|AV D<|Aw<|Ai<|C0<|EE D<|?_;exact⟨by rw[d.out,XT,HE],D⟩
