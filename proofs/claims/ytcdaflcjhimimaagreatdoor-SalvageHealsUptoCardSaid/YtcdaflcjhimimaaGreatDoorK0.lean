/- Laws and walks on the road to SalvageNever and SalvageHeals (part K0). No conditions beyond each law's own. -/
import Derived.Test.YtcdaflcjhimimaaGreatDoorM01
set_option linter.unusedVariables false
namespace Go.Proofs.YtcdaflcjhimimaaGreatDoor.D7
open Go.Proofs.YtcdaflcjhimimaaGreatDoor
set_option linter.unusedVariables false
def F4(B i:Nat):Bool:=Nat.beq (Nat.mod (Nat.shiftRight B i) 2) 0
noncomputable def KX(x:Nat)(l:List Nat):Bool:=@List.rec Nat (fun _=>Bool) true (fun e _ a=>cond (Nat.beq x e) false a) l
noncomputable def row(Az:Nat→Bool)(y:Nat)(l:List Nat):Bool:=@List.rec Nat (fun _=>Bool) true (fun e _ a=>cond (Az (Nat.xor y e)) a false) l
noncomputable def rows(Az:Nat→Bool)(z:Nat)(l:List Nat)(n:Nat):Bool:=@Nat.rec (fun _=>List Nat→Bool) (fun _=>true) (fun _ a l=>@List.rec Nat (fun _=>Bool) true (fun e t _=>cond (row Az (Nat.xor z e) t) (a t) false) l) n l
noncomputable def Yr(n:Nat):Nat→List Nat:=@Nat.rec (fun _=>Nat→List Nat) (fun _=>[]) (fun _ a x=>x::a (cond (Nat.beq (Nat.mod x 2) 1) (Nat.xor (Nat.div x 2) 3988292384) (Nat.div x 2))) n
noncomputable def es:List Nat:=Yr 2048 2147483648
noncomputable def Mp(f:Nat→Nat)(l:List Nat):Nat:=@List.rec Nat (fun _=>Nat) 1 (fun e _ a=>Nat.lor a (Nat.shiftLeft 1 (f e))) l
noncomputable def Aj:Nat:=Mp (fun x=>Nat.mod x 65536) es
noncomputable def J7:Nat:=Mp (fun x=>Nat.div x 65536) es
noncomputable def I2:Nat:=Mp (fun x=>Nat.mod x 65521) es
noncomputable def Az(x:Nat):Bool:=cond (F4 Aj (Nat.mod x 65536)) true (cond (F4 J7 (Nat.div x 65536)) true (cond (F4 I2 (Nat.mod x 65521)) true (cond (Nat.beq x 0) false (KX x es))))
noncomputable def TV(l:List Nat):Bool:=@List.rec Nat (fun _=>Nat→Bool) (fun _=>true) (fun e _ a p=>cond (Nat.beq (Af.step p) e) (a e) false) l 2147483648
noncomputable def L1(l:List Nat):Bool:=@List.rec Nat (fun _=>Bool) true (fun e _ a=>cond (cond (F4 Aj (Nat.mod e 65536)) true (cond (F4 J7 (Nat.div e 65536)) true (F4 I2 (Nat.mod e 65521)))) false a) l
set_option maxRecDepth 1000000 in
theorem SW:TV (es.drop 1)=true:=by decide+kernel
set_option maxRecDepth 1000000 in
theorem TI:L1 (0::es)=true:=by decide+kernel
set_option maxRecDepth 1000000 in
theorem Xa:es.length=2048:=by decide+kernel
theorem WG:es[0]? =some 2147483648:=by decide+kernel
end Go.Proofs.YtcdaflcjhimimaaGreatDoor.D7
