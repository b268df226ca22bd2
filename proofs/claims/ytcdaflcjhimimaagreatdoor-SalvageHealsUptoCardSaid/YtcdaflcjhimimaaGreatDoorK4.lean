/- Laws and walks on the road to SalvageNever and SalvageHeals (part K4). No conditions beyond each law's own. -/
import Derived.Test.YtcdaflcjhimimaaGreatDoorM01
import Derived.Test.YtcdaflcjhimimaaGreatDoorK0
set_option linter.unusedVariables false
namespace Go.Proofs.YtcdaflcjhimimaaGreatDoor.D7
set_option maxRecDepth 1000000 in
theorem Hp:rows Az 2147483648 (es.drop 1025) 1023=true:=by decide+kernel
end Go.Proofs.YtcdaflcjhimimaaGreatDoor.D7
