import Derived.Test.YtfoejfohbkmmeaaGreatDoorQ28
import Derived.Test.YtfoejfohbkmmeaaGreatDoorQ17
import Derived.Test.YtfoejfohbkmmeaaGreatDoorQ04
import Derived.Test.YtfoejfohbkmmeaaGreatDoorQ02
import Derived.Test.YtfoejfohbkmmeaaGreatDoorQ00
import Derived.Test.YtfoejfohbkmmeaaGreatDoorQ14
import Derived.Test.YtfoejfohbkmmeaaGreatDoorQ03
import Derived.Test.YtfoejfohbkmmeaaGreatDoorQ22
import Derived.Deep.RegionWith
import Derived.Deep.DrawnRows
namespace Go.Proofs.YtfoejfohbkmmeaaGreatDoor
open Go.RowKit
attribute [local go_sem ↓] Go.wp_at_zero Go.wp_at_succ
structure KS (w:World) (g:Nat) (W:World):Prop where
 blk:IsBlk W g 77 #[.int .i64 2,.int .i64 0,.string ⟨#[105,116,39,115]⟩]
 env:Env W
 below:Below w.heap.size w W
def H9(w:World)(e:Ending)(w':World):Prop:=e=.returned (.bool true)/\Below w.heap.size w w'
end Go.Proofs.YtfoejfohbkmmeaaGreatDoor
