/- The zero values of a bank and of a memory. -/
import Derived.Test.YtdnalhjdmlkbmaaDoorLib
import Derived.Test.YtdnalhjdmlkbmaaDoorProg
namespace Go.Proofs.YtdnalhjdmlkbmaaDoor
open Go.RowKit

def u8s (l : List Int) : List Value := l.map (.int .u8)
noncomputable abbrev bankZ : Array Value := Tryd.zeroCells158
noncomputable abbrev memZ : Array Value := Tryd.zeroCells135
set_option maxRecDepth 1000000 in
theorem bankZ_list : Tryd.zeroCells158.toList = u8s (List.replicate 16384 0) := by kernel_rfl
set_option maxRecDepth 1000000 in
theorem memZ_list : Tryd.zeroCells135.toList = [.map none] ++ u8s (List.replicate 19456 0) ++ [.int .u8 0, .int .u8 0, .int .u8 0, .int .u16 0, .int .u16 0, .int .i64 0, .slice none 0 0] := by kernel_rfl
end Go.Proofs.YtdnalhjdmlkbmaaDoor
