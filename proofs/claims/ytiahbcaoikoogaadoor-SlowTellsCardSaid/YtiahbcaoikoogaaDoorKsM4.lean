-- declarations that this claim needs, copied by a program of the session
import Derived.Test.YtiahbcaoikoogaaDoorKsM0
namespace Go.Proofs.YtiahbcaoikoogaaDoor
open Go.RowKit Go.Proofs.YtiahbcaoikoogaaDoorW.PrintWords Go.Proofs.YtiahbcaoikoogaaDoorW.PrintLast Go.Proofs.YtiahbcaoikoogaaDoorW.PrintMore
attribute [local go_sem] max2_int min2_int max_two min_two max_three min_three max_four min_four   
set_option linter.unusedVariables false
set_option linter.unusedSimpArgs false
def bits_Join.l0 : Nat → Int → List Int → Int → Int → List Int → Int → List Int → Int → Option (List Int × Int)
 | 0, _, _, _, _, _, _, _, _ => none
 | k + 1, x5, x32, x33, x34, x102000, x102001, x103000, x103001 => if x34 < x33 then (if 0 ≤ x34 then (if x34 < (x32.length : Int) then (if 0 ≤ (wrap64 ((x102000.length : Int) - 1)) then (if (wrap64 ((x102000.length : Int) - 1)) < (x102000.length : Int) then (if 0 ≤ x5 then ((some (x102000.set ((wrap64 ((x102000.length : Int) - 1)) : Int).toNat (Go.bits .or .u8 (rd x102000 (wrap64 ((x102000.length : Int) - 1))) (shr .u8 (rd x32 x34) x5)) : List Int)).bind fun y112 => (if 0 ≤ (wrap64 (8 - x5)) then (if y112.length < 140737488355328 then (bits_Join.l0 k x5 x32 x33 (wrap64 (x34 + 1)) (y112 ++ [shl .u8 (rd x32 x34) (wrap64 (8 - x5))]) x102001 x103000 x103001) else (none)) else (none))) else (none)) else (none)) else (none)) else (none)) else (none)) else (if 0 ≤ (wrap64 (Int.tdiv (wrap64 ((wrap64 (x102001 + x103001)) + 7)) 8)) then (if (wrap64 (Int.tdiv (wrap64 ((wrap64 (x102001 + x103001)) + 7)) 8)) ≤ (x102000.length : Int) then (some ((x102000.take ((wrap64 (Int.tdiv (wrap64 ((wrap64 (x102001 + x103001)) + 7)) 8)) : Int).toNat), wrap64 (x102001 + x103001))) else (none)) else (none))
def bits_Join.f (k : Nat) (l0_0 : List Int) (a0_1 : Int) (l1_0 : List Int) (a1_1 : Int) : Option (List Int × Int) := if (Int.tmod a0_1 8) = 0 then ((slices_Concat_byte_byte.f [l0_0, l1_0]).bind fun t104 => (some (t104, wrap64 (a0_1 + a1_1)))) else ((slices_Clone_byte_byte.f l0_0).bind fun t107 => (bits_Join.l0 k (Int.tmod a0_1 8) l1_0 (l1_0.length : Int) 0 t107 a0_1 l1_0 a1_1))
end Go.Proofs.YtiahbcaoikoogaaDoor
