/- The walk of layer 13's example (gaiterlaw13.up): it answers true. -/
import Derived.Test.YthlieaggokdppaaAllx8
import Derived.Lib.SlBytesConst
import Derived.Deep.RegionWith
namespace Go.Proofs.Ythlieaggokdppaa
open Go.RowKit Go.Proofs.YthlieaggokdppaaW.PrintWords Go.Proofs.YthlieaggokdppaaW.PrintLast Go.Proofs.Ythlieaggokdppaa.All
set_option linter.unusedVariables false
set_option linter.unusedSimpArgs false

def u13nums : List Int := [49, 50, 51, 52, 53, 54, 55, 56, 57]
def gaiterlaw13_up.f : Option Bool := some true
theorem u13_reads (w : World) (fr : Nat × Nat) : Kd.C (Kd.int .u8) (w.alloc (.cells #[.int .u8 49, .int .u8 50, .int .u8 51, .int .u8 52, .int .u8 53, .int .u8 54, .int .u8 55, .int .u8 56, .int .u8 57] 5 fr)) (some ⟨w.heap.size, 0, none⟩) u13nums.length u13nums := by
  refine Kd.C_of_reads (d := (0 : Int)) (h1 := fun _ => rfl) ⟨rfl, by decide, fun _ => ⟨_, rfl, fun j hj => ?_⟩⟩
  rw [add_plain, cell_of_row _ _ _ _ _ _ (heap_alloc_new w _)]
  have h9 : j < 9 := hj
  rcases j with _ | _ | _ | _ | _ | _ | _ | _ | _ | j
  all_goals first | rfl | omega
theorem u13_sum : crc_Sum.f 200 u13nums = some 3421780262 := by decide +kernel
theorem u13_none : crc_Sum.f 200 [] = some 0 := by decide +kernel
set_option maxHeartbeats 4000000 in
set_option maxRecDepth 100000 in
theorem gaiterlaw13_up.calls (r : Bool) (w : World) (h : gaiterlaw13_up.f = some r) :
    Calls Try.prog 20 #[] w fun e w' => e = .returned (.bool r) ∧ Below w.heap.size w w' := by
  obtain rfl := Option.some.inj h
  clear h
  have kc := fun (W : World) (n c : Nat) => Lib.run_convert_bytes_const (P := Try.prog) W 27 5 #[.int .u8 49, .int .u8 50, .int .u8 51, .int .u8 52, .int .u8 53, .int .u8 54, .int .u8 55, .int .u8 56, .int .u8 57] n c Try.underlying27 Try.underlying5
  go_enter Try.func20, Try.ntmps20
  have hb := below_alloc (Below.refl w.heap.size w) (.cells #[.int .u8 49, .int .u8 50, .int .u8 51, .int .u8 52, .int .u8 53, .int .u8 54, .int .u8 55, .int .u8 56, .int .u8 57] 5 (9, 10))
  have HB := Aside0.mk hb
  clear hb
  have HS := Aside0.mk u13_sum
  have HN := Aside0.mk u13_none
  go_wp2_with fail
  refine (crc_Sum.calls 200 (some ⟨w.heap.size, 0, none⟩) 9 u13nums 3421780262 _ (u13_reads w (9, 10)) (by decide) HS.out).mono ?_
  rintro e w' ⟨rfl, ⟨nd, rfl⟩⟩
  go_wp2_with fail
  refine (crc_Sum.calls 200 none 0 [] 0 _ (Kd.C_nil _ _) (by decide) HN.out).mono ?_
  rintro e w' ⟨rfl, ⟨nd2, rfl⟩⟩
  go_wp2
  go_ret
  exact ⟨rfl, by repeat (first | exact HB.out | apply pw_below_drewN)⟩

end Go.Proofs.Ythlieaggokdppaa
