/-
  DERIVED. GIVEN WITH THE SEED: THE PROGRAM's TIES (one call each: nine closed facts by the kernel) AND EACH ROW's TIE, after the 31st guide's Derived/Test/Toyas{Tie, Card}.lean. No idea stands in it: it is a product of the set-up. Laid BY PROGRAM, IN A SANDBOX (cutbox-door.mjs). By AI agents, Wed Nov 11 2026. No macro, syntax, notation, axiom, sorry.
-/
import Derived.Test.YtdcddenojjdmjaaGreatDoorRows
import Derived.LaidByTextLater
import Derived.SevenTiedAt
import Derived.LaidSub
import Derived.LaidOnce
namespace Go.Proofs.YtdcddenojjdmjaaGreatDoor
open Go
set_option maxRecDepth 100000
theorem seatTie1 : Tryz.prog.laidByTextLater [("cartouche/blake.begins", Rows.laid_cartouche_blake_begins), ("cartouche/blake.orders", Rows.laid_cartouche_blake_orders), ("cartouche/blake.mixings", Rows.laid_cartouche_blake_mixings)] [.data, .data, .data] true :=
  Program.laidByTextLater_by_one 42 8 161 (by kernel_rfl) (by kernel_rfl) (by kernel_rfl) (by kernel_rfl) (by kernel_rfl) (by kernel_rfl) (fun _ _ => by kernel_rfl)
theorem noOwnUnsafe : Tryz.pinned.checked.prog.headLifts.contains "ownunsafe" = false := by kernel_rfl
theorem tie : Tryz.prog.laidByTextLater [("cartouche/blake.begins", Rows.laid_cartouche_blake_begins), ("cartouche/blake.orders", Rows.laid_cartouche_blake_orders), ("cartouche/blake.mixings", Rows.laid_cartouche_blake_mixings)] [.data, .data, .data] true :=
  Program.laidByTextLater.sub seatTie1 ["cartouche/blake.begins", "cartouche/blake.orders", "cartouche/blake.mixings"] (by kernel_rfl) (by kernel_rfl)
theorem topNames_row_tie : Rows.topNamesRow.laidByTextAt .later Tryz.pinned [.data, .data, .data] true :=
  OpenClaim.laidByTextAt_later rfl rfl tie noOwnUnsafe
theorem topNamesUpto_row_tie : Rows.topNamesUptoRow.laidByTextAt .later Tryz.pinned [.data, .data, .data] true :=
  OpenClaim.laidByTextAt_later rfl rfl tie noOwnUnsafe
end Go.Proofs.YtdcddenojjdmjaaGreatDoor
