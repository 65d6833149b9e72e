/- Facts on the whole program that every row asks for. -/
import Derived.Test.YtceaambiagobbaaAmJoin
import Derived.Test.YtceaambiagobbaaRows
set_option maxRecDepth 100000
namespace Go.Proofs.Ytceaambiagobbaa.Am
open Go Go.Proofs
theorem seat_order : Try.prog.initOrder = String.ofList (harness ++ Char.ofNat 32 :: ((chars [55, 54, 100, 100, 50, 100, 54, 52, 97, 54, 101, 56, 50, 51, 55, 98, 56, 52, 54, 56, 99, 57, 102, 51, 102, 50, 54, 97, 55, 55, 57, 54, 50, 49, 50, 101, 49, 99, 57, 99, 98, 54, 49, 57, 101, 56, 53, 99, 100, 102, 49, 56, 49, 51, 51, 53, 55, 49, 101, 49, 98, 99, 50, 55]) ++ Char.ofNat 32 :: (cut ++ Char.ofNat 32 :: (chars [97, 116, 32, 97, 114, 109, 112, 108, 97, 110, 47, 97, 114, 109, 112, 108, 97, 110, 108, 97, 119, 49, 51, 46, 83, 117, 112, 112, 111, 114, 116, 78, 111, 114, 109, 97, 108, 115, 32, 97, 114, 109, 112, 108, 97, 110, 47, 97, 114, 109, 112, 108, 97, 110, 108, 97, 119, 49, 51, 46, 83, 117, 112, 112, 111, 114, 116, 78, 111, 114, 109, 115, 32, 97, 114, 109, 112, 108, 97, 110, 47, 97, 114, 109, 112, 108, 97, 110, 108, 97, 119, 49, 51, 46, 83, 117, 112, 112, 111, 114, 116, 69, 120, 116, 114, 101, 109, 101, 115])))) := by kernel_rfl
theorem seat_sum : isSumSigns (chars [55, 54, 100, 100, 50, 100, 54, 52, 97, 54, 101, 56, 50, 51, 55, 98, 56, 52, 54, 56, 99, 57, 102, 51, 102, 50, 54, 97, 55, 55, 57, 54, 50, 49, 50, 101, 49, 99, 57, 99, 98, 54, 49, 57, 101, 56, 53, 99, 100, 102, 49, 56, 49, 51, 51, 53, 55, 49, 101, 49, 98, 99, 50, 55]) = true := by kernel_rfl
theorem seat_words : wordsSigns Try.prog.initOrder.toList = harness :: (chars [55, 54, 100, 100, 50, 100, 54, 52, 97, 54, 101, 56, 50, 51, 55, 98, 56, 52, 54, 56, 99, 57, 102, 51, 102, 50, 54, 97, 55, 55, 57, 54, 50, 49, 50, 101, 49, 99, 57, 99, 98, 54, 49, 57, 101, 56, 53, 99, 100, 102, 49, 56, 49, 51, 51, 53, 55, 49, 101, 49, 98, 99, 50, 55]) :: cut :: wordsSigns (chars [97, 116, 32, 97, 114, 109, 112, 108, 97, 110, 47, 97, 114, 109, 112, 108, 97, 110, 108, 97, 119, 49, 51, 46, 83, 117, 112, 112, 111, 114, 116, 78, 111, 114, 109, 97, 108, 115, 32, 97, 114, 109, 112, 108, 97, 110, 47, 97, 114, 109, 112, 108, 97, 110, 108, 97, 119, 49, 51, 46, 83, 117, 112, 112, 111, 114, 116, 78, 111, 114, 109, 115, 32, 97, 114, 109, 112, 108, 97, 110, 47, 97, 114, 109, 112, 108, 97, 110, 108, 97, 119, 49, 51, 46, 83, 117, 112, 112, 111, 114, 116, 69, 120, 116, 114, 101, 109, 101, 115]) := words_of seat_order (by kernel_rfl)
theorem seat_make : Try.prog.make = some .cut := make_of seat_words seat_sum
theorem seat_lifts : Try.prog.liftsFinal = false := lifts_of seat_words seat_sum
theorem seat_later : Try.prog.laysLater = false := by kernel_rfl
theorem seat_reflect : Try.prog.bearsReflect = false := by kernel_rfl
theorem seat_door : Try.prog.doorFits [] = true := by kernel_rfl
theorem seat_enter : Try.prog.mayEnter = true := enter_of seat_words seat_sum seat_later seat_reflect seat_door
theorem seat_laidOut : laidOutB Try.prog = true := by kernel_rfl
theorem seat_mapsRowed : mapsRowed Try.prog = true := by kernel_rfl
theorem seat_stops : (Try.prog.stops == []) = true := by kernel_rfl
theorem seat_knobs : (Try.prog.stopKnobs == []) = true := by kernel_rfl
theorem seat_heard : Try.prog.stopsHeard = true := by kernel_rfl
end Go.Proofs.Ytceaambiagobbaa.Am
