/- The table of types of this program, contracts of its functions, and how lists, maps and new blocks stand in memory; each contract holds in every world that it names. -/
import Derived.Test.YtnljcdplcloedaaGreatDoorProg
import Derived.KernelRfl
import Derived.Test.YtnljcdplcloedaaGreatDoorTb
import Derived.Laws.Externs
import Derived.Laws.StructEq
import Derived.Laws.AppendOwn
section
namespace Go.Proofs.YtnljcdplcloedaaGreatDoor
open Go Go.Tn
def tab : List TyI := [
  ⟨.other, 1, 0, some (.tuple #[])⟩,
  ⟨.func, 1, 8, some (.nilFunc)⟩,
  ⟨.int .i64, 1, 8, some (.int .i64 0)⟩,
  ⟨.int .i64, 1, 8, some (.int .i64 0)⟩,
  ⟨.bool, 1, 1, some (.bool false)⟩,
  ⟨.int .u8, 1, 1, some (.int .u8 0)⟩,
  ⟨.int .u8, 1, 1, some (.int .u8 0)⟩,
  ⟨.struct [(0, 2), (1, 3), (2, 4), (3, 6)], 4, 24, some (.agg #[.int .i64 0, .int .i64 0, .bool false, .int .u8 0])⟩,
  ⟨.struct [(0, 2), (1, 3), (2, 4), (3, 6)], 4, 24, some (.agg #[.int .i64 0, .int .i64 0, .bool false, .int .u8 0])⟩,
  ⟨.other, 1, 16, some (.string .empty)⟩,
  ⟨.other, 1, 16, some (.string .empty)⟩,
  ⟨.other, 1, 16, some (.string .empty)⟩,
  ⟨.int .u64, 1, 8, some (.int .u64 0)⟩,
  ⟨.struct [(0, 9), (1, 12)], 2, 24, some (.agg #[.string .empty, .int .u64 0])⟩,
  ⟨.struct [(0, 9), (1, 12)], 2, 24, some (.agg #[.string .empty, .int .u64 0])⟩,
  ⟨.ptr 316, 1, 8, some (.pointer none)⟩,
  ⟨.ptr 319, 1, 8, some (.pointer none)⟩,
  ⟨.ptr 327, 1, 8, some (.pointer none)⟩,
  ⟨.struct [(0, 17)], 1, 8, some (.agg #[.pointer none])⟩,
  ⟨.struct [(0, 17)], 1, 8, some (.agg #[.pointer none])⟩,
  ⟨.other, 1, 16, some (.nilIface)⟩,
  ⟨.int .i32, 1, 4, some (.int .i32 0)⟩,
  ⟨.slice 44, 1, 24, some (.slice none 0 0)⟩,
  ⟨.slice 2, 1, 24, some (.slice none 0 0)⟩,
  ⟨.struct [(0, 22), (1, 23), (2, 23), (3, 22), (4, 2), (5, 3)], 6, 112, some (.agg #[.slice none 0 0, .slice none 0 0, .slice none 0 0, .slice none 0 0, .int .i64 0, .int .i64 0])⟩,
  ⟨.struct [(0, 22), (1, 23), (2, 23), (3, 22), (4, 2), (5, 3)], 6, 112, some (.agg #[.slice none 0 0, .slice none 0 0, .slice none 0 0, .slice none 0 0, .int .i64 0, .int .i64 0])⟩,
  ⟨.struct [(0, 3), (1, 3), (2, 25)], 8, 128, some (.agg #[.int .i64 0, .int .i64 0, .slice none 0 0, .slice none 0 0, .slice none 0 0, .slice none 0 0, .int .i64 0, .int .i64 0])⟩,
  ⟨.struct [(0, 3), (1, 3), (2, 25)], 8, 128, some (.agg #[.int .i64 0, .int .i64 0, .slice none 0 0, .slice none 0 0, .slice none 0 0, .slice none 0 0, .int .i64 0, .int .i64 0])⟩,
  ⟨.func, 1, 8, some (.nilFunc)⟩,
  ⟨.int .i64, 1, 8, some (.int .i64 0)⟩,
  ⟨.other, 1, 0, some (.tuple #[.slice none 0 0, .int .i64 0])⟩,
  ⟨.func, 1, 8, some (.nilFunc)⟩,
  ⟨.ptr 127, 1, 8, some (.pointer none)⟩,
  ⟨.other, 1, 0, some (.tuple #[.pointer none, .int .i64 0])⟩,
  ⟨.func, 1, 8, some (.nilFunc)⟩,
  ⟨.ptr 133, 1, 8, some (.pointer none)⟩,
  ⟨.other, 1, 0, some (.tuple #[.pointer none, .int .i64 0])⟩,
  ⟨.func, 1, 8, some (.nilFunc)⟩,
  ⟨.func, 1, 8, some (.nilFunc)⟩,
  ⟨.func, 1, 8, some (.nilFunc)⟩,
  ⟨.func, 1, 8, some (.nilFunc)⟩,
  ⟨.other, 1, 0, some (.tuple #[.pointer none, .bool false])⟩,
  ⟨.func, 1, 8, some (.nilFunc)⟩,
  ⟨.func, 1, 8, some (.nilFunc)⟩,
  ⟨.float, 1, 8, some (.float .f64 0)⟩,
  ⟨.func, 1, 8, some (.nilFunc)⟩,
  ⟨.func, 1, 8, some (.nilFunc)⟩,
  ⟨.slice 49, 1, 24, some (.slice none 0 0)⟩,
  ⟨.struct [(0, 44), (1, 44), (2, 44), (3, 44)], 4, 32, some (.agg #[.float .f64 0, .float .f64 0, .float .f64 0, .float .f64 0])⟩,
  ⟨.struct [(0, 44), (1, 44), (2, 44), (3, 44)], 4, 32, some (.agg #[.float .f64 0, .float .f64 0, .float .f64 0, .float .f64 0])⟩,
  ⟨.func, 1, 8, some (.nilFunc)⟩,
  ⟨.func, 1, 8, some (.nilFunc)⟩,
  ⟨.slice 115, 1, 24, some (.slice none 0 0)⟩,
  ⟨.struct [(0, 3), (1, 44), (2, 44), (3, 44), (4, 3), (5, 4), (6, 52)], 7, 72, some (.agg #[.int .i64 0, .float .f64 0, .float .f64 0, .float .f64 0, .int .i64 0, .bool false, .slice none 0 0])⟩,
  ⟨.struct [(0, 3), (1, 44), (2, 44), (3, 44), (4, 3), (5, 4), (6, 52)], 7, 72, some (.agg #[.int .i64 0, .float .f64 0, .float .f64 0, .float .f64 0, .int .i64 0, .bool false, .slice none 0 0])⟩,
  ⟨.other, 1, 0, some (.tuple #[.slice none 0 0, .int .i64 0])⟩,
  ⟨.func, 1, 8, some (.nilFunc)⟩,
  ⟨.func, 1, 8, some (.nilFunc)⟩,
  ⟨.func, 1, 8, some (.nilFunc)⟩,
  ⟨.func, 1, 8, some (.nilFunc)⟩,
  ⟨.func, 1, 8, some (.nilFunc)⟩,
  ⟨.func, 1, 8, some (.nilFunc)⟩,
  ⟨.struct [(0, 3), (1, 3), (2, 3), (3, 3)], 4, 32, some (.agg #[.int .i64 0, .int .i64 0, .int .i64 0, .int .i64 0])⟩,
  ⟨.struct [(0, 3), (1, 3), (2, 3), (3, 3)], 4, 32, some (.agg #[.int .i64 0, .int .i64 0, .int .i64 0, .int .i64 0])⟩,
  ⟨.other, 1, 0, some (.tuple #[.agg #[.int .i64 0, .int .i64 0, .int .i64 0, .int .i64 0], .bool false])⟩,
  ⟨.func, 1, 8, some (.nilFunc)⟩,
  ⟨.other, 1, 0, some (.tuple #[.int .i64 0, .int .i64 0, .bool false])⟩,
  ⟨.func, 1, 8, some (.nilFunc)⟩,
  ⟨.func, 1, 8, some (.nilFunc)⟩,
  ⟨.func, 1, 8, some (.nilFunc)⟩,
  ⟨.func, 1, 8, some (.nilFunc)⟩,
  ⟨.func, 1, 8, some (.nilFunc)⟩,
  ⟨.func, 1, 8, some (.nilFunc)⟩,
  ⟨.int .u64, 1, 8, some (.int .u64 0)⟩,
  ⟨.func, 1, 8, some (.nilFunc)⟩,
  ⟨.func, 1, 8, some (.nilFunc)⟩,
  ⟨.other, 1, 0, some (.tuple #[.int .i64 0, .int .i64 0])⟩,
  ⟨.func, 1, 8, some (.nilFunc)⟩,
  ⟨.func, 1, 8, some (.nilFunc)⟩,
  ⟨.func, 1, 8, some (.nilFunc)⟩,
  ⟨.func, 1, 8, some (.nilFunc)⟩,
  ⟨.func, 1, 8, some (.nilFunc)⟩,
  ⟨.other, 1, 0, some (.tuple #[.int .i64 0, .int .i64 0])⟩,
  ⟨.func, 1, 8, some (.nilFunc)⟩,
  ⟨.func, 1, 8, some (.nilFunc)⟩,
  ⟨.func, 1, 8, some (.nilFunc)⟩,
  ⟨.other, 1, 0, some (.tuple #[.agg #[.slice none 0 0, .slice none 0 0, .slice none 0 0, .slice none 0 0, .int .i64 0, .int .i64 0], .int .i64 0])⟩,
  ⟨.func, 1, 8, some (.nilFunc)⟩,
  ⟨.func, 1, 8, some (.nilFunc)⟩,
  ⟨.int .u64, 1, 8, some (.int .u64 0)⟩,
  ⟨.func, 1, 8, some (.nilFunc)⟩,
  ⟨.func, 1, 8, some (.nilFunc)⟩,
  ⟨.func, 1, 8, some (.nilFunc)⟩,
  ⟨.func, 1, 8, some (.nilFunc)⟩,
  ⟨.func, 1, 8, some (.nilFunc)⟩,
  ⟨.func, 1, 8, some (.nilFunc)⟩,
  ⟨.slice 102, 1, 24, some (.slice none 0 0)⟩,
  ⟨.other, 1, 0, some (.tuple #[.slice none 0 0, .int .i64 0])⟩,
  ⟨.func, 1, 8, some (.nilFunc)⟩,
  ⟨.func, 1, 8, some (.nilFunc)⟩,
  ⟨.slice 3, 1, 24, some (.slice none 0 0)⟩,
  ⟨.struct [(0, 100), (1, 100), (2, 100)], 3, 72, some (.agg #[.slice none 0 0, .slice none 0 0, .slice none 0 0])⟩,
  ⟨.struct [(0, 100), (1, 100), (2, 100)], 3, 72, some (.agg #[.slice none 0 0, .slice none 0 0, .slice none 0 0])⟩,
  ⟨.func, 1, 8, some (.nilFunc)⟩,
  ⟨.func, 1, 8, some (.nilFunc)⟩,
  ⟨.func, 1, 8, some (.nilFunc)⟩,
  ⟨.struct [(0, 2), (1, 2), (2, 3), (3, 44), (4, 44), (5, 44)], 6, 48, some (.agg #[.int .i64 0, .int .i64 0, .int .i64 0, .float .f64 0, .float .f64 0, .float .f64 0])⟩,
  ⟨.struct [(0, 2), (1, 2), (2, 3), (3, 44), (4, 44), (5, 44)], 6, 48, some (.agg #[.int .i64 0, .int .i64 0, .int .i64 0, .float .f64 0, .float .f64 0, .float .f64 0])⟩,
  ⟨.other, 1, 0, some (.tuple #[.agg #[.int .i64 0, .int .i64 0, .int .i64 0, .float .f64 0, .float .f64 0, .float .f64 0], .int .i64 0])⟩,
  ⟨.func, 1, 8, some (.nilFunc)⟩,
  ⟨.func, 1, 8, some (.nilFunc)⟩,
  ⟨.func, 1, 8, some (.nilFunc)⟩,
  ⟨.func, 1, 8, some (.nilFunc)⟩,
  ⟨.func, 1, 8, some (.nilFunc)⟩,
  ⟨.struct [(0, 3), (1, 2), (2, 3), (3, 3)], 4, 32, some (.agg #[.int .i64 0, .int .i64 0, .int .i64 0, .int .i64 0])⟩,
  ⟨.struct [(0, 3), (1, 2), (2, 3), (3, 3)], 4, 32, some (.agg #[.int .i64 0, .int .i64 0, .int .i64 0, .int .i64 0])⟩,
  ⟨.func, 1, 8, some (.nilFunc)⟩,
  ⟨.func, 1, 8, some (.nilFunc)⟩,
  ⟨.func, 1, 8, some (.nilFunc)⟩,
  ⟨.func, 1, 8, some (.nilFunc)⟩,
  ⟨.array 6 2, 6, 48, some (.agg #[.int .i64 0, .int .i64 0, .int .i64 0, .int .i64 0, .int .i64 0, .int .i64 0])⟩,
  ⟨.func, 1, 8, some (.nilFunc)⟩,
  ⟨.func, 1, 8, some (.nilFunc)⟩,
  ⟨.map 156 3, 1, 8, some (.map none)⟩,
  ⟨.slice 63, 1, 24, some (.slice none 0 0)⟩,
  ⟨.slice 130, 1, 24, some (.slice none 0 0)⟩,
  ⟨.struct [(0, 3), (1, 124), (2, 123), (3, 125), (4, 23), (5, 22), (6, 22)], 7, 136, some (.agg #[.int .i64 0, .slice none 0 0, .map none, .slice none 0 0, .slice none 0 0, .slice none 0 0, .slice none 0 0])⟩,
  ⟨.struct [(0, 3), (1, 124), (2, 123), (3, 125), (4, 23), (5, 22), (6, 22)], 7, 136, some (.agg #[.int .i64 0, .slice none 0 0, .map none, .slice none 0 0, .slice none 0 0, .slice none 0 0, .slice none 0 0])⟩,
  ⟨.func, 1, 8, some (.nilFunc)⟩,
  ⟨.slice 128, 1, 24, some (.slice none 0 0)⟩,
  ⟨.array 2 3, 2, 16, some (.agg #[.int .i64 0, .int .i64 0])⟩,
  ⟨.func, 1, 8, some (.nilFunc)⟩,
  ⟨.struct [(0, 3), (1, 124), (2, 100)], 3, 56, some (.agg #[.int .i64 0, .slice none 0 0, .slice none 0 0])⟩,
  ⟨.struct [(0, 3), (1, 124), (2, 100)], 3, 56, some (.agg #[.int .i64 0, .slice none 0 0, .slice none 0 0])⟩,
  ⟨.func, 1, 8, some (.nilFunc)⟩,
  ⟨.func, 1, 8, some (.nilFunc)⟩,
  ⟨.func, 1, 8, some (.nilFunc)⟩,
  ⟨.func, 1, 8, some (.nilFunc)⟩,
  ⟨.func, 1, 8, some (.nilFunc)⟩,
  ⟨.func, 1, 8, some (.nilFunc)⟩,
  ⟨.func, 1, 8, some (.nilFunc)⟩,
  ⟨.other, 1, 0, some (.tuple #[.int .i64 0, .int .i64 0, .int .i64 0, .bool false])⟩,
  ⟨.func, 1, 8, some (.nilFunc)⟩,
  ⟨.array 3 3, 3, 24, some (.agg #[.int .i64 0, .int .i64 0, .int .i64 0])⟩,
  ⟨.array 3 3, 3, 24, some (.agg #[.int .i64 0, .int .i64 0, .int .i64 0])⟩,
  ⟨.array 3 144, 9, 72, some (.agg #[.int .i64 0, .int .i64 0, .int .i64 0, .int .i64 0, .int .i64 0, .int .i64 0, .int .i64 0, .int .i64 0, .int .i64 0])⟩,
  ⟨.array 3 144, 9, 72, some (.agg #[.int .i64 0, .int .i64 0, .int .i64 0, .int .i64 0, .int .i64 0, .int .i64 0, .int .i64 0, .int .i64 0, .int .i64 0])⟩,
  ⟨.func, 1, 8, some (.nilFunc)⟩,
  ⟨.func, 1, 8, some (.nilFunc)⟩,
  ⟨.func, 1, 8, some (.nilFunc)⟩,
  ⟨.array 6 146, 54, 432, some (.agg #[.int .i64 0, .int .i64 0, .int .i64 0, .int .i64 0, .int .i64 0, .int .i64 0, .int .i64 0, .int .i64 0, .int .i64 0, .int .i64 0, .int .i64 0, .int .i64 0, .int .i64 0, .int .i64 0, .int .i64 0, .int .i64 0, .int .i64 0, .int .i64 0, .int .i64 0, .int .i64 0, .int .i64 0, .int .i64 0, .int .i64 0, .int .i64 0, .int .i64 0, .int .i64 0, .int .i64 0, .int .i64 0, .int .i64 0, .int .i64 0, .int .i64 0, .int .i64 0, .int .i64 0, .int .i64 0, .int .i64 0, .int .i64 0, .int .i64 0, .int .i64 0, .int .i64 0, .int .i64 0, .int .i64 0, .int .i64 0, .int .i64 0, .int .i64 0, .int .i64 0, .int .i64 0, .int .i64 0, .int .i64 0, .int .i64 0, .int .i64 0, .int .i64 0, .int .i64 0, .int .i64 0, .int .i64 0])⟩,
  ⟨.func, 1, 8, some (.nilFunc)⟩,
  ⟨.func, 1, 8, some (.nilFunc)⟩,
  ⟨.func, 1, 8, some (.nilFunc)⟩,
  ⟨.other, 1, 0, some (.tuple #[.int .i64 0, .bool false])⟩,
  ⟨.struct [(0, 3), (1, 3)], 2, 16, some (.agg #[.int .i64 0, .int .i64 0])⟩,
  ⟨.struct [(0, 3), (1, 3)], 2, 16, some (.agg #[.int .i64 0, .int .i64 0])⟩,
  ⟨.func, 1, 8, some (.nilFunc)⟩,
  ⟨.func, 1, 8, some (.nilFunc)⟩,
  ⟨.func, 1, 8, some (.nilFunc)⟩,
  ⟨.func, 1, 8, some (.nilFunc)⟩,
  ⟨.func, 1, 8, some (.nilFunc)⟩,
  ⟨.array 4 3, 4, 32, some (.agg #[.int .i64 0, .int .i64 0, .int .i64 0, .int .i64 0])⟩,
  ⟨.func, 1, 8, some (.nilFunc)⟩,
  ⟨.func, 1, 8, some (.nilFunc)⟩,
  ⟨.func, 1, 8, some (.nilFunc)⟩,
  ⟨.func, 1, 8, some (.nilFunc)⟩,
  ⟨.func, 1, 8, some (.nilFunc)⟩,
  ⟨.func, 1, 8, some (.nilFunc)⟩,
  ⟨.func, 1, 8, some (.nilFunc)⟩,
  ⟨.func, 1, 8, some (.nilFunc)⟩,
  ⟨.func, 1, 8, some (.nilFunc)⟩,
  ⟨.func, 1, 8, some (.nilFunc)⟩,
  ⟨.func, 1, 8, some (.nilFunc)⟩,
  ⟨.func, 1, 8, some (.nilFunc)⟩,
  ⟨.slice 100, 1, 24, some (.slice none 0 0)⟩,
  ⟨.struct [(0, 44), (1, 44), (2, 44), (3, 4)], 4, 32, some (.agg #[.float .f64 0, .float .f64 0, .float .f64 0, .bool false])⟩,
  ⟨.struct [(0, 44), (1, 44), (2, 44), (3, 4)], 4, 32, some (.agg #[.float .f64 0, .float .f64 0, .float .f64 0, .bool false])⟩,
  ⟨.other, 1, 0, some (.tuple #[.agg #[.float .f64 0, .float .f64 0, .float .f64 0, .bool false], .agg #[.float .f64 0, .float .f64 0, .float .f64 0, .bool false], .bool false])⟩,
  ⟨.func, 1, 8, some (.nilFunc)⟩,
  ⟨.func, 1, 8, some (.nilFunc)⟩,
  ⟨.ptr 235, 1, 8, some (.pointer none)⟩,
  ⟨.func, 1, 8, some (.nilFunc)⟩,
  ⟨.func, 1, 8, some (.nilFunc)⟩,
  ⟨.func, 1, 8, some (.nilFunc)⟩,
  ⟨.other, 1, 0, some (.tuple #[.float .f64 0, .int .i64 0])⟩,
  ⟨.func, 1, 8, some (.nilFunc)⟩,
  ⟨.func, 1, 8, some (.nilFunc)⟩,
  ⟨.struct [(0, 73), (1, 73)], 2, 16, some (.agg #[.int .u64 0, .int .u64 0])⟩,
  ⟨.struct [(0, 73), (1, 73)], 2, 16, some (.agg #[.int .u64 0, .int .u64 0])⟩,
  ⟨.func, 1, 8, some (.nilFunc)⟩,
  ⟨.struct [(0, 73), (1, 73)], 2, 16, some (.agg #[.int .u64 0, .int .u64 0])⟩,
  ⟨.struct [(0, 73), (1, 73)], 2, 16, some (.agg #[.int .u64 0, .int .u64 0])⟩,
  ⟨.func, 1, 8, some (.nilFunc)⟩,
  ⟨.func, 1, 8, some (.nilFunc)⟩,
  ⟨.array 4 130, 8, 64, some (.agg #[.int .i64 0, .int .i64 0, .int .i64 0, .int .i64 0, .int .i64 0, .int .i64 0, .int .i64 0, .int .i64 0])⟩,
  ⟨.func, 1, 8, some (.nilFunc)⟩,
  ⟨.struct [(0, 44), (1, 44), (2, 44)], 3, 24, some (.agg #[.float .f64 0, .float .f64 0, .float .f64 0])⟩,
  ⟨.struct [(0, 44), (1, 44), (2, 44)], 3, 24, some (.agg #[.float .f64 0, .float .f64 0, .float .f64 0])⟩,
  ⟨.array 4 198, 12, 96, some (.agg #[.float .f64 0, .float .f64 0, .float .f64 0, .float .f64 0, .float .f64 0, .float .f64 0, .float .f64 0, .float .f64 0, .float .f64 0, .float .f64 0, .float .f64 0, .float .f64 0])⟩,
  ⟨.other, 1, 0, some (.tuple #[.agg #[.float .f64 0, .float .f64 0, .float .f64 0, .float .f64 0, .float .f64 0, .float .f64 0, .float .f64 0, .float .f64 0, .float .f64 0, .float .f64 0, .float .f64 0, .float .f64 0], .bool false])⟩,
  ⟨.func, 1, 8, some (.nilFunc)⟩,
  ⟨.func, 1, 8, some (.nilFunc)⟩,
  ⟨.other, 1, 0, some (.tuple #[.agg #[.float .f64 0, .float .f64 0, .float .f64 0], .bool false])⟩,
  ⟨.func, 1, 8, some (.nilFunc)⟩,
  ⟨.struct [(0, 3), (1, 3), (2, 3)], 3, 24, some (.agg #[.int .i64 0, .int .i64 0, .int .i64 0])⟩,
  ⟨.struct [(0, 3), (1, 3), (2, 3)], 3, 24, some (.agg #[.int .i64 0, .int .i64 0, .int .i64 0])⟩,
  ⟨.func, 1, 8, some (.nilFunc)⟩,
  ⟨.func, 1, 8, some (.nilFunc)⟩,
  ⟨.func, 1, 8, some (.nilFunc)⟩,
  ⟨.other, 1, 0, some (.tuple #[.agg #[.int .i64 0, .int .i64 0, .int .i64 0], .agg #[.int .i64 0, .int .i64 0, .int .i64 0], .agg #[.int .i64 0, .int .i64 0, .int .i64 0]])⟩,
  ⟨.func, 1, 8, some (.nilFunc)⟩,
  ⟨.func, 1, 8, some (.nilFunc)⟩,
  ⟨.func, 1, 8, some (.nilFunc)⟩,
  ⟨.other, 1, 0, some (.tuple #[.bool false, .int .u64 0, .int .i64 0, .int .i64 0])⟩,
  ⟨.func, 1, 8, some (.nilFunc)⟩,
  ⟨.func, 1, 8, some (.nilFunc)⟩,
  ⟨.func, 1, 8, some (.nilFunc)⟩,
  ⟨.func, 1, 8, some (.nilFunc)⟩,
  ⟨.slice 218, 1, 24, some (.slice none 0 0)⟩,
  ⟨.func, 1, 8, some (.nilFunc)⟩,
  ⟨.func, 1, 8, some (.nilFunc)⟩,
  ⟨.func, 1, 8, some (.nilFunc)⟩,
  ⟨.func, 1, 8, some (.nilFunc)⟩,
  ⟨.func, 1, 8, some (.nilFunc)⟩,
  ⟨.func, 1, 8, some (.nilFunc)⟩,
  ⟨.func, 1, 8, some (.nilFunc)⟩,
  ⟨.func, 1, 8, some (.nilFunc)⟩,
  ⟨.func, 1, 8, some (.nilFunc)⟩,
  ⟨.func, 1, 8, some (.nilFunc)⟩,
  ⟨.slice 4, 1, 24, some (.slice none 0 0)⟩,
  ⟨.func, 1, 8, some (.nilFunc)⟩,
  ⟨.func, 1, 8, some (.nilFunc)⟩,
  ⟨.array 70 73, 70, 560, some (.agg #[.int .u64 0, .int .u64 0, .int .u64 0, .int .u64 0, .int .u64 0, .int .u64 0, .int .u64 0, .int .u64 0, .int .u64 0, .int .u64 0, .int .u64 0, .int .u64 0, .int .u64 0, .int .u64 0, .int .u64 0, .int .u64 0, .int .u64 0, .int .u64 0, .int .u64 0, .int .u64 0, .int .u64 0, .int .u64 0, .int .u64 0, .int .u64 0, .int .u64 0, .int .u64 0, .int .u64 0, .int .u64 0, .int .u64 0, .int .u64 0, .int .u64 0, .int .u64 0, .int .u64 0, .int .u64 0, .int .u64 0, .int .u64 0, .int .u64 0, .int .u64 0, .int .u64 0, .int .u64 0, .int .u64 0, .int .u64 0, .int .u64 0, .int .u64 0, .int .u64 0, .int .u64 0, .int .u64 0, .int .u64 0, .int .u64 0, .int .u64 0, .int .u64 0, .int .u64 0, .int .u64 0, .int .u64 0, .int .u64 0, .int .u64 0, .int .u64 0, .int .u64 0, .int .u64 0, .int .u64 0, .int .u64 0, .int .u64 0, .int .u64 0, .int .u64 0, .int .u64 0, .int .u64 0, .int .u64 0, .int .u64 0, .int .u64 0, .int .u64 0])⟩,
  ⟨.struct [(0, 233), (70, 3), (71, 3), (72, 4), (73, 4), (74, 4)], 75, 584, some (.agg #[.int .u64 0, .int .u64 0, .int .u64 0, .int .u64 0, .int .u64 0, .int .u64 0, .int .u64 0, .int .u64 0, .int .u64 0, .int .u64 0, .int .u64 0, .int .u64 0, .int .u64 0, .int .u64 0, .int .u64 0, .int .u64 0, .int .u64 0, .int .u64 0, .int .u64 0, .int .u64 0, .int .u64 0, .int .u64 0, .int .u64 0, .int .u64 0, .int .u64 0, .int .u64 0, .int .u64 0, .int .u64 0, .int .u64 0, .int .u64 0, .int .u64 0, .int .u64 0, .int .u64 0, .int .u64 0, .int .u64 0, .int .u64 0, .int .u64 0, .int .u64 0, .int .u64 0, .int .u64 0, .int .u64 0, .int .u64 0, .int .u64 0, .int .u64 0, .int .u64 0, .int .u64 0, .int .u64 0, .int .u64 0, .int .u64 0, .int .u64 0, .int .u64 0, .int .u64 0, .int .u64 0, .int .u64 0, .int .u64 0, .int .u64 0, .int .u64 0, .int .u64 0, .int .u64 0, .int .u64 0, .int .u64 0, .int .u64 0, .int .u64 0, .int .u64 0, .int .u64 0, .int .u64 0, .int .u64 0, .int .u64 0, .int .u64 0, .int .u64 0, .int .i64 0, .int .i64 0, .bool false, .bool false, .bool false])⟩,
  ⟨.struct [(0, 233), (70, 3), (71, 3), (72, 4), (73, 4), (74, 4)], 75, 584, some (.agg #[.int .u64 0, .int .u64 0, .int .u64 0, .int .u64 0, .int .u64 0, .int .u64 0, .int .u64 0, .int .u64 0, .int .u64 0, .int .u64 0, .int .u64 0, .int .u64 0, .int .u64 0, .int .u64 0, .int .u64 0, .int .u64 0, .int .u64 0, .int .u64 0, .int .u64 0, .int .u64 0, .int .u64 0, .int .u64 0, .int .u64 0, .int .u64 0, .int .u64 0, .int .u64 0, .int .u64 0, .int .u64 0, .int .u64 0, .int .u64 0, .int .u64 0, .int .u64 0, .int .u64 0, .int .u64 0, .int .u64 0, .int .u64 0, .int .u64 0, .int .u64 0, .int .u64 0, .int .u64 0, .int .u64 0, .int .u64 0, .int .u64 0, .int .u64 0, .int .u64 0, .int .u64 0, .int .u64 0, .int .u64 0, .int .u64 0, .int .u64 0, .int .u64 0, .int .u64 0, .int .u64 0, .int .u64 0, .int .u64 0, .int .u64 0, .int .u64 0, .int .u64 0, .int .u64 0, .int .u64 0, .int .u64 0, .int .u64 0, .int .u64 0, .int .u64 0, .int .u64 0, .int .u64 0, .int .u64 0, .int .u64 0, .int .u64 0, .int .u64 0, .int .i64 0, .int .i64 0, .bool false, .bool false, .bool false])⟩,
  ⟨.func, 1, 8, some (.nilFunc)⟩,
  ⟨.other, 1, 0, some (.tuple #[.int .u64 0, .int .i64 0])⟩,
  ⟨.func, 1, 8, some (.nilFunc)⟩,
  ⟨.func, 1, 8, some (.nilFunc)⟩,
  ⟨.other, 1, 0, some (.tuple #[.int .u64 0, .int .u64 0])⟩,
  ⟨.func, 1, 8, some (.nilFunc)⟩,
  ⟨.func, 1, 8, some (.nilFunc)⟩,
  ⟨.ptr 233, 1, 8, some (.pointer none)⟩,
  ⟨.func, 1, 8, some (.nilFunc)⟩,
  ⟨.ptr 267, 1, 8, some (.pointer none)⟩,
  ⟨.func, 1, 8, some (.nilFunc)⟩,
  ⟨.func, 1, 8, some (.nilFunc)⟩,
  ⟨.func, 1, 8, some (.nilFunc)⟩,
  ⟨.func, 1, 8, some (.nilFunc)⟩,
  ⟨.func, 1, 8, some (.nilFunc)⟩,
  ⟨.func, 1, 8, some (.nilFunc)⟩,
  ⟨.other, 1, 0, some (.tuple #[.int .i64 0, .bool false])⟩,
  ⟨.func, 1, 8, some (.nilFunc)⟩,
  ⟨.func, 1, 8, some (.nilFunc)⟩,
  ⟨.func, 1, 8, some (.nilFunc)⟩,
  ⟨.func, 1, 8, some (.nilFunc)⟩,
  ⟨.func, 1, 8, some (.nilFunc)⟩,
  ⟨.func, 1, 8, some (.nilFunc)⟩,
  ⟨.func, 1, 8, some (.nilFunc)⟩,
  ⟨.array 3 73, 3, 24, some (.agg #[.int .u64 0, .int .u64 0, .int .u64 0])⟩,
  ⟨.func, 1, 8, some (.nilFunc)⟩,
  ⟨.func, 1, 8, some (.nilFunc)⟩,
  ⟨.func, 1, 8, some (.nilFunc)⟩,
  ⟨.func, 1, 8, some (.nilFunc)⟩,
  ⟨.array 136 2, 136, 1088, some (.agg #[.int .i64 0, .int .i64 0, .int .i64 0, .int .i64 0, .int .i64 0, .int .i64 0, .int .i64 0, .int .i64 0, .int .i64 0, .int .i64 0, .int .i64 0, .int .i64 0, .int .i64 0, .int .i64 0, .int .i64 0, .int .i64 0, .int .i64 0, .int .i64 0, .int .i64 0, .int .i64 0, .int .i64 0, .int .i64 0, .int .i64 0, .int .i64 0, .int .i64 0, .int .i64 0, .int .i64 0, .int .i64 0, .int .i64 0, .int .i64 0, .int .i64 0, .int .i64 0, .int .i64 0, .int .i64 0, .int .i64 0, .int .i64 0, .int .i64 0, .int .i64 0, .int .i64 0, .int .i64 0, .int .i64 0, .int .i64 0, .int .i64 0, .int .i64 0, .int .i64 0, .int .i64 0, .int .i64 0, .int .i64 0, .int .i64 0, .int .i64 0, .int .i64 0, .int .i64 0, .int .i64 0, .int .i64 0, .int .i64 0, .int .i64 0, .int .i64 0, .int .i64 0, .int .i64 0, .int .i64 0, .int .i64 0, .int .i64 0, .int .i64 0, .int .i64 0, .int .i64 0, .int .i64 0, .int .i64 0, .int .i64 0, .int .i64 0, .int .i64 0, .int .i64 0, .int .i64 0, .int .i64 0, .int .i64 0, .int .i64 0, .int .i64 0, .int .i64 0, .int .i64 0, .int .i64 0, .int .i64 0, .int .i64 0, .int .i64 0, .int .i64 0, .int .i64 0, .int .i64 0, .int .i64 0, .int .i64 0, .int .i64 0, .int .i64 0, .int .i64 0, .int .i64 0, .int .i64 0, .int .i64 0, .int .i64 0, .int .i64 0, .int .i64 0, .int .i64 0, .int .i64 0, .int .i64 0, .int .i64 0, .int .i64 0, .int .i64 0, .int .i64 0, .int .i64 0, .int .i64 0, .int .i64 0, .int .i64 0, .int .i64 0, .int .i64 0, .int .i64 0, .int .i64 0, .int .i64 0, .int .i64 0, .int .i64 0, .int .i64 0, .int .i64 0, .int .i64 0, .int .i64 0, .int .i64 0, .int .i64 0, .int .i64 0, .int .i64 0, .int .i64 0, .int .i64 0, .int .i64 0, .int .i64 0, .int .i64 0, .int .i64 0, .int .i64 0, .int .i64 0, .int .i64 0, .int .i64 0, .int .i64 0, .int .i64 0, .int .i64 0, .int .i64 0])⟩,
  ⟨.struct [(0, 265), (136, 3), (137, 4), (138, 4), (139, 4), (140, 4)], 141, 1104, some (.agg #[.int .i64 0, .int .i64 0, .int .i64 0, .int .i64 0, .int .i64 0, .int .i64 0, .int .i64 0, .int .i64 0, .int .i64 0, .int .i64 0, .int .i64 0, .int .i64 0, .int .i64 0, .int .i64 0, .int .i64 0, .int .i64 0, .int .i64 0, .int .i64 0, .int .i64 0, .int .i64 0, .int .i64 0, .int .i64 0, .int .i64 0, .int .i64 0, .int .i64 0, .int .i64 0, .int .i64 0, .int .i64 0, .int .i64 0, .int .i64 0, .int .i64 0, .int .i64 0, .int .i64 0, .int .i64 0, .int .i64 0, .int .i64 0, .int .i64 0, .int .i64 0, .int .i64 0, .int .i64 0, .int .i64 0, .int .i64 0, .int .i64 0, .int .i64 0, .int .i64 0, .int .i64 0, .int .i64 0, .int .i64 0, .int .i64 0, .int .i64 0, .int .i64 0, .int .i64 0, .int .i64 0, .int .i64 0, .int .i64 0, .int .i64 0, .int .i64 0, .int .i64 0, .int .i64 0, .int .i64 0, .int .i64 0, .int .i64 0, .int .i64 0, .int .i64 0, .int .i64 0, .int .i64 0, .int .i64 0, .int .i64 0, .int .i64 0, .int .i64 0, .int .i64 0, .int .i64 0, .int .i64 0, .int .i64 0, .int .i64 0, .int .i64 0, .int .i64 0, .int .i64 0, .int .i64 0, .int .i64 0, .int .i64 0, .int .i64 0, .int .i64 0, .int .i64 0, .int .i64 0, .int .i64 0, .int .i64 0, .int .i64 0, .int .i64 0, .int .i64 0, .int .i64 0, .int .i64 0, .int .i64 0, .int .i64 0, .int .i64 0, .int .i64 0, .int .i64 0, .int .i64 0, .int .i64 0, .int .i64 0, .int .i64 0, .int .i64 0, .int .i64 0, .int .i64 0, .int .i64 0, .int .i64 0, .int .i64 0, .int .i64 0, .int .i64 0, .int .i64 0, .int .i64 0, .int .i64 0, .int .i64 0, .int .i64 0, .int .i64 0, .int .i64 0, .int .i64 0, .int .i64 0, .int .i64 0, .int .i64 0, .int .i64 0, .int .i64 0, .int .i64 0, .int .i64 0, .int .i64 0, .int .i64 0, .int .i64 0, .int .i64 0, .int .i64 0, .int .i64 0, .int .i64 0, .int .i64 0, .int .i64 0, .int .i64 0, .int .i64 0, .int .i64 0, .int .i64 0, .bool false, .bool false, .bool false, .bool false])⟩,
  ⟨.struct [(0, 265), (136, 3), (137, 4), (138, 4), (139, 4), (140, 4)], 141, 1104, some (.agg #[.int .i64 0, .int .i64 0, .int .i64 0, .int .i64 0, .int .i64 0, .int .i64 0, .int .i64 0, .int .i64 0, .int .i64 0, .int .i64 0, .int .i64 0, .int .i64 0, .int .i64 0, .int .i64 0, .int .i64 0, .int .i64 0, .int .i64 0, .int .i64 0, .int .i64 0, .int .i64 0, .int .i64 0, .int .i64 0, .int .i64 0, .int .i64 0, .int .i64 0, .int .i64 0, .int .i64 0, .int .i64 0, .int .i64 0, .int .i64 0, .int .i64 0, .int .i64 0, .int .i64 0, .int .i64 0, .int .i64 0, .int .i64 0, .int .i64 0, .int .i64 0, .int .i64 0, .int .i64 0, .int .i64 0, .int .i64 0, .int .i64 0, .int .i64 0, .int .i64 0, .int .i64 0, .int .i64 0, .int .i64 0, .int .i64 0, .int .i64 0, .int .i64 0, .int .i64 0, .int .i64 0, .int .i64 0, .int .i64 0, .int .i64 0, .int .i64 0, .int .i64 0, .int .i64 0, .int .i64 0, .int .i64 0, .int .i64 0, .int .i64 0, .int .i64 0, .int .i64 0, .int .i64 0, .int .i64 0, .int .i64 0, .int .i64 0, .int .i64 0, .int .i64 0, .int .i64 0, .int .i64 0, .int .i64 0, .int .i64 0, .int .i64 0, .int .i64 0, .int .i64 0, .int .i64 0, .int .i64 0, .int .i64 0, .int .i64 0, .int .i64 0, .int .i64 0, .int .i64 0, .int .i64 0, .int .i64 0, .int .i64 0, .int .i64 0, .int .i64 0, .int .i64 0, .int .i64 0, .int .i64 0, .int .i64 0, .int .i64 0, .int .i64 0, .int .i64 0, .int .i64 0, .int .i64 0, .int .i64 0, .int .i64 0, .int .i64 0, .int .i64 0, .int .i64 0, .int .i64 0, .int .i64 0, .int .i64 0, .int .i64 0, .int .i64 0, .int .i64 0, .int .i64 0, .int .i64 0, .int .i64 0, .int .i64 0, .int .i64 0, .int .i64 0, .int .i64 0, .int .i64 0, .int .i64 0, .int .i64 0, .int .i64 0, .int .i64 0, .int .i64 0, .int .i64 0, .int .i64 0, .int .i64 0, .int .i64 0, .int .i64 0, .int .i64 0, .int .i64 0, .int .i64 0, .int .i64 0, .int .i64 0, .int .i64 0, .int .i64 0, .int .i64 0, .int .i64 0, .bool false, .bool false, .bool false, .bool false])⟩,
  ⟨.func, 1, 8, some (.nilFunc)⟩,
  ⟨.func, 1, 8, some (.nilFunc)⟩,
  ⟨.other, 1, 0, some (.tuple #[.agg #[.int .i64 0, .int .i64 0, .int .i64 0, .int .i64 0, .int .i64 0, .int .i64 0, .int .i64 0, .int .i64 0, .int .i64 0, .int .i64 0, .int .i64 0, .int .i64 0, .int .i64 0, .int .i64 0, .int .i64 0, .int .i64 0, .int .i64 0, .int .i64 0, .int .i64 0, .int .i64 0, .int .i64 0, .int .i64 0, .int .i64 0, .int .i64 0, .int .i64 0, .int .i64 0, .int .i64 0, .int .i64 0, .int .i64 0, .int .i64 0, .int .i64 0, .int .i64 0, .int .i64 0, .int .i64 0, .int .i64 0, .int .i64 0, .int .i64 0, .int .i64 0, .int .i64 0, .int .i64 0, .int .i64 0, .int .i64 0, .int .i64 0, .int .i64 0, .int .i64 0, .int .i64 0, .int .i64 0, .int .i64 0, .int .i64 0, .int .i64 0, .int .i64 0, .int .i64 0, .int .i64 0, .int .i64 0, .int .i64 0, .int .i64 0, .int .i64 0, .int .i64 0, .int .i64 0, .int .i64 0, .int .i64 0, .int .i64 0, .int .i64 0, .int .i64 0, .int .i64 0, .int .i64 0, .int .i64 0, .int .i64 0, .int .i64 0, .int .i64 0, .int .i64 0, .int .i64 0, .int .i64 0, .int .i64 0, .int .i64 0, .int .i64 0, .int .i64 0, .int .i64 0, .int .i64 0, .int .i64 0, .int .i64 0, .int .i64 0, .int .i64 0, .int .i64 0, .int .i64 0, .int .i64 0, .int .i64 0, .int .i64 0, .int .i64 0, .int .i64 0, .int .i64 0, .int .i64 0, .int .i64 0, .int .i64 0, .int .i64 0, .int .i64 0, .int .i64 0, .int .i64 0, .int .i64 0, .int .i64 0, .int .i64 0, .int .i64 0, .int .i64 0, .int .i64 0, .int .i64 0, .int .i64 0, .int .i64 0, .int .i64 0, .int .i64 0, .int .i64 0, .int .i64 0, .int .i64 0, .int .i64 0, .int .i64 0, .int .i64 0, .int .i64 0, .int .i64 0, .int .i64 0, .int .i64 0, .int .i64 0, .int .i64 0, .int .i64 0, .int .i64 0, .int .i64 0, .int .i64 0, .int .i64 0, .int .i64 0, .int .i64 0, .int .i64 0, .int .i64 0, .int .i64 0, .int .i64 0, .int .i64 0, .int .i64 0, .int .i64 0, .int .i64 0], .bool false])⟩,
  ⟨.func, 1, 8, some (.nilFunc)⟩,
  ⟨.func, 1, 8, some (.nilFunc)⟩,
  ⟨.ptr 265, 1, 8, some (.pointer none)⟩,
  ⟨.func, 1, 8, some (.nilFunc)⟩,
  ⟨.func, 1, 8, some (.nilFunc)⟩,
  ⟨.array 3 44, 3, 24, some (.agg #[.float .f64 0, .float .f64 0, .float .f64 0])⟩,
  ⟨.array 3 143, 9, 72, some (.agg #[.int .i64 0, .int .i64 0, .int .i64 0, .int .i64 0, .int .i64 0, .int .i64 0, .int .i64 0, .int .i64 0, .int .i64 0])⟩,
  ⟨.array 6 277, 54, 432, some (.agg #[.int .i64 0, .int .i64 0, .int .i64 0, .int .i64 0, .int .i64 0, .int .i64 0, .int .i64 0, .int .i64 0, .int .i64 0, .int .i64 0, .int .i64 0, .int .i64 0, .int .i64 0, .int .i64 0, .int .i64 0, .int .i64 0, .int .i64 0, .int .i64 0, .int .i64 0, .int .i64 0, .int .i64 0, .int .i64 0, .int .i64 0, .int .i64 0, .int .i64 0, .int .i64 0, .int .i64 0, .int .i64 0, .int .i64 0, .int .i64 0, .int .i64 0, .int .i64 0, .int .i64 0, .int .i64 0, .int .i64 0, .int .i64 0, .int .i64 0, .int .i64 0, .int .i64 0, .int .i64 0, .int .i64 0, .int .i64 0, .int .i64 0, .int .i64 0, .int .i64 0, .int .i64 0, .int .i64 0, .int .i64 0, .int .i64 0, .int .i64 0, .int .i64 0, .int .i64 0, .int .i64 0, .int .i64 0])⟩,
  ⟨.func, 1, 8, some (.nilFunc)⟩,
  ⟨.func, 1, 8, some (.nilFunc)⟩,
  ⟨.func, 1, 8, some (.nilFunc)⟩,
  ⟨.func, 1, 8, some (.nilFunc)⟩,
  ⟨.func, 1, 8, some (.nilFunc)⟩,
  ⟨.func, 1, 8, some (.nilFunc)⟩,
  ⟨.func, 1, 8, some (.nilFunc)⟩,
  ⟨.func, 1, 8, some (.nilFunc)⟩,
  ⟨.func, 1, 8, some (.nilFunc)⟩,
  ⟨.other, 1, 0, some (.tuple #[.float .f64 0, .float .f64 0])⟩,
  ⟨.func, 1, 8, some (.nilFunc)⟩,
  ⟨.func, 1, 8, some (.nilFunc)⟩,
  ⟨.func, 1, 8, some (.nilFunc)⟩,
  ⟨.func, 1, 8, some (.nilFunc)⟩,
  ⟨.other, 1, 0, some (.tuple #[.int .i64 0, .int .i64 0, .int .i64 0])⟩,
  ⟨.func, 1, 8, some (.nilFunc)⟩,
  ⟨.other, 1, 0, some (.tuple #[.float .f64 0, .bool false])⟩,
  ⟨.func, 1, 8, some (.nilFunc)⟩,
  ⟨.func, 1, 8, some (.nilFunc)⟩,
  ⟨.int .i64, 1, 8, some (.int .i64 0)⟩,
  ⟨.other, 1, 0, some (.tuple #[.int .i64 0, .int .i64 0])⟩,
  ⟨.func, 1, 8, some (.nilFunc)⟩,
  ⟨.func, 1, 8, some (.nilFunc)⟩,
  ⟨.func, 1, 8, some (.nilFunc)⟩,
  ⟨.func, 1, 8, some (.nilFunc)⟩,
  ⟨.func, 1, 8, some (.nilFunc)⟩,
  ⟨.int .u32, 1, 4, some (.int .u32 0)⟩,
  ⟨.int .u64, 1, 8, some (.int .u64 0)⟩,
  ⟨.func, 1, 8, some (.nilFunc)⟩,
  ⟨.func, 1, 8, some (.nilFunc)⟩,
  ⟨.func, 1, 8, some (.nilFunc)⟩,
  ⟨.ptr 3, 1, 8, some (.pointer none)⟩,
  ⟨.func, 1, 8, some (.nilFunc)⟩,
  ⟨.ptr 306, 1, 8, some (.pointer none)⟩,
  ⟨.func, 1, 8, some (.nilFunc)⟩,
  ⟨.func, 1, 8, some (.nilFunc)⟩,
  ⟨.struct [(0, 17), (1, 17), (2, 17), (3, 9)], 4, 40, some (.agg #[.pointer none, .pointer none, .pointer none, .string .empty])⟩,
  ⟨.struct [(0, 17), (1, 17), (2, 17), (3, 9)], 4, 40, some (.agg #[.pointer none, .pointer none, .pointer none, .string .empty])⟩,
  ⟨.array 0 16, 0, 0, some (.agg #[])⟩,
  ⟨.struct [(0, 317)], 0, 0, some (.agg #[])⟩,
  ⟨.struct [(0, 317)], 0, 0, some (.agg #[])⟩,
  ⟨.int .u8, 1, 1, some (.int .u8 0)⟩,
  ⟨.int .u8, 1, 1, some (.int .u8 0)⟩,
  ⟨.func, 1, 8, some (.nilFunc)⟩,
  ⟨.ptr 5, 1, 8, some (.pointer none)⟩,
  ⟨.int .i32, 1, 4, some (.int .i32 0)⟩,
  ⟨.int .i32, 1, 4, some (.int .i32 0)⟩,
  ⟨.struct [(0, 12), (1, 12), (2, 305), (3, 320), (4, 5), (5, 5), (6, 321), (7, 322), (8, 323), (9, 324), (10, 325)], 11, 48, some (.agg #[.int .u64 0, .int .u64 0, .int .u32 0, .int .u8 0, .int .u8 0, .int .u8 0, .int .u8 0, .nilFunc, .pointer none, .int .i32 0, .int .i32 0])⟩,
  ⟨.struct [(0, 12), (1, 12), (2, 305), (3, 320), (4, 5), (5, 5), (6, 321), (7, 322), (8, 323), (9, 324), (10, 325)], 11, 48, some (.agg #[.int .u64 0, .int .u64 0, .int .u32 0, .int .u8 0, .int .u8 0, .int .u8 0, .int .u8 0, .nilFunc, .pointer none, .int .i32 0, .int .i32 0])⟩,
  ⟨.other, 1, 8, some (.pointer none)⟩]
def shs : List Sh := [
  
  .tup [],
  .val (.one .any),
  .val (.one (.int .i64)),
  .val (.one (.int .i64)),
  .val (.one .bool),
  .val (.one (.int .u8)),
  .val (.one (.int .u8)),
  .val (.agg [.int .i64, .int .i64, .bool, .int .u8]),
  .val (.agg [.int .i64, .int .i64, .bool, .int .u8]),
  .val (.one .any),
  .val (.one .any),
  .val (.one .any),
  .val (.one (.int .u64)),
  .val (.agg [.any, .int .u64]),
  .val (.agg [.any, .int .u64]),
  .val (.one .ptr),
  .val (.one .ptr),
  .val (.one .ptr),
  .val (.agg [.ptr]),
  .val (.agg [.ptr]),
  .val (.one .any),
  .val (.one (.int .i32)),
  .val (.one .slice),
  .val (.one .slice),
  .val (.agg [.slice, .slice, .slice, .slice, .int .i64, .int .i64]),
  .val (.agg [.slice, .slice, .slice, .slice, .int .i64, .int .i64]),
  .val (.agg [.int .i64, .int .i64, .slice, .slice, .slice, .slice, .int .i64, .int .i64]),
  .val (.agg [.int .i64, .int .i64, .slice, .slice, .slice, .slice, .int .i64, .int .i64]),
  .val (.one .any),
  .val (.one (.int .i64)),
  .tup [.one .slice, .one (.int .i64)],
  .val (.one .any),
  .val (.one .ptr),
  .tup [.one .ptr, .one (.int .i64)],
  .val (.one .any),
  .val (.one .ptr),
  .tup [.one .ptr, .one (.int .i64)],
  .val (.one .any),
  .val (.one .any),
  .val (.one .any),
  .val (.one .any),
  .tup [.one .ptr, .one .bool],
  .val (.one .any),
  .val (.one .any),
  .val (.one .float),
  .val (.one .any),
  .val (.one .any),
  .val (.one .slice),
  .val (.agg [.float, .float, .float, .float]),
  .val (.agg [.float, .float, .float, .float]),
  .val (.one .any),
  .val (.one .any),
  .val (.one .slice),
  .val (.agg [.int .i64, .float, .float, .float, .int .i64, .bool, .slice]),
  .val (.agg [.int .i64, .float, .float, .float, .int .i64, .bool, .slice]),
  .tup [.one .slice, .one (.int .i64)],
  .val (.one .any),
  .val (.one .any),
  .val (.one .any),
  .val (.one .any),
  .val (.one .any),
  .val (.one .any),
  .val (.agg [.int .i64, .int .i64, .int .i64, .int .i64]),
  .val (.agg [.int .i64, .int .i64, .int .i64, .int .i64]),
  .tup [.agg [.int .i64, .int .i64, .int .i64, .int .i64], .one .bool],
  .val (.one .any),
  .tup [.one (.int .i64), .one (.int .i64), .one .bool],
  .val (.one .any),
  .val (.one .any),
  .val (.one .any),
  .val (.one .any),
  .val (.one .any),
  .val (.one .any),
  .val (.one (.int .u64)),
  .val (.one .any),
  .val (.one .any),
  .tup [.one (.int .i64), .one (.int .i64)],
  .val (.one .any),
  .val (.one .any),
  .val (.one .any),
  .val (.one .any),
  .val (.one .any),
  .tup [.one (.int .i64), .one (.int .i64)],
  .val (.one .any),
  .val (.one .any),
  .val (.one .any),
  .tup [.agg [.slice, .slice, .slice, .slice, .int .i64, .int .i64], .one (.int .i64)],
  .val (.one .any),
  .val (.one .any),
  .val (.one (.int .u64)),
  .val (.one .any),
  .val (.one (.fn [(107, false)])),
  .val (.one .any),
  .val (.one .any),
  .val (.one .any),
  .val (.one .any),
  .val (.one .slice),
  .tup [.one .slice, .one (.int .i64)],
  .val (.one .any),
  .val (.one .any),
  .val (.one .slice),
  .val (.agg [.slice, .slice, .slice]),
  .val (.agg [.slice, .slice, .slice]),
  .val (.one .any),
  .val (.one .any),
  .val (.one .any),
  .val (.agg [.int .i64, .int .i64, .int .i64, .float, .float, .float]),
  .val (.agg [.int .i64, .int .i64, .int .i64, .float, .float, .float]),
  .tup [.agg [.int .i64, .int .i64, .int .i64, .float, .float, .float], .one (.int .i64)],
  .val (.one .any),
  .val (.one .any),
  .val (.one .any),
  .val (.one .any),
  .val (.one .any),
  .val (.agg [.int .i64, .int .i64, .int .i64, .int .i64]),
  .val (.agg [.int .i64, .int .i64, .int .i64, .int .i64]),
  .val (.one .any),
  .val (.one .any),
  .val (.one .any),
  .val (.one .any),
  .val (.agg [.int .i64, .int .i64, .int .i64, .int .i64, .int .i64, .int .i64]),
  .val (.one .any),
  .val (.one .any),
  .val (.one .map),
  .val (.one .slice),
  .val (.one .slice),
  .val (.agg [.int .i64, .slice, .map, .slice, .slice, .slice, .slice]),
  .val (.agg [.int .i64, .slice, .map, .slice, .slice, .slice, .slice]),
  .val (.one (.fn [(96, true), (97, true)])),
  .val (.one .slice),
  .val (.agg [.int .i64, .int .i64]),
  .val (.one .any),
  .val (.agg [.int .i64, .slice, .slice]),
  .val (.agg [.int .i64, .slice, .slice]),
  .val (.one .any),
  .val (.one .any),
  .val (.one .any),
  .val (.one .any),
  .val (.one .any),
  .val (.one .any),
  .val (.one .any),
  .tup [.one (.int .i64), .one (.int .i64), .one (.int .i64), .one .bool],
  .val (.one .any),
  .val (.agg [.int .i64, .int .i64, .int .i64]),
  .val (.agg [.int .i64, .int .i64, .int .i64]),
  .val (.agg [.int .i64, .int .i64, .int .i64, .int .i64, .int .i64, .int .i64, .int .i64, .int .i64, .int .i64]),
  .val (.agg [.int .i64, .int .i64, .int .i64, .int .i64, .int .i64, .int .i64, .int .i64, .int .i64, .int .i64]),
  .val (.one .any),
  .val (.one .any),
  .val (.one .any),
  .val (.one .any),
  .val (.one .any),
  .val (.one .any),
  .val (.one .any),
  .tup [.one (.int .i64), .one .bool],
  .val (.agg [.int .i64, .int .i64]),
  .val (.agg [.int .i64, .int .i64]),
  .val (.one .any),
  .val (.one .any),
  .val (.one .any),
  .val (.one .any),
  .val (.one .any),
  .val (.agg [.int .i64, .int .i64, .int .i64, .int .i64]),
  .val (.one .any),
  .val (.one .any),
  .val (.one .any),
  .val (.one .any),
  .val (.one (.fn [(142, false)])),
  .val (.one .any),
  .val (.one .any),
  .val (.one .any),
  .val (.one .any),
  .val (.one .any),
  .val (.one .any),
  .val (.one .any),
  .val (.one .slice),
  .val (.agg [.float, .float, .float, .bool]),
  .val (.agg [.float, .float, .float, .bool]),
  .tup [.agg [.float, .float, .float, .bool], .agg [.float, .float, .float, .bool], .one .bool],
  .val (.one .any),
  .val (.one .any),
  .val (.one .ptr),
  .val (.one .any),
  .val (.one .any),
  .val (.one .any),
  .tup [.one .float, .one (.int .i64)],
  .val (.one .any),
  .val (.one .any),
  .val (.agg [.int .u64, .int .u64]),
  .val (.agg [.int .u64, .int .u64]),
  .val (.one .any),
  .val (.agg [.int .u64, .int .u64]),
  .val (.agg [.int .u64, .int .u64]),
  .val (.one .any),
  .val (.one .any),
  .val (.agg [.int .i64, .int .i64, .int .i64, .int .i64, .int .i64, .int .i64, .int .i64, .int .i64]),
  .val (.one .any),
  .val (.agg [.float, .float, .float]),
  .val (.agg [.float, .float, .float]),
  .val (.agg [.float, .float, .float, .float, .float, .float, .float, .float, .float, .float, .float, .float]),
  .tup [.agg [.float, .float, .float, .float, .float, .float, .float, .float, .float, .float, .float, .float], .one .bool],
  .val (.one .any),
  .val (.one .any),
  .tup [.agg [.float, .float, .float], .one .bool],
  .val (.one .any),
  .val (.agg [.int .i64, .int .i64, .int .i64]),
  .val (.agg [.int .i64, .int .i64, .int .i64]),
  .val (.one .any),
  .val (.one .any),
  .val (.one .any),
  .tup [.agg [.int .i64, .int .i64, .int .i64], .agg [.int .i64, .int .i64, .int .i64], .agg [.int .i64, .int .i64, .int .i64]],
  .val (.one .any),
  .val (.one .any),
  .val (.one .any),
  .tup [.one .bool, .one (.int .u64), .one (.int .i64), .one (.int .i64)],
  .val (.one .any),
  .val (.one .any),
  .val (.one .any),
  .val (.one (.fn [(250, false), (118, false), (251, false), (252, false)])),
  .val (.one .slice),
  .val (.one .any),
  .val (.one .any),
  .val (.one .any),
  .val (.one .any),
  .val (.one .any),
  .val (.one .any),
  .val (.one .any),
  .val (.one .any),
  .val (.one .any),
  .val (.one .any),
  .val (.one .slice),
  .val (.one .any),
  .val (.one .any),
  .val (.one .any),
  .val (.one .any),
  .val (.one .any),
  .val (.one .any),
  .tup [.one (.int .u64), .one (.int .i64)],
  .val (.one .any),
  .val (.one .any),
  .tup [.one (.int .u64), .one (.int .u64)],
  .val (.one .any),
  .val (.one .any),
  .val (.one .ptr),
  .val (.one .any),
  .val (.one .ptr),
  .val (.one .any),
  .val (.one .any),
  .val (.one .any),
  .val (.one .any),
  .val (.one .any),
  .val (.one .any),
  .tup [.one (.int .i64), .one .bool],
  .val (.one .any),
  .val (.one .any),
  .val (.one .any),
  .val (.one .any),
  .val (.one .any),
  .val (.one .any),
  .val (.one .any),
  .val (.agg [.int .u64, .int .u64, .int .u64]),
  .val (.one .any),
  .val (.one .any),
  .val (.one .any),
  .val (.one .any),
  .val (.one .any),
  .val (.one .any),
  .val (.one .any),
  .val (.one .any),
  .val (.one .any),
  .tup [.one .any, .one .bool],
  .val (.one .any),
  .val (.one .any),
  .val (.one .ptr),
  .val (.one .any),
  .val (.one .any),
  .val (.agg [.float, .float, .float]),
  .val (.agg [.int .i64, .int .i64, .int .i64, .int .i64, .int .i64, .int .i64, .int .i64, .int .i64, .int .i64]),
  .val (.one .any),
  .val (.one .any),
  .val (.one .any),
  .val (.one .any),
  .val (.one .any),
  .val (.one .any),
  .val (.one .any),
  .val (.one .any),
  .val (.one .any),
  .val (.one .any),
  .tup [.one .float, .one .float],
  .val (.one .any),
  .val (.one .any),
  .val (.one .any),
  .val (.one .any),
  .tup [.one (.int .i64), .one (.int .i64), .one (.int .i64)],
  .val (.one .any),
  .tup [.one .float, .one .bool],
  .val (.one .any),
  .val (.one .any),
  .val (.one (.int .i64)),
  .tup [.one (.int .i64), .one (.int .i64)],
  .val (.one .any),
  .val (.one .any),
  .val (.one .any),
  .val (.one .any),
  .val (.one .any),
  .val (.one (.int .u32)),
  .val (.one (.int .u64)),
  .val (.one .any),
  .val (.one .any),
  .val (.one .any),
  .val (.one .ptr),
  .val (.one .any),
  .val (.one .ptr),
  .val (.one .any),
  .val (.one .any),
  .val (.agg [.ptr, .ptr, .ptr, .any]),
  .val (.agg [.ptr, .ptr, .ptr, .any]),
  .val (.agg []),
  .val (.agg []),
  .val (.agg []),
  .val (.one (.int .u8)),
  .val (.one (.int .u8)),
  .val (.one .any),
  .val (.one .ptr),
  .val (.one (.int .i32)),
  .val (.one (.int .i32)),
  .val (.agg [.int .u64, .int .u64, .int .u32, .int .u8, .int .u8, .int .u8, .int .u8, .any, .ptr, .int .i32, .int .i32]),
  .val (.agg [.int .u64, .int .u64, .int .u32, .int .u8, .int .u8, .int .u8, .int .u8, .any, .ptr, .int .i32, .int .i32]),
  .val (.one .any)]
theorem tab_eq : (List.range 329).map (TyI.of Tryz.prog) = tab.map some := by kernel_rfl
theorem tab_len : tab.length = 329 := by kernel_rfl
theorem tabOk : TabOk Tryz.prog tab := by
  intro t i h
  have hl : t < tab.length := by
    rcases Nat.lt_or_ge t tab.length with h' | h'
    · exact h'
    · rw [List.getElem?_eq_none h'] at h; cases h
  rw [tab_len] at hl
  have e := congrArg (fun l => l[t]?) tab_eq
  simp only [List.getElem?_map, h, Option.map_some, List.getElem?_range hl] at e
  exact Option.some.inj e
theorem follows : Tryz.prog.follows .mixedOrders = true := by kernel_rfl
end Go.Proofs.YtnljcdplcloedaaGreatDoor
end
section
namespace Go.Proofs.YtnljcdplcloedaaGreatDoor
open Go Go.Tn
def relL : List Nat := [271, 285, 288, 292, 115, 114, 167, 242, 282]
def genL : List Nat := [29, 30, 31, 32, 34, 38, 43, 44, 51, 65, 66, 67, 68, 71, 72, 75, 78, 79, 93, 96, 97, 108, 129, 144, 145, 155, 156, 157, 163, 164, 198, 206, 207, 221, 224, 230, 231, 267, 291, 293, 303, 309]
def ckOf (f : FuncId) : CK := cond (memN f relL) .rel (cond (memN f genL) .gen .val)
noncomputable def cx (w0 : World) (mt dyn : List Nat) : Ctx := ⟨Tryz.prog, tab, w0, mt, shs, ckOf, dyn⟩
def strOps : List Oper → Option Value
  | [] => none
  | o :: r => match o.op with | .index _ (.const v) _ => some v | _ => strOps r
def strCode : Code → Option Value
  | .region _ ops _ => strOps ops.toList
  | .seq a b | .cond _ a b => match strCode a with | some v => some v | none => strCode b
  | .block _ a | .loop a | .scope a => strCode a
  | _ => none
/-- the string that a function looks into -/
def strFn (fn : Func) : Value := ((fn.body.bind strCode).getD undef)
end Go.Proofs.YtnljcdplcloedaaGreatDoor
end
section
namespace Go.Proofs.YtnljcdplcloedaaGreatDoor
open Go Go.Tn Go.RowKit
set_option linter.unusedVariables false
set_option linter.unusedSimpArgs false

theorem callFunc_enter {f : FuncId} {fn : Func} {args : List Value} {W : World} (hf : Tryz.prog.funcs[f]? = some fn) (hn : ((fn.name == "runtime.NumGoroutine") || fn.body.isNone) = false) :
    (callFunc f ⟨args⟩).run Tryz.prog W = .ok (.enter f ⟨args⟩) W := by
  rw [Bool.or_eq_false_iff] at hn
  simp only [callFunc, Sem.run_bind, run_program, Result.andThen_ok, hf, hn.1, hn.2, Bool.false_eq_true, if_false, Sem.run_pure]
theorem sep_self (W : World) : Sep W [] [] W := ⟨rfl, rfl, rfl, Nat.le_refl _, fun _ _ _ => rfl, fun b o h => (by cases h), fun b o h => (by cases h), List.nodup_nil⟩
theorem sep_one {W : World} {b : Nat} {o : Obj} (h : W.heap[b]? = some o) : Sep W [b] [(b, o)] W :=
  ⟨rfl, rfl, rfl, Nat.le_refl _, fun _ _ _ => rfl, fun b' o' h' => by simp at h'; obtain ⟨rfl, rfl⟩ := h'; exact h, fun b' o' h' => by simp at h'; exact .inl (by simp [h'.1]), by simp⟩
theorem does_of_T {f : FuncId} {fn : Func} {x : Ann} {args : List Value} {own : Own} {R : Value → World → Prop} {W : World} {mt dyn : List Nat} (hf : Tryz.prog.funcs[f]? = some fn)
    (hn : ((fn.name == "runtime.NumGoroutine") || fn.body.isNone) = false) (hS : Sep W mt own W) (h : funT (cx W mt dyn) fn x args own R) : Does Tryz.prog f args W R := by
  unfold Does
  rw [callFunc_enter hf hn]
  exact calls_of_T (C := cx W mt dyn) tabOk follows hf hS h
/-- What Sep says of memory that was there: nothing has changed. -/
theorem Sep.ext0 {W W' : World} {l : List (Nat × Obj)} (h : Sep W [] l W') : Ext W W' :=
  ⟨h.os, h.tape, h.output, h.size, fun k hk => h.keep k hk (by simp)⟩

/-- f, called with these arguments in any world, gives v, and leaves memory as it was. -/
def Pure (f : FuncId) (args : List Value) (v : Value) : Prop := ∀ W, Does Tryz.prog f args W fun v' W' => v' = v ∧ Ext W W'
/-- the like in a world of which something is known -/
def On (p : World → Prop) (f : FuncId) (args : List Value) (v : Value) : Prop := ∀ W, p W → Does Tryz.prog f args W fun v' W' => v' = v ∧ Ext W W'
set_option maxRecDepth 100000
theorem Pure.call {f : FuncId} {args : List Value} {v : Value} (h : Pure f args v) {w0 : World} {mt dyn : List Nat} {loc : Tn.Loc} {own : Own} : CallV (cx w0 mt dyn) loc own f args v := fun W _ => h W
theorem On.call {p : World → Prop} {f : FuncId} {args : List Value} {v : Value} (h : On p f args v) {w0 : World} {mt dyn : List Nat} {loc : Tn.Loc} {own : Own} (hp : ∀ W, Sep w0 mt (ents loc own) W → p W) :
    CallV (cx w0 mt dyn) loc own f args v := fun W hW => h W (hp W hW)
theorem Pure.on {f : FuncId} {args : List Value} {v : Value} (h : Pure f args v) {p : World → Prop} : On p f args v := fun W _ => h W
/-- The end of a function that leaves memory as it was. -/
theorem fin_ext {w0 : World} {dyn : List Nat} {v : Value} {own : Own} {u : Value} (h : v = u) : Fin (cx w0 [] dyn) (fun v' W' => v' = u ∧ Ext w0 W') v own := fun W' hW => ⟨h, Sep.ext0 hW⟩

/-! rows of Go's library that the model answers itself -/
theorem does_value {f : FuncId} {args : List Value} {W W' : World} {v : Value} {R : Value → World → Prop} (h : (callFunc f ⟨args⟩).run Tryz.prog W = .ok (.value v) W') (hR : R v W') : Does Tryz.prog f args W R := by
  unfold Does; rw [h]; exact hR
theorem does_extern {f : FuncId} {fn : Func} {e : Array Value → Sem Value} {args : List Value} {W W' : World} {v : Value} {R : Value → World → Prop} (hf : Tryz.prog.funcs[f]? = some fn) (hn : (fn.name == "runtime.NumGoroutine") = false)
    (hb : fn.body.isNone = true) (h1 : Extern.findNext fn = none) (h2 : Extern.find fn = some e) (hr : (e ⟨args⟩).run Tryz.prog W = .ok v W') (hR : R v W') : Does Tryz.prog f args W R := by
  refine does_value (W' := W') (v := v) ?_ hR
  rw [run_callFunc_extern hf hn hb h1 h2, hr]; rfl
theorem fb_eq (x : Nat) : Extern.MathFloatBits.float64bits ⟨[.float .f64 x]⟩ = pure (.int .u64 x) := rfl
theorem ff_eq (n : Int) : Extern.MathFloatBits.float64frombits ⟨[.int .u64 n]⟩ = pure (.float .f64 n.toNat) := rfl
theorem sq_eq (x : Nat) : Extern.MathSqrt.sqrt ⟨[.float .f64 x]⟩ = (match FloatKind.f64.format.sqrt x with | some r => pure (.float .f64 r) | none => do pure (.float .f64 (← choose (.nanBits .f64 x x)))) := rfl
theorem fl_eq (x : Nat) : Extern.MathFloor.toIntegral "math.archFloor" .down ⟨[.float .f64 x]⟩ = (match FloatKind.f64.decode x with
    | .nan s t =>
      if FloatKind.f64.format.quiet t = t then pure (.float .f64 x) else do
      let kept ← choose (.extern "math.Floor,Ceil,Trunc,RoundToEven.signallingNaN kept" 2)
      pure (.float .f64 (if kept == 1 then x else FloatKind.f64.encode (.nan s (FloatKind.f64.format.quiet t))))
    | d => pure (.float .f64 (FloatKind.f64.encode (d.integral .down)))) := rfl
theorem x107 (x : Nat) : Pure 107 [.float .f64 x] (.int .u64 x) := fun W =>
  does_extern (fn := Tryz.f107) (e := Extern.MathFloatBits.float64bits) (by kernel_rfl) (by kernel_rfl) (by kernel_rfl) (by kernel_rfl) (by kernel_rfl) (by rw [fb_eq]; exact Sem.run_pure _ _ _) ⟨rfl, Below.refl _ _⟩
theorem x119 (n : Int) : Pure 119 [.int .u64 n] (.float .f64 n.toNat) := fun W =>
  does_extern (fn := Tryz.f119) (e := Extern.MathFloatBits.float64frombits) (by kernel_rfl) (by kernel_rfl) (by kernel_rfl) (by kernel_rfl) (by kernel_rfl) (by rw [ff_eq]; exact Sem.run_pure _ _ _) ⟨rfl, Below.refl _ _⟩
theorem fmt64 : FloatKind.f64.format = f64 := rfl
theorem sqrt_run (x : Nat) (W : World) : ∃ r W', (Extern.MathSqrt.sqrt ⟨[.float .f64 x]⟩).run Tryz.prog W = .ok (.float .f64 r) W' ∧ FRes (f64.sqrt x) r ∧ Ext W W' := by
  rw [sq_eq, fmt64]
  generalize f64.sqrt x = s
  cases s with
  | some r => exact ⟨r, W, Sem.run_pure _ _ _, rfl, Below.refl _ _⟩
  | none => exact ⟨_, { W with drawn := W.drawn + 1 }, by simp [Question.forced]; rfl, isNaN_cut _ _ _, ⟨rfl, rfl, rfl, Nat.le_refl _, fun _ _ => rfl⟩⟩
theorem x292 (x : Nat) (W : World) : Does Tryz.prog 292 [.float .f64 x] W fun v' W' => (∃ r, v' = .float .f64 r ∧ FRes (f64.sqrt x) r) ∧ Ext W W' := by
  obtain ⟨r, W', hr, h1, h2⟩ := sqrt_run x W
  exact does_extern (fn := Tryz.f292) (e := Extern.MathSqrt.sqrt) (v := .float .f64 r) (W' := W') (by kernel_rfl) (by kernel_rfl) (by kernel_rfl) (by kernel_rfl) (by kernel_rfl) hr ⟨⟨r, rfl, h1⟩, h2⟩
/-- the whole number below, as archFloor gives it -/
def floorS (x : Nat) : Nat := FloatKind.f64.encode ((FloatKind.f64.decode x).integral .down)
theorem floor_run (x : Nat) (W : World) : ∃ r W', (Extern.MathFloor.toIntegral "math.archFloor" .down ⟨[.float .f64 x]⟩).run Tryz.prog W = .ok (.float .f64 r) W' ∧ ((FloatKind.f64.decode x).isNaN = false → r = floorS x) ∧ Ext W W' := by
  rw [fl_eq]; unfold floorS
  generalize FloatKind.f64.decode x = d
  cases d with
  | nan s t =>
    by_cases hq : FloatKind.f64.format.quiet t = t
    · exact ⟨x, W, by simp [hq], by simp [Ieee.Datum.isNaN], Below.refl _ _⟩
    · exact ⟨_, { W with drawn := W.drawn + 1 }, by simp [hq, Question.forced]; rfl, by simp [Ieee.Datum.isNaN], ⟨rfl, rfl, rfl, Nat.le_refl _, fun _ _ => rfl⟩⟩
  | number s m e => exact ⟨_, W, Sem.run_pure _ _ _, fun _ => rfl, Below.refl _ _⟩
  | infinity s => exact ⟨_, W, Sem.run_pure _ _ _, fun _ => rfl, Below.refl _ _⟩
theorem x279 (x : Nat) (W : World) : Does Tryz.prog 279 [.float .f64 x] W fun v' W' => (∃ r, v' = .float .f64 r ∧ ((FloatKind.f64.decode x).isNaN = false → r = floorS x)) ∧ Ext W W' := by
  obtain ⟨r, W', hr, h1, h2⟩ := floor_run x W
  exact does_extern (fn := Tryz.f279) (e := Extern.MathFloor.toIntegral "math.archFloor" .down) (v := .float .f64 r) (W' := W') (by kernel_rfl) (by kernel_rfl) (by kernel_rfl) (by kernel_rfl) (by kernel_rfl) hr ⟨⟨r, rfl, h1⟩, h2⟩

/-! the tables -/
def frTab : List Int := [1, 0, 0, 0, 1, 0, 0, 0, 1, 0, 1, 0, -1, 0, 0, 0, 0, 1, -1, 0, 0, 0, -1, 0, 0, 0, 1, 0, -1, 0, 1, 0, 0, 0, 0, 1, 0, 0, 1, 0, 1, 0, -1, 0, 0, 0, 0, -1, 0, 1, 0, 1, 0, 0]
def framesV : List Value := frTab.map (Value.int .i64)
/-- Both tables of frames stand in memory. -/
def Laid (W : World) : Prop := (∃ t fr, W.heap[0]? = some (.cells ⟨framesV⟩ t fr)) ∧ ∃ t fr, W.heap[2]? = some (.cells ⟨framesV⟩ t fr)
theorem lt_of_heap {W : World} {b : Nat} {o : Obj} (h : W.heap[b]? = some o) : b < W.heap.size := by
  rcases Nat.lt_or_ge b W.heap.size with h' | h'
  · exact h'
  · rw [Array.getElem?_eq_none h'] at h; cases h
theorem Laid.keep {W W' : World} (h : Laid W) (hk : ∀ b, b < W.heap.size → (b = 0 ∨ b = 2) → W'.heap[b]? = W.heap[b]?) : Laid W' := by
  obtain ⟨⟨t, fr, h0⟩, ⟨t', fr', h2⟩⟩ := h
  exact ⟨⟨t, fr, by rw [hk 0 (lt_of_heap h0) (.inl rfl)]; exact h0⟩, ⟨t', fr', by rw [hk 2 (lt_of_heap h2) (.inr rfl)]; exact h2⟩⟩
theorem Laid.ext {W W' : World} (h : Laid W) (he : Ext W W') : Laid W' := h.keep fun b hb _ => he.block b hb
theorem Laid.sep {W W' : World} {mt : List Nat} {l : List (Nat × Obj)} (h : Laid W) (hS : Sep W mt l W') (h0 : 0 ∉ mt) (h2 : 2 ∉ mt) : Laid W' := h.keep fun b hb hb' => hS.keep b hb (by rcases hb' with rfl | rfl <;> assumption)

/-- f, called with these arguments where the tables stand, gives v, and leaves memory as it was. -/
abbrev Pu (f : FuncId) (args : List Value) (v : Value) : Prop := On Laid f args v
theorem On.callL {f : FuncId} {args : List Value} {v : Value} (h : On Laid f args v) {w0 : World} (hL : Laid w0) {dyn : List Nat} {loc : Tn.Loc} {own : Own} : CallV (cx w0 [] dyn) loc own f args v :=
  h.call fun W hW => hL.ext (Sep.ext0 hW)
theorem cond_split {b : Bool} {A B : Prop} (h1 : b = true → A) (h2 : b = false → B) : cond b A B := by
  cases b with
  | true => exact h1 rfl
  | false => exact h2 rfl
def s107 (x : Nat) : Int := x
def s119 (n : Int) : Nat := n.toNat
theorem p107 (x : Nat) : Pu 107 [.float .f64 x] (.int .u64 (s107 x)) := (x107 x).on
theorem p119 (n : Int) : Pu 119 [.int .u64 n] (.float .f64 (s119 n)) := (x119 n).on
end Go.Proofs.YtnljcdplcloedaaGreatDoor
end
section
namespace Go.Proofs.YtnljcdplcloedaaGreatDoor
open Go Go.Tn Go.RowKit
set_option linter.unusedVariables false
set_option linter.unusedSimpArgs false

def quietN : Nat := 9221120237041090561
/-- the result of an operation, where any NaN stands for all -/
def fr (o : Option Nat) : Nat := match o with | some s => s | none => quietN
theorem read_nan {r : Nat} (h : isNaN64 r) : ∃ s t, f64.read r = .nan s t := by
  obtain ⟨h1, h2⟩ := h
  have e1 : Ieee.Format.signWeight f64 = 2 ^ 63 := by decide
  have e2 : Ieee.Format.infRung f64 = 9218868437227405312 := by decide
  have e3 : Ieee.Format.binade f64 = 2 ^ 52 := by decide
  have e2' : Ieee.Format.infRung Ieee.double = 9218868437227405312 := e2
  rw [e2'] at h1
  refine ⟨r / 2 ^ 63 % 2 == 1, r % 2 ^ 63 - 9218868437227405312, ?_⟩
  unfold Ieee.Format.read
  simp only [e1, e2, e3]
  rw [if_neg (by omega), if_neg (by omega), if_neg (by omega)]
theorem read_quiet : f64.read quietN = .nan false 2251799813685249 := by decide
theorem read_fr_none {r : Nat} (h : FRes none r) : (∃ s t, f64.read r = .nan s t) ∧ ∃ s t, f64.read (fr none) = .nan s t := ⟨read_nan h, _, _, read_quiet⟩
section
variable {o : Option Nat} {r : Nat} (h : FRes o r) (y : Nat)
include h
theorem fres_cases : r = fr o ∨ (∃ s t, f64.read r = .nan s t) ∧ ∃ s t, f64.read (fr o) = .nan s t := by
  cases o with
  | some s => exact .inl h
  | none => exact .inr (read_fr_none h)
theorem fa1 : f64.add r y = f64.add (fr o) y := by
  rcases fres_cases h with e | ⟨⟨s, t, e⟩, ⟨s', t', e'⟩⟩
  · rw [← e]
  · simp [Ieee.Format.add, e, e', Ieee.Datum.sum]
theorem fa2 : f64.add y r = f64.add y (fr o) := by
  rcases fres_cases h with e | ⟨⟨s, t, e⟩, ⟨s', t', e'⟩⟩
  · rw [← e]
  · simp only [Ieee.Format.add, e, e']; cases f64.read y <;> rfl
theorem fs1 : f64.sub r y = f64.sub (fr o) y := by
  rcases fres_cases h with e | ⟨⟨s, t, e⟩, ⟨s', t', e'⟩⟩
  · rw [← e]
  · simp [Ieee.Format.sub, e, e', Ieee.Datum.sum]
theorem fs2 : f64.sub y r = f64.sub y (fr o) := by
  rcases fres_cases h with e | ⟨⟨s, t, e⟩, ⟨s', t', e'⟩⟩
  · rw [← e]
  · simp only [Ieee.Format.sub, e, e', Ieee.Datum.opposite]; cases f64.read y <;> rfl
theorem fm1 : f64.mul r y = f64.mul (fr o) y := by
  rcases fres_cases h with e | ⟨⟨s, t, e⟩, ⟨s', t', e'⟩⟩
  · rw [← e]
  · simp [Ieee.Format.mul, e, e', Ieee.Datum.product]
theorem fm2 : f64.mul y r = f64.mul y (fr o) := by
  rcases fres_cases h with e | ⟨⟨s, t, e⟩, ⟨s', t', e'⟩⟩
  · rw [← e]
  · simp only [Ieee.Format.mul, e, e']; cases f64.read y <;> rfl
theorem fd1 : f64.div r y = f64.div (fr o) y := by
  rcases fres_cases h with e | ⟨⟨s, t, e⟩, ⟨s', t', e'⟩⟩
  · rw [← e]
  · simp [Ieee.Format.div, e, e', Ieee.Datum.quotient]
theorem fd2 : f64.div y r = f64.div y (fr o) := by
  rcases fres_cases h with e | ⟨⟨s, t, e⟩, ⟨s', t', e'⟩⟩
  · rw [← e]
  · simp only [Ieee.Format.div, e, e']; cases f64.read y <;> rfl
theorem fq1 : f64.sqrt r = f64.sqrt (fr o) := by
  rcases fres_cases h with e | ⟨⟨s, t, e⟩, ⟨s', t', e'⟩⟩
  · rw [← e]
  · simp [Ieee.Format.sqrt, e, e', Ieee.Datum.root]
theorem fo1 : f64.order r y = f64.order (fr o) y := by
  rcases fres_cases h with e | ⟨⟨s, t, e⟩, ⟨s', t', e'⟩⟩
  · rw [← e]
  · simp [Ieee.Format.order, e, e', Ieee.Datum.order]
theorem fo2 : f64.order y r = f64.order y (fr o) := by
  rcases fres_cases h with e | ⟨⟨s, t, e⟩, ⟨s', t', e'⟩⟩
  · rw [← e]
  · simp only [Ieee.Format.order, e, e']; cases f64.read y <;> rfl
theorem fo12 : f64.order r r = f64.order (fr o) (fr o) := by
  rcases fres_cases h with e | ⟨⟨s, t, e⟩, ⟨s', t', e'⟩⟩
  · rw [← e]
  · simp [Ieee.Format.order, e, e', Ieee.Datum.order]
end
/-- a call whose answer is a float, or any NaN -/
def PuR (f : FuncId) (args : List Value) (o : Option Nat) : Prop := ∀ W, Laid W → Does Tryz.prog f args W fun v' W' => (∃ r, v' = .float .f64 r ∧ FRes o r) ∧ Ext W W'
theorem _root_.Go.Tn.Does.mono {P : Program} {f : FuncId} {args : List Value} {W : World} {R R' : Value → World → Prop} (h : Does P f args W R) (hR : ∀ v W', R v W' → R' v W') : Does P f args W R' := by
  unfold Does at h ⊢
  split at h
  · exact hR _ _ h
  · exact Calls.mono h fun e W'' ⟨v, he, hv⟩ => ⟨v, he, hR _ _ hv⟩
  · exact h.elim
theorem PuR.callL {f : FuncId} {args : List Value} {o : Option Nat} (h : PuR f args o) {w0 : World} (hL : Laid w0) {dyn : List Nat} {loc : Tn.Loc} {own : Own} :
    CallR (cx w0 [] dyn) loc own f args (.val (.one .float)) fun v' => ∃ r, v' = .float .f64 r ∧ FRes o r := fun W hW =>
  (h W (hL.ext (Sep.ext0 hW))).mono fun v' W' ⟨⟨r, e, hr⟩, he⟩ => ⟨⟨r, e⟩, ⟨r, e, hr⟩, he⟩
theorem floatOf {o : Option Nat} {x : Nat} {A : Prop} (h : ∃ r, Value.float .f64 x = .float .f64 r ∧ FRes o r) (k : FRes o x → A) : A := by
  obtain ⟨r, e, hr⟩ := h
  cases e
  exact k hr
theorem fin_rel {w0 : World} {dyn : List Nat} {own : Own} {o : Option Nat} {r : Nat} (h : FRes o r) : Fin (cx w0 [] dyn) (fun v' W' => (∃ r, v' = .float .f64 r ∧ FRes o r) ∧ Ext w0 W') (.float .f64 r) own :=
  fun W' hW => ⟨⟨r, rfl, h⟩, Sep.ext0 hW⟩
theorem p292 (x : Nat) : PuR 292 [.float .f64 x] (f64.sqrt x) := fun W _ => x292 x W
end Go.Proofs.YtnljcdplcloedaaGreatDoor
end
section
namespace Go.Proofs.YtnljcdplcloedaaGreatDoor
open Go Go.Tn Go.RowKit
set_option linter.unusedVariables false
set_option linter.unusedSimpArgs false
set_option maxRecDepth 100000

/-- From address a on stand the values vs. -/
def Arr (W : World) (a : Option Addr) (vs : List Value) : Prop :=
  vs = [] ∨ ∃ b o cs ty fr, a = some ⟨b, o, none⟩ ∧ W.heap[b]? = some (.cells ⟨cs⟩ ty fr) ∧ ∀ i v, vs[i]? = some v → cs[o + i]? = some v
theorem Arr.keep {W W' : World} {a : Option Addr} {vs : List Value} (h : Arr W a vs) (hk : ∀ b o, a = some ⟨b, o, none⟩ → b < W.heap.size → W'.heap[b]? = W.heap[b]?) : Arr W' a vs := by
  rcases h with h | ⟨b, o, cs, ty, fr, ha, hb, hv⟩
  · exact .inl h
  · exact .inr ⟨b, o, cs, ty, fr, ha, by rw [hk b o ha (lt_of_heap hb)]; exact hb, hv⟩
theorem Arr.ext {W W' : World} {a : Option Addr} {vs : List Value} (h : Arr W a vs) (he : Ext W W') : Arr W' a vs := h.keep fun b _ _ hb => he.block b hb
theorem Arr.sep {W W' : World} {a : Option Addr} {vs : List Value} {l : List (Nat × Obj)} (h : Arr W a vs) (hS : Sep W [] l W') : Arr W' a vs := h.ext (Sep.ext0 hS)
theorem arr_own {w0 W : World} {mt : List Nat} {l : List (Nat × Obj)} (hS : Sep w0 mt l W) {k o : Nat} {cs vs : List Value} {t : TypeId} (h : (k, .cells ⟨cs⟩ t) ∈ l) (hv : ∀ i v, vs[i]? = some v → cs[o + i]? = some v) :
    Arr W (some ⟨k, o, none⟩) vs := .inr ⟨k, o, cs, t, _, rfl, hS.own _ _ h, hv⟩
theorem arr_sub {W : World} {b o : Nat} {vs us : List Value} {j : Nat} (h : Arr W (some ⟨b, o, none⟩) vs) (hu : ∀ i v, us[i]? = some v → vs[j + i]? = some v) : Arr W (some ⟨b, o + j, none⟩) us := by
  rcases h with h | ⟨b', o', cs, ty, fr, ha, hb, hv⟩
  · subst h
    cases us with
    | nil => exact .inl rfl
    | cons v r => have := hu 0 v rfl; simp at this
  · cases ha
    exact .inr ⟨b, o + j, cs, ty, fr, rfl, hb, fun i v h => by rw [Nat.add_assoc]; exact hv _ _ (hu i v h)⟩

section
variable {w0 : World} {mt dyn : List Nat} {loc : Tn.Loc} {own : Own} {t : TypeId} {v : Value}
theorem loads_keep {b o : Nat} {cs : List Value} {ty : TypeId} {fr : Nat × Nat} (hb : w0.heap[b]? = some (.cells ⟨cs⟩ ty fr)) (hm : b ∉ mt) (hv : loadL (cx w0 mt dyn) t cs o = some v) : LoadsTo (cx w0 mt dyn) loc own t ⟨b, o, none⟩ v :=
  fun W hW => run_loadL (C := cx w0 mt dyn) tabOk (by rw [hW.keep b (lt_of_heap hb) hm]; exact hb) hv
theorem loads_own {b o : Nat} {cs : List Value} {ty : TypeId} (hb : (b, .cells ⟨cs⟩ ty) ∈ ents loc own) (hv : loadL (cx w0 mt dyn) t cs o = some v) : LoadsTo (cx w0 mt dyn) loc own t ⟨b, o, none⟩ v :=
  fun W hW => run_loadL (C := cx w0 mt dyn) tabOk (hW.own _ _ hb) hv
/-- one cell of a list in old memory -/
theorem loads_arr {a : Option Addr} {ad : Addr} {vs : List Value} {i : Nat} (h : Arr w0 a vs) (ha : a = some ad) (hv : vs[i]? = some v) (h1 : ∀ (cs : List Value) (o : Nat), loadL (cx w0 [] dyn) t cs o = cs[o]?) :
    LoadsTo (cx w0 [] dyn) loc own t (ad.add i) v := by
  rcases h with h | ⟨b, o, cs, ty, fr, ha', hb, hvs⟩
  · subst h; simp at hv
  · rw [ha] at ha'; cases ha'
    rw [Tn.add_none]
    exact loads_keep (mt := []) hb List.not_mem_nil (by rw [h1]; exact hvs i v hv)
theorem arr_some {W : World} {a : Option Addr} {vs : List Value} {i : Nat} (h : Arr W a vs) (hi : i < vs.length) : ∃ b o, a = some ⟨b, o, none⟩ := by
  rcases h with h | ⟨b, o, cs, ty, fr, ha, _⟩
  · subst h; simp at hi
  · exact ⟨b, o, ha⟩
/-- a store into a block of the call's own -/
theorem stores_own {k o : Nat} {cs : List Value} {ty : TypeId} {pre post : Own} (ho : own = pre ++ (k, .cells ⟨cs⟩ ty) :: post) (hlt : o < cs.length) (h1 : v.cells.toList = [v]) (hv : Tn.isOne v = true) (hs : ∃ i, tab[t]? = some i ∧ i.size = 1) :
    StoresTo (cx w0 mt dyn) loc own t ⟨k, o, none⟩ v (pre ++ (k, .cells ⟨cs.set o v⟩ ty) :: post) := by
  intro W hS
  obtain ⟨i, hi, hsz⟩ := hs
  subst ho
  have hh : W.heap[k]? = some (.cells ⟨cs⟩ ty) := hS.own _ _ (by simp [ents])
  obtain ⟨W', hr, q1, q2, q3, q4, q5, q6⟩ := run_storeCells (P := Tryz.prog) (k := k) (t := ty) [v] W cs o 0 hh (by simp only [List.length_cons, List.length_nil]; omega) (by simp [hv])
  refine ⟨W', ?_, ?_⟩
  · have c1 : v.cells.size = i.size := by rw [hsz]; have := congrArg List.length h1; simpa using this
    simp only [storeVar, Sem.run_bind]
    rw [Tn.run_sizeOf (C := cx w0 mt dyn) tabOk hi]
    simp only [Result.andThen_ok]
    rw [if_neg (by simp [c1])]
    rw [h1]
    exact hr
  · have hset : cs.take o ++ [v] ++ cs.drop (o + 1) = cs.set o v := by
      rw [List.set_eq_take_append_cons_drop, if_pos hlt]; simp
    have hS' : Sep w0 mt ((loc.map LB.ent ++ pre) ++ (k, (.cells ⟨cs⟩ ty : Obj)) :: post) W := by
      have : ents loc (pre ++ (k, .cells ⟨cs⟩ ty) :: post) = (loc.map LB.ent ++ pre) ++ (k, (.cells ⟨cs⟩ ty : Obj)) :: post := by simp [ents]
      rw [← this]; exact hS
    simp only [Nat.add_zero, List.length_cons, List.length_nil, Nat.zero_add] at q1
    have := hS'.store (W' := W') (o' := .cells ⟨cs.set o v⟩ ty) (by rw [← hset]; exact q1) q2 q3 q4 q5 q6
    have e : ents loc (pre ++ (k, .cells ⟨cs.set o v⟩ ty) :: post) = (loc.map LB.ent ++ pre) ++ (k, (.cells ⟨cs.set o v⟩ ty : Obj)) :: post := by simp [ents]
    show Sep w0 mt (ents loc (pre ++ (k, .cells ⟨cs.set o v⟩ ty) :: post)) W'
    rw [e]; exact this
end
section
variable {w0 : World} {mt dyn : List Nat} {loc : Tn.Loc} {own : Own} {t : TypeId} {v : Value}
/-- the like of a struct or an array -/
theorem stores_agg {k o : Nat} {cs vs : List Value} {ty : TypeId} {pre post : Own} (ho : own = pre ++ (k, .cells ⟨cs⟩ ty) :: post) (hv : v.cells.toList = vs) (hlt : o + vs.length ≤ cs.length) (h1 : vs.all Tn.isOne = true)
    (hs : ∃ i, tab[t]? = some i ∧ i.size = vs.length) : StoresTo (cx w0 mt dyn) loc own t ⟨k, o, none⟩ v (pre ++ (k, .cells ⟨cs.take o ++ vs ++ cs.drop (o + vs.length)⟩ ty) :: post) := by
  intro W hS
  obtain ⟨i, hi, hsz⟩ := hs
  subst ho
  have hh : W.heap[k]? = some (.cells ⟨cs⟩ ty) := hS.own _ _ (by simp [ents])
  obtain ⟨W', hr, q1, q2, q3, q4, q5, q6⟩ := run_storeCells (P := Tryz.prog) (k := k) (t := ty) vs W cs o 0 hh (by omega) h1
  refine ⟨W', ?_, ?_⟩
  · have c1 : v.cells.size = i.size := by rw [hsz, ← hv]; simp
    simp only [storeVar, Sem.run_bind]
    rw [Tn.run_sizeOf (C := cx w0 mt dyn) tabOk hi]
    simp only [Result.andThen_ok]
    rw [if_neg (by simp [c1])]
    rw [hv]
    exact hr
  · have hS' : Sep w0 mt ((loc.map LB.ent ++ pre) ++ (k, (.cells ⟨cs⟩ ty : Obj)) :: post) W := by
      have : ents loc (pre ++ (k, .cells ⟨cs⟩ ty) :: post) = (loc.map LB.ent ++ pre) ++ (k, (.cells ⟨cs⟩ ty : Obj)) :: post := by simp [ents]
      rw [← this]; exact hS
    simp only [Nat.add_zero] at q1
    have := hS'.store (W' := W') q1 q2 q3 q4 q5 q6
    have e : ents loc (pre ++ (k, .cells ⟨cs.take o ++ vs ++ cs.drop (o + vs.length)⟩ ty) :: post) = (loc.map LB.ent ++ pre) ++ (k, (.cells ⟨cs.take o ++ vs ++ cs.drop (o + vs.length)⟩ ty : Obj)) :: post := by simp [ents]
    show Sep w0 mt (ents loc (pre ++ (k, .cells ⟨cs.take o ++ vs ++ cs.drop (o + vs.length)⟩ ty) :: post)) W'
    rw [e]; exact this
end
/-- A call that changes one block of its caller's. -/
def Mut (f : FuncId) (args : List Value) (k : Nat) (o o' : Obj) (v : Value) : Prop :=
  ∀ W, Laid W → W.heap[k]? = some o → k ≠ 0 → k ≠ 2 → Does Tryz.prog f args W fun v' W' => v' = v ∧ Sep W [k] [(k, o')] W'
theorem Mut.callG {f : FuncId} {args : List Value} {k : Nat} {o o' : Obj} {v : Value} (h : Mut f args k o o' v) {w0 : World} (hL : Laid w0) {mt dyn : List Nat} {loc : Tn.Loc} {own pre post : Own} {sh : Sh} (hm : 0 ∉ mt ∧ 2 ∉ mt)
    (ho : own = pre ++ (k, o) :: post) (hs : isS sh v) : CallG (cx w0 mt dyn) loc own f args sh fun v' own' => v' = v ∧ own' = pre ++ (k, o') :: post := by
  intro W hS
  subst ho
  have hh : W.heap[k]? = some o := hS.own _ _ (by simp [ents])
  have hk : k ≠ 0 ∧ k ≠ 2 := by
    have hnew := hS.new k o (by simp [ents])
    obtain ⟨⟨_, _, l0⟩, ⟨_, _, l2⟩⟩ := hL
    have l0 := lt_of_heap l0
    have l2 := lt_of_heap l2
    have hnew : k ∈ mt ∨ w0.heap.size ≤ k := hnew
    rcases hnew with hnew | hnew
    · exact ⟨fun e => hm.1 (e ▸ hnew), fun e => hm.2 (e ▸ hnew)⟩
    · omega
  refine (h W (hL.sep hS hm.1 hm.2) hh hk.1 hk.2).mono fun v' W' ⟨e, hS'⟩ => ⟨by rw [e]; exact hs, _, ⟨e, rfl⟩, ?_⟩
  have hS1 : Sep w0 mt ((loc.map LB.ent ++ pre) ++ (k, o) :: post) W := by
    have : ents loc (pre ++ (k, o) :: post) = (loc.map LB.ent ++ pre) ++ (k, o) :: post := by simp [ents]
    rw [← this]; exact hS
  have e2 : ents loc (pre ++ (k, o') :: post) = (loc.map LB.ent ++ pre) ++ (k, o') :: post := by simp [ents]
  show Sep w0 mt (ents loc (pre ++ (k, o') :: post)) W'
  rw [e2]
  have hnd := hS1.nodup
  simp only [List.map_append, List.map_cons] at hnd
  constructor
  · exact hS'.os.trans hS1.os
  · exact hS'.tape.trans hS1.tape
  · exact hS'.output.trans hS1.output
  · exact Nat.le_trans hS1.size hS'.size
  · intro b hb hbm
    by_cases hbk : b = k
    · subst hbk
      rcases hS1.new b o (by simp) with h | h
      · exact (hbm h).elim
      · exact absurd hb (by omega)
    · rw [hS'.keep b (by have := hS1.size; omega) (by simpa using hbk)]
      exact hS1.keep b hb hbm
  · intro b ob hb
    by_cases hbk : b = k
    · subst hbk
      have : ob = o' := by
        rcases List.mem_append.1 hb with hb | hb
        · exfalso
          rw [List.nodup_append] at hnd
          have hb' : b ∈ List.map Prod.fst (loc.map LB.ent) ++ List.map Prod.fst pre := by
            rw [← List.map_append]; exact List.mem_map.2 ⟨_, hb, rfl⟩
          exact hnd.2.2 b hb' b (by simp) rfl
        · rcases List.mem_cons.1 hb with hb | hb
          · cases hb; rfl
          · exfalso
            rw [List.nodup_append] at hnd
            exact (List.nodup_cons.1 hnd.2.1).1 (List.mem_map.2 ⟨_, hb, rfl⟩)
      subst this
      exact hS'.own _ _ (by simp)
    · have hb' : (b, ob) ∈ (loc.map LB.ent ++ pre) ++ (k, o) :: post := by
        rcases List.mem_append.1 hb with hb | hb
        · exact List.mem_append.2 (.inl hb)
        · rcases List.mem_cons.1 hb with hb | hb
          · cases hb; exact (hbk rfl).elim
          · exact List.mem_append.2 (.inr (List.mem_cons_of_mem _ hb))
      rw [hS'.keep b (hS1.lt hb') (by simpa using hbk)]
      exact hS1.own _ _ hb'
  · intro b ob hb
    rcases List.mem_append.1 hb with hb | hb
    · exact hS1.new b ob (List.mem_append.2 (.inl hb))
    · rcases List.mem_cons.1 hb with hb | hb
      · cases hb; exact hS1.new k o (by simp)
      · exact hS1.new b ob (List.mem_append.2 (.inr (List.mem_cons_of_mem _ hb)))
  · simp only [List.map_append, List.map_cons]; exact hnd
theorem ld3 {w0 : World} {mt dyn : List Nat} (cs : List Value) (o : Nat) : loadL (cx w0 mt dyn) 3 cs o = cs[o]? := by kernel_rfl
theorem ld2 {w0 : World} {mt dyn : List Nat} (cs : List Value) (o : Nat) : loadL (cx w0 mt dyn) 2 cs o = cs[o]? := by kernel_rfl
theorem ld44 {w0 : World} {mt dyn : List Nat} (cs : List Value) (o : Nat) : loadL (cx w0 mt dyn) 44 cs o = cs[o]? := by kernel_rfl
theorem w64 (n : Int) (h : -9223372036854775808 ≤ n ∧ n < 9223372036854775808) : IntKind.wrap .i64 n = n := IntWalk.i64_in n (by omega)
theorem ltr {a b : Nat} (h : Nat.blt a b = true) : a < b := Nat.le_of_ble_eq_true h
end Go.Proofs.YtnljcdplcloedaaGreatDoor
end
section
namespace Go.Proofs.YtnljcdplcloedaaGreatDoor
open Go Go.Tn Go.RowKit
set_option linter.unusedVariables false
set_option linter.unusedSimpArgs false

theorem sw64 : Ieee.Format.signWeight f64 = 9223372036854775808 := by decide
theorem inf64 : Ieee.Format.infRung f64 = 9218868437227405312 := by decide
theorem bin64 : Ieee.Format.binade f64 = 4503599627370496 := by decide
theorem lp64 : Ieee.Format.leastPlace f64 = -1074 := by decide

/-- A number whose dropped digits are all nought is kept as it is. -/
theorem cut_exact (way : Ieee.Toward) (neg : Bool) (q drop : Nat) (hq : 0 < q) : way.cut neg (q * 2 ^ drop) drop = q := by
  have hl : drop ≤ (q * 2 ^ drop).log2 := by
    have h1 : 2 ^ drop ≤ q * 2 ^ drop := Nat.le_mul_of_pos_left _ hq
    exact (Nat.le_log2 (by have := Nat.two_pow_pos drop; omega)).2 h1
  unfold Ieee.Toward.cut
  have hm : min drop ((q * 2 ^ drop).log2 + 2) = drop := by omega
  simp only [hm, Nat.one_shiftLeft, Nat.mul_mod_left]
  have hp : 0 < 2 ^ drop := Nat.two_pow_pos drop
  rw [Nat.mul_div_cancel _ hp]
  cases way <;> simp
theorem cut_zero (way : Ieee.Toward) (neg : Bool) (drop : Nat) : way.cut neg 0 drop = 0 := by
  unfold Ieee.Toward.cut
  cases way <;> simp
  all_goals omega
/-- The rung of a number that the format has. -/
theorem nearest_exact {neg : Bool} {mag q : Nat} {place last : Int} (hm : 0 < mag) (hlast : last = max (place + mag.log2 - 52) (-1074)) (hf : last ≤ 971)
    (hq : mag * 2 ^ (place - last).toNat = q * 2 ^ (last - place).toNat) :
    f64.nearest neg mag place = f64.word neg ((last + 1074).toNat * 4503599627370496 + q) ∧ q < 9007199254740992 ∧ (4503599627370496 ≤ q ∨ last = -1074) := by
  have hq0 : 0 < q := by
    rcases Nat.eq_zero_or_pos q with h | h
    · subst h
      have := Nat.mul_pos hm (Nat.two_pow_pos (place - last).toNat)
      omega
    · exact h
  have hfb : (f64.fractionBits : Int) = 52 := by decide
  have hkept : Ieee.Toward.even.cut neg (mag <<< (place - last).toNat) (last - place).toNat = q := by
    rw [Nat.shiftLeft_eq, hq]; exact cut_exact _ _ _ _ hq0
  have hsz : q < 9007199254740992 ∧ (4503599627370496 ≤ q ∨ last = -1074) := by
    have hlog1 : 2 ^ mag.log2 ≤ mag := Nat.log2_self_le (by omega)
    have hlog2 : mag < 2 ^ (mag.log2 + 1) := Nat.lt_log2_self
    generalize hL : mag.log2 = L at *
    generalize ha : (place - last).toNat = a at *
    generalize hb : (last - place).toNat = b at *
    have hab : (a : Int) - b = place - last := by omega
    constructor
    · have h1 : q * 2 ^ b < 2 ^ (L + 1) * 2 ^ a := by rw [← hq]; exact Nat.mul_lt_mul_of_pos_right hlog2 (Nat.two_pow_pos a)
      rw [← Nat.pow_add] at h1
      have h2 : 2 ^ (L + 1 + a) ≤ 2 ^ (53 + b) := Nat.pow_le_pow_right (by decide) (by omega)
      rw [Nat.pow_add 2 53 b] at h2
      have h3 : q * 2 ^ b < 2 ^ 53 * 2 ^ b := Nat.lt_of_lt_of_le h1 h2
      have := Nat.lt_of_mul_lt_mul_right h3
      omega
    · rcases Int.lt_or_le (-1074) last with h | h
      · left
        have hl : (L : Int) + a = 52 + b := by omega
        have h1 : 2 ^ L * 2 ^ a ≤ q * 2 ^ b := by rw [← hq]; exact Nat.mul_le_mul_right _ hlog1
        rw [← Nat.pow_add, show L + a = 52 + b by omega, Nat.pow_add] at h1
        have := Nat.le_of_mul_le_mul_right h1 (Nat.two_pow_pos b)
        omega
      · right; omega
  refine ⟨?_, hsz⟩
  unfold Ieee.Format.nearest
  rw [if_neg (by omega)]
  simp only [lp64, bin64, inf64, hfb, ← hlast, hkept]
  have h1 : (last - -1074).toNat = (last + 1074).toNat := by rw [Int.sub_neg]
  rw [h1]
  have h2 : (last + 1074).toNat ≤ 2045 := by omega
  have h3 : (last + 1074).toNat * 4503599627370496 + q ≤ 9218868437227405312 := by omega
  rw [Nat.min_eq_left h3]
theorem read_word {neg : Bool} {e q : Nat} (he : e ≤ 2045) (hq : q < 9007199254740992) (h : 4503599627370496 ≤ q ∨ e = 0) :
    f64.read (f64.word neg (e * 4503599627370496 + q)) = .number neg q ((e : Int) - 1074) := by
  have hr : e * 4503599627370496 + q < 9218868437227405312 := by omega
  have hn : (f64.word neg (e * 4503599627370496 + q)) / 9223372036854775808 % 2 = neg.toNat := by
    unfold Ieee.Format.word
    rw [sw64]
    cases neg <;> simp <;> omega
  have hm : (f64.word neg (e * 4503599627370496 + q)) % 9223372036854775808 = e * 4503599627370496 + q := by
    unfold Ieee.Format.word
    rw [sw64]
    cases neg <;> simp <;> omega
  unfold Ieee.Format.read
  simp only [sw64, bin64, inf64, lp64, hn, hm]
  have hneg : (neg.toNat == 1) = neg := by cases neg <;> rfl
  rw [hneg]
  by_cases h0 : e * 4503599627370496 + q < 4503599627370496
  · rw [if_pos h0]
    have : e = 0 := by omega
    subst this
    simp
  · rw [if_neg h0, if_pos (by omega)]
    rcases h with h | h
    · have h1 : (e * 4503599627370496 + q) % 4503599627370496 = q - 4503599627370496 := by omega
      have h2 : (e * 4503599627370496 + q) / 4503599627370496 = e + 1 := by omega
      rw [h1, h2, show 4503599627370496 + (q - 4503599627370496) = q by omega, show (-1074 : Int) + ((e + 1 - 1 : Nat) : Int) = (e : Int) - 1074 by omega]
    · subst h
      have h1 : (0 * 4503599627370496 + q) % 4503599627370496 = q - 4503599627370496 := by omega
      have h2 : (0 * 4503599627370496 + q) / 4503599627370496 = 1 := by omega
      rw [h1, h2, show 4503599627370496 + (q - 4503599627370496) = q by omega]
      rfl
/-- What is written and has its digits reads back as it is. -/
theorem read_nearest {neg : Bool} {mag q : Nat} {place last : Int} (hm : 0 < mag) (hlast : last = max (place + mag.log2 - 52) (-1074)) (hf : last ≤ 971)
    (hq : mag * 2 ^ (place - last).toNat = q * 2 ^ (last - place).toNat) : f64.read (f64.nearest neg mag place) = .number neg q last := by
  obtain ⟨h1, h2, h3⟩ := nearest_exact hm hlast hf hq (neg := neg)
  rw [h1, read_word (by omega) h2 (by rcases h3 with h | h; exact .inl h; exact .inr (by omega))]
  rw [show (((last + 1074).toNat : Nat) : Int) - 1074 = last by omega]
end Go.Proofs.YtnljcdplcloedaaGreatDoor
end
section
namespace Go.Proofs.YtnljcdplcloedaaGreatDoor
open Go Go.Tn Go.RowKit
set_option linter.unusedVariables false
set_option linter.unusedSimpArgs false

theorem cut_div (n drop : Nat) : Ieee.Toward.down.cut false n drop = n / 2 ^ drop ∧ ∀ b, Ieee.Toward.zero.cut b n drop = n / 2 ^ drop := by
  have h : n / 1 <<< min drop (n.log2 + 2) = n / 2 ^ drop := by
    rw [Nat.one_shiftLeft]
    rcases Nat.le_total drop (n.log2 + 2) with h | h
    · rw [Nat.min_eq_left h]
    · rw [Nat.min_eq_right h]
      have h1 : n < 2 ^ (n.log2 + 1) := Nat.lt_log2_self
      have h2 : 2 ^ (n.log2 + 1) ≤ 2 ^ (n.log2 + 2) := Nat.pow_le_pow_right (by decide) (by omega)
      have h3 : 2 ^ (n.log2 + 2) ≤ 2 ^ drop := Nat.pow_le_pow_right (by decide) h
      rw [Nat.div_eq_of_lt (by omega), Nat.div_eq_of_lt (by omega)]
  constructor
  · unfold Ieee.Toward.cut; simp only [Bool.false_and, Bool.toNat_false, Nat.add_zero]; exact h
  · intro b; unfold Ieee.Toward.cut; simp only [Bool.toNat_false, Nat.add_zero]; exact h
/-- What a word's number is made of. -/
theorem read_bounds {x : Nat} {s : Bool} {m : Nat} {e : Int} (h : f64.read x = .number s m e) : m < 9007199254740992 ∧ -1074 ≤ e ∧ e ≤ 971 ∧ (4503599627370496 ≤ m ∨ e = -1074) := by
  unfold Ieee.Format.read at h
  simp only [sw64, bin64, inf64, lp64] at h
  split at h
  · rename_i h1
    simp only [Ieee.Datum.number.injEq] at h
    omega
  · split at h
    · simp only [Ieee.Datum.number.injEq] at h
      omega
    · split at h <;> cases h
/-- the whole number below m * 2 ^ e -/
def below (m : Nat) (e : Int) : Nat := m * 2 ^ e.toNat / 2 ^ (-e).toNat
theorem floorS_eq {x m : Nat} {e : Int} (h : f64.read x = .number false m e) : floorS x = f64.nearest false (below m e) 0 := by
  unfold floorS FloatKind.decode FloatKind.encode
  have h' : FloatKind.f64.format.read x = .number false m e := h
  rw [h']
  simp only [Ieee.Datum.integral, Ieee.Format.write]
  rw [(cut_div _ _).1, Nat.shiftLeft_eq]
  rfl
theorem read_floor {m : Nat} {e : Int} (hm : m < 9007199254740992) (he : -1074 ≤ e) (hN : below m e < 9223372036854775808) :
    ∃ q last, f64.read (f64.nearest false (below m e) 0) = .number false q last ∧ last ≤ 971 ∧ -1074 ≤ last ∧ q * 2 ^ last.toNat = below m e * 2 ^ (-last).toNat ∧ (below m e ≠ 0 → last ≤ max e 0) := by
  rcases Nat.eq_zero_or_pos (below m e) with h0 | h0
  · refine ⟨0, -1074, ?_, by omega, by omega, by rw [h0, Nat.zero_mul, Nat.zero_mul], fun h => (h h0).elim⟩
    rw [h0]; decide
  · have hl : (below m e).log2 < 63 := (Nat.log2_lt (by omega)).2 (by omega)
    generalize hLL : (below m e).log2 = L at hl
    have hlast : ((L : Int) - 52) = max ((0 : Int) + (below m e).log2 - 52) (-1074) := by rw [hLL]; omega
    have hl1 : 2 ^ L ≤ below m e := by rw [← hLL]; exact Nat.log2_self_le (by omega)
    have hl2 : below m e < 2 ^ (L + 1) := by rw [← hLL]; exact Nat.lt_log2_self
    rcases Nat.lt_or_ge 52 L with h52 | h52
    · -- digits are dropped: there are as many noughts
      have he0 : 0 ≤ e := by
        apply Int.not_lt.1
        intro hneg
        have : below m e ≤ m := by
          unfold below
          rw [show e.toNat = 0 by omega, Nat.pow_zero, Nat.mul_one]
          exact Nat.div_le_self _ _
        have h53 : 2 ^ 53 ≤ 2 ^ L := Nat.pow_le_pow_right (by decide) (by omega)
        omega
      have hb : below m e = m * 2 ^ e.toNat := by
        unfold below; rw [show (-e).toNat = 0 by omega, Nat.pow_zero, Nat.div_one]
      have hLe : L ≤ 52 + e.toNat := by
        apply Nat.not_lt.1
        intro hlt
        have h1 : m * 2 ^ e.toNat < 2 ^ 53 * 2 ^ e.toNat := Nat.mul_lt_mul_of_pos_right (by omega) (Nat.two_pow_pos _)
        rw [← Nat.pow_add] at h1
        have h2 : 2 ^ (53 + e.toNat) ≤ 2 ^ L := Nat.pow_le_pow_right (by decide) (by omega)
        omega
      have hsplit : 2 ^ e.toNat = 2 ^ (e.toNat - (L - 52)) * 2 ^ (L - 52) := by rw [← Nat.pow_add]; congr 1; omega
      have hq : below m e * 2 ^ ((0 : Int) - ((L : Int) - 52)).toNat = (m * 2 ^ (e.toNat - (L - 52))) * 2 ^ (((L : Int) - 52) - 0).toNat := by
        rw [show ((0 : Int) - ((L : Int) - 52)).toNat = 0 by omega, show (((L : Int) - 52) - 0).toNat = L - 52 by omega, hb, hsplit]
        rw [Nat.pow_zero, Nat.mul_one, Nat.mul_assoc]
      refine ⟨_, _, read_nearest h0 hlast (by omega) hq, by omega, by omega, ?_, fun _ => by omega⟩
      rw [show ((L : Int) - 52).toNat = L - 52 by omega, show (-((L : Int) - 52)).toNat = 0 by omega, Nat.pow_zero, Nat.mul_one, hb, hsplit, Nat.mul_assoc]
    · have hq : below m e * 2 ^ ((0 : Int) - ((L : Int) - 52)).toNat = (below m e * 2 ^ (52 - L)) * 2 ^ (((L : Int) - 52) - 0).toNat := by
        rw [show ((0 : Int) - ((L : Int) - 52)).toNat = 52 - L by omega, show (((L : Int) - 52) - 0).toNat = 0 by omega, Nat.pow_zero, Nat.mul_one]
      refine ⟨_, _, read_nearest h0 hlast (by omega) hq, by omega, by omega, ?_, fun _ => by omega⟩
      rw [show ((L : Int) - 52).toNat = 0 by omega, show (-((L : Int) - 52)).toNat = 52 - L by omega, Nat.pow_zero, Nat.mul_one]
/-- the whole number of a float that is whole -/
theorem toInt_floor {x m : Nat} {e : Int} (h : f64.read x = .number false m e) (hN : below m e < 9223372036854775808) : (FloatKind.f64.decode (floorS x)).toInt .zero = some (below m e : Int) := by
  obtain ⟨b1, b2, b3, b4⟩ := read_bounds h
  obtain ⟨q, last, hr, l1, l2, hq, l3⟩ := read_floor b1 b2 hN
  rw [← floorS_eq h] at hr
  have hr' : FloatKind.f64.decode (floorS x) = .number false q last := hr
  rw [hr']
  simp only [Ieee.Datum.toInt, Ieee.Datum.integral, Ieee.signed, (cut_div _ _).2, Nat.shiftLeft_eq, Bool.false_eq_true, if_false, Nat.pow_zero, Nat.mul_one, Option.some.injEq]
  rw [hq, Nat.mul_div_cancel _ (Nat.two_pow_pos _)]
theorem ftoi_floor {x m : Nat} {e n : Int} (h : f64.read x = .number false m e) (hN : below m e < 9223372036854775808) (hf : FToI (floorS x) .u64 n) : n = below m e := by
  unfold FToI at hf
  rw [toInt_floor h hN] at hf
  simp only at hf
  rw [if_pos ⟨by simp [IntKind.min, IntKind.signed]; try omega, by simp [IntKind.max, IntKind.signed, IntKind.bits]; omega⟩] at hf
  exact hf
end Go.Proofs.YtnljcdplcloedaaGreatDoor
end
section
namespace Go.Proofs.YtnljcdplcloedaaGreatDoor
open Go Go.Tn Go.RowKit
set_option linter.unusedVariables false
set_option linter.unusedSimpArgs false

def rest (m : Nat) (e : Int) : Nat := m * 2 ^ e.toNat % 2 ^ (-e).toNat
theorem cmp_mul {a b c : Nat} (hc : 0 < c) : compare ((a * c : Nat) : Int) ((b * c : Nat) : Int) = compare a b := by
  rcases Nat.lt_trichotomy a b with h | h | h
  · have h1 : a * c < b * c := Nat.mul_lt_mul_of_pos_right h hc
    rw [Nat.compare_eq_lt.2 h, Int.compare_eq_lt.2 (by omega)]
  · subst h; rw [Nat.compare_eq_eq.2 rfl, Int.compare_eq_eq.2 rfl]
  · have h1 : b * c < a * c := Nat.mul_lt_mul_of_pos_right h hc
    rw [Nat.compare_eq_gt.2 h, Int.compare_eq_gt.2 (by omega)]
theorem pow_split {a b c : Nat} (h : a = b + c) : 2 ^ a = 2 ^ b * 2 ^ c := by rw [h, Nat.pow_add]
/-- the difference, exactly -/
theorem total_rest {m q : Nat} {e last : Int} (hq : q * 2 ^ last.toNat = below m e * 2 ^ (-last).toNat) :
    m * 2 ^ (e - min e last).toNat = q * 2 ^ (last - min e last).toNat + rest m e * 2 ^ (e - min e last).toNat := by
  rcases Int.lt_or_le e 0 with he | he
  · -- there are places behind the point
    have hbelow : below m e = m / 2 ^ (-e).toNat := by unfold below; rw [show e.toNat = 0 by omega, Nat.pow_zero, Nat.mul_one]
    have hrest : rest m e = m % 2 ^ (-e).toNat := by unfold rest; rw [show e.toNat = 0 by omega, Nat.pow_zero, Nat.mul_one]
    rw [hbelow] at hq
    rw [hrest]
    generalize hD : 2 ^ (-e).toNat = D at hq ⊢
    have hdiv := Nat.div_add_mod m D
    have key : q * 2 ^ (last - min e last).toNat = m / D * D * 2 ^ (e - min e last).toNat := by
      rcases Int.le_total e last with h | h
      · rw [Int.min_eq_left h, show (e - e).toNat = 0 by omega, Nat.pow_zero, Nat.mul_one]
        have hc : q * 2 ^ (last - e).toNat * 2 ^ (-last).toNat = m / D * D * 2 ^ (-last).toNat := by
          rw [Nat.mul_assoc, ← Nat.pow_add, show (last - e).toNat + (-last).toNat = last.toNat + (-e).toNat by omega, Nat.pow_add, ← Nat.mul_assoc, hq, hD, Nat.mul_assoc, Nat.mul_assoc, Nat.mul_comm D]
        exact Nat.eq_of_mul_eq_mul_right (Nat.two_pow_pos _) hc
      · rw [Int.min_eq_right h, show (last - last).toNat = 0 by omega, Nat.pow_zero, Nat.mul_one]
        rw [show last.toNat = 0 by omega, Nat.pow_zero, Nat.mul_one] at hq
        rw [hq, pow_split (show (-last).toNat = (-e).toNat + (e - last).toNat by omega), hD, Nat.mul_assoc]
    rw [key, ← Nat.add_mul]
    congr 1
    rw [Nat.mul_comm]; omega
  · have e1 : (-e).toNat = 0 := by omega
    have hr : rest m e = 0 := by unfold rest; rw [e1, Nat.pow_zero, Nat.mod_one]
    rw [hr, Nat.zero_mul, Nat.add_zero]
    unfold below at hq
    rw [e1, Nat.pow_zero, Nat.div_one] at hq
    rcases Int.lt_or_le last 0 with hl | hl
    · rw [Int.min_eq_right (by omega), show (last - last).toNat = 0 by omega, Nat.pow_zero, Nat.mul_one]
      rw [show last.toNat = 0 by omega, Nat.pow_zero, Nat.mul_one] at hq
      rw [hq, Nat.mul_assoc, ← Nat.pow_add]
      congr 2; omega
    · rw [show (-last).toNat = 0 by omega, Nat.pow_zero, Nat.mul_one] at hq
      have hc : m * 2 ^ (e - min e last).toNat * 2 ^ (min e last).toNat = q * 2 ^ (last - min e last).toNat * 2 ^ (min e last).toNat := by
        rw [Nat.mul_assoc, Nat.mul_assoc, ← Nat.pow_add, ← Nat.pow_add, show (e - min e last).toNat + (min e last).toNat = e.toNat by omega, show (last - min e last).toNat + (min e last).toNat = last.toNat by omega]
        exact hq.symm
      exact Nat.eq_of_mul_eq_mul_right (Nat.two_pow_pos _) hc
theorem rest_lt {m : Nat} {e : Int} (hm : m < 9007199254740992) (h : rest m e ≠ 0) : e < 0 ∧ rest m e < 9007199254740992 := by
  unfold rest at *
  rcases Int.lt_or_le e 0 with he | he
  · refine ⟨he, ?_⟩
    rw [show e.toNat = 0 by omega, Nat.pow_zero, Nat.mul_one]
    exact Nat.lt_of_le_of_lt (Nat.mod_le _ _) hm
  · rw [show (-e).toNat = 0 by omega, Nat.pow_zero, Nat.mod_one] at h
    exact (h rfl).elim
theorem read_half : f64.read 4602678819172646912 = .number false 4503599627370496 (-53) := by decide
/-- the rest, against a half -/
theorem sub_floor {x m : Nat} {e : Int} (h : f64.read x = .number false m e) (hN : below m e < 9223372036854775808) :
    ∃ r, f64.sub x (floorS x) = some r ∧ f64.order r 4602678819172646912 = some (compare (2 * rest m e) (2 ^ (-e).toNat)) := by
  obtain ⟨b1, b2, b3, b4⟩ := read_bounds h
  obtain ⟨q, last, hr, l1, l2, hq, l3⟩ := read_floor b1 b2 hN
  rw [← floorS_eq h] at hr
  have ht := total_rest hq
  generalize hb : min e last = base at *
  have hbe : base ≤ e := by omega
  have hsub : f64.sub x (floorS x) = some (f64.nearest false (rest m e * 2 ^ (e - base).toNat) base) := by
    unfold Ieee.Format.sub
    rw [h, hr]
    simp only [Ieee.Datum.opposite, Ieee.Datum.sum, Bool.not_false, Option.map_some, Ieee.Format.write, hb, Ieee.signed, Nat.shiftLeft_eq, Bool.false_eq_true, if_false, if_true]
    rw [ht]
    have e0 : (((q * 2 ^ (last - base).toNat + rest m e * 2 ^ (e - base).toNat : Nat) : Int) + -((q * 2 ^ (last - base).toNat : Nat) : Int)) = ((rest m e * 2 ^ (e - base).toNat : Nat) : Int) := by omega
    rw [e0, Int.natAbs_natCast]
    congr 2
    split
    · rfl
    · exact decide_eq_false (by omega)
  rw [hsub]
  refine ⟨_, rfl, ?_⟩
  unfold Ieee.Format.order
  rw [read_half]
  rcases Nat.eq_zero_or_pos (rest m e) with h0 | h0
  · rw [h0, Nat.zero_mul]
    have : f64.read (f64.nearest false 0 base) = .number false 0 (-1074) := by
      unfold Ieee.Format.nearest; rw [if_pos rfl]; decide
    rw [this, Nat.mul_zero, Nat.compare_eq_lt.2 (Nat.two_pow_pos _)]
    rfl
  · obtain ⟨he, hlt⟩ := rest_lt b1 (Nat.ne_of_gt h0)
    generalize hR : rest m e = R at *
    have hlog : (R * 2 ^ (e - base).toNat).log2 = R.log2 + (e - base).toNat := by
      refine Nat.log2_eq_iff (by have := Nat.mul_pos h0 (Nat.two_pow_pos (e - base).toNat); omega) |>.2 ⟨?_, ?_⟩
      · rw [Nat.pow_add]; exact Nat.mul_le_mul_right _ (Nat.log2_self_le (by omega))
      · rw [show R.log2 + (e - base).toNat + 1 = (R.log2 + 1) + (e - base).toNat by omega, Nat.pow_add]
        exact Nat.mul_lt_mul_of_pos_right Nat.lt_log2_self (Nat.two_pow_pos _)
    have hl52 : R.log2 < 53 := (Nat.log2_lt (by omega)).2 (by omega)
    generalize hlast' : max (e + R.log2 - 52) (-1074) = last'
    have hle : last' ≤ e := by omega
    have hq' : R * 2 ^ (e - base).toNat * 2 ^ (base - last').toNat = (R * 2 ^ (e - last').toNat) * 2 ^ (last' - base).toNat := by
      rw [Nat.mul_assoc, Nat.mul_assoc, ← Nat.pow_add, ← Nat.pow_add]
      congr 2; omega
    have hrd := read_nearest (neg := false) (mag := R * 2 ^ (e - base).toNat) (place := base) (last := last') (q := R * 2 ^ (e - last').toNat) (Nat.mul_pos h0 (Nat.two_pow_pos _)) (by rw [hlog]; omega) (by omega) hq'
    rw [hrd]
    simp only [Ieee.Datum.order, Ieee.signed, Bool.false_eq_true, if_false, Nat.shiftLeft_eq, Option.some.injEq]
    generalize hb2 : min last' (-53) = b
    have e1 : R * 2 ^ (e - last').toNat * 2 ^ (last' - b).toNat = R * 2 ^ (e - b).toNat := by
      rw [Nat.mul_assoc, ← Nat.pow_add]; congr 2; omega
    have e2 : 4503599627370496 * 2 ^ (-53 - b).toNat = 2 ^ (-1 - b).toNat := by
      rw [show (4503599627370496 : Nat) = 2 ^ 52 by decide, ← Nat.pow_add]; congr 1; omega
    rw [e1, e2]
    have c1 := cmp_mul (a := R * 2 ^ (e - b).toNat) (b := 2 ^ (-1 - b).toNat) (c := 1) (by decide)
    have c2 := cmp_mul (a := R * 2 ^ (e - b).toNat) (b := 2 ^ (-1 - b).toNat) (c := 2) (by decide)
    have c3 := cmp_mul (a := 2 * R) (b := 2 ^ (-e).toNat) (c := 2 ^ (e - b).toNat) (Nat.two_pow_pos _)
    rw [Nat.mul_one, Nat.mul_one] at c1
    have e3 : 2 * R * 2 ^ (e - b).toNat = R * 2 ^ (e - b).toNat * 2 := by rw [Nat.mul_comm 2 R, Nat.mul_assoc, Nat.mul_assoc, Nat.mul_comm 2]
    have e4 : 2 ^ (-e).toNat * 2 ^ (e - b).toNat = 2 ^ (-1 - b).toNat * 2 := by
      rw [← Nat.pow_add, ← Nat.pow_succ]; congr 1; omega
    rw [e3, e4, c2] at c3
    rw [c1, c3]
end Go.Proofs.YtnljcdplcloedaaGreatDoor
end
section
namespace Go.Proofs.YtnljcdplcloedaaGreatDoor
open Go Go.Tn Go.RowKit
set_option linter.unusedVariables false
set_option linter.unusedSimpArgs false
theorem read_mag (x : Nat) : f64.read (x % 9223372036854775808) = match f64.read x with | .number _ m e => .number false m e | .infinity _ => .infinity false | .nan _ t => .nan false t := by
  unfold Ieee.Format.read
  simp only [sw64, bin64, inf64, lp64]
  have h1 : x % 9223372036854775808 / 9223372036854775808 % 2 = 0 := by omega
  have h2 : x % 9223372036854775808 % 9223372036854775808 = x % 9223372036854775808 := by omega
  rw [h1, h2]
  split
  · rfl
  · split
    · rfl
    · split <;> rfl
theorem read_2_63 : f64.read 4890909195324358656 = .number false 4503599627370496 11 := by decide
theorem order_lt {y : Nat} (h : (f64.order y 4890909195324358656 == some .lt) = true) (hs : ∀ s, f64.read y ≠ .infinity s) (hneg : ∀ m e, f64.read y ≠ .number true m e) : ∃ m e, f64.read y = .number false m e ∧ below m e < 9223372036854775808 := by
  unfold Ieee.Format.order at h
  rw [read_2_63] at h
  cases hr : f64.read y with
  | nan s t => rw [hr] at h; simp [Ieee.Datum.order] at h
  | infinity s => exact (hs s hr).elim
  | number s m e =>
    cases s with
    | true => exact (hneg m e hr).elim
    | false =>
      rw [hr] at h
      refine ⟨m, e, rfl, ?_⟩
      simp only [Ieee.Datum.order, Ieee.signed, Bool.false_eq_true, if_false, Nat.shiftLeft_eq, beq_iff_eq, Option.some.injEq] at h
      rw [Int.compare_eq_lt] at h
      have h : m * 2 ^ (e - min e 11).toNat < 4503599627370496 * 2 ^ (11 - min e 11).toNat := by omega
      unfold below
      rcases Int.lt_or_le e 0 with he | he
      · rw [show e.toNat = 0 by omega, Nat.pow_zero, Nat.mul_one]
        rw [Int.min_eq_left (by omega), show (e - e).toNat = 0 by omega, Nat.pow_zero, Nat.mul_one, show (11 - e).toNat = 11 + (-e).toNat by omega, Nat.pow_add, ← Nat.mul_assoc] at h
        exact (Nat.div_lt_iff_lt_mul (Nat.two_pow_pos _)).2 h
      · rw [show (-e).toNat = 0 by omega, Nat.pow_zero, Nat.div_one]
        rcases Int.le_total e 11 with h11 | h11
        · rw [Int.min_eq_left h11, show (e - e).toNat = 0 by omega, Nat.pow_zero, Nat.mul_one] at h
          have h2 := Nat.mul_lt_mul_of_pos_right h (Nat.two_pow_pos e.toNat)
          rw [Nat.mul_assoc, ← Nat.pow_add, show (11 - e).toNat + e.toNat = 11 by omega] at h2
          omega
        · rw [Int.min_eq_right h11, show ((11 : Int) - 11).toNat = 0 by omega, Nat.pow_zero, Nat.mul_one] at h
          rw [show e.toNat = (e - 11).toNat + 11 by omega, Nat.pow_add, ← Nat.mul_assoc]
          omega
/-- bits but the sign -/
theorem andNot_sign (x : Nat) : bitsI .andNot .u64 (x : Int) 9223372036854775808 = ((x % 9223372036854775808 : Nat) : Int) := by
  show IntKind.wrap .u64 ((BitVec.ofInt (IntKind.bits .u64) (x : Int) &&& ~~~ BitVec.ofInt (IntKind.bits .u64) 9223372036854775808).toNat : Int) = _
  have e1 : BitVec.ofInt (IntKind.bits .u64) (x : Int) = BitVec.ofNat 64 x := by simp [IntKind.bits]
  have e2 : ~~~ BitVec.ofInt (IntKind.bits .u64) 9223372036854775808 = BitVec.ofNat 64 9223372036854775807 := (by decide : ~~~ BitVec.ofInt 64 9223372036854775808 = BitVec.ofNat 64 9223372036854775807)
  have e3 : (BitVec.ofInt (IntKind.bits .u64) (x : Int) &&& ~~~ BitVec.ofInt (IntKind.bits .u64) 9223372036854775808).toNat = x % 9223372036854775808 := by
    rw [e1, e2]
    show (BitVec.ofNat 64 x &&& BitVec.ofNat 64 9223372036854775807).toNat = _
    rw [BitVec.toNat_and, BitVec.toNat_ofNat, BitVec.toNat_ofNat]
    rw [show (9223372036854775807 : Nat) % 2 ^ 64 = 2 ^ 63 - 1 by decide, Nat.and_two_pow_sub_one_eq_mod]
    omega
  rw [e3, IntKind.wrap_u64]
  omega
end Go.Proofs.YtnljcdplcloedaaGreatDoor
end
section
namespace Go.Proofs.YtnljcdplcloedaaGreatDoor
open Go Go.Tn Go.RowKit
set_option linter.unusedVariables false
set_option linter.unusedSimpArgs false
theorem cut_even_le (n drop : Nat) (neg : Bool) : Ieee.Toward.even.cut neg n drop ≤ n / 2 ^ drop + 1 ∧ n / 2 ^ drop ≤ Ieee.Toward.even.cut neg n drop := by
  have h : n / 1 <<< min drop (n.log2 + 2) = n / 2 ^ drop := by
    have := (cut_div n drop).1
    unfold Ieee.Toward.cut at this
    simp only [Bool.false_and, Bool.toNat_false, Nat.add_zero] at this
    exact this
  unfold Ieee.Toward.cut
  simp only [h]
  constructor
  · exact Nat.add_le_add_left (Bool.toNat_le _) _
  · omega
/-- a whole number below 2^64 is a number as a float, and not nought if it isn't -/
theorem read_int {neg : Bool} {n : Nat} (h0 : 0 < n) (hn : n < 18446744073709551616) : ∃ m e, f64.read (f64.nearest neg n 0) = .number neg m e ∧ 4503599627370496 ≤ m := by
  have hl : n.log2 < 64 := (Nat.log2_lt (by omega)).2 (by omega)
  have hl1 : 2 ^ n.log2 ≤ n := Nat.log2_self_le (by omega)
  have hl2 : n < 2 ^ (n.log2 + 1) := Nat.lt_log2_self
  generalize hL : n.log2 = L at *
  have hfb : (f64.fractionBits : Int) = 52 := by decide
  have hlast : max ((0 : Int) + n.log2 - 52) (-1074) = (L : Int) - 52 := by rw [hL]; omega
  have hk : 4503599627370496 ≤ Ieee.Toward.even.cut neg (n <<< ((0 : Int) - ((L : Int) - 52)).toNat) (((L : Int) - 52) - 0).toNat ∧
      Ieee.Toward.even.cut neg (n <<< ((0 : Int) - ((L : Int) - 52)).toNat) (((L : Int) - 52) - 0).toNat ≤ 9007199254740992 := by
    obtain ⟨c1, c2⟩ := cut_even_le (n <<< ((0 : Int) - ((L : Int) - 52)).toNat) (((L : Int) - 52) - 0).toNat neg
    have : 4503599627370496 ≤ n <<< ((0 : Int) - ((L : Int) - 52)).toNat / 2 ^ (((L : Int) - 52) - 0).toNat ∧ n <<< ((0 : Int) - ((L : Int) - 52)).toNat / 2 ^ (((L : Int) - 52) - 0).toNat < 9007199254740992 := by
      rw [Nat.shiftLeft_eq]
      rcases Nat.lt_or_ge 52 L with h52 | h52
      · rw [show ((0 : Int) - ((L : Int) - 52)).toNat = 0 by omega, show (((L : Int) - 52) - 0).toNat = L - 52 by omega, Nat.pow_zero, Nat.mul_one]
        constructor
        · rw [Nat.le_div_iff_mul_le (Nat.two_pow_pos _), show (4503599627370496 : Nat) = 2 ^ 52 by decide, ← Nat.pow_add, show 52 + (L - 52) = L by omega]; exact hl1
        · rw [Nat.div_lt_iff_lt_mul (Nat.two_pow_pos _), show (9007199254740992 : Nat) = 2 ^ 53 by decide, ← Nat.pow_add, show 53 + (L - 52) = L + 1 by omega]; exact hl2
      · rw [show ((0 : Int) - ((L : Int) - 52)).toNat = 52 - L by omega, show (((L : Int) - 52) - 0).toNat = 0 by omega, Nat.pow_zero, Nat.div_one]
        have e1 : 2 ^ L * 2 ^ (52 - L) = 4503599627370496 := by rw [← Nat.pow_add, show L + (52 - L) = 52 by omega]
        have e2 : 2 ^ (L + 1) * 2 ^ (52 - L) = 9007199254740992 := by rw [← Nat.pow_add, show L + 1 + (52 - L) = 53 by omega]
        constructor
        · rw [← e1]; exact Nat.mul_le_mul_right _ hl1
        · rw [← e2]; exact Nat.mul_lt_mul_of_pos_right hl2 (Nat.two_pow_pos _)
    omega
  have hw : f64.nearest neg n 0 = f64.word neg (((L : Int) - 52 + 1074).toNat * 4503599627370496 + Ieee.Toward.even.cut neg (n <<< ((0 : Int) - ((L : Int) - 52)).toNat) (((L : Int) - 52) - 0).toNat) := by
    unfold Ieee.Format.nearest
    rw [if_neg (by omega)]
    simp only [lp64, bin64, inf64, hfb, hlast]
    rw [show ((L : Int) - 52 - -1074).toNat = ((L : Int) - 52 + 1074).toNat by rw [Int.sub_neg], Nat.min_eq_left]
    have : ((L : Int) - 52 + 1074).toNat ≤ 1085 := by omega
    omega
  generalize Ieee.Toward.even.cut neg (n <<< ((0 : Int) - ((L : Int) - 52)).toNat) (((L : Int) - 52) - 0).toNat = k at hk hw
  rw [hw]
  generalize hE : ((L : Int) - 52 + 1074).toNat = E
  have hE2 : E ≤ 1085 := by omega
  rcases Nat.lt_or_ge k 9007199254740992 with hk2 | hk2
  · exact ⟨_, _, read_word (by omega) hk2 (.inl hk.1), hk.1⟩
  · have : k = 9007199254740992 := by omega
    subst this
    rw [show E * 4503599627370496 + 9007199254740992 = (E + 1) * 4503599627370496 + 4503599627370496 by omega]
    exact ⟨_, _, read_word (by omega) (by omega) (.inl (Nat.le_refl _)), Nat.le_refl _⟩
theorem nearest_pos {n : Int} (h0 : 0 < n) (hn : n < 18446744073709551616) : ∃ m e, f64.read (FloatKind.nearest .f64 n) = .number false m e ∧ 4503599627370496 ≤ m := by
  have h := read_int (neg := false) (n := n.natAbs) (by omega) (by omega)
  have e : FloatKind.nearest .f64 n = f64.nearest false n.natAbs 0 := by
    show f64.write (.number (decide (n < 0)) n.natAbs 0) = _
    rw [decide_eq_false (by omega)]; rfl
  rw [e]; exact h
theorem nearest_num {n : Int} (hn : -18446744073709551616 < n ∧ n < 18446744073709551616) : ∃ s m e, f64.read (FloatKind.nearest .f64 n) = .number s m e := by
  have e : FloatKind.nearest .f64 n = f64.nearest (decide (n < 0)) n.natAbs 0 := rfl
  rw [e]
  rcases Nat.eq_zero_or_pos n.natAbs with h | h
  · have : n = 0 := by omega
    subst this
    exact ⟨_, _, _, (by decide : f64.read (f64.nearest (decide ((0 : Int) < 0)) (0 : Int).natAbs 0) = .number false 0 (-1074))⟩
  · obtain ⟨m, e, h, _⟩ := read_int (neg := decide (n < 0)) h (by omega)
    exact ⟨_, _, _, h⟩
theorem div_int {k n : Int} (hk : -18446744073709551616 < k ∧ k < 18446744073709551616) (h0 : 0 < n) (hn : n < 18446744073709551616) : ∃ r, f64.div (FloatKind.nearest .f64 k) (FloatKind.nearest .f64 n) = some r := by
  obtain ⟨s, m, e, h⟩ := nearest_num hk
  obtain ⟨m', e', h', hm⟩ := nearest_pos h0 hn
  unfold Ieee.Format.div
  rw [h, h']
  simp only [Ieee.Datum.quotient]
  rw [if_neg (by omega)]
  exact ⟨_, rfl⟩
theorem fres_of_some {o : Option Nat} {r : Nat} (h : FRes o r) (hs : ∃ s, o = some s) : r = fr o := by
  obtain ⟨s, rfl⟩ := hs
  exact h
end Go.Proofs.YtnljcdplcloedaaGreatDoor
end
section
namespace Go.Proofs.YtnljcdplcloedaaGreatDoor
open Go Go.Tn Go.RowKit
set_option linter.unusedVariables false
set_option linter.unusedSimpArgs false
set_option maxRecDepth 100000

theorem u144 : Tryz.prog.underlying 144 = some (.array 3 3) := by kernel_rfl
theorem u3 : Tryz.prog.underlying 3 = some (.int .i64) := by kernel_rfl
theorem part3 (W : World) (cs : Array Value) (i : Nat) (v : Value) (h : cs.toList[i]? = some v) : (part 3 cs i).run Tryz.prog W = .ok v W :=
  run_part (C := cx W [] []) tabOk (t := 3) (by show partX (cx W [] []) 3 cs.toList i = some v; rw [← h]; kernel_rfl)
theorem size3 (W : World) : (sizeOf 3).run Tryz.prog W = .ok 1 W := Tn.run_sizeOf (C := cx W [] []) tabOk (t := 3) (i := ⟨.int .i64, 1, 8, some (.int .i64 0)⟩) (by kernel_rfl)
section
variable {P : Program} (h144 : P.underlying 144 = some (.array 3 3)) (h3 : P.underlying 3 = some (.int .i64)) (hz : ∀ W, (sizeOf 3).run P W = .ok 1 W)
  (hp : ∀ W (cs : Array Value) (i : Nat) (v : Value), cs.toList[i]? = some v → (part 3 cs i).run P W = .ok v W) (hg : P.eqGuardType P.depth 144 = false)
include h3 in
theorem eqi (W : World) (d : Nat) (a b : Int) : (Op.equalIn (d + 1) 3 (.int .i64 a) (.int .i64 b)).run P W = .ok (a == b) W := by
  simp [Op.equalIn, run_underlying h3]
include h144 h3 hz hp hg in
theorem eq_way_gen (W : World) (x y : Operand) (a b c d e f : Int) :
    (do eqGuard .eql 144 x y (.agg ⟨[.int .i64 a, .int .i64 b, .int .i64 c]⟩) (.agg ⟨[.int .i64 d, .int .i64 e, .int .i64 f]⟩); binOp .eql 144 (.agg ⟨[.int .i64 a, .int .i64 b, .int .i64 c]⟩) (.agg ⟨[.int .i64 d, .int .i64 e, .int .i64 f]⟩)).run P W = .ok (.bool (a == d && (b == e && c == f))) W := by
  have p0 : ∀ (a b c : Int), (part 3 ⟨[.int .i64 a, .int .i64 b, .int .i64 c]⟩ 0).run P W = .ok (.int .i64 a) W := fun a b c => hp W _ 0 _ rfl
  have p1 : ∀ (a b c : Int), (part 3 ⟨[.int .i64 a, .int .i64 b, .int .i64 c]⟩ 1).run P W = .ok (.int .i64 b) W := fun a b c => hp W _ 1 _ rfl
  have p2 : ∀ (a b c : Int), (part 3 ⟨[.int .i64 a, .int .i64 b, .int .i64 c]⟩ 2).run P W = .ok (.int .i64 c) W := fun a b c => hp W _ 2 _ rfl
  have hg' : (eqGuard .eql 144 x y (.agg ⟨[.int .i64 a, .int .i64 b, .int .i64 c]⟩) (.agg ⟨[.int .i64 d, .int .i64 e, .int .i64 f]⟩)).run P W = .ok () W := by
    simp [eqGuard, hg]
  rw [Sem.run_bind, hg', Result.andThen_ok]
  simp only [binOp, Sem.run_bind, Op.equal]
  show ((Op.equalIn (9998 + 1 + 1) 144 _ _).run P W).andThen _ = _
  generalize 9998 = n
  rw [Op.equalIn]
  simp only [Sem.run_bind, run_underlying h144, Result.andThen_ok, hz]
  simp only [Std.Legacy.Range.forIn_eq_forIn_range', Std.Legacy.Range.size, List.range', Nat.sub_zero, Nat.add_sub_cancel, Nat.div_one, List.forIn_cons, List.forIn_nil, Sem.run_bind, Nat.zero_add, Nat.mul_one, Nat.zero_mul, p0, p1, p2, eqi h3, Result.andThen_ok]
  cases q1 : (a == d) <;> cases q2 : (b == e) <;> cases q3 : (c == f) <;> simp [p1, p2, eqi h3, q2, q3]
end
theorem eq_way {w0 : World} {mt dyn : List Nat} {loc : Tn.Loc} {own : Own} (x y : Operand) (a b c d e f : Int) :
    OpV (cx w0 mt dyn) loc own (do eqGuard .eql 144 x y (.agg ⟨[.int .i64 a, .int .i64 b, .int .i64 c]⟩) (.agg ⟨[.int .i64 d, .int .i64 e, .int .i64 f]⟩); binOp .eql 144 (.agg ⟨[.int .i64 a, .int .i64 b, .int .i64 c]⟩) (.agg ⟨[.int .i64 d, .int .i64 e, .int .i64 f]⟩)) (.bool (a == d && (b == e && c == f))) :=
  fun W _ => eq_way_gen (P := Tryz.prog) u144 u3 size3 part3 (by kernel_rfl) W x y a b c d e f
/-! frames -/
def fR (face : Int) (k : Nat) : Int := frTab.getD (face.toNat * 9 + k) 0
section
variable {w0 : World} {mt dyn : List Nat} {loc : Tn.Loc} {own : Own}
theorem ldF9 (hL : Laid w0) (hm : 0 ∉ mt) {face : Int} (h : 0 ≤ face ∧ face < 6) : LoadsTo (cx w0 mt dyn) loc own 146 (Addr.add ⟨0, 0, none⟩ (Int.toNat face * 9))
    (.agg ⟨[.int .i64 (fR face 0), .int .i64 (fR face 1), .int .i64 (fR face 2), .int .i64 (fR face 3), .int .i64 (fR face 4), .int .i64 (fR face 5), .int .i64 (fR face 6), .int .i64 (fR face 7), .int .i64 (fR face 8)]⟩) := by
  obtain ⟨⟨t, fr, h0⟩, _⟩ := hL
  have : face = 0 ∨ face = 1 ∨ face = 2 ∨ face = 3 ∨ face = 4 ∨ face = 5 := by omega
  rcases this with rfl | rfl | rfl | rfl | rfl | rfl <;> exact loads_keep h0 hm (by kernel_rfl)
theorem ldF3 (hL : Laid w0) (hm : 0 ∉ mt) {face : Int} (h : 0 ≤ face ∧ face < 6) : LoadsTo (cx w0 mt dyn) loc own 144 (Addr.add (Addr.add ⟨0, 0, none⟩ (Int.toNat face * 9)) (Int.toNat (0 : Int) * 3))
    (.agg ⟨[.int .i64 (fR face 0), .int .i64 (fR face 1), .int .i64 (fR face 2)]⟩) := by
  obtain ⟨⟨t, fr, h0⟩, _⟩ := hL
  have : face = 0 ∨ face = 1 ∨ face = 2 ∨ face = 3 ∨ face = 4 ∨ face = 5 := by omega
  rcases this with rfl | rfl | rfl | rfl | rfl | rfl <;> exact loads_keep h0 hm (by kernel_rfl)
/-- one number of the other table -/
theorem ldG1 (hL : Laid w0) (hm : 2 ∉ mt) {face i a : Int} (h : 0 ≤ face ∧ face < 6) (hi : 0 ≤ i ∧ i < 3) (ha : 0 ≤ a ∧ a < 3) :
    LoadsTo (cx w0 mt dyn) loc own 3 (Addr.add (Addr.add (Addr.add ⟨2, 0, none⟩ (Int.toNat face * 9)) (Int.toNat i * 3)) (Int.toNat a * 1)) (.int .i64 (fR face (i.toNat * 3 + a.toNat))) := by
  obtain ⟨_, ⟨t, fr, h0⟩⟩ := hL
  have h1 : face = 0 ∨ face = 1 ∨ face = 2 ∨ face = 3 ∨ face = 4 ∨ face = 5 := by omega
  have h2 : i = 0 ∨ i = 1 ∨ i = 2 := by omega
  have h3 : a = 0 ∨ a = 1 ∨ a = 2 := by omega
  rcases h1 with rfl | rfl | rfl | rfl | rfl | rfl <;> rcases h2 with rfl | rfl | rfl <;> rcases h3 with rfl | rfl | rfl <;> exact loads_keep h0 hm (by kernel_rfl)
end
end Go.Proofs.YtnljcdplcloedaaGreatDoor
end
section
namespace Go.Proofs.YtnljcdplcloedaaGreatDoor
open Go Go.Tn Go.RowKit
set_option linter.unusedVariables false
set_option linter.unusedSimpArgs false
set_option maxRecDepth 100000

abbrev PM := List ((Int × Int) × Int)
def keyV (k : Int × Int) : Value := .agg ⟨[.int .i64 k.1, .int .i64 k.2]⟩
def MapIs (es : List MapEntry) (l : PM) : Prop := es.map (fun e => (e.key, e.val)) = l.map fun p => (keyV p.1, Value.int .i64 p.2)
def findP (k : Int × Int) : PM → Nat → Option (Nat × Int)
  | [], _ => none
  | p :: r, i => cond (k.1 == p.1.1 && k.2 == p.1.2) (some (i, p.2)) (findP k r (i + 1))
def updP (l : PM) (k : Int × Int) (n : Int) : PM := match findP k l 0 with | some (i, _) => l.set i (k, n) | none => l ++ [(k, n)]
theorem findP_le {k : Int × Int} {l : PM} : ∀ {i j : Nat} {n : Int}, findP k l i = some (j, n) → i ≤ j ∧ l[j - i]? = some (k, n) := by
  induction l with
  | nil => intro i j n h; cases h
  | cons p r ih =>
    intro i j n h
    rw [findP] at h
    cases hc : (k.1 == p.1.1 && k.2 == p.1.2)
    · rw [hc, cond_false] at h
      obtain ⟨h1, h2⟩ := ih h
      refine ⟨by omega, ?_⟩
      rw [show j - i = (j - (i + 1)) + 1 by omega]
      simpa using h2
    · rw [hc, cond_true] at h
      cases h
      simp only [Bool.and_eq_true, beq_iff_eq] at hc
      refine ⟨Nat.le_refl _, ?_⟩
      rw [Nat.sub_self]
      obtain ⟨⟨a, b⟩, c⟩ := p
      obtain ⟨a', b'⟩ := k
      simp only at hc
      simp [hc.1, hc.2]
section
variable {P : Program} (hu : P.underlying 156 = some (.struct (P.fieldsOf 156))) (hf : (P.fieldsOf 156).toList.map (fun f => (f.name == "_", f.type, f.offset)) = [(false, 3, 0), (false, 3, 1)]) (h3 : P.underlying 3 = some (.int .i64))
  (hp : ∀ W (cs : Array Value) (i : Nat) (v : Value), cs.toList[i]? = some v → (part 3 cs i).run P W = .ok v W) (hs : P.stoodInHeld 156 = false)
include hu hf h3 hp hs
theorem eq_pair (W : World) (d : Nat) (k q : Int × Int) : (Op.equalIn (d + 1 + 1) 156 (keyV k) (keyV q)).run P W = .ok (k.1 == q.1 && k.2 == q.2) W := by
  unfold keyV
  rw [run_equalIn_struct W (d + 1) 156 _ _ hu hs]
  obtain ⟨f, g, hfg⟩ : ∃ f g, (P.fieldsOf 156).toList = [f, g] := by
    match h : (P.fieldsOf 156).toList, hf with
    | [f, g], _ => exact ⟨f, g, rfl⟩
    | [], hf => simp at hf
    | [_], hf => simp at hf
    | _ :: _ :: _ :: _, hf => simp at hf
  rw [hfg] at hf ⊢
  simp only [List.map_cons, List.map_nil, List.cons.injEq, Prod.mk.injEq, and_true, beq_eq_false_iff_ne] at hf
  obtain ⟨⟨a1, a2, a3⟩, b1, b2, b3⟩ := hf
  have p0 : ∀ (a b : Int), (part 3 ⟨[.int .i64 a, .int .i64 b]⟩ 0).run P W = .ok (.int .i64 a) W := fun a b => hp W _ 0 _ rfl
  have p1 : ∀ (a b : Int), (part 3 ⟨[.int .i64 a, .int .i64 b]⟩ 1).run P W = .ok (.int .i64 b) W := fun a b => hp W _ 1 _ rfl
  simp only [Op.eqFields, if_pos a1, if_pos b1, a2, a3, b2, b3, Sem.run_bind, p0, p1, Result.andThen_ok, eqi h3]
  cases q1 : (k.1 == q.1) <;> cases q2 : (k.2 == q.2) <;> simp [p1, eqi h3, q2]
omit hs in
theorem check_pair (W : World) (e : Bool) (k : Int × Int) : (Instr.checkKey e 10000 156 (keyV k)).run P W = .ok () W := by
  unfold keyV
  show (Instr.checkKey e (9998 + 1 + 1) 156 _).run P W = _
  generalize 9998 = n
  rw [Instr.checkKey]
  simp only [Sem.run_bind, run_underlying hu, Result.andThen_ok]
  obtain ⟨f, g, hfg⟩ : ∃ f g, (P.fieldsOf 156).toList = [f, g] := by
    match h : (P.fieldsOf 156).toList, hf with
    | [f, g], _ => exact ⟨f, g, rfl⟩
    | [], hf => simp at hf
    | [_], hf => simp at hf
    | _ :: _ :: _ :: _, hf => simp at hf
  rw [hfg] at hf
  simp only [List.map_cons, List.map_nil, List.cons.injEq, Prod.mk.injEq, and_true, beq_eq_false_iff_ne] at hf
  obtain ⟨⟨a1, a2, a3⟩, b1, b2, b3⟩ := hf
  have p0 : ∀ (a b : Int), (part 3 ⟨[.int .i64 a, .int .i64 b]⟩ 0).run P W = .ok (.int .i64 a) W := fun a b => hp W _ 0 _ rfl
  have p1 : ∀ (a b : Int), (part 3 ⟨[.int .i64 a, .int .i64 b]⟩ 1).run P W = .ok (.int .i64 b) W := fun a b => hp W _ 1 _ rfl
  have c3 : ∀ a : Int, (Instr.checkKey e (n + 1) 3 (.int .i64 a)).run P W = .ok () W := fun a => by
    rw [Instr.checkKey]; simp [run_underlying h3]
  rw [← Array.forIn_toList, hfg]
  simp [a1, a2, a3, b1, b2, b3, p0, p1, c3]
theorem find_pair (W : World) (k : Int × Int) (es : List MapEntry) : ∀ (l : PM) (i : Nat), MapIs es l → (Instr.findAsking 156 (keyV k) es i).run P W = .ok ((findP k l i).map fun q => (q.1, Value.int .i64 q.2)) W := by
  induction es with
  | nil => intro l i h; cases l with | nil => simp [Instr.findAsking, findP] | cons => simp [MapIs] at h
  | cons e es ih =>
    intro l i h
    cases l with
    | nil => simp [MapIs] at h
    | cons p r =>
      simp only [MapIs, List.map_cons, List.cons.injEq, Prod.mk.injEq] at h
      obtain ⟨⟨h1, h2⟩, h4⟩ := h
      simp only [Instr.findAsking, Sem.run_bind, Op.equal, h1, h2, findP]
      show ((Op.equalIn (9998 + 1 + 1) 156 _ _).run P W).andThen _ = _
      rw [eq_pair hu hf h3 hp hs]
      simp only [Result.andThen_ok]
      cases (k.1 == p.1.1 && k.2 == p.1.2)
      · simp only [Bool.false_eq_true, if_false, cond_false]; exact ih r (i + 1) h4
      · simp
theorem findKey_pair (W : World) (k : Int × Int) (es : List MapEntry) (l : PM) (h : MapIs es l) : (Instr.findKey 156 (keyV k) es).run P W = .ok ((findP k l 0).map fun q => (q.1, Value.int .i64 q.2)) W := by
  unfold Instr.findKey
  simp only [Sem.run_bind, run_underlying hu, Result.andThen_ok]
  cases es with
  | nil => cases l with | nil => simp [Instr.findNow, findP] | cons => simp [MapIs] at h
  | cons e es =>
    have : Instr.findNow (.struct (P.fieldsOf 156)) (keyV k) (e :: es) 0 = none := by
      simp [Instr.findNow, Instr.sameNow, keyV]
    rw [this]
    exact find_pair hu hf h3 hp hs W k (e :: es) l 0 h
variable (h123 : P.underlying 123 = some (.map 156 3))
omit hu hf h3 hp hs in
theorem keeps_key (W : World) (k : Int × Int) : (Instr.keyThatStays (keyV k) (keyV k)).run P W = .ok (keyV k) W := by
  unfold Instr.keyThatStays
  have : Instr.sameBits 10000 (keyV k) (keyV k) = true := by
    show Instr.sameBits (9998 + 1 + 1) _ _ = true
    generalize 9998 = n
    simp [keyV, Instr.sameBits]
  rw [if_pos this, Sem.run_pure]
omit hu hf h3 hp hs in
def updE (es : Array MapEntry) (clock : Nat) (l : PM) (k : Int × Int) (n : Int) : Array MapEntry × Nat :=
  match findP k l 0 with
  | none => (es.push { key := keyV k, val := .int .i64 n, born := clock }, clock + 1)
  | some q => (es.modify q.1 (fun e => { e with key := keyV k, val := .int .i64 n }), clock)
include h123
theorem run_update (W : World) {b : Nat} {es : Array MapEntry} {clock : Nat} {l : PM} (hb : W.heap[b]? = some (.map es clock)) (h : MapIs es.toList l) (k : Int × Int) (n : Int) :
    (Instr.mapUpdate 123 (.map (some b)) (keyV k) (.int .i64 n)).run P W = .ok () { W with heap := W.heap.setIfInBounds b (.map (updE es clock l k n).1 (updE es clock l k n).2) } ∧ MapIs (updE es clock l k n).1.toList (updP l k n) := by
  unfold Instr.mapUpdate updE
  simp only [Sem.run_bind, run_underlying h123, Result.andThen_ok, MapKept.run_getObj_map hb, check_pair hu hf h3 hp, findKey_pair hu hf h3 hp hs W k es.toList l h]
  cases hfind : findP k l 0 with
  | none =>
    refine ⟨by simp [MapKept.run_setObj_map _ hb], ?_⟩
    unfold MapIs updP at *
    rw [hfind]
    simp [h]
  | some q =>
    obtain ⟨i, v⟩ := q
    obtain ⟨_, hi⟩ := findP_le hfind
    rw [Nat.sub_zero] at hi
    have hlen : es.toList.length = l.length := by have := congrArg List.length h; simpa using this
    have hil : i < l.length := by rcases Nat.lt_or_ge i l.length with h | h; exact h; rw [List.getElem?_eq_none h] at hi; cases hi
    have hie : i < es.toList.length := by omega
    have hkey : ((es[i]?).map (·.key)).getD (keyV k) = keyV k := by
      have h1 := congrArg (fun x => x[i]?) h
      simp only [List.getElem?_map, hi, Option.map_some] at h1
      rw [Array.getElem?_toList] at h1
      cases he : es[i]? with
      | none => rfl
      | some e => rw [he] at h1; simp at h1; simp [h1.1]
    refine ⟨?_, ?_⟩
    · simp [hkey, keeps_key, MapKept.run_setObj_map _ hb]
    · unfold MapIs updP at *
      rw [hfind]
      simp only
      apply List.ext_getElem?
      intro j
      have hj := congrArg (fun x => x[j]?) h
      simp only [List.getElem?_map, Array.getElem?_toList] at hj ⊢
      rw [Array.getElem?_modify, List.getElem?_set]
      by_cases hij : i = j
      · subst hij
        simp only [if_true, if_pos hil]
        rw [Array.getElem?_eq_getElem (by simpa using hie)]
        simp
      · rw [if_neg hij, if_neg hij]; exact hj
theorem run_look (hz : ∀ W, (zeroValue 3).run P W = .ok (.int .i64 0) W) (W : World) {b : Nat} {es : Array MapEntry} {clock : Nat} {l : PM} (hb : W.heap[b]? = some (.map es clock)) (h : MapIs es.toList l) (k : Int × Int) :
    (Instr.lookup 123 (.map (some b)) (keyV k) true).run P W = .ok (.tuple ⟨[.int .i64 (((findP k l 0).map (·.2)).getD 0), .bool (findP k l 0).isSome]⟩) W := by
  unfold Instr.lookup
  simp only [Sem.run_bind, run_underlying h123, Result.andThen_ok, MapKept.run_getObj_map hb, check_pair hu hf h3 hp, Sem.run_pure, findKey_pair hu hf h3 hp hs W k es.toList l h]
  cases findP k l 0 with
  | none => simp [hz]
  | some q => simp
end
theorem u156 : Tryz.prog.underlying 156 = some (.struct (Tryz.prog.fieldsOf 156)) := by kernel_rfl
theorem f156 : (Tryz.prog.fieldsOf 156).toList.map (fun f => (f.name == "_", f.type, f.offset)) = [(false, 3, 0), (false, 3, 1)] := by kernel_rfl
theorem u123 : Tryz.prog.underlying 123 = some (.map 156 3) := by kernel_rfl
theorem h156 : Tryz.prog.stoodInHeld 156 = false := by kernel_rfl
theorem zero3 (W : World) : (zeroValue 3).run Tryz.prog W = .ok (.int .i64 0) W := Tn.run_zeroValue (C := cx W [] []) tabOk (t := 3) (i := ⟨.int .i64, 1, 8, some (.int .i64 0)⟩) (by kernel_rfl) rfl
def IsMap (o : Obj) (l : PM) : Prop := ∃ es clock, o = .map es clock ∧ MapIs es.toList l
/-- a side written into the map -/
theorem upd_map {w0 : World} {mt dyn : List Nat} {loc : Tn.Loc} {own pre post : Own} {b : Nat} {o : Obj} {l : PM} (ho : own = pre ++ (b, o) :: post) (h : IsMap o l) (k : Int × Int) (n : Int) :
    ∃ o', IsMap o' (updP l k n) ∧ ∀ W, Sep w0 mt (ents loc own) W → ∃ W', (Instr.mapUpdate 123 (.map (some b)) (.agg ⟨[.int .i64 k.1, .int .i64 k.2]⟩) (.int .i64 n)).run Tryz.prog W = .ok () W' ∧ Sep w0 mt (ents loc (pre ++ (b, o') :: post)) W' := by
  obtain ⟨es, clock, rfl, hes⟩ := h
  subst ho
  refine ⟨.map (updE es clock l k n).1 (updE es clock l k n).2, ⟨_, _, rfl, ?_⟩, fun W hS => ?_⟩
  · have w1 : World := w0
    have := fun W hb => (run_update u156 f156 u3 part3 h156 u123 W (b := b) (clock := clock) hb hes k n).2
    exact this { w0 with heap := (Array.replicate b default).push (.map es clock) } (by rw [Array.getElem?_push]; simp)
  · have hS' : Sep w0 mt ((loc.map LB.ent ++ pre) ++ (b, (.map es clock : Obj)) :: post) W := by
      have : ents loc (pre ++ (b, .map es clock) :: post) = (loc.map LB.ent ++ pre) ++ (b, (.map es clock : Obj)) :: post := by simp [ents]
      rw [← this]; exact hS
    have hb : W.heap[b]? = some (.map es clock) := hS'.own _ _ (by simp)
    refine ⟨_, (run_update u156 f156 u3 part3 h156 u123 W hb hes k n).1, ?_⟩
    have e : ents loc (pre ++ (b, .map (updE es clock l k n).1 (updE es clock l k n).2) :: post) = (loc.map LB.ent ++ pre) ++ (b, (.map (updE es clock l k n).1 (updE es clock l k n).2 : Obj)) :: post := by simp [ents]
    rw [e]
    have hlt := lt_of_heap hb
    refine hS'.store ?_ ?_ ?_ rfl rfl rfl
    · simp [hlt]
    · intro c hc; simp [Array.getElem?_setIfInBounds, Ne.symm hc]
    · simp
/-- a side looked up -/
theorem look_map {w0 : World} {mt dyn : List Nat} {loc : Tn.Loc} {own : Own} {b : Nat} {o : Obj} {l : PM} (hb : ∀ W, Sep w0 mt (ents loc own) W → W.heap[b]? = some o) (h : IsMap o l) (k : Int × Int) :
    OpV (cx w0 mt dyn) loc own (Instr.lookup 123 (.map (some b)) (.agg ⟨[.int .i64 k.1, .int .i64 k.2]⟩) true) (.tuple ⟨[.int .i64 (((findP k l 0).map (·.2)).getD 0), .bool (findP k l 0).isSome]⟩) := by
  obtain ⟨es, clock, rfl, hes⟩ := h
  exact fun W hS => run_look u156 f156 u3 part3 h156 u123 zero3 W (hb W hS) hes k
end Go.Proofs.YtnljcdplcloedaaGreatDoor
end
section
namespace Go.Proofs.YtnljcdplcloedaaGreatDoor
open Go Go.Tn Go.RowKit
set_option linter.unusedVariables false
set_option linter.unusedSimpArgs false
set_option maxRecDepth 100000

/-- a list that is the call's own: n elements of sz cells each; the room behind them -/
def GS (v : Value) (blk : Own) (e : TypeId) (sz n : Nat) (xs : List Value) : Prop :=
  xs.length = n * sz ∧ ((v = .slice none 0 0 ∧ n = 0 ∧ blk = []) ∨
    ∃ g cap cur, v = .slice (some ⟨g, 0, none⟩) n cap ∧ blk = [(g, .cells ⟨cur⟩ e)] ∧ n ≤ cap ∧ cap ≤ maxLen ∧ cur.length = cap * sz ∧ cur.take (n * sz) = xs)
theorem gs_nil (e : TypeId) (sz : Nat) : GS (.slice none 0 0) [] e sz 0 [] := ⟨by simp, .inl ⟨rfl, rfl, rfl⟩⟩
theorem sep_drop {w0 W : World} {mt : List Nat} {a b c : Own} (h : Sep w0 mt (a ++ b ++ c) W) : Sep w0 mt (a ++ c) W :=
  h.sub (by rw [List.append_assoc]; exact (List.Sublist.refl a).append (List.sublist_append_right b c))
theorem cell_own {w0 W : World} {mt : List Nat} {l : Own} (hS : Sep w0 mt l W) {k : Nat} {cs : List Value} {t : TypeId} (h : (k, .cells ⟨cs⟩ t) ∈ l) (j : Nat) (u : Value) (hu : cs[j]? = some u) : W.cell? (Addr.add ⟨k, 0, none⟩ j) = some u := by
  rw [Tn.add_none, Nat.zero_add, cell_of_obj (hS.own _ _ h)]; exact hu
/-- what stands in the table of types of a list's elements -/
structure ElT (t e : TypeId) (sz bytes : Nat) : Prop where
  ht : Tryz.prog.underlying t = some (.slice e)
  hi : ∃ i z, Tryz.prog.info? e = some i ∧ i.zero = some z ∧ i.size = sz ∧ i.bytes = bytes ∧ z.cells.size = sz
  pos : 0 < sz
/-- an operation on memory of the call's own, with nothing beside -/
def OpG0 (C : Ctx) (loc : Tn.Loc) (own : Own) (s : Sem Value) (sh : Sh) (Φ : Value → Own → Prop) : Prop :=
  ∀ W, Sep C.w0 C.mt (ents loc own) W → ∃ v W', s.run C.P W = .ok v W' ∧ isS sh v ∧ ∃ own', Φ v own' ∧ Sep C.w0 C.mt (ents loc own') W'
theorem sep_less {w0 W : World} {mt : List Nat} {loc : Tn.Loc} {own fr : Own} (h : Sep w0 mt (ents loc (own ++ fr)) W) : Sep w0 mt (ents loc own) W :=
  h.sub (by unfold ents; exact (List.Sublist.refl _).append (List.sublist_append_left _ _))
theorem opg_of0 {C : Ctx} {loc : Tn.Loc} {own : Own} {s : Sem Value} {sh : Sh} {Φ : Value → Own → Prop} (h : ∀ fr, OpG0 C loc (own ++ fr) s sh fun v o => ∃ own', Φ v own' ∧ o = own' ++ fr) : OpG C loc own s sh Φ := by
  intro fr W hS
  obtain ⟨v, W', hr, hs, o, ⟨own', hΦ, rfl⟩, hS'⟩ := h fr W hS
  exact ⟨v, W', hr, hs, own', hΦ, hS'⟩
theorem opg0_mono {C : Ctx} {loc : Tn.Loc} {own : Own} {s : Sem Value} {sh : Sh} {Φ Φ' : Value → Own → Prop} (h : OpG0 C loc own s sh Φ) (hi : ∀ v own', Φ v own' → Φ' v own') : OpG0 C loc own s sh Φ' := by
  intro W hS
  obtain ⟨v, W', hr, hs, own', hΦ, hS'⟩ := h W hS
  exact ⟨v, W', hr, hs, own', hi _ _ hΦ, hS'⟩
theorem append_gs0 {w0 : World} {mt dyn : List Nat} {loc : Tn.Loc} {own pre blk post : Own} {v : Value} {t ty e : TypeId} {sz bytes n m c : Nat} {xs news : List Value} {a : Addr} (hE : ElT t e sz bytes) (h : GS v blk e sz n xs)
    (ho : own = pre ++ blk ++ post) (hl : news.length = m * sz) (hm : 0 < m) (h1 : ∀ u ∈ news, Tn.isOne u = true) (hnews : ∀ W, Sep w0 mt (ents loc own) W → ∀ j u, news[j]? = some u → W.cell? (a.add j) = some u)
    (h63 : n + m ≤ maxLen) (hbytes : (n + m) * bytes ≤ 140737488355328) :
    OpG0 (cx w0 mt dyn) loc own (Builtin.append_ #[t, t] ty ⟨[v, .slice (some a) m c]⟩) (.val (.one .slice)) fun v' own' => ∃ blk', own' = pre ++ blk' ++ post ∧ GS v' blk' e sz (n + m) (xs ++ news) := by
  intro W hS
  have hn := hnews W hS
  obtain ⟨ht, ⟨i, z, hi, hz, rfl, rfl, hzs⟩, hsz⟩ := hE
  subst ho
  have hlen : (xs ++ news).length = (n + m) * i.size := by rw [List.length_append, h.1, hl, Nat.add_mul]
  have hsmall : n + m ≤ 9223372036854775807 := by simp only [maxLen] at h63; omega
  have e1 : ents loc (pre ++ blk ++ post) = (loc.map LB.ent ++ pre) ++ blk ++ post := by simp [ents]
  have e2 : ∀ b, ents loc (pre ++ b ++ post) = (loc.map LB.ent ++ pre) ++ b ++ post := by simp [ents]
  rw [e1] at hS
  -- a new row
  have fresh : ∀ old, old < n + m → ∃ own', (∃ blk', own' = pre ++ blk' ++ post ∧ GS (.slice (some ⟨W.heap.size, 0, none⟩) (n + m) (grownCap W (n + m) old e)) blk' e i.size (n + m) (xs ++ news)) ∧
      Sep w0 mt (ents loc own') (W.drew.alloc (.cells (xs.toArray ++ news.toArray ++ Builtin.zeroCells z.cells (grownCap W (n + m) old e - (n + m))) e)) := by
    intro old ho
    have hge := grownCap_ge W (n + m) old e
    have hcm : grownCap W (n + m) old e ≤ maxLen := grownCap_le_maxLen W (n + m) old e h63
    refine ⟨pre ++ [(W.heap.size, .cells ⟨(xs.toArray ++ news.toArray ++ Builtin.zeroCells z.cells (grownCap W (n + m) old e - (n + m))).toList⟩ e)] ++ post, ⟨_, rfl, hlen, .inr ⟨_, _, _, rfl, rfl, hge, hcm, ?_, ?_⟩⟩, ?_⟩
    · simp only [Array.toList_append, List.length_append, Array.length_toList, size_zeroCells, hzs, h.1, hl, ← Nat.add_mul, List.size_toArray]
      congr 1
      omega
    · simp only [Array.toList_append]
      rw [← hlen]
      exact List.take_left
    · rw [e2]
      have := (sep_drop hS).drew.alloc_at (.cells (xs.toArray ++ news.toArray ++ Builtin.zeroCells z.cells (grownCap W (n + m) old e - (n + m))) e)
      rw [List.append_assoc]
      exact this
  rcases h.2 with ⟨rfl, rfl, rfl⟩ | ⟨g, cap, cur, rfl, rfl, hnc, hcm, hcs, htake⟩
  · have hx : xs = [] := List.eq_nil_of_length_eq_zero (by simpa using h.1)
    subst hx
    have hr := run_append_nil (P := Tryz.prog) W t ty e i z ht hi hz a m c news hl hn (by omega) (by omega) (by simp only [Nat.zero_add] at hbytes; omega)
    obtain ⟨own', h2, h3⟩ := fresh 0 (by omega)
    simp only [Nat.zero_add, List.nil_append, Array.empty_append] at h2 h3 ⊢
    exact ⟨_, _, hr, ⟨_, _, _, rfl⟩, own', h2, h3⟩
  · have hh : W.heap[g]? = some (.cells ⟨cur⟩ e) := hS.own _ _ (by simp)
    by_cases hroom : n + m ≤ cap
    · have hfit : n * i.size + news.length ≤ cur.length := by rw [hl, hcs, ← Nat.add_mul]; exact Nat.mul_le_mul_right _ hroom
      obtain ⟨W', hr, q1, q2, q3, q4, q5, q6⟩ := run_storeCells (P := Tryz.prog) (k := g) (t := e) news W cur (n * i.size) 0 hh (by omega) (by rw [List.all_eq_true]; exact h1)
      have hf := run_firstCells_some (P := Tryz.prog) W i.size m a m c news hl hn
      refine ⟨.slice (some ⟨g, 0, none⟩) (n + m) cap, W', ?_, ⟨_, _, _, rfl⟩, pre ++ [(g, .cells ⟨cur.take (n * i.size) ++ news ++ cur.drop (n * i.size + news.length)⟩ e)] ++ post, ⟨_, rfl, hlen, .inr ⟨_, _, _, rfl, rfl, hroom, hcm, ?_, ?_⟩⟩, ?_⟩
      · have hr' : (storeCells (Addr.add ⟨g, 0, none⟩ (n * i.size)) news).run Tryz.prog W = .ok () W' := by rw [Tn.add_none, Nat.zero_add]; exact hr
        show (Builtin.append_ #[t, t] ty #[.slice (some ⟨g, 0, none⟩) n cap, .slice (some a) m c]).run Tryz.prog W = _
        simp [Builtin.append_, run_underlying ht, sizeOf, typeInfo, hi, Builtin.lenOf, hroom, hf, hr']
      · simp only [List.length_append, List.length_take, List.length_drop]
        omega
      · rw [htake, ← hlen]
        exact List.take_left
      · rw [e2]
        have := Sep.store (a := loc.map LB.ent ++ pre) (b := post) (o := .cells ⟨cur⟩ e) (W' := W') (k := g) (by simpa using hS) (by simpa using q1) q2 q3 q4 q5 q6
        simpa using this
    · have holds : ∀ j u, xs[j]? = some u → W.cell? ((⟨g, 0, none⟩ : Addr).add j) = some u := fun j u hu => by
        refine cell_own hS (cs := cur) (t := e) (by simp) j u ?_
        rw [← htake, List.getElem?_take] at hu
        split at hu
        · exact hu
        · cases hu
      have hr := run_append_grow (P := Tryz.prog) W t ty e i z ht hi hz ⟨g, 0, none⟩ n cap xs h.1 holds a m c news hl hn (by omega) (by omega) (growslice_fits (by omega) hbytes)
      obtain ⟨own', h2, h3⟩ := fresh cap (by omega)
      exact ⟨_, _, hr, ⟨_, _, _, rfl⟩, own', h2, h3⟩
theorem append_gs {w0 : World} {mt dyn : List Nat} {loc : Tn.Loc} {own pre blk post : Own} {v : Value} {t ty e : TypeId} {sz bytes n m c : Nat} {xs news : List Value} {a : Addr} (hE : ElT t e sz bytes) (h : GS v blk e sz n xs)
    (ho : own = pre ++ blk ++ post) (hl : news.length = m * sz) (hm : 0 < m) (h1 : ∀ u ∈ news, Tn.isOne u = true) (hnews : ∀ W, Sep w0 mt (ents loc own) W → ∀ j u, news[j]? = some u → W.cell? (a.add j) = some u)
    (h63 : n + m ≤ maxLen) (hbytes : (n + m) * bytes ≤ 140737488355328) :
    OpG (cx w0 mt dyn) loc own (Builtin.append_ #[t, t] ty ⟨[v, .slice (some a) m c]⟩) (.val (.one .slice)) fun v' own' => ∃ blk', own' = pre ++ blk' ++ post ∧ GS v' blk' e sz (n + m) (xs ++ news) :=
  opg_of0 fun fr => opg0_mono (append_gs0 (own := own ++ fr) (pre := pre) (blk := blk) (post := post ++ fr) hE h (by rw [ho]; simp) hl hm h1 (fun W hS => hnews W (sep_less hS)) h63 hbytes) fun v' o ⟨blk', e', hg⟩ => ⟨_, ⟨blk', rfl, hg⟩, by rw [e']; simp⟩
theorem elT_of {t e : TypeId} {a b sz bytes : Nat} {ti : Ti} {z : Value} {z' : Option Value} (h1 : tab[t]? = some ⟨.slice e, a, b, z'⟩) (h2 : tab[e]? = some ⟨ti, sz, bytes, some z⟩) (hz : z.cells.toList.length = sz) (hp : 0 < sz) : ElT t e sz bytes := by
  refine ⟨under_slice (C := cx default [] []) tabOk h1, ?_, hp⟩
  obtain ⟨i, u, e1, e2, e3, e4, e5, e6⟩ := ty_info (C := cx default [] []) tabOk h2
  exact ⟨i, z, e1, by simpa using e6, by simpa using e4, by simpa using e5, by simpa using hz⟩
def elOk (t e sz bytes : Nat) : Bool :=
  match tab[t]?, tab[e]? with
  | some ⟨.slice e', _, _, _⟩, some ⟨_, sz', by', some z⟩ => Nat.beq e' e && (Nat.beq sz' sz && (Nat.beq by' bytes && (Nat.beq z.cells.toList.length sz && Nat.blt 0 sz)))
  | _, _ => false
theorem elT {t e sz bytes : Nat} (h : elOk t e sz bytes = true) : ElT t e sz bytes := by
  unfold elOk at h
  split at h
  · rename_i e' a b z' ti sz' by' z h1 h2
    simp only [Bool.and_eq_true] at h
    obtain ⟨q1, q2, q3, q4, q5⟩ := h
    rw [Nat.eq_of_beq_eq_true q1] at h1
    rw [Nat.eq_of_beq_eq_true q2, Nat.eq_of_beq_eq_true q3] at h2
    exact elT_of h1 h2 (Nat.eq_of_beq_eq_true q4) (ltr q5)
  · cases h
end Go.Proofs.YtnljcdplcloedaaGreatDoor
end
section
namespace Go.Proofs.YtnljcdplcloedaaGreatDoor
open Go Go.Tn Go.RowKit
set_option linter.unusedVariables false
set_option linter.unusedSimpArgs false
set_option maxRecDepth 100000

/-- In a world where the blocks X stand, f changes them alone, and makes new ones. -/
def MutG (f : FuncId) (args : List Value) (X : Own) (Ψ : Value → Own → Prop) : Prop :=
  ∀ W, Laid W → Sep W (X.map Prod.fst) X W → 0 ∉ X.map Prod.fst → 2 ∉ X.map Prod.fst → Does Tryz.prog f args W fun v' W' => ∃ X', Ψ v' X' ∧ Sep W (X.map Prod.fst) X' W'
theorem sep_of_sep {w0 W : World} {mt : List Nat} {X B : Own} (h : Sep w0 mt (X ++ B) W) : Sep W (X.map Prod.fst) X W := by
  refine ⟨rfl, rfl, rfl, Nat.le_refl _, fun _ _ _ => rfl, fun b o hb => h.own b o (List.mem_append_left _ hb), fun b o hb => .inl (List.mem_map.2 ⟨_, hb, rfl⟩), ?_⟩
  have := h.nodup
  rw [List.map_append, List.nodup_append] at this
  exact this.1
theorem sep_frame {w0 W W' : World} {mt : List Nat} {X X' B : Own} (h : Sep w0 mt (X ++ B) W) (h' : Sep W (X.map Prod.fst) X' W') : Sep w0 mt (X' ++ B) W' := by
  have hnd := h.nodup
  rw [List.map_append, List.nodup_append] at hnd
  have hdis : ∀ b o, (b, o) ∈ B → b ∉ X.map Prod.fst := fun b o hb hx => hnd.2.2 b hx b (List.mem_map.2 ⟨_, hb, rfl⟩) rfl
  constructor
  · exact h'.os.trans h.os
  · exact h'.tape.trans h.tape
  · exact h'.output.trans h.output
  · exact Nat.le_trans h.size h'.size
  · intro b hb hm
    have hx : b ∉ X.map Prod.fst := by
      intro hx
      obtain ⟨⟨b', o⟩, hm', rfl⟩ := List.mem_map.1 hx
      rcases h.new b' o (List.mem_append_left _ hm') with h1 | h1
      · exact hm h1
      · exact absurd hb (by simp only; omega)
    rw [h'.keep b (Nat.lt_of_lt_of_le hb h.size) hx]
    exact h.keep b hb hm
  · intro b o hb
    rcases List.mem_append.1 hb with hb | hb
    · exact h'.own b o hb
    · rw [h'.keep b (h.lt (List.mem_append_right _ hb)) (hdis b o hb)]
      exact h.own b o (List.mem_append_right _ hb)
  · intro b o hb
    rcases List.mem_append.1 hb with hb | hb
    · rcases h'.new b o hb with h1 | h1
      · obtain ⟨⟨b', o'⟩, hm', rfl⟩ := List.mem_map.1 h1
        exact h.new b' o' (List.mem_append_left _ hm')
      · exact .inr (Nat.le_trans h.size h1)
    · exact h.new b o (List.mem_append_right _ hb)
  · rw [List.map_append, List.nodup_append]
    refine ⟨h'.nodup, hnd.2.1, ?_⟩
    intro a ha b hb e
    subst e
    obtain ⟨⟨a', o⟩, hm, rfl⟩ := List.mem_map.1 ha
    obtain ⟨⟨b', o'⟩, hm', e⟩ := List.mem_map.1 hb
    simp only at e
    subst e
    rcases h'.new b' o hm with h1 | h1
    · exact hdis b' o' hm' h1
    · have := h.lt (List.mem_append_right X hm'); omega
theorem MutG.callG {f : FuncId} {args : List Value} {X : Own} {Ψ : Value → Own → Prop} (h : MutG f args X Ψ) {w0 : World} (hL : Laid w0) {mt dyn : List Nat} (hm : 0 ∉ mt ∧ 2 ∉ mt) {loc : Tn.Loc} {own B : Own} {sh : Sh}
    {g : Own → Own} (hp : own.Perm (X ++ B)) (hg : ∀ X', (g X').Perm (X' ++ B)) (hs : ∀ v X', Ψ v X' → isS sh v) : CallG (cx w0 mt dyn) loc own f args sh fun v own' => ∃ X', Ψ v X' ∧ own' = g X' := by
  intro W hS
  have hS1 : Sep w0 mt (X ++ (B ++ loc.map LB.ent)) W := by
    refine hS.perm ?_
    unfold ents
    have := List.perm_append_comm (l₁ := loc.map LB.ent) (l₂ := own)
    refine this.trans ?_
    rw [← List.append_assoc]
    exact hp.append_right _
  obtain ⟨⟨_, _, l0⟩, ⟨_, _, l2⟩⟩ := id hL
  have l0 := lt_of_heap l0
  have l2 := lt_of_heap l2
  have hz : ∀ z, z < w0.heap.size → z ∉ mt → z ∉ X.map Prod.fst := by
    intro z hz hzm hx
    obtain ⟨⟨b, o⟩, hb, rfl⟩ := List.mem_map.1 hx
    have hnew := hS1.new b o (List.mem_append_left _ hb)
    have hnew : b ∈ mt ∨ w0.heap.size ≤ b := hnew
    rcases hnew with h1 | h1
    · exact hzm h1
    · simp only at hz; omega
  refine (h W (hL.sep hS1 hm.1 hm.2) (sep_of_sep hS1) (hz 0 l0 hm.1) (hz 2 l2 hm.2)).mono fun v W' ⟨X', hΨ, hS'⟩ => ⟨hs v X' hΨ, g X', ⟨X', hΨ, rfl⟩, ?_⟩
  have hS2 := sep_frame hS1 hS'
  show Sep w0 mt (ents loc (g X')) W'
  refine hS2.perm ?_
  unfold ents
  rw [← List.append_assoc]
  exact ((hg X').symm.append_right _).trans List.perm_append_comm
/-- with nothing of the caller's -/
theorem MutG.newG {f : FuncId} {args : List Value} {Ψ : Value → Own → Prop} (h : MutG f args [] Ψ) {w0 : World} (hL : Laid w0) {mt dyn : List Nat} (hm : 0 ∉ mt ∧ 2 ∉ mt) {loc : Tn.Loc} {own : Own} {sh : Sh}
    (hs : ∀ v X', Ψ v X' → isS sh v) : CallG (cx w0 mt dyn) loc own f args sh fun v own' => ∃ X', Ψ v X' ∧ own' = X' ++ own :=
  h.callG hL hm (X := []) (B := own) (g := fun X' => X' ++ own) (List.Perm.refl _) (fun _ => List.Perm.refl _) hs
theorem stores_sub {w0 : World} {mt dyn : List Nat} {loc : Tn.Loc} {own own' own'' : Own} {t : TypeId} {a : Addr} {v : Value} (h : StoresTo (cx w0 mt dyn) loc own t a v own') (hs : own''.Sublist own') : StoresTo (cx w0 mt dyn) loc own t a v own'' := by
  intro W hS
  obtain ⟨W', hr, hS'⟩ := h W hS
  exact ⟨W', hr, hS'.sub ((List.Sublist.refl _).append hs)⟩
theorem opg_mono {w0 : World} {mt dyn : List Nat} {loc : Tn.Loc} {own : Own} {s : Sem Value} {sh : Sh} {Φ Φ' : Value → Own → Prop} (h : OpG (cx w0 mt dyn) loc own s sh Φ) (hi : ∀ v own', Φ v own' → Φ' v own') : OpG (cx w0 mt dyn) loc own s sh Φ' := by
  intro fr W hS
  obtain ⟨v, W', hr, hs, own', hΦ, hS'⟩ := h fr W hS
  exact ⟨v, W', hr, hs, own', hi _ _ hΦ, hS'⟩
/-- a result that leaves fewer blocks told -/
theorem opg_sub {w0 : World} {mt dyn : List Nat} {loc : Tn.Loc} {own : Own} {s : Sem Value} {sh : Sh} {Φ Φ' : Value → Own → Prop} (h : OpG (cx w0 mt dyn) loc own s sh Φ) (hi : ∀ v own', Φ v own' → ∃ own'', Φ' v own'' ∧ own''.Sublist own') : OpG (cx w0 mt dyn) loc own s sh Φ' := by
  intro fr W hS
  obtain ⟨v, W', hr, hs, own', hΦ, hS'⟩ := h fr W hS
  obtain ⟨own'', h1, h2⟩ := hi _ _ hΦ
  exact ⟨v, W', hr, hs, own'', h1, hS'.sub ((List.Sublist.refl _).append (h2.append (List.Sublist.refl _)))⟩
/-- an element of a list of the call's own -/
theorem gs_has {v : Value} {blk : Own} {e : TypeId} {sz n : Nat} {xs : List Value} (h : GS v blk e sz n xs) {i : Nat} (hi : i < xs.length) : ∃ g cap cur, v = .slice (some ⟨g, 0, none⟩) n cap ∧ blk = [(g, .cells ⟨cur⟩ e)] ∧ (∀ (j : Nat) (u : Value), xs[j]? = some u → cur[j]? = some u) := by
  obtain ⟨hl, h | ⟨g, cap, cur, h1, h2, h3, h4, h5, h6⟩⟩ := h
  · rw [h.2.1] at hl; simp at hl; rw [hl] at hi; simp at hi
  · refine ⟨g, cap, cur, h1, h2, fun j u hu => ?_⟩
    rw [← h6, List.getElem?_take] at hu
    split at hu
    · exact hu
    · cases hu
end Go.Proofs.YtnljcdplcloedaaGreatDoor
end
