import Derived.Test.YtjnecjhkmhhnnaaGreatDoorEva
import Derived.Test.YtjnecjhkmhhnnaaGreatDoorLay3
import Derived.Test.YtjnecjhkmhhnnaaGreatDoorMach8
import Derived.Shelf.Strconv.Itoa3
namespace Go.Proofs.YtjnecjhkmhhnnaaGreatDoor
open Go Go.Ev
theorem itoa_ok (n : Int) (h0 : -9223372036854775808 ≤ n) (h1 : n ≤ 9223372036854775807) : HPure Tryz.prog G 29 [.int .i64 n] (.str (Lib.itoa n)) :=
  itoa_call (Go.Proofs.enters_of Tryz.func29 (by kernel_rfl) rfl) (fun n w a b t => Go.Proofs.Any.strconv_Itoa Go.Proofs.Tryz.litoa n a b w t) (g := 3) (by kernel_rfl) (by kernel_rfl) n h0 h1
end Go.Proofs.YtjnecjhkmhhnnaaGreatDoor
