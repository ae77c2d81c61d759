/- The paths of SurdSigns, each checked by the kernel. -/
import Derived.Test.YtjghifocfjbmcabDoorSumsG
import Derived.KernelRfl
namespace Go.Proofs.YtjghifocfjbmcabDoor
open Go.Sym

def f3A : List SV := [(.agg [(.int .i64 [([(.var (nat_lit 0))], (Int.ofNat (nat_lit 1)))]), (.int .i64 [([(.var (nat_lit 1))], (Int.ofNat (nat_lit 1)))])])]
def f3K : List Iv := [ivT .i64, ivT .i64]
def f3R : List (List SV) := []
def f3T0 : STree := (.leaf (.bool true))
theorem f3C0 : checkT Tryd.prog (xWith (xOf symX) f3R) (gxOf symG) (sumsOf sums12_sgnr) 10000 3 f3A f3T0 (facts0 f3K) = true := by kernel_rfl
def f3M : Summ := ⟨f3A, f3K, f3T0, f3R, []⟩
theorem f3Ok : SumOk Tryd.prog (xOf symX) (gxOf symG) 3 f3M := sumOk_of symMixed symClosed sums12_sgnrOk f3C0
end Go.Proofs.YtjghifocfjbmcabDoor
