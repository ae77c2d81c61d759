/- The paths of PhasorInverse, each checked by the kernel. -/
import Derived.Test.YtjghifocfjbmcaaDoorSums
import Derived.KernelRfl
namespace Go.Proofs.YtjghifocfjbmcaaDoor
open Go.Sym

def f9A : List SV := [(.agg [(.int .i64 [([(.var (nat_lit 0))], (Int.ofNat (nat_lit 1)))]), (.int .i64 [([(.var (nat_lit 1))], (Int.ofNat (nat_lit 1)))]), (.int .i64 [([(.var (nat_lit 2))], (Int.ofNat (nat_lit 1)))]), (.int .i64 [([(.var (nat_lit 3))], (Int.ofNat (nat_lit 1)))]), (.int .i64 [([(.var (nat_lit 4))], (Int.ofNat (nat_lit 1)))]), (.int .i64 [([(.var (nat_lit 5))], (Int.ofNat (nat_lit 1)))]), (.int .i64 [([(.var (nat_lit 6))], (Int.ofNat (nat_lit 1)))]), (.int .i64 [([(.var (nat_lit 7))], (Int.ofNat (nat_lit 1)))]), (.int .i64 [([(.var (nat_lit 8))], (Int.ofNat (nat_lit 1)))]), (.int .i64 [([(.var (nat_lit 9))], (Int.ofNat (nat_lit 1)))]), (.int .i64 [([(.var (nat_lit 10))], (Int.ofNat (nat_lit 1)))]), (.int .i64 [([(.var (nat_lit 11))], (Int.ofNat (nat_lit 1)))])])]
def f9K : List Iv := [ivT .i64, ivT .i64, ivT .i64, ivT .i64, ivT .i64, ivT .i64, ivT .i64, ivT .i64, ivT .i64, ivT .i64, ivT .i64, ivT .i64]
def f9R : List (List SV) := []
def f9T0 : STree := (.leaf (.bool true))
theorem f9C0 : checkT Tryd.prog (xWith (xOf symX) f9R) (gxOf symG) (sumsOf sums13_x12im16383to16383) 10000 9 f9A f9T0 (facts0 f9K) = true := by kernel_rfl
def f9M : Summ := ⟨f9A, f9K, f9T0, f9R, []⟩
theorem f9Ok : SumOk Tryd.prog (xOf symX) (gxOf symG) 9 f9M := sumOk_of symMixed symClosed sums13_x12im16383to16383Ok f9C0
end Go.Proofs.YtjghifocfjbmcaaDoor
