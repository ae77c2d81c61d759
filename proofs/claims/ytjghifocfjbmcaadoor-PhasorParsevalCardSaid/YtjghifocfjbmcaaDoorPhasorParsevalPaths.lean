/- The paths of PhasorParseval, each checked by the kernel. -/
import Derived.Test.YtjghifocfjbmcaaDoorSums
import Derived.KernelRfl
namespace Go.Proofs.YtjghifocfjbmcaaDoor
open Go.Sym

def f8A : List SV := [(.agg [(.int .i64 [([(.var (nat_lit 0))], (Int.ofNat (nat_lit 1)))]), (.int .i64 [([(.var (nat_lit 1))], (Int.ofNat (nat_lit 1)))]), (.int .i64 [([(.var (nat_lit 2))], (Int.ofNat (nat_lit 1)))]), (.int .i64 [([(.var (nat_lit 3))], (Int.ofNat (nat_lit 1)))]), (.int .i64 [([(.var (nat_lit 4))], (Int.ofNat (nat_lit 1)))]), (.int .i64 [([(.var (nat_lit 5))], (Int.ofNat (nat_lit 1)))]), (.int .i64 [([(.var (nat_lit 6))], (Int.ofNat (nat_lit 1)))]), (.int .i64 [([(.var (nat_lit 7))], (Int.ofNat (nat_lit 1)))]), (.int .i64 [([(.var (nat_lit 8))], (Int.ofNat (nat_lit 1)))]), (.int .i64 [([(.var (nat_lit 9))], (Int.ofNat (nat_lit 1)))]), (.int .i64 [([(.var (nat_lit 10))], (Int.ofNat (nat_lit 1)))]), (.int .i64 [([(.var (nat_lit 11))], (Int.ofNat (nat_lit 1)))])])]
def f8K : List Iv := [ivT .i64, ivT .i64, ivT .i64, ivT .i64, ivT .i64, ivT .i64, ivT .i64, ivT .i64, ivT .i64, ivT .i64, ivT .i64, ivT .i64]
def f8T0 : STree := (.leaf (.bool true))
theorem f8C0 : checkT Tryd.prog (xOf symX) (gxOf symG) (sumsOf sums21) 10000 8 f8A f8T0 (facts0 f8K) = true := by kernel_rfl
def f8M : Summ := ⟨f8A, f8K, f8T0⟩
theorem f8Ok : SumOk Tryd.prog (xOf symX) (gxOf symG) 8 f8M := sumOk_of symMixed symClosed sums21Ok f8C0
end Go.Proofs.YtjghifocfjbmcaaDoor
