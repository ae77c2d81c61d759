/- The paths of SequenceInverse, each checked by the kernel. -/
import Derived.Test.YtchmfiiipdjikaaDoorSumsB
import Derived.KernelRfl
namespace Go.Proofs.YtchmfiiipdjikaaDoor
open Go.Sym

def f14A : List SV := [(.agg [(.int .i64 [([(.var (nat_lit 0))], (Int.ofNat (nat_lit 1)))]), (.int .i64 [([(.var (nat_lit 1))], (Int.ofNat (nat_lit 1)))]), (.int .i64 [([(.var (nat_lit 2))], (Int.ofNat (nat_lit 1)))]), (.int .i64 [([(.var (nat_lit 3))], (Int.ofNat (nat_lit 1)))]), (.int .i64 [([(.var (nat_lit 4))], (Int.ofNat (nat_lit 1)))]), (.int .i64 [([(.var (nat_lit 5))], (Int.ofNat (nat_lit 1)))]), (.int .i64 [([(.var (nat_lit 6))], (Int.ofNat (nat_lit 1)))]), (.int .i64 [([(.var (nat_lit 7))], (Int.ofNat (nat_lit 1)))]), (.int .i64 [([(.var (nat_lit 8))], (Int.ofNat (nat_lit 1)))]), (.int .i64 [([(.var (nat_lit 9))], (Int.ofNat (nat_lit 1)))]), (.int .i64 [([(.var (nat_lit 10))], (Int.ofNat (nat_lit 1)))]), (.int .i64 [([(.var (nat_lit 11))], (Int.ofNat (nat_lit 1)))])])]
def f14K : List IntKind := [.i64, .i64, .i64, .i64, .i64, .i64, .i64, .i64, .i64, .i64, .i64, .i64]
def f14T0 : STree := (.leaf (.bool true))
theorem f14C0 : checkT Tryd.prog (xOf symX) (gxOf symG) (sumsOf sums46) 10000 14 f14A f14T0 (facts0 f14K) = true := by kernel_rfl
def f14M : Summ := ⟨f14A, f14K, f14T0⟩
theorem f14Ok : SumOk Tryd.prog (xOf symX) (gxOf symG) 14 f14M := sumOk_of symMixed symClosed sums46Ok f14C0
end Go.Proofs.YtchmfiiipdjikaaDoor
