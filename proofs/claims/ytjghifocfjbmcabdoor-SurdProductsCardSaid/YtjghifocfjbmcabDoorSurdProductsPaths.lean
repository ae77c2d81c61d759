/- The paths of SurdProducts, each checked by the kernel. -/
import Derived.Test.YtjghifocfjbmcabDoorSums
import Derived.KernelRfl
namespace Go.Proofs.YtjghifocfjbmcabDoor
open Go.Sym

def f4A : List SV := [(.agg [(.int .i64 [([(.var (nat_lit 0))], (Int.ofNat (nat_lit 1)))]), (.int .i64 [([(.var (nat_lit 1))], (Int.ofNat (nat_lit 1)))])]), (.agg [(.int .i64 [([(.var (nat_lit 2))], (Int.ofNat (nat_lit 1)))]), (.int .i64 [([(.var (nat_lit 3))], (Int.ofNat (nat_lit 1)))])])]
def f4K : List Iv := [ivT .i64, ivT .i64, ivT .i64, ivT .i64]
def f4R : List (List SV) := []
def f4Q0 : Quest := (.le [([], (Int.ofNat (nat_lit 268435457))), ([(.var (nat_lit 0))], (Int.ofNat (nat_lit 1)))])
def f4T1 : STree := (.leaf (.bool true))
theorem f4C1 : checkT Tryd.prog (xWith (xOf symX) f4R) (gxOf symG) (sumsOf sums10) 10000 4 f4A f4T1 ((facts0 f4K).yes f4Q0) = true := by kernel_rfl
def f4T2 : STree := (.test (.le [([], (Int.ofNat (nat_lit 268435457))), ([(.var (nat_lit 0))], (Int.negSucc (nat_lit 0)))])
  (.leaf (.bool true))
  (.test (.le [([], (Int.ofNat (nat_lit 268435457))), ([(.var (nat_lit 1))], (Int.ofNat (nat_lit 1)))])
  (.leaf (.bool true))
  (.test (.le [([], (Int.ofNat (nat_lit 268435457))), ([(.var (nat_lit 1))], (Int.negSucc (nat_lit 0)))])
  (.leaf (.bool true))
  (.test (.le [([], (Int.ofNat (nat_lit 268435457))), ([(.var (nat_lit 2))], (Int.ofNat (nat_lit 1)))])
  (.leaf (.bool true))
  (.test (.le [([], (Int.ofNat (nat_lit 268435457))), ([(.var (nat_lit 2))], (Int.negSucc (nat_lit 0)))])
  (.leaf (.bool true))
  (.test (.le [([], (Int.ofNat (nat_lit 268435457))), ([(.var (nat_lit 3))], (Int.ofNat (nat_lit 1)))])
  (.leaf (.bool true))
  (.test (.le [([], (Int.ofNat (nat_lit 268435457))), ([(.var (nat_lit 3))], (Int.negSucc (nat_lit 0)))])
  (.leaf (.bool true))
  (.leaf (.bool true)))))))))
theorem f4C2 : checkT Tryd.prog (xWith (xOf symX) f4R) (gxOf symG) (sumsOf sums10) 10000 4 f4A f4T2 ((facts0 f4K).no f4Q0) = true := by kernel_rfl
def f4T3 : STree := .test f4Q0 f4T1 f4T2
theorem f4C3 : checkT Tryd.prog (xWith (xOf symX) f4R) (gxOf symG) (sumsOf sums10) 10000 4 f4A f4T3 (facts0 f4K) = true := checkT_test f4C1 f4C2
def f4M : Summ := ⟨f4A, f4K, f4T3, f4R, []⟩
theorem f4Ok : SumOk Tryd.prog (xOf symX) (gxOf symG) 4 f4M := sumOk_of symMixed symClosed sums10Ok f4C3
end Go.Proofs.YtjghifocfjbmcabDoor
