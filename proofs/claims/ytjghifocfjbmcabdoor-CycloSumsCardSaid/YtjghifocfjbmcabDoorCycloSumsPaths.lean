/- The paths of CycloSums, each checked by the kernel. -/
import Derived.Test.YtjghifocfjbmcabDoorSumsZ
import Derived.KernelRfl
namespace Go.Proofs.YtjghifocfjbmcabDoor
open Go.Sym

def f8A : List SV := [(.agg [(.int .i64 [([(.var (nat_lit 0))], (Int.ofNat (nat_lit 1)))]), (.int .i64 [([(.var (nat_lit 1))], (Int.ofNat (nat_lit 1)))]), (.int .i64 [([(.var (nat_lit 2))], (Int.ofNat (nat_lit 1)))]), (.int .i64 [([(.var (nat_lit 3))], (Int.ofNat (nat_lit 1)))])]), (.agg [(.int .i64 [([(.var (nat_lit 4))], (Int.ofNat (nat_lit 1)))]), (.int .i64 [([(.var (nat_lit 5))], (Int.ofNat (nat_lit 1)))]), (.int .i64 [([(.var (nat_lit 6))], (Int.ofNat (nat_lit 1)))]), (.int .i64 [([(.var (nat_lit 7))], (Int.ofNat (nat_lit 1)))])]), (.int .i64 [([(.var (nat_lit 8))], (Int.ofNat (nat_lit 1)))])]
def f8K : List Iv := [ivT .i64, ivT .i64, ivT .i64, ivT .i64, ivT .i64, ivT .i64, ivT .i64, ivT .i64, ivT .i64]
def f8R : List (List SV) := []
def f8Q0 : Quest := (.le [([], (Int.negSucc (nat_lit 4))), ([(.emod (nat_lit 12) (.var (nat_lit 8)))], (Int.ofNat (nat_lit 1)))])
def f8T1 : STree := (.test (.le [([], (Int.negSucc (nat_lit 1))), ([(.emod (nat_lit 12) (.var (nat_lit 8)))], (Int.ofNat (nat_lit 1)))])
  (.test (.le [([], (Int.negSucc (nat_lit 0))), ([(.emod (nat_lit 12) (.var (nat_lit 8)))], (Int.ofNat (nat_lit 1)))])
  (.test (.le [([(.emod (nat_lit 12) (.var (nat_lit 8)))], (Int.ofNat (nat_lit 1)))])
  (.leaf (.bool true))
  (.leaf (.bool true)))
  (.leaf (.bool true)))
  (.test (.le [([], (Int.negSucc (nat_lit 3))), ([(.emod (nat_lit 12) (.var (nat_lit 8)))], (Int.ofNat (nat_lit 1)))])
  (.test (.le [([], (Int.negSucc (nat_lit 2))), ([(.emod (nat_lit 12) (.var (nat_lit 8)))], (Int.ofNat (nat_lit 1)))])
  (.leaf (.bool true))
  (.leaf (.bool true)))
  (.leaf (.bool true))))
theorem f8C1 : checkT Tryd.prog (xWith (xOf symX) f8R) (gxOf symG) (sumsOf sums37) 10000 8 f8A f8T1 ((facts0 f8K).yes f8Q0) = true := by kernel_rfl
def f8T2 : STree := (.test (.le [([], (Int.negSucc (nat_lit 7))), ([(.emod (nat_lit 12) (.var (nat_lit 8)))], (Int.ofNat (nat_lit 1)))])
  (.test (.le [([], (Int.negSucc (nat_lit 6))), ([(.emod (nat_lit 12) (.var (nat_lit 8)))], (Int.ofNat (nat_lit 1)))])
  (.test (.le [([], (Int.negSucc (nat_lit 5))), ([(.emod (nat_lit 12) (.var (nat_lit 8)))], (Int.ofNat (nat_lit 1)))])
  (.leaf (.bool true))
  (.leaf (.bool true)))
  (.leaf (.bool true)))
  (.test (.le [([], (Int.negSucc (nat_lit 9))), ([(.emod (nat_lit 12) (.var (nat_lit 8)))], (Int.ofNat (nat_lit 1)))])
  (.test (.le [([], (Int.negSucc (nat_lit 8))), ([(.emod (nat_lit 12) (.var (nat_lit 8)))], (Int.ofNat (nat_lit 1)))])
  (.leaf (.bool true))
  (.leaf (.bool true)))
  (.leaf (.bool true))))
theorem f8C2 : checkT Tryd.prog (xWith (xOf symX) f8R) (gxOf symG) (sumsOf sums37) 10000 8 f8A f8T2 ((facts0 f8K).no f8Q0) = true := by kernel_rfl
def f8T3 : STree := .test f8Q0 f8T1 f8T2
theorem f8C3 : checkT Tryd.prog (xWith (xOf symX) f8R) (gxOf symG) (sumsOf sums37) 10000 8 f8A f8T3 (facts0 f8K) = true := checkT_test f8C1 f8C2
def f8M : Summ := ⟨f8A, f8K, f8T3, f8R, []⟩
theorem f8Ok : SumOk Tryd.prog (xOf symX) (gxOf symG) 8 f8M := sumOk_of symMixed symClosed sums37Ok f8C3
end Go.Proofs.YtjghifocfjbmcabDoor
