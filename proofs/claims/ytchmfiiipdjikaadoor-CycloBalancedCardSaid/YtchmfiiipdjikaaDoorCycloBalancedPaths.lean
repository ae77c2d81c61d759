/- The paths of CycloBalanced, each checked by the kernel. -/
import Derived.Test.YtchmfiiipdjikaaDoorSums
import Derived.KernelRfl
namespace Go.Proofs.YtchmfiiipdjikaaDoor
open Go.Sym

def f7A : List SV := [(.agg [(.int .i64 [([(.var (nat_lit 0))], (Int.ofNat (nat_lit 1)))]), (.int .i64 [([(.var (nat_lit 1))], (Int.ofNat (nat_lit 1)))]), (.int .i64 [([(.var (nat_lit 2))], (Int.ofNat (nat_lit 1)))]), (.int .i64 [([(.var (nat_lit 3))], (Int.ofNat (nat_lit 1)))])]), (.int .i64 [([(.var (nat_lit 4))], (Int.ofNat (nat_lit 1)))])]
def f7K : List IntKind := [.i64, .i64, .i64, .i64, .i64]
def f7Q0 : Quest := (.le [([(.rem (.var (nat_lit 4)) (.lit (Int.ofNat (nat_lit 12))))], (Int.ofNat (nat_lit 1)))])
def f7Q1 : Quest := (.le [([], (Int.ofNat (nat_lit 6))), ([(.rem (.var (nat_lit 4)) (.lit (Int.ofNat (nat_lit 12))))], (Int.ofNat (nat_lit 1)))])
def f7T2 : STree := (.test (.le [([], (Int.ofNat (nat_lit 9))), ([(.rem (.var (nat_lit 4)) (.lit (Int.ofNat (nat_lit 12))))], (Int.ofNat (nat_lit 1)))])
  (.test (.le [([], (Int.ofNat (nat_lit 10))), ([(.rem (.var (nat_lit 4)) (.lit (Int.ofNat (nat_lit 12))))], (Int.ofNat (nat_lit 1)))])
  (.test (.le [([], (Int.ofNat (nat_lit 11))), ([(.rem (.var (nat_lit 4)) (.lit (Int.ofNat (nat_lit 12))))], (Int.ofNat (nat_lit 1)))])
  (.leaf (.bool true))
  (.leaf (.bool true)))
  (.leaf (.bool true)))
  (.test (.le [([], (Int.ofNat (nat_lit 7))), ([(.rem (.var (nat_lit 4)) (.lit (Int.ofNat (nat_lit 12))))], (Int.ofNat (nat_lit 1)))])
  (.test (.le [([], (Int.ofNat (nat_lit 8))), ([(.rem (.var (nat_lit 4)) (.lit (Int.ofNat (nat_lit 12))))], (Int.ofNat (nat_lit 1)))])
  (.leaf (.bool true))
  (.leaf (.bool true)))
  (.leaf (.bool true))))
theorem f7C2 : checkT Tryd.prog (xOf symX) (gxOf symG) (sumsOf sums24) 10000 7 f7A f7T2 (((facts0 f7K).yes f7Q0).yes f7Q1) = true := by kernel_rfl
def f7T3 : STree := (.test (.le [([], (Int.ofNat (nat_lit 3))), ([(.rem (.var (nat_lit 4)) (.lit (Int.ofNat (nat_lit 12))))], (Int.ofNat (nat_lit 1)))])
  (.test (.le [([], (Int.ofNat (nat_lit 4))), ([(.rem (.var (nat_lit 4)) (.lit (Int.ofNat (nat_lit 12))))], (Int.ofNat (nat_lit 1)))])
  (.test (.le [([], (Int.ofNat (nat_lit 5))), ([(.rem (.var (nat_lit 4)) (.lit (Int.ofNat (nat_lit 12))))], (Int.ofNat (nat_lit 1)))])
  (.leaf (.bool true))
  (.leaf (.bool true)))
  (.leaf (.bool true)))
  (.test (.le [([], (Int.ofNat (nat_lit 1))), ([(.rem (.var (nat_lit 4)) (.lit (Int.ofNat (nat_lit 12))))], (Int.ofNat (nat_lit 1)))])
  (.test (.le [([], (Int.ofNat (nat_lit 2))), ([(.rem (.var (nat_lit 4)) (.lit (Int.ofNat (nat_lit 12))))], (Int.ofNat (nat_lit 1)))])
  (.leaf (.bool true))
  (.leaf (.bool true)))
  (.leaf (.bool true))))
theorem f7C3 : checkT Tryd.prog (xOf symX) (gxOf symG) (sumsOf sums24) 10000 7 f7A f7T3 (((facts0 f7K).yes f7Q0).no f7Q1) = true := by kernel_rfl
def f7T4 : STree := .test f7Q1 f7T2 f7T3
theorem f7C4 : checkT Tryd.prog (xOf symX) (gxOf symG) (sumsOf sums24) 10000 7 f7A f7T4 ((facts0 f7K).yes f7Q0) = true := checkT_test f7C2 f7C3
def f7Q5 : Quest := (.le [([], (Int.negSucc (nat_lit 5))), ([(.rem (.var (nat_lit 4)) (.lit (Int.ofNat (nat_lit 12))))], (Int.ofNat (nat_lit 1)))])
def f7T6 : STree := (.test (.le [([], (Int.negSucc (nat_lit 2))), ([(.rem (.var (nat_lit 4)) (.lit (Int.ofNat (nat_lit 12))))], (Int.ofNat (nat_lit 1)))])
  (.test (.le [([], (Int.negSucc (nat_lit 1))), ([(.rem (.var (nat_lit 4)) (.lit (Int.ofNat (nat_lit 12))))], (Int.ofNat (nat_lit 1)))])
  (.test (.le [([], (Int.negSucc (nat_lit 0))), ([(.rem (.var (nat_lit 4)) (.lit (Int.ofNat (nat_lit 12))))], (Int.ofNat (nat_lit 1)))])
  (.leaf (.bool true))
  (.leaf (.bool true)))
  (.leaf (.bool true)))
  (.test (.le [([], (Int.negSucc (nat_lit 4))), ([(.rem (.var (nat_lit 4)) (.lit (Int.ofNat (nat_lit 12))))], (Int.ofNat (nat_lit 1)))])
  (.test (.le [([], (Int.negSucc (nat_lit 3))), ([(.rem (.var (nat_lit 4)) (.lit (Int.ofNat (nat_lit 12))))], (Int.ofNat (nat_lit 1)))])
  (.leaf (.bool true))
  (.leaf (.bool true)))
  (.leaf (.bool true))))
theorem f7C6 : checkT Tryd.prog (xOf symX) (gxOf symG) (sumsOf sums24) 10000 7 f7A f7T6 (((facts0 f7K).no f7Q0).yes f7Q5) = true := by kernel_rfl
def f7T7 : STree := (.test (.le [([], (Int.negSucc (nat_lit 8))), ([(.rem (.var (nat_lit 4)) (.lit (Int.ofNat (nat_lit 12))))], (Int.ofNat (nat_lit 1)))])
  (.test (.le [([], (Int.negSucc (nat_lit 7))), ([(.rem (.var (nat_lit 4)) (.lit (Int.ofNat (nat_lit 12))))], (Int.ofNat (nat_lit 1)))])
  (.test (.le [([], (Int.negSucc (nat_lit 6))), ([(.rem (.var (nat_lit 4)) (.lit (Int.ofNat (nat_lit 12))))], (Int.ofNat (nat_lit 1)))])
  (.leaf (.bool true))
  (.leaf (.bool true)))
  (.leaf (.bool true)))
  (.test (.le [([], (Int.negSucc (nat_lit 9))), ([(.rem (.var (nat_lit 4)) (.lit (Int.ofNat (nat_lit 12))))], (Int.ofNat (nat_lit 1)))])
  (.leaf (.bool true))
  (.leaf (.bool true))))
theorem f7C7 : checkT Tryd.prog (xOf symX) (gxOf symG) (sumsOf sums24) 10000 7 f7A f7T7 (((facts0 f7K).no f7Q0).no f7Q5) = true := by kernel_rfl
def f7T8 : STree := .test f7Q5 f7T6 f7T7
theorem f7C8 : checkT Tryd.prog (xOf symX) (gxOf symG) (sumsOf sums24) 10000 7 f7A f7T8 ((facts0 f7K).no f7Q0) = true := checkT_test f7C6 f7C7
def f7T9 : STree := .test f7Q0 f7T4 f7T8
theorem f7C9 : checkT Tryd.prog (xOf symX) (gxOf symG) (sumsOf sums24) 10000 7 f7A f7T9 (facts0 f7K) = true := checkT_test f7C4 f7C8
def f7M : Summ := ⟨f7A, f7K, f7T9⟩
theorem f7Ok : SumOk Tryd.prog (xOf symX) (gxOf symG) 7 f7M := sumOk_of symMixed symClosed sums24Ok f7C9
end Go.Proofs.YtchmfiiipdjikaaDoor
