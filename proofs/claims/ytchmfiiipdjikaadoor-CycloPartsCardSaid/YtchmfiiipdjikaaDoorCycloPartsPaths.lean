/- The paths of CycloParts, each checked by the kernel. -/
import Derived.Test.YtchmfiiipdjikaaDoorSums
import Derived.KernelRfl
namespace Go.Proofs.YtchmfiiipdjikaaDoor
open Go.Sym

def f6A : List SV := [(.agg [(.int .i64 [([(.var (nat_lit 0))], (Int.ofNat (nat_lit 1)))]), (.int .i64 [([(.var (nat_lit 1))], (Int.ofNat (nat_lit 1)))]), (.int .i64 [([(.var (nat_lit 2))], (Int.ofNat (nat_lit 1)))]), (.int .i64 [([(.var (nat_lit 3))], (Int.ofNat (nat_lit 1)))])])]
def f6K : List IntKind := [.i64, .i64, .i64, .i64]
def f6Q0 : Quest := (.le [([], (Int.ofNat (nat_lit 144115188075855873))), ([(.var (nat_lit 0))], (Int.ofNat (nat_lit 1)))])
def f6T1 : STree := (.leaf (.bool true))
theorem f6C1 : checkT Tryd.prog (xOf symX) (gxOf symG) (sumsOf sums24) 10000 6 f6A f6T1 ((facts0 f6K).yes f6Q0) = true := by kernel_rfl
def f6Q2 : Quest := (.le [([], (Int.ofNat (nat_lit 144115188075855873))), ([(.var (nat_lit 0))], (Int.negSucc (nat_lit 0)))])
def f6T3 : STree := (.leaf (.bool true))
theorem f6C3 : checkT Tryd.prog (xOf symX) (gxOf symG) (sumsOf sums24) 10000 6 f6A f6T3 (((facts0 f6K).no f6Q0).yes f6Q2) = true := by kernel_rfl
def f6Q4 : Quest := (.le [([], (Int.ofNat (nat_lit 144115188075855873))), ([(.var (nat_lit 1))], (Int.ofNat (nat_lit 1)))])
def f6T5 : STree := (.test (.le [([], (Int.ofNat (nat_lit 268435457))), ([(.var (nat_lit 0))], (Int.ofNat (nat_lit 1)))])
  (.leaf (.bool true))
  (.test (.le [([], (Int.ofNat (nat_lit 268435457))), ([(.var (nat_lit 0))], (Int.negSucc (nat_lit 0)))])
  (.leaf (.bool true))
  (.leaf (.bool true))))
theorem f6C5 : checkT Tryd.prog (xOf symX) (gxOf symG) (sumsOf sums24) 10000 6 f6A f6T5 ((((facts0 f6K).no f6Q0).no f6Q2).yes f6Q4) = true := by kernel_rfl
def f6Q6 : Quest := (.le [([], (Int.ofNat (nat_lit 144115188075855873))), ([(.var (nat_lit 1))], (Int.negSucc (nat_lit 0)))])
def f6T7 : STree := (.test (.le [([], (Int.ofNat (nat_lit 268435457))), ([(.var (nat_lit 0))], (Int.ofNat (nat_lit 1)))])
  (.leaf (.bool true))
  (.test (.le [([], (Int.ofNat (nat_lit 268435457))), ([(.var (nat_lit 0))], (Int.negSucc (nat_lit 0)))])
  (.leaf (.bool true))
  (.leaf (.bool true))))
theorem f6C7 : checkT Tryd.prog (xOf symX) (gxOf symG) (sumsOf sums24) 10000 6 f6A f6T7 (((((facts0 f6K).no f6Q0).no f6Q2).no f6Q4).yes f6Q6) = true := by kernel_rfl
def f6Q8 : Quest := (.le [([], (Int.ofNat (nat_lit 144115188075855873))), ([(.var (nat_lit 2))], (Int.ofNat (nat_lit 1)))])
def f6T9 : STree := (.test (.le [([], (Int.ofNat (nat_lit 268435457))), ([(.var (nat_lit 0))], (Int.ofNat (nat_lit 1)))])
  (.leaf (.bool true))
  (.test (.le [([], (Int.ofNat (nat_lit 268435457))), ([(.var (nat_lit 0))], (Int.negSucc (nat_lit 0)))])
  (.leaf (.bool true))
  (.test (.le [([], (Int.ofNat (nat_lit 268435457))), ([(.var (nat_lit 1))], (Int.ofNat (nat_lit 1)))])
  (.leaf (.bool true))
  (.test (.le [([], (Int.ofNat (nat_lit 268435457))), ([(.var (nat_lit 1))], (Int.negSucc (nat_lit 0)))])
  (.leaf (.bool true))
  (.leaf (.bool true))))))
theorem f6C9 : checkT Tryd.prog (xOf symX) (gxOf symG) (sumsOf sums24) 10000 6 f6A f6T9 ((((((facts0 f6K).no f6Q0).no f6Q2).no f6Q4).no f6Q6).yes f6Q8) = true := by kernel_rfl
def f6Q10 : Quest := (.le [([], (Int.ofNat (nat_lit 144115188075855873))), ([(.var (nat_lit 2))], (Int.negSucc (nat_lit 0)))])
def f6T11 : STree := (.test (.le [([], (Int.ofNat (nat_lit 268435457))), ([(.var (nat_lit 0))], (Int.ofNat (nat_lit 1)))])
  (.leaf (.bool true))
  (.test (.le [([], (Int.ofNat (nat_lit 268435457))), ([(.var (nat_lit 0))], (Int.negSucc (nat_lit 0)))])
  (.leaf (.bool true))
  (.test (.le [([], (Int.ofNat (nat_lit 268435457))), ([(.var (nat_lit 1))], (Int.ofNat (nat_lit 1)))])
  (.leaf (.bool true))
  (.test (.le [([], (Int.ofNat (nat_lit 268435457))), ([(.var (nat_lit 1))], (Int.negSucc (nat_lit 0)))])
  (.leaf (.bool true))
  (.leaf (.bool true))))))
theorem f6C11 : checkT Tryd.prog (xOf symX) (gxOf symG) (sumsOf sums24) 10000 6 f6A f6T11 (((((((facts0 f6K).no f6Q0).no f6Q2).no f6Q4).no f6Q6).no f6Q8).yes f6Q10) = true := by kernel_rfl
def f6Q12 : Quest := (.le [([], (Int.ofNat (nat_lit 144115188075855873))), ([(.var (nat_lit 3))], (Int.ofNat (nat_lit 1)))])
def f6T13 : STree := (.test (.le [([], (Int.ofNat (nat_lit 268435457))), ([(.var (nat_lit 0))], (Int.ofNat (nat_lit 1)))])
  (.leaf (.bool true))
  (.test (.le [([], (Int.ofNat (nat_lit 268435457))), ([(.var (nat_lit 0))], (Int.negSucc (nat_lit 0)))])
  (.leaf (.bool true))
  (.test (.le [([], (Int.ofNat (nat_lit 268435457))), ([(.var (nat_lit 1))], (Int.ofNat (nat_lit 1)))])
  (.leaf (.bool true))
  (.test (.le [([], (Int.ofNat (nat_lit 268435457))), ([(.var (nat_lit 1))], (Int.negSucc (nat_lit 0)))])
  (.leaf (.bool true))
  (.test (.le [([], (Int.ofNat (nat_lit 268435457))), ([(.var (nat_lit 2))], (Int.ofNat (nat_lit 1)))])
  (.leaf (.bool true))
  (.test (.le [([], (Int.ofNat (nat_lit 268435457))), ([(.var (nat_lit 2))], (Int.negSucc (nat_lit 0)))])
  (.leaf (.bool true))
  (.leaf (.bool true))))))))
theorem f6C13 : checkT Tryd.prog (xOf symX) (gxOf symG) (sumsOf sums24) 10000 6 f6A f6T13 ((((((((facts0 f6K).no f6Q0).no f6Q2).no f6Q4).no f6Q6).no f6Q8).no f6Q10).yes f6Q12) = true := by kernel_rfl
def f6T14 : STree := (.test (.le [([], (Int.ofNat (nat_lit 144115188075855873))), ([(.var (nat_lit 3))], (Int.negSucc (nat_lit 0)))])
  (.test (.le [([], (Int.ofNat (nat_lit 268435457))), ([(.var (nat_lit 0))], (Int.ofNat (nat_lit 1)))])
  (.leaf (.bool true))
  (.test (.le [([], (Int.ofNat (nat_lit 268435457))), ([(.var (nat_lit 0))], (Int.negSucc (nat_lit 0)))])
  (.leaf (.bool true))
  (.test (.le [([], (Int.ofNat (nat_lit 268435457))), ([(.var (nat_lit 1))], (Int.ofNat (nat_lit 1)))])
  (.leaf (.bool true))
  (.test (.le [([], (Int.ofNat (nat_lit 268435457))), ([(.var (nat_lit 1))], (Int.negSucc (nat_lit 0)))])
  (.leaf (.bool true))
  (.test (.le [([], (Int.ofNat (nat_lit 268435457))), ([(.var (nat_lit 2))], (Int.ofNat (nat_lit 1)))])
  (.leaf (.bool true))
  (.test (.le [([], (Int.ofNat (nat_lit 268435457))), ([(.var (nat_lit 2))], (Int.negSucc (nat_lit 0)))])
  (.leaf (.bool true))
  (.leaf (.bool true))))))))
  (.test (.le [([], (Int.ofNat (nat_lit 268435457))), ([(.var (nat_lit 0))], (Int.ofNat (nat_lit 1)))])
  (.leaf (.bool true))
  (.test (.le [([], (Int.ofNat (nat_lit 268435457))), ([(.var (nat_lit 0))], (Int.negSucc (nat_lit 0)))])
  (.leaf (.bool true))
  (.test (.le [([], (Int.ofNat (nat_lit 268435457))), ([(.var (nat_lit 1))], (Int.ofNat (nat_lit 1)))])
  (.leaf (.bool true))
  (.test (.le [([], (Int.ofNat (nat_lit 268435457))), ([(.var (nat_lit 1))], (Int.negSucc (nat_lit 0)))])
  (.leaf (.bool true))
  (.test (.le [([], (Int.ofNat (nat_lit 268435457))), ([(.var (nat_lit 2))], (Int.ofNat (nat_lit 1)))])
  (.leaf (.bool true))
  (.test (.le [([], (Int.ofNat (nat_lit 268435457))), ([(.var (nat_lit 2))], (Int.negSucc (nat_lit 0)))])
  (.leaf (.bool true))
  (.test (.le [([], (Int.ofNat (nat_lit 268435457))), ([(.var (nat_lit 3))], (Int.ofNat (nat_lit 1)))])
  (.leaf (.bool true))
  (.test (.le [([], (Int.ofNat (nat_lit 268435457))), ([(.var (nat_lit 3))], (Int.negSucc (nat_lit 0)))])
  (.leaf (.bool true))
  (.leaf (.bool true)))))))))))
theorem f6C14 : checkT Tryd.prog (xOf symX) (gxOf symG) (sumsOf sums24) 10000 6 f6A f6T14 ((((((((facts0 f6K).no f6Q0).no f6Q2).no f6Q4).no f6Q6).no f6Q8).no f6Q10).no f6Q12) = true := by kernel_rfl
def f6T15 : STree := .test f6Q12 f6T13 f6T14
theorem f6C15 : checkT Tryd.prog (xOf symX) (gxOf symG) (sumsOf sums24) 10000 6 f6A f6T15 (((((((facts0 f6K).no f6Q0).no f6Q2).no f6Q4).no f6Q6).no f6Q8).no f6Q10) = true := checkT_test f6C13 f6C14
def f6T16 : STree := .test f6Q10 f6T11 f6T15
theorem f6C16 : checkT Tryd.prog (xOf symX) (gxOf symG) (sumsOf sums24) 10000 6 f6A f6T16 ((((((facts0 f6K).no f6Q0).no f6Q2).no f6Q4).no f6Q6).no f6Q8) = true := checkT_test f6C11 f6C15
def f6T17 : STree := .test f6Q8 f6T9 f6T16
theorem f6C17 : checkT Tryd.prog (xOf symX) (gxOf symG) (sumsOf sums24) 10000 6 f6A f6T17 (((((facts0 f6K).no f6Q0).no f6Q2).no f6Q4).no f6Q6) = true := checkT_test f6C9 f6C16
def f6T18 : STree := .test f6Q6 f6T7 f6T17
theorem f6C18 : checkT Tryd.prog (xOf symX) (gxOf symG) (sumsOf sums24) 10000 6 f6A f6T18 ((((facts0 f6K).no f6Q0).no f6Q2).no f6Q4) = true := checkT_test f6C7 f6C17
def f6T19 : STree := .test f6Q4 f6T5 f6T18
theorem f6C19 : checkT Tryd.prog (xOf symX) (gxOf symG) (sumsOf sums24) 10000 6 f6A f6T19 (((facts0 f6K).no f6Q0).no f6Q2) = true := checkT_test f6C5 f6C18
def f6T20 : STree := .test f6Q2 f6T3 f6T19
theorem f6C20 : checkT Tryd.prog (xOf symX) (gxOf symG) (sumsOf sums24) 10000 6 f6A f6T20 ((facts0 f6K).no f6Q0) = true := checkT_test f6C3 f6C19
def f6T21 : STree := .test f6Q0 f6T1 f6T20
theorem f6C21 : checkT Tryd.prog (xOf symX) (gxOf symG) (sumsOf sums24) 10000 6 f6A f6T21 (facts0 f6K) = true := checkT_test f6C1 f6C20
def f6M : Summ := ⟨f6A, f6K, f6T21⟩
theorem f6Ok : SumOk Tryd.prog (xOf symX) (gxOf symG) 6 f6M := sumOk_of symMixed symClosed sums24Ok f6C21
end Go.Proofs.YtchmfiiipdjikaaDoor
