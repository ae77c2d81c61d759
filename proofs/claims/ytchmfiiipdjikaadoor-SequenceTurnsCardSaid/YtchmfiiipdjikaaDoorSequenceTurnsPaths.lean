/- The paths of SequenceTurns, each checked by the kernel. -/
import Derived.Test.YtchmfiiipdjikaaDoorSumsB
import Derived.KernelRfl
namespace Go.Proofs.YtchmfiiipdjikaaDoor
open Go.Sym

def f13A : List SV := [(.agg [(.int .i64 [([(.var (nat_lit 0))], (Int.ofNat (nat_lit 1)))]), (.int .i64 [([(.var (nat_lit 1))], (Int.ofNat (nat_lit 1)))]), (.int .i64 [([(.var (nat_lit 2))], (Int.ofNat (nat_lit 1)))]), (.int .i64 [([(.var (nat_lit 3))], (Int.ofNat (nat_lit 1)))]), (.int .i64 [([(.var (nat_lit 4))], (Int.ofNat (nat_lit 1)))]), (.int .i64 [([(.var (nat_lit 5))], (Int.ofNat (nat_lit 1)))]), (.int .i64 [([(.var (nat_lit 6))], (Int.ofNat (nat_lit 1)))]), (.int .i64 [([(.var (nat_lit 7))], (Int.ofNat (nat_lit 1)))]), (.int .i64 [([(.var (nat_lit 8))], (Int.ofNat (nat_lit 1)))]), (.int .i64 [([(.var (nat_lit 9))], (Int.ofNat (nat_lit 1)))]), (.int .i64 [([(.var (nat_lit 10))], (Int.ofNat (nat_lit 1)))]), (.int .i64 [([(.var (nat_lit 11))], (Int.ofNat (nat_lit 1)))])]), (.int .i64 [([(.var (nat_lit 12))], (Int.ofNat (nat_lit 1)))])]
def f13K : List IntKind := [.i64, .i64, .i64, .i64, .i64, .i64, .i64, .i64, .i64, .i64, .i64, .i64, .i64]
def f13Q0 : Quest := (.le [([], (Int.ofNat (nat_lit 6))), ([(.emod (nat_lit 12) (.rem (.var (nat_lit 12)) (.lit (Int.ofNat (nat_lit 1000)))))], (Int.negSucc (nat_lit 0)))])
def f13Q1 : Quest := (.le [([], (Int.negSucc (nat_lit 7))), ([(.emod (nat_lit 12) (.rem (.var (nat_lit 12)) (.lit (Int.ofNat (nat_lit 1000)))))], (Int.ofNat (nat_lit 1)))])
def f13Q2 : Quest := (.le [([], (Int.negSucc (nat_lit 6))), ([(.emod (nat_lit 12) (.rem (.var (nat_lit 12)) (.lit (Int.ofNat (nat_lit 1000)))))], (Int.ofNat (nat_lit 1)))])
def f13Q3 : Quest := (.le [([], (Int.negSucc (nat_lit 5))), ([(.emod (nat_lit 12) (.rem (.var (nat_lit 12)) (.lit (Int.ofNat (nat_lit 1000)))))], (Int.ofNat (nat_lit 1)))])
def f13T4 : STree := (.leaf (.bool true))
theorem f13C4 : checkT Tryd.prog (xOf symX) (gxOf symG) (sumsOf sums46) 10000 13 f13A f13T4 (((((facts0 f13K).yes f13Q0).yes f13Q1).yes f13Q2).yes f13Q3) = true := by kernel_rfl
def f13T5 : STree := (.leaf (.bool true))
theorem f13C5 : checkT Tryd.prog (xOf symX) (gxOf symG) (sumsOf sums46) 10000 13 f13A f13T5 (((((facts0 f13K).yes f13Q0).yes f13Q1).yes f13Q2).no f13Q3) = true := by kernel_rfl
def f13T6 : STree := .test f13Q3 f13T4 f13T5
theorem f13C6 : checkT Tryd.prog (xOf symX) (gxOf symG) (sumsOf sums46) 10000 13 f13A f13T6 ((((facts0 f13K).yes f13Q0).yes f13Q1).yes f13Q2) = true := checkT_test f13C4 f13C5
def f13T7 : STree := (.leaf (.bool true))
theorem f13C7 : checkT Tryd.prog (xOf symX) (gxOf symG) (sumsOf sums46) 10000 13 f13A f13T7 ((((facts0 f13K).yes f13Q0).yes f13Q1).no f13Q2) = true := by kernel_rfl
def f13T8 : STree := .test f13Q2 f13T6 f13T7
theorem f13C8 : checkT Tryd.prog (xOf symX) (gxOf symG) (sumsOf sums46) 10000 13 f13A f13T8 (((facts0 f13K).yes f13Q0).yes f13Q1) = true := checkT_test f13C6 f13C7
def f13Q9 : Quest := (.le [([], (Int.negSucc (nat_lit 9))), ([(.emod (nat_lit 12) (.rem (.var (nat_lit 12)) (.lit (Int.ofNat (nat_lit 1000)))))], (Int.ofNat (nat_lit 1)))])
def f13Q10 : Quest := (.le [([], (Int.negSucc (nat_lit 8))), ([(.emod (nat_lit 12) (.rem (.var (nat_lit 12)) (.lit (Int.ofNat (nat_lit 1000)))))], (Int.ofNat (nat_lit 1)))])
def f13T11 : STree := (.leaf (.bool true))
theorem f13C11 : checkT Tryd.prog (xOf symX) (gxOf symG) (sumsOf sums46) 10000 13 f13A f13T11 (((((facts0 f13K).yes f13Q0).no f13Q1).yes f13Q9).yes f13Q10) = true := by kernel_rfl
def f13T12 : STree := (.leaf (.bool true))
theorem f13C12 : checkT Tryd.prog (xOf symX) (gxOf symG) (sumsOf sums46) 10000 13 f13A f13T12 (((((facts0 f13K).yes f13Q0).no f13Q1).yes f13Q9).no f13Q10) = true := by kernel_rfl
def f13T13 : STree := .test f13Q10 f13T11 f13T12
theorem f13C13 : checkT Tryd.prog (xOf symX) (gxOf symG) (sumsOf sums46) 10000 13 f13A f13T13 ((((facts0 f13K).yes f13Q0).no f13Q1).yes f13Q9) = true := checkT_test f13C11 f13C12
def f13T14 : STree := (.leaf (.bool true))
theorem f13C14 : checkT Tryd.prog (xOf symX) (gxOf symG) (sumsOf sums46) 10000 13 f13A f13T14 ((((facts0 f13K).yes f13Q0).no f13Q1).no f13Q9) = true := by kernel_rfl
def f13T15 : STree := .test f13Q9 f13T13 f13T14
theorem f13C15 : checkT Tryd.prog (xOf symX) (gxOf symG) (sumsOf sums46) 10000 13 f13A f13T15 (((facts0 f13K).yes f13Q0).no f13Q1) = true := checkT_test f13C13 f13C14
def f13T16 : STree := .test f13Q1 f13T8 f13T15
theorem f13C16 : checkT Tryd.prog (xOf symX) (gxOf symG) (sumsOf sums46) 10000 13 f13A f13T16 ((facts0 f13K).yes f13Q0) = true := checkT_test f13C8 f13C15
def f13Q17 : Quest := (.le [([], (Int.negSucc (nat_lit 1))), ([(.emod (nat_lit 12) (.rem (.var (nat_lit 12)) (.lit (Int.ofNat (nat_lit 1000)))))], (Int.ofNat (nat_lit 1)))])
def f13Q18 : Quest := (.le [([], (Int.negSucc (nat_lit 0))), ([(.emod (nat_lit 12) (.rem (.var (nat_lit 12)) (.lit (Int.ofNat (nat_lit 1000)))))], (Int.ofNat (nat_lit 1)))])
def f13Q19 : Quest := (.le [([(.emod (nat_lit 12) (.rem (.var (nat_lit 12)) (.lit (Int.ofNat (nat_lit 1000)))))], (Int.ofNat (nat_lit 1)))])
def f13T20 : STree := (.leaf (.bool true))
theorem f13C20 : checkT Tryd.prog (xOf symX) (gxOf symG) (sumsOf sums46) 10000 13 f13A f13T20 (((((facts0 f13K).no f13Q0).yes f13Q17).yes f13Q18).yes f13Q19) = true := by kernel_rfl
def f13T21 : STree := (.leaf (.bool true))
theorem f13C21 : checkT Tryd.prog (xOf symX) (gxOf symG) (sumsOf sums46) 10000 13 f13A f13T21 (((((facts0 f13K).no f13Q0).yes f13Q17).yes f13Q18).no f13Q19) = true := by kernel_rfl
def f13T22 : STree := .test f13Q19 f13T20 f13T21
theorem f13C22 : checkT Tryd.prog (xOf symX) (gxOf symG) (sumsOf sums46) 10000 13 f13A f13T22 ((((facts0 f13K).no f13Q0).yes f13Q17).yes f13Q18) = true := checkT_test f13C20 f13C21
def f13T23 : STree := (.leaf (.bool true))
theorem f13C23 : checkT Tryd.prog (xOf symX) (gxOf symG) (sumsOf sums46) 10000 13 f13A f13T23 ((((facts0 f13K).no f13Q0).yes f13Q17).no f13Q18) = true := by kernel_rfl
def f13T24 : STree := .test f13Q18 f13T22 f13T23
theorem f13C24 : checkT Tryd.prog (xOf symX) (gxOf symG) (sumsOf sums46) 10000 13 f13A f13T24 (((facts0 f13K).no f13Q0).yes f13Q17) = true := checkT_test f13C22 f13C23
def f13Q25 : Quest := (.le [([], (Int.negSucc (nat_lit 3))), ([(.emod (nat_lit 12) (.rem (.var (nat_lit 12)) (.lit (Int.ofNat (nat_lit 1000)))))], (Int.ofNat (nat_lit 1)))])
def f13Q26 : Quest := (.le [([], (Int.negSucc (nat_lit 2))), ([(.emod (nat_lit 12) (.rem (.var (nat_lit 12)) (.lit (Int.ofNat (nat_lit 1000)))))], (Int.ofNat (nat_lit 1)))])
def f13T27 : STree := (.leaf (.bool true))
theorem f13C27 : checkT Tryd.prog (xOf symX) (gxOf symG) (sumsOf sums46) 10000 13 f13A f13T27 (((((facts0 f13K).no f13Q0).no f13Q17).yes f13Q25).yes f13Q26) = true := by kernel_rfl
def f13T28 : STree := (.leaf (.bool true))
theorem f13C28 : checkT Tryd.prog (xOf symX) (gxOf symG) (sumsOf sums46) 10000 13 f13A f13T28 (((((facts0 f13K).no f13Q0).no f13Q17).yes f13Q25).no f13Q26) = true := by kernel_rfl
def f13T29 : STree := .test f13Q26 f13T27 f13T28
theorem f13C29 : checkT Tryd.prog (xOf symX) (gxOf symG) (sumsOf sums46) 10000 13 f13A f13T29 ((((facts0 f13K).no f13Q0).no f13Q17).yes f13Q25) = true := checkT_test f13C27 f13C28
def f13T30 : STree := (.leaf (.bool true))
theorem f13C30 : checkT Tryd.prog (xOf symX) (gxOf symG) (sumsOf sums46) 10000 13 f13A f13T30 ((((facts0 f13K).no f13Q0).no f13Q17).no f13Q25) = true := by kernel_rfl
def f13T31 : STree := .test f13Q25 f13T29 f13T30
theorem f13C31 : checkT Tryd.prog (xOf symX) (gxOf symG) (sumsOf sums46) 10000 13 f13A f13T31 (((facts0 f13K).no f13Q0).no f13Q17) = true := checkT_test f13C29 f13C30
def f13T32 : STree := .test f13Q17 f13T24 f13T31
theorem f13C32 : checkT Tryd.prog (xOf symX) (gxOf symG) (sumsOf sums46) 10000 13 f13A f13T32 ((facts0 f13K).no f13Q0) = true := checkT_test f13C24 f13C31
def f13T33 : STree := .test f13Q0 f13T16 f13T32
theorem f13C33 : checkT Tryd.prog (xOf symX) (gxOf symG) (sumsOf sums46) 10000 13 f13A f13T33 (facts0 f13K) = true := checkT_test f13C16 f13C32
def f13M : Summ := ⟨f13A, f13K, f13T33⟩
theorem f13Ok : SumOk Tryd.prog (xOf symX) (gxOf symG) 13 f13M := sumOk_of symMixed symClosed sums46Ok f13C33
end Go.Proofs.YtchmfiiipdjikaaDoor
