/- The paths of CycloRotations, each checked by the kernel. -/
import Derived.Test.YtchmfiiipdjikaaDoorSums
import Derived.KernelRfl
namespace Go.Proofs.YtchmfiiipdjikaaDoor
open Go.Sym

def f5A : List SV := [(.agg [(.int .i64 [([(.var (nat_lit 0))], (Int.ofNat (nat_lit 1)))]), (.int .i64 [([(.var (nat_lit 1))], (Int.ofNat (nat_lit 1)))]), (.int .i64 [([(.var (nat_lit 2))], (Int.ofNat (nat_lit 1)))]), (.int .i64 [([(.var (nat_lit 3))], (Int.ofNat (nat_lit 1)))])]), (.int .i64 [([(.var (nat_lit 4))], (Int.ofNat (nat_lit 1)))]), (.int .i64 [([(.var (nat_lit 5))], (Int.ofNat (nat_lit 1)))])]
def f5K : List IntKind := [.i64, .i64, .i64, .i64, .i64, .i64]
def f5Q0 : Quest := (.le [([], (Int.ofNat (nat_lit 6))), ([(.emod (nat_lit 12) (.rem (.var (nat_lit 5)) (.lit (Int.ofNat (nat_lit 1000000)))))], (Int.negSucc (nat_lit 0)))])
def f5Q1 : Quest := (.le [([], (Int.negSucc (nat_lit 7))), ([(.emod (nat_lit 12) (.rem (.var (nat_lit 5)) (.lit (Int.ofNat (nat_lit 1000000)))))], (Int.ofNat (nat_lit 1)))])
def f5Q2 : Quest := (.le [([], (Int.negSucc (nat_lit 6))), ([(.emod (nat_lit 12) (.rem (.var (nat_lit 5)) (.lit (Int.ofNat (nat_lit 1000000)))))], (Int.ofNat (nat_lit 1)))])
def f5Q3 : Quest := (.le [([], (Int.negSucc (nat_lit 5))), ([(.emod (nat_lit 12) (.rem (.var (nat_lit 5)) (.lit (Int.ofNat (nat_lit 1000000)))))], (Int.ofNat (nat_lit 1)))])
def f5Q4 : Quest := (.le [([], (Int.ofNat (nat_lit 6))), ([(.emod (nat_lit 12) (.rem (.var (nat_lit 4)) (.lit (Int.ofNat (nat_lit 1000000)))))], (Int.negSucc (nat_lit 0)))])
def f5T5 : STree := (.test (.le [([], (Int.negSucc (nat_lit 7))), ([(.emod (nat_lit 12) (.rem (.var (nat_lit 4)) (.lit (Int.ofNat (nat_lit 1000000)))))], (Int.ofNat (nat_lit 1)))])
  (.test (.le [([], (Int.negSucc (nat_lit 6))), ([(.emod (nat_lit 12) (.rem (.var (nat_lit 4)) (.lit (Int.ofNat (nat_lit 1000000)))))], (Int.ofNat (nat_lit 1)))])
  (.test (.le [([], (Int.negSucc (nat_lit 5))), ([(.emod (nat_lit 12) (.rem (.var (nat_lit 4)) (.lit (Int.ofNat (nat_lit 1000000)))))], (Int.ofNat (nat_lit 1)))])
  (.leaf (.bool true))
  (.leaf (.bool true)))
  (.leaf (.bool true)))
  (.test (.le [([], (Int.negSucc (nat_lit 9))), ([(.emod (nat_lit 12) (.rem (.var (nat_lit 4)) (.lit (Int.ofNat (nat_lit 1000000)))))], (Int.ofNat (nat_lit 1)))])
  (.test (.le [([], (Int.negSucc (nat_lit 8))), ([(.emod (nat_lit 12) (.rem (.var (nat_lit 4)) (.lit (Int.ofNat (nat_lit 1000000)))))], (Int.ofNat (nat_lit 1)))])
  (.leaf (.bool true))
  (.leaf (.bool true)))
  (.leaf (.bool true))))
theorem f5C5 : checkT Tryd.prog (xOf symX) (gxOf symG) (sumsOf sums24) 10000 5 f5A f5T5 ((((((facts0 f5K).yes f5Q0).yes f5Q1).yes f5Q2).yes f5Q3).yes f5Q4) = true := by kernel_rfl
def f5T6 : STree := (.test (.le [([], (Int.negSucc (nat_lit 1))), ([(.emod (nat_lit 12) (.rem (.var (nat_lit 4)) (.lit (Int.ofNat (nat_lit 1000000)))))], (Int.ofNat (nat_lit 1)))])
  (.test (.le [([], (Int.negSucc (nat_lit 0))), ([(.emod (nat_lit 12) (.rem (.var (nat_lit 4)) (.lit (Int.ofNat (nat_lit 1000000)))))], (Int.ofNat (nat_lit 1)))])
  (.test (.le [([(.emod (nat_lit 12) (.rem (.var (nat_lit 4)) (.lit (Int.ofNat (nat_lit 1000000)))))], (Int.ofNat (nat_lit 1)))])
  (.leaf (.bool true))
  (.leaf (.bool true)))
  (.leaf (.bool true)))
  (.test (.le [([], (Int.negSucc (nat_lit 3))), ([(.emod (nat_lit 12) (.rem (.var (nat_lit 4)) (.lit (Int.ofNat (nat_lit 1000000)))))], (Int.ofNat (nat_lit 1)))])
  (.test (.le [([], (Int.negSucc (nat_lit 2))), ([(.emod (nat_lit 12) (.rem (.var (nat_lit 4)) (.lit (Int.ofNat (nat_lit 1000000)))))], (Int.ofNat (nat_lit 1)))])
  (.leaf (.bool true))
  (.leaf (.bool true)))
  (.leaf (.bool true))))
theorem f5C6 : checkT Tryd.prog (xOf symX) (gxOf symG) (sumsOf sums24) 10000 5 f5A f5T6 ((((((facts0 f5K).yes f5Q0).yes f5Q1).yes f5Q2).yes f5Q3).no f5Q4) = true := by kernel_rfl
def f5T7 : STree := .test f5Q4 f5T5 f5T6
theorem f5C7 : checkT Tryd.prog (xOf symX) (gxOf symG) (sumsOf sums24) 10000 5 f5A f5T7 (((((facts0 f5K).yes f5Q0).yes f5Q1).yes f5Q2).yes f5Q3) = true := checkT_test f5C5 f5C6
def f5Q8 : Quest := (.le [([], (Int.ofNat (nat_lit 6))), ([(.emod (nat_lit 12) (.rem (.var (nat_lit 4)) (.lit (Int.ofNat (nat_lit 1000000)))))], (Int.negSucc (nat_lit 0)))])
def f5T9 : STree := (.test (.le [([], (Int.negSucc (nat_lit 7))), ([(.emod (nat_lit 12) (.rem (.var (nat_lit 4)) (.lit (Int.ofNat (nat_lit 1000000)))))], (Int.ofNat (nat_lit 1)))])
  (.test (.le [([], (Int.negSucc (nat_lit 6))), ([(.emod (nat_lit 12) (.rem (.var (nat_lit 4)) (.lit (Int.ofNat (nat_lit 1000000)))))], (Int.ofNat (nat_lit 1)))])
  (.test (.le [([], (Int.negSucc (nat_lit 5))), ([(.emod (nat_lit 12) (.rem (.var (nat_lit 4)) (.lit (Int.ofNat (nat_lit 1000000)))))], (Int.ofNat (nat_lit 1)))])
  (.leaf (.bool true))
  (.leaf (.bool true)))
  (.leaf (.bool true)))
  (.test (.le [([], (Int.negSucc (nat_lit 9))), ([(.emod (nat_lit 12) (.rem (.var (nat_lit 4)) (.lit (Int.ofNat (nat_lit 1000000)))))], (Int.ofNat (nat_lit 1)))])
  (.test (.le [([], (Int.negSucc (nat_lit 8))), ([(.emod (nat_lit 12) (.rem (.var (nat_lit 4)) (.lit (Int.ofNat (nat_lit 1000000)))))], (Int.ofNat (nat_lit 1)))])
  (.leaf (.bool true))
  (.leaf (.bool true)))
  (.leaf (.bool true))))
theorem f5C9 : checkT Tryd.prog (xOf symX) (gxOf symG) (sumsOf sums24) 10000 5 f5A f5T9 ((((((facts0 f5K).yes f5Q0).yes f5Q1).yes f5Q2).no f5Q3).yes f5Q8) = true := by kernel_rfl
def f5T10 : STree := (.test (.le [([], (Int.negSucc (nat_lit 1))), ([(.emod (nat_lit 12) (.rem (.var (nat_lit 4)) (.lit (Int.ofNat (nat_lit 1000000)))))], (Int.ofNat (nat_lit 1)))])
  (.test (.le [([], (Int.negSucc (nat_lit 0))), ([(.emod (nat_lit 12) (.rem (.var (nat_lit 4)) (.lit (Int.ofNat (nat_lit 1000000)))))], (Int.ofNat (nat_lit 1)))])
  (.test (.le [([(.emod (nat_lit 12) (.rem (.var (nat_lit 4)) (.lit (Int.ofNat (nat_lit 1000000)))))], (Int.ofNat (nat_lit 1)))])
  (.leaf (.bool true))
  (.leaf (.bool true)))
  (.leaf (.bool true)))
  (.test (.le [([], (Int.negSucc (nat_lit 3))), ([(.emod (nat_lit 12) (.rem (.var (nat_lit 4)) (.lit (Int.ofNat (nat_lit 1000000)))))], (Int.ofNat (nat_lit 1)))])
  (.test (.le [([], (Int.negSucc (nat_lit 2))), ([(.emod (nat_lit 12) (.rem (.var (nat_lit 4)) (.lit (Int.ofNat (nat_lit 1000000)))))], (Int.ofNat (nat_lit 1)))])
  (.leaf (.bool true))
  (.leaf (.bool true)))
  (.leaf (.bool true))))
theorem f5C10 : checkT Tryd.prog (xOf symX) (gxOf symG) (sumsOf sums24) 10000 5 f5A f5T10 ((((((facts0 f5K).yes f5Q0).yes f5Q1).yes f5Q2).no f5Q3).no f5Q8) = true := by kernel_rfl
def f5T11 : STree := .test f5Q8 f5T9 f5T10
theorem f5C11 : checkT Tryd.prog (xOf symX) (gxOf symG) (sumsOf sums24) 10000 5 f5A f5T11 (((((facts0 f5K).yes f5Q0).yes f5Q1).yes f5Q2).no f5Q3) = true := checkT_test f5C9 f5C10
def f5T12 : STree := .test f5Q3 f5T7 f5T11
theorem f5C12 : checkT Tryd.prog (xOf symX) (gxOf symG) (sumsOf sums24) 10000 5 f5A f5T12 ((((facts0 f5K).yes f5Q0).yes f5Q1).yes f5Q2) = true := checkT_test f5C7 f5C11
def f5Q13 : Quest := (.le [([], (Int.ofNat (nat_lit 6))), ([(.emod (nat_lit 12) (.rem (.var (nat_lit 4)) (.lit (Int.ofNat (nat_lit 1000000)))))], (Int.negSucc (nat_lit 0)))])
def f5T14 : STree := (.test (.le [([], (Int.negSucc (nat_lit 7))), ([(.emod (nat_lit 12) (.rem (.var (nat_lit 4)) (.lit (Int.ofNat (nat_lit 1000000)))))], (Int.ofNat (nat_lit 1)))])
  (.test (.le [([], (Int.negSucc (nat_lit 6))), ([(.emod (nat_lit 12) (.rem (.var (nat_lit 4)) (.lit (Int.ofNat (nat_lit 1000000)))))], (Int.ofNat (nat_lit 1)))])
  (.test (.le [([], (Int.negSucc (nat_lit 5))), ([(.emod (nat_lit 12) (.rem (.var (nat_lit 4)) (.lit (Int.ofNat (nat_lit 1000000)))))], (Int.ofNat (nat_lit 1)))])
  (.leaf (.bool true))
  (.leaf (.bool true)))
  (.leaf (.bool true)))
  (.test (.le [([], (Int.negSucc (nat_lit 9))), ([(.emod (nat_lit 12) (.rem (.var (nat_lit 4)) (.lit (Int.ofNat (nat_lit 1000000)))))], (Int.ofNat (nat_lit 1)))])
  (.test (.le [([], (Int.negSucc (nat_lit 8))), ([(.emod (nat_lit 12) (.rem (.var (nat_lit 4)) (.lit (Int.ofNat (nat_lit 1000000)))))], (Int.ofNat (nat_lit 1)))])
  (.leaf (.bool true))
  (.leaf (.bool true)))
  (.leaf (.bool true))))
theorem f5C14 : checkT Tryd.prog (xOf symX) (gxOf symG) (sumsOf sums24) 10000 5 f5A f5T14 (((((facts0 f5K).yes f5Q0).yes f5Q1).no f5Q2).yes f5Q13) = true := by kernel_rfl
def f5T15 : STree := (.test (.le [([], (Int.negSucc (nat_lit 1))), ([(.emod (nat_lit 12) (.rem (.var (nat_lit 4)) (.lit (Int.ofNat (nat_lit 1000000)))))], (Int.ofNat (nat_lit 1)))])
  (.test (.le [([], (Int.negSucc (nat_lit 0))), ([(.emod (nat_lit 12) (.rem (.var (nat_lit 4)) (.lit (Int.ofNat (nat_lit 1000000)))))], (Int.ofNat (nat_lit 1)))])
  (.test (.le [([(.emod (nat_lit 12) (.rem (.var (nat_lit 4)) (.lit (Int.ofNat (nat_lit 1000000)))))], (Int.ofNat (nat_lit 1)))])
  (.leaf (.bool true))
  (.leaf (.bool true)))
  (.leaf (.bool true)))
  (.test (.le [([], (Int.negSucc (nat_lit 3))), ([(.emod (nat_lit 12) (.rem (.var (nat_lit 4)) (.lit (Int.ofNat (nat_lit 1000000)))))], (Int.ofNat (nat_lit 1)))])
  (.test (.le [([], (Int.negSucc (nat_lit 2))), ([(.emod (nat_lit 12) (.rem (.var (nat_lit 4)) (.lit (Int.ofNat (nat_lit 1000000)))))], (Int.ofNat (nat_lit 1)))])
  (.leaf (.bool true))
  (.leaf (.bool true)))
  (.leaf (.bool true))))
theorem f5C15 : checkT Tryd.prog (xOf symX) (gxOf symG) (sumsOf sums24) 10000 5 f5A f5T15 (((((facts0 f5K).yes f5Q0).yes f5Q1).no f5Q2).no f5Q13) = true := by kernel_rfl
def f5T16 : STree := .test f5Q13 f5T14 f5T15
theorem f5C16 : checkT Tryd.prog (xOf symX) (gxOf symG) (sumsOf sums24) 10000 5 f5A f5T16 ((((facts0 f5K).yes f5Q0).yes f5Q1).no f5Q2) = true := checkT_test f5C14 f5C15
def f5T17 : STree := .test f5Q2 f5T12 f5T16
theorem f5C17 : checkT Tryd.prog (xOf symX) (gxOf symG) (sumsOf sums24) 10000 5 f5A f5T17 (((facts0 f5K).yes f5Q0).yes f5Q1) = true := checkT_test f5C12 f5C16
def f5Q18 : Quest := (.le [([], (Int.negSucc (nat_lit 9))), ([(.emod (nat_lit 12) (.rem (.var (nat_lit 5)) (.lit (Int.ofNat (nat_lit 1000000)))))], (Int.ofNat (nat_lit 1)))])
def f5Q19 : Quest := (.le [([], (Int.negSucc (nat_lit 8))), ([(.emod (nat_lit 12) (.rem (.var (nat_lit 5)) (.lit (Int.ofNat (nat_lit 1000000)))))], (Int.ofNat (nat_lit 1)))])
def f5Q20 : Quest := (.le [([], (Int.ofNat (nat_lit 6))), ([(.emod (nat_lit 12) (.rem (.var (nat_lit 4)) (.lit (Int.ofNat (nat_lit 1000000)))))], (Int.negSucc (nat_lit 0)))])
def f5T21 : STree := (.test (.le [([], (Int.negSucc (nat_lit 7))), ([(.emod (nat_lit 12) (.rem (.var (nat_lit 4)) (.lit (Int.ofNat (nat_lit 1000000)))))], (Int.ofNat (nat_lit 1)))])
  (.test (.le [([], (Int.negSucc (nat_lit 6))), ([(.emod (nat_lit 12) (.rem (.var (nat_lit 4)) (.lit (Int.ofNat (nat_lit 1000000)))))], (Int.ofNat (nat_lit 1)))])
  (.test (.le [([], (Int.negSucc (nat_lit 5))), ([(.emod (nat_lit 12) (.rem (.var (nat_lit 4)) (.lit (Int.ofNat (nat_lit 1000000)))))], (Int.ofNat (nat_lit 1)))])
  (.leaf (.bool true))
  (.leaf (.bool true)))
  (.leaf (.bool true)))
  (.test (.le [([], (Int.negSucc (nat_lit 9))), ([(.emod (nat_lit 12) (.rem (.var (nat_lit 4)) (.lit (Int.ofNat (nat_lit 1000000)))))], (Int.ofNat (nat_lit 1)))])
  (.test (.le [([], (Int.negSucc (nat_lit 8))), ([(.emod (nat_lit 12) (.rem (.var (nat_lit 4)) (.lit (Int.ofNat (nat_lit 1000000)))))], (Int.ofNat (nat_lit 1)))])
  (.leaf (.bool true))
  (.leaf (.bool true)))
  (.leaf (.bool true))))
theorem f5C21 : checkT Tryd.prog (xOf symX) (gxOf symG) (sumsOf sums24) 10000 5 f5A f5T21 ((((((facts0 f5K).yes f5Q0).no f5Q1).yes f5Q18).yes f5Q19).yes f5Q20) = true := by kernel_rfl
def f5T22 : STree := (.test (.le [([], (Int.negSucc (nat_lit 1))), ([(.emod (nat_lit 12) (.rem (.var (nat_lit 4)) (.lit (Int.ofNat (nat_lit 1000000)))))], (Int.ofNat (nat_lit 1)))])
  (.test (.le [([], (Int.negSucc (nat_lit 0))), ([(.emod (nat_lit 12) (.rem (.var (nat_lit 4)) (.lit (Int.ofNat (nat_lit 1000000)))))], (Int.ofNat (nat_lit 1)))])
  (.test (.le [([(.emod (nat_lit 12) (.rem (.var (nat_lit 4)) (.lit (Int.ofNat (nat_lit 1000000)))))], (Int.ofNat (nat_lit 1)))])
  (.leaf (.bool true))
  (.leaf (.bool true)))
  (.leaf (.bool true)))
  (.test (.le [([], (Int.negSucc (nat_lit 3))), ([(.emod (nat_lit 12) (.rem (.var (nat_lit 4)) (.lit (Int.ofNat (nat_lit 1000000)))))], (Int.ofNat (nat_lit 1)))])
  (.test (.le [([], (Int.negSucc (nat_lit 2))), ([(.emod (nat_lit 12) (.rem (.var (nat_lit 4)) (.lit (Int.ofNat (nat_lit 1000000)))))], (Int.ofNat (nat_lit 1)))])
  (.leaf (.bool true))
  (.leaf (.bool true)))
  (.leaf (.bool true))))
theorem f5C22 : checkT Tryd.prog (xOf symX) (gxOf symG) (sumsOf sums24) 10000 5 f5A f5T22 ((((((facts0 f5K).yes f5Q0).no f5Q1).yes f5Q18).yes f5Q19).no f5Q20) = true := by kernel_rfl
def f5T23 : STree := .test f5Q20 f5T21 f5T22
theorem f5C23 : checkT Tryd.prog (xOf symX) (gxOf symG) (sumsOf sums24) 10000 5 f5A f5T23 (((((facts0 f5K).yes f5Q0).no f5Q1).yes f5Q18).yes f5Q19) = true := checkT_test f5C21 f5C22
def f5Q24 : Quest := (.le [([], (Int.ofNat (nat_lit 6))), ([(.emod (nat_lit 12) (.rem (.var (nat_lit 4)) (.lit (Int.ofNat (nat_lit 1000000)))))], (Int.negSucc (nat_lit 0)))])
def f5T25 : STree := (.test (.le [([], (Int.negSucc (nat_lit 7))), ([(.emod (nat_lit 12) (.rem (.var (nat_lit 4)) (.lit (Int.ofNat (nat_lit 1000000)))))], (Int.ofNat (nat_lit 1)))])
  (.test (.le [([], (Int.negSucc (nat_lit 6))), ([(.emod (nat_lit 12) (.rem (.var (nat_lit 4)) (.lit (Int.ofNat (nat_lit 1000000)))))], (Int.ofNat (nat_lit 1)))])
  (.test (.le [([], (Int.negSucc (nat_lit 5))), ([(.emod (nat_lit 12) (.rem (.var (nat_lit 4)) (.lit (Int.ofNat (nat_lit 1000000)))))], (Int.ofNat (nat_lit 1)))])
  (.leaf (.bool true))
  (.leaf (.bool true)))
  (.leaf (.bool true)))
  (.test (.le [([], (Int.negSucc (nat_lit 9))), ([(.emod (nat_lit 12) (.rem (.var (nat_lit 4)) (.lit (Int.ofNat (nat_lit 1000000)))))], (Int.ofNat (nat_lit 1)))])
  (.test (.le [([], (Int.negSucc (nat_lit 8))), ([(.emod (nat_lit 12) (.rem (.var (nat_lit 4)) (.lit (Int.ofNat (nat_lit 1000000)))))], (Int.ofNat (nat_lit 1)))])
  (.leaf (.bool true))
  (.leaf (.bool true)))
  (.leaf (.bool true))))
theorem f5C25 : checkT Tryd.prog (xOf symX) (gxOf symG) (sumsOf sums24) 10000 5 f5A f5T25 ((((((facts0 f5K).yes f5Q0).no f5Q1).yes f5Q18).no f5Q19).yes f5Q24) = true := by kernel_rfl
def f5T26 : STree := (.test (.le [([], (Int.negSucc (nat_lit 1))), ([(.emod (nat_lit 12) (.rem (.var (nat_lit 4)) (.lit (Int.ofNat (nat_lit 1000000)))))], (Int.ofNat (nat_lit 1)))])
  (.test (.le [([], (Int.negSucc (nat_lit 0))), ([(.emod (nat_lit 12) (.rem (.var (nat_lit 4)) (.lit (Int.ofNat (nat_lit 1000000)))))], (Int.ofNat (nat_lit 1)))])
  (.test (.le [([(.emod (nat_lit 12) (.rem (.var (nat_lit 4)) (.lit (Int.ofNat (nat_lit 1000000)))))], (Int.ofNat (nat_lit 1)))])
  (.leaf (.bool true))
  (.leaf (.bool true)))
  (.leaf (.bool true)))
  (.test (.le [([], (Int.negSucc (nat_lit 3))), ([(.emod (nat_lit 12) (.rem (.var (nat_lit 4)) (.lit (Int.ofNat (nat_lit 1000000)))))], (Int.ofNat (nat_lit 1)))])
  (.test (.le [([], (Int.negSucc (nat_lit 2))), ([(.emod (nat_lit 12) (.rem (.var (nat_lit 4)) (.lit (Int.ofNat (nat_lit 1000000)))))], (Int.ofNat (nat_lit 1)))])
  (.leaf (.bool true))
  (.leaf (.bool true)))
  (.leaf (.bool true))))
theorem f5C26 : checkT Tryd.prog (xOf symX) (gxOf symG) (sumsOf sums24) 10000 5 f5A f5T26 ((((((facts0 f5K).yes f5Q0).no f5Q1).yes f5Q18).no f5Q19).no f5Q24) = true := by kernel_rfl
def f5T27 : STree := .test f5Q24 f5T25 f5T26
theorem f5C27 : checkT Tryd.prog (xOf symX) (gxOf symG) (sumsOf sums24) 10000 5 f5A f5T27 (((((facts0 f5K).yes f5Q0).no f5Q1).yes f5Q18).no f5Q19) = true := checkT_test f5C25 f5C26
def f5T28 : STree := .test f5Q19 f5T23 f5T27
theorem f5C28 : checkT Tryd.prog (xOf symX) (gxOf symG) (sumsOf sums24) 10000 5 f5A f5T28 ((((facts0 f5K).yes f5Q0).no f5Q1).yes f5Q18) = true := checkT_test f5C23 f5C27
def f5Q29 : Quest := (.le [([], (Int.ofNat (nat_lit 6))), ([(.emod (nat_lit 12) (.rem (.var (nat_lit 4)) (.lit (Int.ofNat (nat_lit 1000000)))))], (Int.negSucc (nat_lit 0)))])
def f5T30 : STree := (.test (.le [([], (Int.negSucc (nat_lit 7))), ([(.emod (nat_lit 12) (.rem (.var (nat_lit 4)) (.lit (Int.ofNat (nat_lit 1000000)))))], (Int.ofNat (nat_lit 1)))])
  (.test (.le [([], (Int.negSucc (nat_lit 6))), ([(.emod (nat_lit 12) (.rem (.var (nat_lit 4)) (.lit (Int.ofNat (nat_lit 1000000)))))], (Int.ofNat (nat_lit 1)))])
  (.test (.le [([], (Int.negSucc (nat_lit 5))), ([(.emod (nat_lit 12) (.rem (.var (nat_lit 4)) (.lit (Int.ofNat (nat_lit 1000000)))))], (Int.ofNat (nat_lit 1)))])
  (.leaf (.bool true))
  (.leaf (.bool true)))
  (.leaf (.bool true)))
  (.test (.le [([], (Int.negSucc (nat_lit 9))), ([(.emod (nat_lit 12) (.rem (.var (nat_lit 4)) (.lit (Int.ofNat (nat_lit 1000000)))))], (Int.ofNat (nat_lit 1)))])
  (.test (.le [([], (Int.negSucc (nat_lit 8))), ([(.emod (nat_lit 12) (.rem (.var (nat_lit 4)) (.lit (Int.ofNat (nat_lit 1000000)))))], (Int.ofNat (nat_lit 1)))])
  (.leaf (.bool true))
  (.leaf (.bool true)))
  (.leaf (.bool true))))
theorem f5C30 : checkT Tryd.prog (xOf symX) (gxOf symG) (sumsOf sums24) 10000 5 f5A f5T30 (((((facts0 f5K).yes f5Q0).no f5Q1).no f5Q18).yes f5Q29) = true := by kernel_rfl
def f5T31 : STree := (.test (.le [([], (Int.negSucc (nat_lit 1))), ([(.emod (nat_lit 12) (.rem (.var (nat_lit 4)) (.lit (Int.ofNat (nat_lit 1000000)))))], (Int.ofNat (nat_lit 1)))])
  (.test (.le [([], (Int.negSucc (nat_lit 0))), ([(.emod (nat_lit 12) (.rem (.var (nat_lit 4)) (.lit (Int.ofNat (nat_lit 1000000)))))], (Int.ofNat (nat_lit 1)))])
  (.test (.le [([(.emod (nat_lit 12) (.rem (.var (nat_lit 4)) (.lit (Int.ofNat (nat_lit 1000000)))))], (Int.ofNat (nat_lit 1)))])
  (.leaf (.bool true))
  (.leaf (.bool true)))
  (.leaf (.bool true)))
  (.test (.le [([], (Int.negSucc (nat_lit 3))), ([(.emod (nat_lit 12) (.rem (.var (nat_lit 4)) (.lit (Int.ofNat (nat_lit 1000000)))))], (Int.ofNat (nat_lit 1)))])
  (.test (.le [([], (Int.negSucc (nat_lit 2))), ([(.emod (nat_lit 12) (.rem (.var (nat_lit 4)) (.lit (Int.ofNat (nat_lit 1000000)))))], (Int.ofNat (nat_lit 1)))])
  (.leaf (.bool true))
  (.leaf (.bool true)))
  (.leaf (.bool true))))
theorem f5C31 : checkT Tryd.prog (xOf symX) (gxOf symG) (sumsOf sums24) 10000 5 f5A f5T31 (((((facts0 f5K).yes f5Q0).no f5Q1).no f5Q18).no f5Q29) = true := by kernel_rfl
def f5T32 : STree := .test f5Q29 f5T30 f5T31
theorem f5C32 : checkT Tryd.prog (xOf symX) (gxOf symG) (sumsOf sums24) 10000 5 f5A f5T32 ((((facts0 f5K).yes f5Q0).no f5Q1).no f5Q18) = true := checkT_test f5C30 f5C31
def f5T33 : STree := .test f5Q18 f5T28 f5T32
theorem f5C33 : checkT Tryd.prog (xOf symX) (gxOf symG) (sumsOf sums24) 10000 5 f5A f5T33 (((facts0 f5K).yes f5Q0).no f5Q1) = true := checkT_test f5C28 f5C32
def f5T34 : STree := .test f5Q1 f5T17 f5T33
theorem f5C34 : checkT Tryd.prog (xOf symX) (gxOf symG) (sumsOf sums24) 10000 5 f5A f5T34 ((facts0 f5K).yes f5Q0) = true := checkT_test f5C17 f5C33
def f5Q35 : Quest := (.le [([], (Int.negSucc (nat_lit 1))), ([(.emod (nat_lit 12) (.rem (.var (nat_lit 5)) (.lit (Int.ofNat (nat_lit 1000000)))))], (Int.ofNat (nat_lit 1)))])
def f5Q36 : Quest := (.le [([], (Int.negSucc (nat_lit 0))), ([(.emod (nat_lit 12) (.rem (.var (nat_lit 5)) (.lit (Int.ofNat (nat_lit 1000000)))))], (Int.ofNat (nat_lit 1)))])
def f5Q37 : Quest := (.le [([(.emod (nat_lit 12) (.rem (.var (nat_lit 5)) (.lit (Int.ofNat (nat_lit 1000000)))))], (Int.ofNat (nat_lit 1)))])
def f5Q38 : Quest := (.le [([], (Int.ofNat (nat_lit 6))), ([(.emod (nat_lit 12) (.rem (.var (nat_lit 4)) (.lit (Int.ofNat (nat_lit 1000000)))))], (Int.negSucc (nat_lit 0)))])
def f5T39 : STree := (.test (.le [([], (Int.negSucc (nat_lit 7))), ([(.emod (nat_lit 12) (.rem (.var (nat_lit 4)) (.lit (Int.ofNat (nat_lit 1000000)))))], (Int.ofNat (nat_lit 1)))])
  (.test (.le [([], (Int.negSucc (nat_lit 6))), ([(.emod (nat_lit 12) (.rem (.var (nat_lit 4)) (.lit (Int.ofNat (nat_lit 1000000)))))], (Int.ofNat (nat_lit 1)))])
  (.test (.le [([], (Int.negSucc (nat_lit 5))), ([(.emod (nat_lit 12) (.rem (.var (nat_lit 4)) (.lit (Int.ofNat (nat_lit 1000000)))))], (Int.ofNat (nat_lit 1)))])
  (.leaf (.bool true))
  (.leaf (.bool true)))
  (.leaf (.bool true)))
  (.test (.le [([], (Int.negSucc (nat_lit 9))), ([(.emod (nat_lit 12) (.rem (.var (nat_lit 4)) (.lit (Int.ofNat (nat_lit 1000000)))))], (Int.ofNat (nat_lit 1)))])
  (.test (.le [([], (Int.negSucc (nat_lit 8))), ([(.emod (nat_lit 12) (.rem (.var (nat_lit 4)) (.lit (Int.ofNat (nat_lit 1000000)))))], (Int.ofNat (nat_lit 1)))])
  (.leaf (.bool true))
  (.leaf (.bool true)))
  (.leaf (.bool true))))
theorem f5C39 : checkT Tryd.prog (xOf symX) (gxOf symG) (sumsOf sums24) 10000 5 f5A f5T39 ((((((facts0 f5K).no f5Q0).yes f5Q35).yes f5Q36).yes f5Q37).yes f5Q38) = true := by kernel_rfl
def f5T40 : STree := (.test (.le [([], (Int.negSucc (nat_lit 1))), ([(.emod (nat_lit 12) (.rem (.var (nat_lit 4)) (.lit (Int.ofNat (nat_lit 1000000)))))], (Int.ofNat (nat_lit 1)))])
  (.test (.le [([], (Int.negSucc (nat_lit 0))), ([(.emod (nat_lit 12) (.rem (.var (nat_lit 4)) (.lit (Int.ofNat (nat_lit 1000000)))))], (Int.ofNat (nat_lit 1)))])
  (.test (.le [([(.emod (nat_lit 12) (.rem (.var (nat_lit 4)) (.lit (Int.ofNat (nat_lit 1000000)))))], (Int.ofNat (nat_lit 1)))])
  (.leaf (.bool true))
  (.leaf (.bool true)))
  (.leaf (.bool true)))
  (.test (.le [([], (Int.negSucc (nat_lit 3))), ([(.emod (nat_lit 12) (.rem (.var (nat_lit 4)) (.lit (Int.ofNat (nat_lit 1000000)))))], (Int.ofNat (nat_lit 1)))])
  (.test (.le [([], (Int.negSucc (nat_lit 2))), ([(.emod (nat_lit 12) (.rem (.var (nat_lit 4)) (.lit (Int.ofNat (nat_lit 1000000)))))], (Int.ofNat (nat_lit 1)))])
  (.leaf (.bool true))
  (.leaf (.bool true)))
  (.leaf (.bool true))))
theorem f5C40 : checkT Tryd.prog (xOf symX) (gxOf symG) (sumsOf sums24) 10000 5 f5A f5T40 ((((((facts0 f5K).no f5Q0).yes f5Q35).yes f5Q36).yes f5Q37).no f5Q38) = true := by kernel_rfl
def f5T41 : STree := .test f5Q38 f5T39 f5T40
theorem f5C41 : checkT Tryd.prog (xOf symX) (gxOf symG) (sumsOf sums24) 10000 5 f5A f5T41 (((((facts0 f5K).no f5Q0).yes f5Q35).yes f5Q36).yes f5Q37) = true := checkT_test f5C39 f5C40
def f5Q42 : Quest := (.le [([], (Int.ofNat (nat_lit 6))), ([(.emod (nat_lit 12) (.rem (.var (nat_lit 4)) (.lit (Int.ofNat (nat_lit 1000000)))))], (Int.negSucc (nat_lit 0)))])
def f5T43 : STree := (.test (.le [([], (Int.negSucc (nat_lit 7))), ([(.emod (nat_lit 12) (.rem (.var (nat_lit 4)) (.lit (Int.ofNat (nat_lit 1000000)))))], (Int.ofNat (nat_lit 1)))])
  (.test (.le [([], (Int.negSucc (nat_lit 6))), ([(.emod (nat_lit 12) (.rem (.var (nat_lit 4)) (.lit (Int.ofNat (nat_lit 1000000)))))], (Int.ofNat (nat_lit 1)))])
  (.test (.le [([], (Int.negSucc (nat_lit 5))), ([(.emod (nat_lit 12) (.rem (.var (nat_lit 4)) (.lit (Int.ofNat (nat_lit 1000000)))))], (Int.ofNat (nat_lit 1)))])
  (.leaf (.bool true))
  (.leaf (.bool true)))
  (.leaf (.bool true)))
  (.test (.le [([], (Int.negSucc (nat_lit 9))), ([(.emod (nat_lit 12) (.rem (.var (nat_lit 4)) (.lit (Int.ofNat (nat_lit 1000000)))))], (Int.ofNat (nat_lit 1)))])
  (.test (.le [([], (Int.negSucc (nat_lit 8))), ([(.emod (nat_lit 12) (.rem (.var (nat_lit 4)) (.lit (Int.ofNat (nat_lit 1000000)))))], (Int.ofNat (nat_lit 1)))])
  (.leaf (.bool true))
  (.leaf (.bool true)))
  (.leaf (.bool true))))
theorem f5C43 : checkT Tryd.prog (xOf symX) (gxOf symG) (sumsOf sums24) 10000 5 f5A f5T43 ((((((facts0 f5K).no f5Q0).yes f5Q35).yes f5Q36).no f5Q37).yes f5Q42) = true := by kernel_rfl
def f5T44 : STree := (.test (.le [([], (Int.negSucc (nat_lit 1))), ([(.emod (nat_lit 12) (.rem (.var (nat_lit 4)) (.lit (Int.ofNat (nat_lit 1000000)))))], (Int.ofNat (nat_lit 1)))])
  (.test (.le [([], (Int.negSucc (nat_lit 0))), ([(.emod (nat_lit 12) (.rem (.var (nat_lit 4)) (.lit (Int.ofNat (nat_lit 1000000)))))], (Int.ofNat (nat_lit 1)))])
  (.test (.le [([(.emod (nat_lit 12) (.rem (.var (nat_lit 4)) (.lit (Int.ofNat (nat_lit 1000000)))))], (Int.ofNat (nat_lit 1)))])
  (.leaf (.bool true))
  (.leaf (.bool true)))
  (.leaf (.bool true)))
  (.test (.le [([], (Int.negSucc (nat_lit 3))), ([(.emod (nat_lit 12) (.rem (.var (nat_lit 4)) (.lit (Int.ofNat (nat_lit 1000000)))))], (Int.ofNat (nat_lit 1)))])
  (.test (.le [([], (Int.negSucc (nat_lit 2))), ([(.emod (nat_lit 12) (.rem (.var (nat_lit 4)) (.lit (Int.ofNat (nat_lit 1000000)))))], (Int.ofNat (nat_lit 1)))])
  (.leaf (.bool true))
  (.leaf (.bool true)))
  (.leaf (.bool true))))
theorem f5C44 : checkT Tryd.prog (xOf symX) (gxOf symG) (sumsOf sums24) 10000 5 f5A f5T44 ((((((facts0 f5K).no f5Q0).yes f5Q35).yes f5Q36).no f5Q37).no f5Q42) = true := by kernel_rfl
def f5T45 : STree := .test f5Q42 f5T43 f5T44
theorem f5C45 : checkT Tryd.prog (xOf symX) (gxOf symG) (sumsOf sums24) 10000 5 f5A f5T45 (((((facts0 f5K).no f5Q0).yes f5Q35).yes f5Q36).no f5Q37) = true := checkT_test f5C43 f5C44
def f5T46 : STree := .test f5Q37 f5T41 f5T45
theorem f5C46 : checkT Tryd.prog (xOf symX) (gxOf symG) (sumsOf sums24) 10000 5 f5A f5T46 ((((facts0 f5K).no f5Q0).yes f5Q35).yes f5Q36) = true := checkT_test f5C41 f5C45
def f5Q47 : Quest := (.le [([], (Int.ofNat (nat_lit 6))), ([(.emod (nat_lit 12) (.rem (.var (nat_lit 4)) (.lit (Int.ofNat (nat_lit 1000000)))))], (Int.negSucc (nat_lit 0)))])
def f5T48 : STree := (.test (.le [([], (Int.negSucc (nat_lit 7))), ([(.emod (nat_lit 12) (.rem (.var (nat_lit 4)) (.lit (Int.ofNat (nat_lit 1000000)))))], (Int.ofNat (nat_lit 1)))])
  (.test (.le [([], (Int.negSucc (nat_lit 6))), ([(.emod (nat_lit 12) (.rem (.var (nat_lit 4)) (.lit (Int.ofNat (nat_lit 1000000)))))], (Int.ofNat (nat_lit 1)))])
  (.test (.le [([], (Int.negSucc (nat_lit 5))), ([(.emod (nat_lit 12) (.rem (.var (nat_lit 4)) (.lit (Int.ofNat (nat_lit 1000000)))))], (Int.ofNat (nat_lit 1)))])
  (.leaf (.bool true))
  (.leaf (.bool true)))
  (.leaf (.bool true)))
  (.test (.le [([], (Int.negSucc (nat_lit 9))), ([(.emod (nat_lit 12) (.rem (.var (nat_lit 4)) (.lit (Int.ofNat (nat_lit 1000000)))))], (Int.ofNat (nat_lit 1)))])
  (.test (.le [([], (Int.negSucc (nat_lit 8))), ([(.emod (nat_lit 12) (.rem (.var (nat_lit 4)) (.lit (Int.ofNat (nat_lit 1000000)))))], (Int.ofNat (nat_lit 1)))])
  (.leaf (.bool true))
  (.leaf (.bool true)))
  (.leaf (.bool true))))
theorem f5C48 : checkT Tryd.prog (xOf symX) (gxOf symG) (sumsOf sums24) 10000 5 f5A f5T48 (((((facts0 f5K).no f5Q0).yes f5Q35).no f5Q36).yes f5Q47) = true := by kernel_rfl
def f5T49 : STree := (.test (.le [([], (Int.negSucc (nat_lit 1))), ([(.emod (nat_lit 12) (.rem (.var (nat_lit 4)) (.lit (Int.ofNat (nat_lit 1000000)))))], (Int.ofNat (nat_lit 1)))])
  (.test (.le [([], (Int.negSucc (nat_lit 0))), ([(.emod (nat_lit 12) (.rem (.var (nat_lit 4)) (.lit (Int.ofNat (nat_lit 1000000)))))], (Int.ofNat (nat_lit 1)))])
  (.test (.le [([(.emod (nat_lit 12) (.rem (.var (nat_lit 4)) (.lit (Int.ofNat (nat_lit 1000000)))))], (Int.ofNat (nat_lit 1)))])
  (.leaf (.bool true))
  (.leaf (.bool true)))
  (.leaf (.bool true)))
  (.test (.le [([], (Int.negSucc (nat_lit 3))), ([(.emod (nat_lit 12) (.rem (.var (nat_lit 4)) (.lit (Int.ofNat (nat_lit 1000000)))))], (Int.ofNat (nat_lit 1)))])
  (.test (.le [([], (Int.negSucc (nat_lit 2))), ([(.emod (nat_lit 12) (.rem (.var (nat_lit 4)) (.lit (Int.ofNat (nat_lit 1000000)))))], (Int.ofNat (nat_lit 1)))])
  (.leaf (.bool true))
  (.leaf (.bool true)))
  (.leaf (.bool true))))
theorem f5C49 : checkT Tryd.prog (xOf symX) (gxOf symG) (sumsOf sums24) 10000 5 f5A f5T49 (((((facts0 f5K).no f5Q0).yes f5Q35).no f5Q36).no f5Q47) = true := by kernel_rfl
def f5T50 : STree := .test f5Q47 f5T48 f5T49
theorem f5C50 : checkT Tryd.prog (xOf symX) (gxOf symG) (sumsOf sums24) 10000 5 f5A f5T50 ((((facts0 f5K).no f5Q0).yes f5Q35).no f5Q36) = true := checkT_test f5C48 f5C49
def f5T51 : STree := .test f5Q36 f5T46 f5T50
theorem f5C51 : checkT Tryd.prog (xOf symX) (gxOf symG) (sumsOf sums24) 10000 5 f5A f5T51 (((facts0 f5K).no f5Q0).yes f5Q35) = true := checkT_test f5C46 f5C50
def f5Q52 : Quest := (.le [([], (Int.negSucc (nat_lit 3))), ([(.emod (nat_lit 12) (.rem (.var (nat_lit 5)) (.lit (Int.ofNat (nat_lit 1000000)))))], (Int.ofNat (nat_lit 1)))])
def f5Q53 : Quest := (.le [([], (Int.negSucc (nat_lit 2))), ([(.emod (nat_lit 12) (.rem (.var (nat_lit 5)) (.lit (Int.ofNat (nat_lit 1000000)))))], (Int.ofNat (nat_lit 1)))])
def f5Q54 : Quest := (.le [([], (Int.ofNat (nat_lit 6))), ([(.emod (nat_lit 12) (.rem (.var (nat_lit 4)) (.lit (Int.ofNat (nat_lit 1000000)))))], (Int.negSucc (nat_lit 0)))])
def f5T55 : STree := (.test (.le [([], (Int.negSucc (nat_lit 7))), ([(.emod (nat_lit 12) (.rem (.var (nat_lit 4)) (.lit (Int.ofNat (nat_lit 1000000)))))], (Int.ofNat (nat_lit 1)))])
  (.test (.le [([], (Int.negSucc (nat_lit 6))), ([(.emod (nat_lit 12) (.rem (.var (nat_lit 4)) (.lit (Int.ofNat (nat_lit 1000000)))))], (Int.ofNat (nat_lit 1)))])
  (.test (.le [([], (Int.negSucc (nat_lit 5))), ([(.emod (nat_lit 12) (.rem (.var (nat_lit 4)) (.lit (Int.ofNat (nat_lit 1000000)))))], (Int.ofNat (nat_lit 1)))])
  (.leaf (.bool true))
  (.leaf (.bool true)))
  (.leaf (.bool true)))
  (.test (.le [([], (Int.negSucc (nat_lit 9))), ([(.emod (nat_lit 12) (.rem (.var (nat_lit 4)) (.lit (Int.ofNat (nat_lit 1000000)))))], (Int.ofNat (nat_lit 1)))])
  (.test (.le [([], (Int.negSucc (nat_lit 8))), ([(.emod (nat_lit 12) (.rem (.var (nat_lit 4)) (.lit (Int.ofNat (nat_lit 1000000)))))], (Int.ofNat (nat_lit 1)))])
  (.leaf (.bool true))
  (.leaf (.bool true)))
  (.leaf (.bool true))))
theorem f5C55 : checkT Tryd.prog (xOf symX) (gxOf symG) (sumsOf sums24) 10000 5 f5A f5T55 ((((((facts0 f5K).no f5Q0).no f5Q35).yes f5Q52).yes f5Q53).yes f5Q54) = true := by kernel_rfl
def f5T56 : STree := (.test (.le [([], (Int.negSucc (nat_lit 1))), ([(.emod (nat_lit 12) (.rem (.var (nat_lit 4)) (.lit (Int.ofNat (nat_lit 1000000)))))], (Int.ofNat (nat_lit 1)))])
  (.test (.le [([], (Int.negSucc (nat_lit 0))), ([(.emod (nat_lit 12) (.rem (.var (nat_lit 4)) (.lit (Int.ofNat (nat_lit 1000000)))))], (Int.ofNat (nat_lit 1)))])
  (.test (.le [([(.emod (nat_lit 12) (.rem (.var (nat_lit 4)) (.lit (Int.ofNat (nat_lit 1000000)))))], (Int.ofNat (nat_lit 1)))])
  (.leaf (.bool true))
  (.leaf (.bool true)))
  (.leaf (.bool true)))
  (.test (.le [([], (Int.negSucc (nat_lit 3))), ([(.emod (nat_lit 12) (.rem (.var (nat_lit 4)) (.lit (Int.ofNat (nat_lit 1000000)))))], (Int.ofNat (nat_lit 1)))])
  (.test (.le [([], (Int.negSucc (nat_lit 2))), ([(.emod (nat_lit 12) (.rem (.var (nat_lit 4)) (.lit (Int.ofNat (nat_lit 1000000)))))], (Int.ofNat (nat_lit 1)))])
  (.leaf (.bool true))
  (.leaf (.bool true)))
  (.leaf (.bool true))))
theorem f5C56 : checkT Tryd.prog (xOf symX) (gxOf symG) (sumsOf sums24) 10000 5 f5A f5T56 ((((((facts0 f5K).no f5Q0).no f5Q35).yes f5Q52).yes f5Q53).no f5Q54) = true := by kernel_rfl
def f5T57 : STree := .test f5Q54 f5T55 f5T56
theorem f5C57 : checkT Tryd.prog (xOf symX) (gxOf symG) (sumsOf sums24) 10000 5 f5A f5T57 (((((facts0 f5K).no f5Q0).no f5Q35).yes f5Q52).yes f5Q53) = true := checkT_test f5C55 f5C56
def f5Q58 : Quest := (.le [([], (Int.ofNat (nat_lit 6))), ([(.emod (nat_lit 12) (.rem (.var (nat_lit 4)) (.lit (Int.ofNat (nat_lit 1000000)))))], (Int.negSucc (nat_lit 0)))])
def f5T59 : STree := (.test (.le [([], (Int.negSucc (nat_lit 7))), ([(.emod (nat_lit 12) (.rem (.var (nat_lit 4)) (.lit (Int.ofNat (nat_lit 1000000)))))], (Int.ofNat (nat_lit 1)))])
  (.test (.le [([], (Int.negSucc (nat_lit 6))), ([(.emod (nat_lit 12) (.rem (.var (nat_lit 4)) (.lit (Int.ofNat (nat_lit 1000000)))))], (Int.ofNat (nat_lit 1)))])
  (.test (.le [([], (Int.negSucc (nat_lit 5))), ([(.emod (nat_lit 12) (.rem (.var (nat_lit 4)) (.lit (Int.ofNat (nat_lit 1000000)))))], (Int.ofNat (nat_lit 1)))])
  (.leaf (.bool true))
  (.leaf (.bool true)))
  (.leaf (.bool true)))
  (.test (.le [([], (Int.negSucc (nat_lit 9))), ([(.emod (nat_lit 12) (.rem (.var (nat_lit 4)) (.lit (Int.ofNat (nat_lit 1000000)))))], (Int.ofNat (nat_lit 1)))])
  (.test (.le [([], (Int.negSucc (nat_lit 8))), ([(.emod (nat_lit 12) (.rem (.var (nat_lit 4)) (.lit (Int.ofNat (nat_lit 1000000)))))], (Int.ofNat (nat_lit 1)))])
  (.leaf (.bool true))
  (.leaf (.bool true)))
  (.leaf (.bool true))))
theorem f5C59 : checkT Tryd.prog (xOf symX) (gxOf symG) (sumsOf sums24) 10000 5 f5A f5T59 ((((((facts0 f5K).no f5Q0).no f5Q35).yes f5Q52).no f5Q53).yes f5Q58) = true := by kernel_rfl
def f5T60 : STree := (.test (.le [([], (Int.negSucc (nat_lit 1))), ([(.emod (nat_lit 12) (.rem (.var (nat_lit 4)) (.lit (Int.ofNat (nat_lit 1000000)))))], (Int.ofNat (nat_lit 1)))])
  (.test (.le [([], (Int.negSucc (nat_lit 0))), ([(.emod (nat_lit 12) (.rem (.var (nat_lit 4)) (.lit (Int.ofNat (nat_lit 1000000)))))], (Int.ofNat (nat_lit 1)))])
  (.test (.le [([(.emod (nat_lit 12) (.rem (.var (nat_lit 4)) (.lit (Int.ofNat (nat_lit 1000000)))))], (Int.ofNat (nat_lit 1)))])
  (.leaf (.bool true))
  (.leaf (.bool true)))
  (.leaf (.bool true)))
  (.test (.le [([], (Int.negSucc (nat_lit 3))), ([(.emod (nat_lit 12) (.rem (.var (nat_lit 4)) (.lit (Int.ofNat (nat_lit 1000000)))))], (Int.ofNat (nat_lit 1)))])
  (.test (.le [([], (Int.negSucc (nat_lit 2))), ([(.emod (nat_lit 12) (.rem (.var (nat_lit 4)) (.lit (Int.ofNat (nat_lit 1000000)))))], (Int.ofNat (nat_lit 1)))])
  (.leaf (.bool true))
  (.leaf (.bool true)))
  (.leaf (.bool true))))
theorem f5C60 : checkT Tryd.prog (xOf symX) (gxOf symG) (sumsOf sums24) 10000 5 f5A f5T60 ((((((facts0 f5K).no f5Q0).no f5Q35).yes f5Q52).no f5Q53).no f5Q58) = true := by kernel_rfl
def f5T61 : STree := .test f5Q58 f5T59 f5T60
theorem f5C61 : checkT Tryd.prog (xOf symX) (gxOf symG) (sumsOf sums24) 10000 5 f5A f5T61 (((((facts0 f5K).no f5Q0).no f5Q35).yes f5Q52).no f5Q53) = true := checkT_test f5C59 f5C60
def f5T62 : STree := .test f5Q53 f5T57 f5T61
theorem f5C62 : checkT Tryd.prog (xOf symX) (gxOf symG) (sumsOf sums24) 10000 5 f5A f5T62 ((((facts0 f5K).no f5Q0).no f5Q35).yes f5Q52) = true := checkT_test f5C57 f5C61
def f5Q63 : Quest := (.le [([], (Int.ofNat (nat_lit 6))), ([(.emod (nat_lit 12) (.rem (.var (nat_lit 4)) (.lit (Int.ofNat (nat_lit 1000000)))))], (Int.negSucc (nat_lit 0)))])
def f5T64 : STree := (.test (.le [([], (Int.negSucc (nat_lit 7))), ([(.emod (nat_lit 12) (.rem (.var (nat_lit 4)) (.lit (Int.ofNat (nat_lit 1000000)))))], (Int.ofNat (nat_lit 1)))])
  (.test (.le [([], (Int.negSucc (nat_lit 6))), ([(.emod (nat_lit 12) (.rem (.var (nat_lit 4)) (.lit (Int.ofNat (nat_lit 1000000)))))], (Int.ofNat (nat_lit 1)))])
  (.test (.le [([], (Int.negSucc (nat_lit 5))), ([(.emod (nat_lit 12) (.rem (.var (nat_lit 4)) (.lit (Int.ofNat (nat_lit 1000000)))))], (Int.ofNat (nat_lit 1)))])
  (.leaf (.bool true))
  (.leaf (.bool true)))
  (.leaf (.bool true)))
  (.test (.le [([], (Int.negSucc (nat_lit 9))), ([(.emod (nat_lit 12) (.rem (.var (nat_lit 4)) (.lit (Int.ofNat (nat_lit 1000000)))))], (Int.ofNat (nat_lit 1)))])
  (.test (.le [([], (Int.negSucc (nat_lit 8))), ([(.emod (nat_lit 12) (.rem (.var (nat_lit 4)) (.lit (Int.ofNat (nat_lit 1000000)))))], (Int.ofNat (nat_lit 1)))])
  (.leaf (.bool true))
  (.leaf (.bool true)))
  (.leaf (.bool true))))
theorem f5C64 : checkT Tryd.prog (xOf symX) (gxOf symG) (sumsOf sums24) 10000 5 f5A f5T64 (((((facts0 f5K).no f5Q0).no f5Q35).no f5Q52).yes f5Q63) = true := by kernel_rfl
def f5T65 : STree := (.test (.le [([], (Int.negSucc (nat_lit 1))), ([(.emod (nat_lit 12) (.rem (.var (nat_lit 4)) (.lit (Int.ofNat (nat_lit 1000000)))))], (Int.ofNat (nat_lit 1)))])
  (.test (.le [([], (Int.negSucc (nat_lit 0))), ([(.emod (nat_lit 12) (.rem (.var (nat_lit 4)) (.lit (Int.ofNat (nat_lit 1000000)))))], (Int.ofNat (nat_lit 1)))])
  (.test (.le [([(.emod (nat_lit 12) (.rem (.var (nat_lit 4)) (.lit (Int.ofNat (nat_lit 1000000)))))], (Int.ofNat (nat_lit 1)))])
  (.leaf (.bool true))
  (.leaf (.bool true)))
  (.leaf (.bool true)))
  (.test (.le [([], (Int.negSucc (nat_lit 3))), ([(.emod (nat_lit 12) (.rem (.var (nat_lit 4)) (.lit (Int.ofNat (nat_lit 1000000)))))], (Int.ofNat (nat_lit 1)))])
  (.test (.le [([], (Int.negSucc (nat_lit 2))), ([(.emod (nat_lit 12) (.rem (.var (nat_lit 4)) (.lit (Int.ofNat (nat_lit 1000000)))))], (Int.ofNat (nat_lit 1)))])
  (.leaf (.bool true))
  (.leaf (.bool true)))
  (.leaf (.bool true))))
theorem f5C65 : checkT Tryd.prog (xOf symX) (gxOf symG) (sumsOf sums24) 10000 5 f5A f5T65 (((((facts0 f5K).no f5Q0).no f5Q35).no f5Q52).no f5Q63) = true := by kernel_rfl
def f5T66 : STree := .test f5Q63 f5T64 f5T65
theorem f5C66 : checkT Tryd.prog (xOf symX) (gxOf symG) (sumsOf sums24) 10000 5 f5A f5T66 ((((facts0 f5K).no f5Q0).no f5Q35).no f5Q52) = true := checkT_test f5C64 f5C65
def f5T67 : STree := .test f5Q52 f5T62 f5T66
theorem f5C67 : checkT Tryd.prog (xOf symX) (gxOf symG) (sumsOf sums24) 10000 5 f5A f5T67 (((facts0 f5K).no f5Q0).no f5Q35) = true := checkT_test f5C62 f5C66
def f5T68 : STree := .test f5Q35 f5T51 f5T67
theorem f5C68 : checkT Tryd.prog (xOf symX) (gxOf symG) (sumsOf sums24) 10000 5 f5A f5T68 ((facts0 f5K).no f5Q0) = true := checkT_test f5C51 f5C67
def f5T69 : STree := .test f5Q0 f5T34 f5T68
theorem f5C69 : checkT Tryd.prog (xOf symX) (gxOf symG) (sumsOf sums24) 10000 5 f5A f5T69 (facts0 f5K) = true := checkT_test f5C34 f5C68
def f5M : Summ := ⟨f5A, f5K, f5T69⟩
theorem f5Ok : SumOk Tryd.prog (xOf symX) (gxOf symG) 5 f5M := sumOk_of symMixed symClosed sums24Ok f5C69
end Go.Proofs.YtchmfiiipdjikaaDoor
