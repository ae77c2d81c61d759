/- The paths of SequenceBalanced, each checked by the kernel. -/
import Derived.Test.YtchmfiiipdjikaaDoorSumsB
import Derived.KernelRfl
namespace Go.Proofs.YtchmfiiipdjikaaDoor
open Go.Sym

def f12A : List SV := [(.agg [(.int .i64 [([(.var (nat_lit 0))], (Int.ofNat (nat_lit 1)))]), (.int .i64 [([(.var (nat_lit 1))], (Int.ofNat (nat_lit 1)))]), (.int .i64 [([(.var (nat_lit 2))], (Int.ofNat (nat_lit 1)))]), (.int .i64 [([(.var (nat_lit 3))], (Int.ofNat (nat_lit 1)))]), (.int .i64 [([(.var (nat_lit 4))], (Int.ofNat (nat_lit 1)))]), (.int .i64 [([(.var (nat_lit 5))], (Int.ofNat (nat_lit 1)))]), (.int .i64 [([(.var (nat_lit 6))], (Int.ofNat (nat_lit 1)))]), (.int .i64 [([(.var (nat_lit 7))], (Int.ofNat (nat_lit 1)))]), (.int .i64 [([(.var (nat_lit 8))], (Int.ofNat (nat_lit 1)))]), (.int .i64 [([(.var (nat_lit 9))], (Int.ofNat (nat_lit 1)))]), (.int .i64 [([(.var (nat_lit 10))], (Int.ofNat (nat_lit 1)))]), (.int .i64 [([(.var (nat_lit 11))], (Int.ofNat (nat_lit 1)))])])]
def f12K : List IntKind := [.i64, .i64, .i64, .i64, .i64, .i64, .i64, .i64, .i64, .i64, .i64, .i64]
def f12Q0 : Quest := (.eq [([(.rem (.var (nat_lit 0)) (.lit (Int.ofNat (nat_lit 65536))))], (Int.ofNat (nat_lit 1))), ([(.rem (.var (nat_lit 4)) (.lit (Int.ofNat (nat_lit 65536))))], (Int.ofNat (nat_lit 1))), ([(.rem (.var (nat_lit 8)) (.lit (Int.ofNat (nat_lit 65536))))], (Int.ofNat (nat_lit 1)))])
def f12Q1 : Quest := (.eq [([(.rem (.var (nat_lit 1)) (.lit (Int.ofNat (nat_lit 65536))))], (Int.ofNat (nat_lit 1))), ([(.rem (.var (nat_lit 5)) (.lit (Int.ofNat (nat_lit 65536))))], (Int.ofNat (nat_lit 1))), ([(.rem (.var (nat_lit 9)) (.lit (Int.ofNat (nat_lit 65536))))], (Int.ofNat (nat_lit 1)))])
def f12Q2 : Quest := (.eq [([(.rem (.var (nat_lit 2)) (.lit (Int.ofNat (nat_lit 65536))))], (Int.ofNat (nat_lit 1))), ([(.rem (.var (nat_lit 6)) (.lit (Int.ofNat (nat_lit 65536))))], (Int.ofNat (nat_lit 1))), ([(.rem (.var (nat_lit 10)) (.lit (Int.ofNat (nat_lit 65536))))], (Int.ofNat (nat_lit 1)))])
def f12Q3 : Quest := (.eq [([(.rem (.var (nat_lit 3)) (.lit (Int.ofNat (nat_lit 65536))))], (Int.ofNat (nat_lit 1))), ([(.rem (.var (nat_lit 7)) (.lit (Int.ofNat (nat_lit 65536))))], (Int.ofNat (nat_lit 1))), ([(.rem (.var (nat_lit 11)) (.lit (Int.ofNat (nat_lit 65536))))], (Int.ofNat (nat_lit 1)))])
def f12Q4 : Quest := (.eq [([(.rem (.var (nat_lit 4)) (.lit (Int.ofNat (nat_lit 65536))))], (Int.negSucc (nat_lit 0))), ([(.rem (.var (nat_lit 6)) (.lit (Int.ofNat (nat_lit 65536))))], (Int.ofNat (nat_lit 1))), ([(.rem (.var (nat_lit 8)) (.lit (Int.ofNat (nat_lit 65536))))], (Int.negSucc (nat_lit 1))), ([(.rem (.var (nat_lit 10)) (.lit (Int.ofNat (nat_lit 65536))))], (Int.negSucc (nat_lit 0)))])
def f12Q5 : Quest := (.eq [([(.rem (.var (nat_lit 5)) (.lit (Int.ofNat (nat_lit 65536))))], (Int.negSucc (nat_lit 0))), ([(.rem (.var (nat_lit 7)) (.lit (Int.ofNat (nat_lit 65536))))], (Int.ofNat (nat_lit 1))), ([(.rem (.var (nat_lit 9)) (.lit (Int.ofNat (nat_lit 65536))))], (Int.negSucc (nat_lit 1))), ([(.rem (.var (nat_lit 11)) (.lit (Int.ofNat (nat_lit 65536))))], (Int.negSucc (nat_lit 0)))])
def f12T6 : STree := (.test (.eq [([(.rem (.var (nat_lit 6)) (.lit (Int.ofNat (nat_lit 65536))))], (Int.negSucc (nat_lit 0))), ([(.rem (.var (nat_lit 8)) (.lit (Int.ofNat (nat_lit 65536))))], (Int.ofNat (nat_lit 1)))])
  (.test (.eq [([(.rem (.var (nat_lit 7)) (.lit (Int.ofNat (nat_lit 65536))))], (Int.negSucc (nat_lit 0))), ([(.rem (.var (nat_lit 9)) (.lit (Int.ofNat (nat_lit 65536))))], (Int.ofNat (nat_lit 1)))])
  (.leaf (.bool true))
  (.leaf (.bool true)))
  (.leaf (.bool true)))
theorem f12C6 : checkT Tryd.prog (xOf symX) (gxOf symG) (sumsOf sums46) 10000 12 f12A f12T6 (((((((facts0 f12K).yes f12Q0).yes f12Q1).yes f12Q2).yes f12Q3).yes f12Q4).yes f12Q5) = true := by kernel_rfl
def f12Q7 : Quest := (.eq [([(.rem (.var (nat_lit 6)) (.lit (Int.ofNat (nat_lit 65536))))], (Int.ofNat (nat_lit 1))), ([(.rem (.var (nat_lit 8)) (.lit (Int.ofNat (nat_lit 65536))))], (Int.negSucc (nat_lit 0)))])
def f12T8 : STree := (.test (.eq [([(.rem (.var (nat_lit 5)) (.lit (Int.ofNat (nat_lit 65536))))], (Int.ofNat (nat_lit 1))), ([(.rem (.var (nat_lit 7)) (.lit (Int.ofNat (nat_lit 65536))))], (Int.ofNat (nat_lit 1))), ([(.rem (.var (nat_lit 11)) (.lit (Int.ofNat (nat_lit 65536))))], (Int.ofNat (nat_lit 1)))])
  (.test (.eq [([(.rem (.var (nat_lit 7)) (.lit (Int.ofNat (nat_lit 65536))))], (Int.ofNat (nat_lit 1))), ([(.rem (.var (nat_lit 9)) (.lit (Int.ofNat (nat_lit 65536))))], (Int.negSucc (nat_lit 0)))])
  (.leaf (.bool true))
  (.leaf (.bool true)))
  (.leaf (.bool true)))
theorem f12C8 : checkT Tryd.prog (xOf symX) (gxOf symG) (sumsOf sums46) 10000 12 f12A f12T8 ((((((((facts0 f12K).yes f12Q0).yes f12Q1).yes f12Q2).yes f12Q3).yes f12Q4).no f12Q5).yes f12Q7) = true := by kernel_rfl
def f12T9 : STree := (.leaf (.bool true))
theorem f12C9 : checkT Tryd.prog (xOf symX) (gxOf symG) (sumsOf sums46) 10000 12 f12A f12T9 ((((((((facts0 f12K).yes f12Q0).yes f12Q1).yes f12Q2).yes f12Q3).yes f12Q4).no f12Q5).no f12Q7) = true := by kernel_rfl
def f12T10 : STree := .test f12Q7 f12T8 f12T9
theorem f12C10 : checkT Tryd.prog (xOf symX) (gxOf symG) (sumsOf sums46) 10000 12 f12A f12T10 (((((((facts0 f12K).yes f12Q0).yes f12Q1).yes f12Q2).yes f12Q3).yes f12Q4).no f12Q5) = true := checkT_test f12C8 f12C9
def f12T11 : STree := .test f12Q5 f12T6 f12T10
theorem f12C11 : checkT Tryd.prog (xOf symX) (gxOf symG) (sumsOf sums46) 10000 12 f12A f12T11 ((((((facts0 f12K).yes f12Q0).yes f12Q1).yes f12Q2).yes f12Q3).yes f12Q4) = true := checkT_test f12C6 f12C10
def f12Q12 : Quest := (.eq [([(.rem (.var (nat_lit 4)) (.lit (Int.ofNat (nat_lit 65536))))], (Int.ofNat (nat_lit 1))), ([(.rem (.var (nat_lit 6)) (.lit (Int.ofNat (nat_lit 65536))))], (Int.ofNat (nat_lit 1))), ([(.rem (.var (nat_lit 10)) (.lit (Int.ofNat (nat_lit 65536))))], (Int.ofNat (nat_lit 1)))])
def f12T13 : STree := (.test (.eq [([(.rem (.var (nat_lit 5)) (.lit (Int.ofNat (nat_lit 65536))))], (Int.ofNat (nat_lit 1))), ([(.rem (.var (nat_lit 7)) (.lit (Int.ofNat (nat_lit 65536))))], (Int.ofNat (nat_lit 1))), ([(.rem (.var (nat_lit 11)) (.lit (Int.ofNat (nat_lit 65536))))], (Int.ofNat (nat_lit 1)))])
  (.test (.eq [([(.rem (.var (nat_lit 6)) (.lit (Int.ofNat (nat_lit 65536))))], (Int.ofNat (nat_lit 1))), ([(.rem (.var (nat_lit 8)) (.lit (Int.ofNat (nat_lit 65536))))], (Int.negSucc (nat_lit 0)))])
  (.leaf (.bool true))
  (.leaf (.bool true)))
  (.leaf (.bool true)))
theorem f12C13 : checkT Tryd.prog (xOf symX) (gxOf symG) (sumsOf sums46) 10000 12 f12A f12T13 (((((((facts0 f12K).yes f12Q0).yes f12Q1).yes f12Q2).yes f12Q3).no f12Q4).yes f12Q12) = true := by kernel_rfl
def f12T14 : STree := (.leaf (.bool true))
theorem f12C14 : checkT Tryd.prog (xOf symX) (gxOf symG) (sumsOf sums46) 10000 12 f12A f12T14 (((((((facts0 f12K).yes f12Q0).yes f12Q1).yes f12Q2).yes f12Q3).no f12Q4).no f12Q12) = true := by kernel_rfl
def f12T15 : STree := .test f12Q12 f12T13 f12T14
theorem f12C15 : checkT Tryd.prog (xOf symX) (gxOf symG) (sumsOf sums46) 10000 12 f12A f12T15 ((((((facts0 f12K).yes f12Q0).yes f12Q1).yes f12Q2).yes f12Q3).no f12Q4) = true := checkT_test f12C13 f12C14
def f12T16 : STree := .test f12Q4 f12T11 f12T15
theorem f12C16 : checkT Tryd.prog (xOf symX) (gxOf symG) (sumsOf sums46) 10000 12 f12A f12T16 (((((facts0 f12K).yes f12Q0).yes f12Q1).yes f12Q2).yes f12Q3) = true := checkT_test f12C11 f12C15
def f12Q17 : Quest := (.eq [([(.rem (.var (nat_lit 4)) (.lit (Int.ofNat (nat_lit 65536))))], (Int.ofNat (nat_lit 1))), ([(.rem (.var (nat_lit 6)) (.lit (Int.ofNat (nat_lit 65536))))], (Int.ofNat (nat_lit 1))), ([(.rem (.var (nat_lit 10)) (.lit (Int.ofNat (nat_lit 65536))))], (Int.ofNat (nat_lit 1)))])
def f12Q18 : Quest := (.eq [([(.rem (.var (nat_lit 3)) (.lit (Int.ofNat (nat_lit 65536))))], (Int.negSucc (nat_lit 0))), ([(.rem (.var (nat_lit 5)) (.lit (Int.ofNat (nat_lit 65536))))], (Int.ofNat (nat_lit 1)))])
def f12Q19 : Quest := (.eq [([(.rem (.var (nat_lit 6)) (.lit (Int.ofNat (nat_lit 65536))))], (Int.ofNat (nat_lit 1))), ([(.rem (.var (nat_lit 8)) (.lit (Int.ofNat (nat_lit 65536))))], (Int.negSucc (nat_lit 0)))])
def f12T20 : STree := (.test (.eq [([(.rem (.var (nat_lit 7)) (.lit (Int.ofNat (nat_lit 65536))))], (Int.ofNat (nat_lit 1))), ([(.rem (.var (nat_lit 9)) (.lit (Int.ofNat (nat_lit 65536))))], (Int.negSucc (nat_lit 0)))])
  (.test (.eq [([(.rem (.var (nat_lit 5)) (.lit (Int.ofNat (nat_lit 65536))))], (Int.ofNat (nat_lit 1))), ([(.rem (.var (nat_lit 9)) (.lit (Int.ofNat (nat_lit 65536))))], (Int.ofNat (nat_lit 1))), ([(.rem (.var (nat_lit 11)) (.lit (Int.ofNat (nat_lit 65536))))], (Int.ofNat (nat_lit 1)))])
  (.leaf (.bool true))
  (.leaf (.bool true)))
  (.leaf (.bool true)))
theorem f12C20 : checkT Tryd.prog (xOf symX) (gxOf symG) (sumsOf sums46) 10000 12 f12A f12T20 ((((((((facts0 f12K).yes f12Q0).yes f12Q1).yes f12Q2).no f12Q3).yes f12Q17).yes f12Q18).yes f12Q19) = true := by kernel_rfl
def f12T21 : STree := (.leaf (.bool true))
theorem f12C21 : checkT Tryd.prog (xOf symX) (gxOf symG) (sumsOf sums46) 10000 12 f12A f12T21 ((((((((facts0 f12K).yes f12Q0).yes f12Q1).yes f12Q2).no f12Q3).yes f12Q17).yes f12Q18).no f12Q19) = true := by kernel_rfl
def f12T22 : STree := .test f12Q19 f12T20 f12T21
theorem f12C22 : checkT Tryd.prog (xOf symX) (gxOf symG) (sumsOf sums46) 10000 12 f12A f12T22 (((((((facts0 f12K).yes f12Q0).yes f12Q1).yes f12Q2).no f12Q3).yes f12Q17).yes f12Q18) = true := checkT_test f12C20 f12C21
def f12T23 : STree := (.leaf (.bool true))
theorem f12C23 : checkT Tryd.prog (xOf symX) (gxOf symG) (sumsOf sums46) 10000 12 f12A f12T23 (((((((facts0 f12K).yes f12Q0).yes f12Q1).yes f12Q2).no f12Q3).yes f12Q17).no f12Q18) = true := by kernel_rfl
def f12T24 : STree := .test f12Q18 f12T22 f12T23
theorem f12C24 : checkT Tryd.prog (xOf symX) (gxOf symG) (sumsOf sums46) 10000 12 f12A f12T24 ((((((facts0 f12K).yes f12Q0).yes f12Q1).yes f12Q2).no f12Q3).yes f12Q17) = true := checkT_test f12C22 f12C23
def f12T25 : STree := (.leaf (.bool true))
theorem f12C25 : checkT Tryd.prog (xOf symX) (gxOf symG) (sumsOf sums46) 10000 12 f12A f12T25 ((((((facts0 f12K).yes f12Q0).yes f12Q1).yes f12Q2).no f12Q3).no f12Q17) = true := by kernel_rfl
def f12T26 : STree := .test f12Q17 f12T24 f12T25
theorem f12C26 : checkT Tryd.prog (xOf symX) (gxOf symG) (sumsOf sums46) 10000 12 f12A f12T26 (((((facts0 f12K).yes f12Q0).yes f12Q1).yes f12Q2).no f12Q3) = true := checkT_test f12C24 f12C25
def f12T27 : STree := .test f12Q3 f12T16 f12T26
theorem f12C27 : checkT Tryd.prog (xOf symX) (gxOf symG) (sumsOf sums46) 10000 12 f12A f12T27 ((((facts0 f12K).yes f12Q0).yes f12Q1).yes f12Q2) = true := checkT_test f12C16 f12C26
def f12Q28 : Quest := (.eq [([(.rem (.var (nat_lit 2)) (.lit (Int.ofNat (nat_lit 65536))))], (Int.negSucc (nat_lit 0))), ([(.rem (.var (nat_lit 4)) (.lit (Int.ofNat (nat_lit 65536))))], (Int.ofNat (nat_lit 1)))])
def f12Q29 : Quest := (.eq [([(.rem (.var (nat_lit 3)) (.lit (Int.ofNat (nat_lit 65536))))], (Int.negSucc (nat_lit 0))), ([(.rem (.var (nat_lit 5)) (.lit (Int.ofNat (nat_lit 65536))))], (Int.ofNat (nat_lit 1)))])
def f12Q30 : Quest := (.eq [([(.rem (.var (nat_lit 6)) (.lit (Int.ofNat (nat_lit 65536))))], (Int.ofNat (nat_lit 1))), ([(.rem (.var (nat_lit 8)) (.lit (Int.ofNat (nat_lit 65536))))], (Int.negSucc (nat_lit 0)))])
def f12T31 : STree := (.test (.eq [([(.rem (.var (nat_lit 7)) (.lit (Int.ofNat (nat_lit 65536))))], (Int.ofNat (nat_lit 1))), ([(.rem (.var (nat_lit 9)) (.lit (Int.ofNat (nat_lit 65536))))], (Int.negSucc (nat_lit 0)))])
  (.test (.eq [([(.rem (.var (nat_lit 4)) (.lit (Int.ofNat (nat_lit 65536))))], (Int.ofNat (nat_lit 1))), ([(.rem (.var (nat_lit 8)) (.lit (Int.ofNat (nat_lit 65536))))], (Int.ofNat (nat_lit 1))), ([(.rem (.var (nat_lit 10)) (.lit (Int.ofNat (nat_lit 65536))))], (Int.ofNat (nat_lit 1)))])
  (.leaf (.bool true))
  (.leaf (.bool true)))
  (.leaf (.bool true)))
theorem f12C31 : checkT Tryd.prog (xOf symX) (gxOf symG) (sumsOf sums46) 10000 12 f12A f12T31 (((((((facts0 f12K).yes f12Q0).yes f12Q1).no f12Q2).yes f12Q28).yes f12Q29).yes f12Q30) = true := by kernel_rfl
def f12T32 : STree := (.leaf (.bool true))
theorem f12C32 : checkT Tryd.prog (xOf symX) (gxOf symG) (sumsOf sums46) 10000 12 f12A f12T32 (((((((facts0 f12K).yes f12Q0).yes f12Q1).no f12Q2).yes f12Q28).yes f12Q29).no f12Q30) = true := by kernel_rfl
def f12T33 : STree := .test f12Q30 f12T31 f12T32
theorem f12C33 : checkT Tryd.prog (xOf symX) (gxOf symG) (sumsOf sums46) 10000 12 f12A f12T33 ((((((facts0 f12K).yes f12Q0).yes f12Q1).no f12Q2).yes f12Q28).yes f12Q29) = true := checkT_test f12C31 f12C32
def f12T34 : STree := (.leaf (.bool true))
theorem f12C34 : checkT Tryd.prog (xOf symX) (gxOf symG) (sumsOf sums46) 10000 12 f12A f12T34 ((((((facts0 f12K).yes f12Q0).yes f12Q1).no f12Q2).yes f12Q28).no f12Q29) = true := by kernel_rfl
def f12T35 : STree := .test f12Q29 f12T33 f12T34
theorem f12C35 : checkT Tryd.prog (xOf symX) (gxOf symG) (sumsOf sums46) 10000 12 f12A f12T35 (((((facts0 f12K).yes f12Q0).yes f12Q1).no f12Q2).yes f12Q28) = true := checkT_test f12C33 f12C34
def f12T36 : STree := (.leaf (.bool true))
theorem f12C36 : checkT Tryd.prog (xOf symX) (gxOf symG) (sumsOf sums46) 10000 12 f12A f12T36 (((((facts0 f12K).yes f12Q0).yes f12Q1).no f12Q2).no f12Q28) = true := by kernel_rfl
def f12T37 : STree := .test f12Q28 f12T35 f12T36
theorem f12C37 : checkT Tryd.prog (xOf symX) (gxOf symG) (sumsOf sums46) 10000 12 f12A f12T37 ((((facts0 f12K).yes f12Q0).yes f12Q1).no f12Q2) = true := checkT_test f12C35 f12C36
def f12T38 : STree := .test f12Q2 f12T27 f12T37
theorem f12C38 : checkT Tryd.prog (xOf symX) (gxOf symG) (sumsOf sums46) 10000 12 f12A f12T38 (((facts0 f12K).yes f12Q0).yes f12Q1) = true := checkT_test f12C27 f12C37
def f12Q39 : Quest := (.eq [([(.rem (.var (nat_lit 2)) (.lit (Int.ofNat (nat_lit 65536))))], (Int.negSucc (nat_lit 0))), ([(.rem (.var (nat_lit 4)) (.lit (Int.ofNat (nat_lit 65536))))], (Int.ofNat (nat_lit 1)))])
def f12Q40 : Quest := (.eq [([(.rem (.var (nat_lit 3)) (.lit (Int.ofNat (nat_lit 65536))))], (Int.negSucc (nat_lit 0))), ([(.rem (.var (nat_lit 5)) (.lit (Int.ofNat (nat_lit 65536))))], (Int.ofNat (nat_lit 1)))])
def f12Q41 : Quest := (.eq [([(.rem (.var (nat_lit 6)) (.lit (Int.ofNat (nat_lit 65536))))], (Int.ofNat (nat_lit 1))), ([(.rem (.var (nat_lit 8)) (.lit (Int.ofNat (nat_lit 65536))))], (Int.negSucc (nat_lit 0)))])
def f12T42 : STree := (.test (.eq [([(.rem (.var (nat_lit 1)) (.lit (Int.ofNat (nat_lit 65536))))], (Int.ofNat (nat_lit 1))), ([(.rem (.var (nat_lit 5)) (.lit (Int.ofNat (nat_lit 65536))))], (Int.ofNat (nat_lit 1))), ([(.rem (.var (nat_lit 7)) (.lit (Int.ofNat (nat_lit 65536))))], (Int.ofNat (nat_lit 1)))])
  (.test (.eq [([(.rem (.var (nat_lit 7)) (.lit (Int.ofNat (nat_lit 65536))))], (Int.negSucc (nat_lit 0))), ([(.rem (.var (nat_lit 9)) (.lit (Int.ofNat (nat_lit 65536))))], (Int.ofNat (nat_lit 1)))])
  (.leaf (.bool true))
  (.leaf (.bool true)))
  (.leaf (.bool true)))
theorem f12C42 : checkT Tryd.prog (xOf symX) (gxOf symG) (sumsOf sums46) 10000 12 f12A f12T42 ((((((facts0 f12K).yes f12Q0).no f12Q1).yes f12Q39).yes f12Q40).yes f12Q41) = true := by kernel_rfl
def f12T43 : STree := (.leaf (.bool true))
theorem f12C43 : checkT Tryd.prog (xOf symX) (gxOf symG) (sumsOf sums46) 10000 12 f12A f12T43 ((((((facts0 f12K).yes f12Q0).no f12Q1).yes f12Q39).yes f12Q40).no f12Q41) = true := by kernel_rfl
def f12T44 : STree := .test f12Q41 f12T42 f12T43
theorem f12C44 : checkT Tryd.prog (xOf symX) (gxOf symG) (sumsOf sums46) 10000 12 f12A f12T44 (((((facts0 f12K).yes f12Q0).no f12Q1).yes f12Q39).yes f12Q40) = true := checkT_test f12C42 f12C43
def f12T45 : STree := (.leaf (.bool true))
theorem f12C45 : checkT Tryd.prog (xOf symX) (gxOf symG) (sumsOf sums46) 10000 12 f12A f12T45 (((((facts0 f12K).yes f12Q0).no f12Q1).yes f12Q39).no f12Q40) = true := by kernel_rfl
def f12T46 : STree := .test f12Q40 f12T44 f12T45
theorem f12C46 : checkT Tryd.prog (xOf symX) (gxOf symG) (sumsOf sums46) 10000 12 f12A f12T46 ((((facts0 f12K).yes f12Q0).no f12Q1).yes f12Q39) = true := checkT_test f12C44 f12C45
def f12T47 : STree := (.leaf (.bool true))
theorem f12C47 : checkT Tryd.prog (xOf symX) (gxOf symG) (sumsOf sums46) 10000 12 f12A f12T47 ((((facts0 f12K).yes f12Q0).no f12Q1).no f12Q39) = true := by kernel_rfl
def f12T48 : STree := .test f12Q39 f12T46 f12T47
theorem f12C48 : checkT Tryd.prog (xOf symX) (gxOf symG) (sumsOf sums46) 10000 12 f12A f12T48 (((facts0 f12K).yes f12Q0).no f12Q1) = true := checkT_test f12C46 f12C47
def f12T49 : STree := .test f12Q1 f12T38 f12T48
theorem f12C49 : checkT Tryd.prog (xOf symX) (gxOf symG) (sumsOf sums46) 10000 12 f12A f12T49 ((facts0 f12K).yes f12Q0) = true := checkT_test f12C38 f12C48
def f12Q50 : Quest := (.eq [([(.rem (.var (nat_lit 2)) (.lit (Int.ofNat (nat_lit 65536))))], (Int.negSucc (nat_lit 0))), ([(.rem (.var (nat_lit 4)) (.lit (Int.ofNat (nat_lit 65536))))], (Int.ofNat (nat_lit 1)))])
def f12Q51 : Quest := (.eq [([(.rem (.var (nat_lit 3)) (.lit (Int.ofNat (nat_lit 65536))))], (Int.negSucc (nat_lit 0))), ([(.rem (.var (nat_lit 5)) (.lit (Int.ofNat (nat_lit 65536))))], (Int.ofNat (nat_lit 1)))])
def f12Q52 : Quest := (.eq [([(.rem (.var (nat_lit 0)) (.lit (Int.ofNat (nat_lit 65536))))], (Int.ofNat (nat_lit 1))), ([(.rem (.var (nat_lit 4)) (.lit (Int.ofNat (nat_lit 65536))))], (Int.ofNat (nat_lit 1))), ([(.rem (.var (nat_lit 6)) (.lit (Int.ofNat (nat_lit 65536))))], (Int.ofNat (nat_lit 1)))])
def f12T53 : STree := (.test (.eq [([(.rem (.var (nat_lit 1)) (.lit (Int.ofNat (nat_lit 65536))))], (Int.ofNat (nat_lit 1))), ([(.rem (.var (nat_lit 5)) (.lit (Int.ofNat (nat_lit 65536))))], (Int.ofNat (nat_lit 1))), ([(.rem (.var (nat_lit 7)) (.lit (Int.ofNat (nat_lit 65536))))], (Int.ofNat (nat_lit 1)))])
  (.test (.eq [([(.rem (.var (nat_lit 6)) (.lit (Int.ofNat (nat_lit 65536))))], (Int.negSucc (nat_lit 0))), ([(.rem (.var (nat_lit 8)) (.lit (Int.ofNat (nat_lit 65536))))], (Int.ofNat (nat_lit 1)))])
  (.leaf (.bool true))
  (.leaf (.bool true)))
  (.leaf (.bool true)))
theorem f12C53 : checkT Tryd.prog (xOf symX) (gxOf symG) (sumsOf sums46) 10000 12 f12A f12T53 (((((facts0 f12K).no f12Q0).yes f12Q50).yes f12Q51).yes f12Q52) = true := by kernel_rfl
def f12T54 : STree := (.leaf (.bool true))
theorem f12C54 : checkT Tryd.prog (xOf symX) (gxOf symG) (sumsOf sums46) 10000 12 f12A f12T54 (((((facts0 f12K).no f12Q0).yes f12Q50).yes f12Q51).no f12Q52) = true := by kernel_rfl
def f12T55 : STree := .test f12Q52 f12T53 f12T54
theorem f12C55 : checkT Tryd.prog (xOf symX) (gxOf symG) (sumsOf sums46) 10000 12 f12A f12T55 ((((facts0 f12K).no f12Q0).yes f12Q50).yes f12Q51) = true := checkT_test f12C53 f12C54
def f12T56 : STree := (.leaf (.bool true))
theorem f12C56 : checkT Tryd.prog (xOf symX) (gxOf symG) (sumsOf sums46) 10000 12 f12A f12T56 ((((facts0 f12K).no f12Q0).yes f12Q50).no f12Q51) = true := by kernel_rfl
def f12T57 : STree := .test f12Q51 f12T55 f12T56
theorem f12C57 : checkT Tryd.prog (xOf symX) (gxOf symG) (sumsOf sums46) 10000 12 f12A f12T57 (((facts0 f12K).no f12Q0).yes f12Q50) = true := checkT_test f12C55 f12C56
def f12T58 : STree := (.leaf (.bool true))
theorem f12C58 : checkT Tryd.prog (xOf symX) (gxOf symG) (sumsOf sums46) 10000 12 f12A f12T58 (((facts0 f12K).no f12Q0).no f12Q50) = true := by kernel_rfl
def f12T59 : STree := .test f12Q50 f12T57 f12T58
theorem f12C59 : checkT Tryd.prog (xOf symX) (gxOf symG) (sumsOf sums46) 10000 12 f12A f12T59 ((facts0 f12K).no f12Q0) = true := checkT_test f12C57 f12C58
def f12T60 : STree := .test f12Q0 f12T49 f12T59
theorem f12C60 : checkT Tryd.prog (xOf symX) (gxOf symG) (sumsOf sums46) 10000 12 f12A f12T60 (facts0 f12K) = true := checkT_test f12C49 f12C59
def f12M : Summ := ⟨f12A, f12K, f12T60⟩
theorem f12Ok : SumOk Tryd.prog (xOf symX) (gxOf symG) 12 f12M := sumOk_of symMixed symClosed sums46Ok f12C60
end Go.Proofs.YtchmfiiipdjikaaDoor
