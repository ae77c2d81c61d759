/- The paths of PhasorDelay, each checked by the kernel. -/
import Derived.Test.YtjghifocfjbmcaaDoorSums
import Derived.KernelRfl
namespace Go.Proofs.YtjghifocfjbmcaaDoor
open Go.Sym

def f5A : List SV := [(.agg [(.int .i64 [([(.var (nat_lit 0))], (Int.ofNat (nat_lit 1)))]), (.int .i64 [([(.var (nat_lit 1))], (Int.ofNat (nat_lit 1)))]), (.int .i64 [([(.var (nat_lit 2))], (Int.ofNat (nat_lit 1)))]), (.int .i64 [([(.var (nat_lit 3))], (Int.ofNat (nat_lit 1)))]), (.int .i64 [([(.var (nat_lit 4))], (Int.ofNat (nat_lit 1)))]), (.int .i64 [([(.var (nat_lit 5))], (Int.ofNat (nat_lit 1)))]), (.int .i64 [([(.var (nat_lit 6))], (Int.ofNat (nat_lit 1)))]), (.int .i64 [([(.var (nat_lit 7))], (Int.ofNat (nat_lit 1)))]), (.int .i64 [([(.var (nat_lit 8))], (Int.ofNat (nat_lit 1)))]), (.int .i64 [([(.var (nat_lit 9))], (Int.ofNat (nat_lit 1)))]), (.int .i64 [([(.var (nat_lit 10))], (Int.ofNat (nat_lit 1)))]), (.int .i64 [([(.var (nat_lit 11))], (Int.ofNat (nat_lit 1)))])]), (.int .i64 [([(.var (nat_lit 12))], (Int.ofNat (nat_lit 1)))]), (.int .i64 [([(.var (nat_lit 13))], (Int.ofNat (nat_lit 1)))])]
def f5K : List Iv := [ivT .i64, ivT .i64, ivT .i64, ivT .i64, ivT .i64, ivT .i64, ivT .i64, ivT .i64, ivT .i64, ivT .i64, ivT .i64, ivT .i64, ivT .i64, ivT .i64]
def f5R : List (List SV) := []
def f5Q0 : Quest := (.le [([], (Int.negSucc (nat_lit 4))), ([(.emod (nat_lit 12) (.var (nat_lit 12)))], (Int.ofNat (nat_lit 1)))])
def f5Q1 : Quest := (.le [([], (Int.negSucc (nat_lit 1))), ([(.emod (nat_lit 12) (.var (nat_lit 12)))], (Int.ofNat (nat_lit 1)))])
def f5Q2 : Quest := (.le [([], (Int.negSucc (nat_lit 0))), ([(.emod (nat_lit 12) (.var (nat_lit 12)))], (Int.ofNat (nat_lit 1)))])
def f5Q3 : Quest := (.le [([(.emod (nat_lit 12) (.var (nat_lit 12)))], (Int.ofNat (nat_lit 1)))])
def f5Q4 : Quest := (.le [([], (Int.negSucc (nat_lit 4))), ([(.emod (nat_lit 12) (.var (nat_lit 13)))], (Int.ofNat (nat_lit 1)))])
def f5Q5 : Quest := (.le [([], (Int.negSucc (nat_lit 1))), ([(.emod (nat_lit 12) (.var (nat_lit 13)))], (Int.ofNat (nat_lit 1)))])
def f5T6 : STree := (.test (.le [([], (Int.negSucc (nat_lit 0))), ([(.emod (nat_lit 12) (.var (nat_lit 13)))], (Int.ofNat (nat_lit 1)))])
  (.test (.le [([(.emod (nat_lit 12) (.var (nat_lit 13)))], (Int.ofNat (nat_lit 1)))])
  (.leaf (.bool true))
  (.leaf (.bool true)))
  (.leaf (.bool true)))
theorem f5C6 : checkT Tryd.prog (xWith (xOf symX) f5R) (gxOf symG) (sumsOf sums13_x12im16383to16383) 10000 5 f5A f5T6 (((((((facts0 f5K).yes f5Q0).yes f5Q1).yes f5Q2).yes f5Q3).yes f5Q4).yes f5Q5) = true := by kernel_rfl
def f5T7 : STree := (.test (.le [([], (Int.negSucc (nat_lit 3))), ([(.emod (nat_lit 12) (.var (nat_lit 13)))], (Int.ofNat (nat_lit 1)))])
  (.test (.le [([], (Int.negSucc (nat_lit 2))), ([(.emod (nat_lit 12) (.var (nat_lit 13)))], (Int.ofNat (nat_lit 1)))])
  (.leaf (.bool true))
  (.leaf (.bool true)))
  (.leaf (.bool true)))
theorem f5C7 : checkT Tryd.prog (xWith (xOf symX) f5R) (gxOf symG) (sumsOf sums13_x12im16383to16383) 10000 5 f5A f5T7 (((((((facts0 f5K).yes f5Q0).yes f5Q1).yes f5Q2).yes f5Q3).yes f5Q4).no f5Q5) = true := by kernel_rfl
def f5T8 : STree := .test f5Q5 f5T6 f5T7
theorem f5C8 : checkT Tryd.prog (xWith (xOf symX) f5R) (gxOf symG) (sumsOf sums13_x12im16383to16383) 10000 5 f5A f5T8 ((((((facts0 f5K).yes f5Q0).yes f5Q1).yes f5Q2).yes f5Q3).yes f5Q4) = true := checkT_test f5C6 f5C7
def f5Q9 : Quest := (.le [([], (Int.negSucc (nat_lit 7))), ([(.emod (nat_lit 12) (.var (nat_lit 13)))], (Int.ofNat (nat_lit 1)))])
def f5T10 : STree := (.test (.le [([], (Int.negSucc (nat_lit 6))), ([(.emod (nat_lit 12) (.var (nat_lit 13)))], (Int.ofNat (nat_lit 1)))])
  (.test (.le [([], (Int.negSucc (nat_lit 5))), ([(.emod (nat_lit 12) (.var (nat_lit 13)))], (Int.ofNat (nat_lit 1)))])
  (.leaf (.bool true))
  (.leaf (.bool true)))
  (.leaf (.bool true)))
theorem f5C10 : checkT Tryd.prog (xWith (xOf symX) f5R) (gxOf symG) (sumsOf sums13_x12im16383to16383) 10000 5 f5A f5T10 (((((((facts0 f5K).yes f5Q0).yes f5Q1).yes f5Q2).yes f5Q3).no f5Q4).yes f5Q9) = true := by kernel_rfl
def f5T11 : STree := (.test (.le [([], (Int.negSucc (nat_lit 9))), ([(.emod (nat_lit 12) (.var (nat_lit 13)))], (Int.ofNat (nat_lit 1)))])
  (.test (.le [([], (Int.negSucc (nat_lit 8))), ([(.emod (nat_lit 12) (.var (nat_lit 13)))], (Int.ofNat (nat_lit 1)))])
  (.leaf (.bool true))
  (.leaf (.bool true)))
  (.leaf (.bool true)))
theorem f5C11 : checkT Tryd.prog (xWith (xOf symX) f5R) (gxOf symG) (sumsOf sums13_x12im16383to16383) 10000 5 f5A f5T11 (((((((facts0 f5K).yes f5Q0).yes f5Q1).yes f5Q2).yes f5Q3).no f5Q4).no f5Q9) = true := by kernel_rfl
def f5T12 : STree := .test f5Q9 f5T10 f5T11
theorem f5C12 : checkT Tryd.prog (xWith (xOf symX) f5R) (gxOf symG) (sumsOf sums13_x12im16383to16383) 10000 5 f5A f5T12 ((((((facts0 f5K).yes f5Q0).yes f5Q1).yes f5Q2).yes f5Q3).no f5Q4) = true := checkT_test f5C10 f5C11
def f5T13 : STree := .test f5Q4 f5T8 f5T12
theorem f5C13 : checkT Tryd.prog (xWith (xOf symX) f5R) (gxOf symG) (sumsOf sums13_x12im16383to16383) 10000 5 f5A f5T13 (((((facts0 f5K).yes f5Q0).yes f5Q1).yes f5Q2).yes f5Q3) = true := checkT_test f5C8 f5C12
def f5Q14 : Quest := (.le [([], (Int.negSucc (nat_lit 4))), ([(.emod (nat_lit 12) (.var (nat_lit 13)))], (Int.ofNat (nat_lit 1)))])
def f5Q15 : Quest := (.le [([], (Int.negSucc (nat_lit 1))), ([(.emod (nat_lit 12) (.var (nat_lit 13)))], (Int.ofNat (nat_lit 1)))])
def f5T16 : STree := (.test (.le [([], (Int.negSucc (nat_lit 0))), ([(.emod (nat_lit 12) (.var (nat_lit 13)))], (Int.ofNat (nat_lit 1)))])
  (.test (.le [([(.emod (nat_lit 12) (.var (nat_lit 13)))], (Int.ofNat (nat_lit 1)))])
  (.leaf (.bool true))
  (.leaf (.bool true)))
  (.leaf (.bool true)))
theorem f5C16 : checkT Tryd.prog (xWith (xOf symX) f5R) (gxOf symG) (sumsOf sums13_x12im16383to16383) 10000 5 f5A f5T16 (((((((facts0 f5K).yes f5Q0).yes f5Q1).yes f5Q2).no f5Q3).yes f5Q14).yes f5Q15) = true := by kernel_rfl
def f5T17 : STree := (.test (.le [([], (Int.negSucc (nat_lit 3))), ([(.emod (nat_lit 12) (.var (nat_lit 13)))], (Int.ofNat (nat_lit 1)))])
  (.test (.le [([], (Int.negSucc (nat_lit 2))), ([(.emod (nat_lit 12) (.var (nat_lit 13)))], (Int.ofNat (nat_lit 1)))])
  (.leaf (.bool true))
  (.leaf (.bool true)))
  (.leaf (.bool true)))
theorem f5C17 : checkT Tryd.prog (xWith (xOf symX) f5R) (gxOf symG) (sumsOf sums13_x12im16383to16383) 10000 5 f5A f5T17 (((((((facts0 f5K).yes f5Q0).yes f5Q1).yes f5Q2).no f5Q3).yes f5Q14).no f5Q15) = true := by kernel_rfl
def f5T18 : STree := .test f5Q15 f5T16 f5T17
theorem f5C18 : checkT Tryd.prog (xWith (xOf symX) f5R) (gxOf symG) (sumsOf sums13_x12im16383to16383) 10000 5 f5A f5T18 ((((((facts0 f5K).yes f5Q0).yes f5Q1).yes f5Q2).no f5Q3).yes f5Q14) = true := checkT_test f5C16 f5C17
def f5Q19 : Quest := (.le [([], (Int.negSucc (nat_lit 7))), ([(.emod (nat_lit 12) (.var (nat_lit 13)))], (Int.ofNat (nat_lit 1)))])
def f5T20 : STree := (.test (.le [([], (Int.negSucc (nat_lit 6))), ([(.emod (nat_lit 12) (.var (nat_lit 13)))], (Int.ofNat (nat_lit 1)))])
  (.test (.le [([], (Int.negSucc (nat_lit 5))), ([(.emod (nat_lit 12) (.var (nat_lit 13)))], (Int.ofNat (nat_lit 1)))])
  (.leaf (.bool true))
  (.leaf (.bool true)))
  (.leaf (.bool true)))
theorem f5C20 : checkT Tryd.prog (xWith (xOf symX) f5R) (gxOf symG) (sumsOf sums13_x12im16383to16383) 10000 5 f5A f5T20 (((((((facts0 f5K).yes f5Q0).yes f5Q1).yes f5Q2).no f5Q3).no f5Q14).yes f5Q19) = true := by kernel_rfl
def f5T21 : STree := (.test (.le [([], (Int.negSucc (nat_lit 9))), ([(.emod (nat_lit 12) (.var (nat_lit 13)))], (Int.ofNat (nat_lit 1)))])
  (.test (.le [([], (Int.negSucc (nat_lit 8))), ([(.emod (nat_lit 12) (.var (nat_lit 13)))], (Int.ofNat (nat_lit 1)))])
  (.leaf (.bool true))
  (.leaf (.bool true)))
  (.leaf (.bool true)))
theorem f5C21 : checkT Tryd.prog (xWith (xOf symX) f5R) (gxOf symG) (sumsOf sums13_x12im16383to16383) 10000 5 f5A f5T21 (((((((facts0 f5K).yes f5Q0).yes f5Q1).yes f5Q2).no f5Q3).no f5Q14).no f5Q19) = true := by kernel_rfl
def f5T22 : STree := .test f5Q19 f5T20 f5T21
theorem f5C22 : checkT Tryd.prog (xWith (xOf symX) f5R) (gxOf symG) (sumsOf sums13_x12im16383to16383) 10000 5 f5A f5T22 ((((((facts0 f5K).yes f5Q0).yes f5Q1).yes f5Q2).no f5Q3).no f5Q14) = true := checkT_test f5C20 f5C21
def f5T23 : STree := .test f5Q14 f5T18 f5T22
theorem f5C23 : checkT Tryd.prog (xWith (xOf symX) f5R) (gxOf symG) (sumsOf sums13_x12im16383to16383) 10000 5 f5A f5T23 (((((facts0 f5K).yes f5Q0).yes f5Q1).yes f5Q2).no f5Q3) = true := checkT_test f5C18 f5C22
def f5T24 : STree := .test f5Q3 f5T13 f5T23
theorem f5C24 : checkT Tryd.prog (xWith (xOf symX) f5R) (gxOf symG) (sumsOf sums13_x12im16383to16383) 10000 5 f5A f5T24 ((((facts0 f5K).yes f5Q0).yes f5Q1).yes f5Q2) = true := checkT_test f5C13 f5C23
def f5Q25 : Quest := (.le [([], (Int.negSucc (nat_lit 4))), ([(.emod (nat_lit 12) (.var (nat_lit 13)))], (Int.ofNat (nat_lit 1)))])
def f5Q26 : Quest := (.le [([], (Int.negSucc (nat_lit 1))), ([(.emod (nat_lit 12) (.var (nat_lit 13)))], (Int.ofNat (nat_lit 1)))])
def f5T27 : STree := (.test (.le [([], (Int.negSucc (nat_lit 0))), ([(.emod (nat_lit 12) (.var (nat_lit 13)))], (Int.ofNat (nat_lit 1)))])
  (.test (.le [([(.emod (nat_lit 12) (.var (nat_lit 13)))], (Int.ofNat (nat_lit 1)))])
  (.leaf (.bool true))
  (.leaf (.bool true)))
  (.leaf (.bool true)))
theorem f5C27 : checkT Tryd.prog (xWith (xOf symX) f5R) (gxOf symG) (sumsOf sums13_x12im16383to16383) 10000 5 f5A f5T27 ((((((facts0 f5K).yes f5Q0).yes f5Q1).no f5Q2).yes f5Q25).yes f5Q26) = true := by kernel_rfl
def f5T28 : STree := (.test (.le [([], (Int.negSucc (nat_lit 3))), ([(.emod (nat_lit 12) (.var (nat_lit 13)))], (Int.ofNat (nat_lit 1)))])
  (.test (.le [([], (Int.negSucc (nat_lit 2))), ([(.emod (nat_lit 12) (.var (nat_lit 13)))], (Int.ofNat (nat_lit 1)))])
  (.leaf (.bool true))
  (.leaf (.bool true)))
  (.leaf (.bool true)))
theorem f5C28 : checkT Tryd.prog (xWith (xOf symX) f5R) (gxOf symG) (sumsOf sums13_x12im16383to16383) 10000 5 f5A f5T28 ((((((facts0 f5K).yes f5Q0).yes f5Q1).no f5Q2).yes f5Q25).no f5Q26) = true := by kernel_rfl
def f5T29 : STree := .test f5Q26 f5T27 f5T28
theorem f5C29 : checkT Tryd.prog (xWith (xOf symX) f5R) (gxOf symG) (sumsOf sums13_x12im16383to16383) 10000 5 f5A f5T29 (((((facts0 f5K).yes f5Q0).yes f5Q1).no f5Q2).yes f5Q25) = true := checkT_test f5C27 f5C28
def f5Q30 : Quest := (.le [([], (Int.negSucc (nat_lit 7))), ([(.emod (nat_lit 12) (.var (nat_lit 13)))], (Int.ofNat (nat_lit 1)))])
def f5T31 : STree := (.test (.le [([], (Int.negSucc (nat_lit 6))), ([(.emod (nat_lit 12) (.var (nat_lit 13)))], (Int.ofNat (nat_lit 1)))])
  (.test (.le [([], (Int.negSucc (nat_lit 5))), ([(.emod (nat_lit 12) (.var (nat_lit 13)))], (Int.ofNat (nat_lit 1)))])
  (.leaf (.bool true))
  (.leaf (.bool true)))
  (.leaf (.bool true)))
theorem f5C31 : checkT Tryd.prog (xWith (xOf symX) f5R) (gxOf symG) (sumsOf sums13_x12im16383to16383) 10000 5 f5A f5T31 ((((((facts0 f5K).yes f5Q0).yes f5Q1).no f5Q2).no f5Q25).yes f5Q30) = true := by kernel_rfl
def f5T32 : STree := (.test (.le [([], (Int.negSucc (nat_lit 9))), ([(.emod (nat_lit 12) (.var (nat_lit 13)))], (Int.ofNat (nat_lit 1)))])
  (.test (.le [([], (Int.negSucc (nat_lit 8))), ([(.emod (nat_lit 12) (.var (nat_lit 13)))], (Int.ofNat (nat_lit 1)))])
  (.leaf (.bool true))
  (.leaf (.bool true)))
  (.leaf (.bool true)))
theorem f5C32 : checkT Tryd.prog (xWith (xOf symX) f5R) (gxOf symG) (sumsOf sums13_x12im16383to16383) 10000 5 f5A f5T32 ((((((facts0 f5K).yes f5Q0).yes f5Q1).no f5Q2).no f5Q25).no f5Q30) = true := by kernel_rfl
def f5T33 : STree := .test f5Q30 f5T31 f5T32
theorem f5C33 : checkT Tryd.prog (xWith (xOf symX) f5R) (gxOf symG) (sumsOf sums13_x12im16383to16383) 10000 5 f5A f5T33 (((((facts0 f5K).yes f5Q0).yes f5Q1).no f5Q2).no f5Q25) = true := checkT_test f5C31 f5C32
def f5T34 : STree := .test f5Q25 f5T29 f5T33
theorem f5C34 : checkT Tryd.prog (xWith (xOf symX) f5R) (gxOf symG) (sumsOf sums13_x12im16383to16383) 10000 5 f5A f5T34 ((((facts0 f5K).yes f5Q0).yes f5Q1).no f5Q2) = true := checkT_test f5C29 f5C33
def f5T35 : STree := .test f5Q2 f5T24 f5T34
theorem f5C35 : checkT Tryd.prog (xWith (xOf symX) f5R) (gxOf symG) (sumsOf sums13_x12im16383to16383) 10000 5 f5A f5T35 (((facts0 f5K).yes f5Q0).yes f5Q1) = true := checkT_test f5C24 f5C34
def f5Q36 : Quest := (.le [([], (Int.negSucc (nat_lit 3))), ([(.emod (nat_lit 12) (.var (nat_lit 12)))], (Int.ofNat (nat_lit 1)))])
def f5Q37 : Quest := (.le [([], (Int.negSucc (nat_lit 2))), ([(.emod (nat_lit 12) (.var (nat_lit 12)))], (Int.ofNat (nat_lit 1)))])
def f5Q38 : Quest := (.le [([], (Int.negSucc (nat_lit 4))), ([(.emod (nat_lit 12) (.var (nat_lit 13)))], (Int.ofNat (nat_lit 1)))])
def f5Q39 : Quest := (.le [([], (Int.negSucc (nat_lit 1))), ([(.emod (nat_lit 12) (.var (nat_lit 13)))], (Int.ofNat (nat_lit 1)))])
def f5T40 : STree := (.test (.le [([], (Int.negSucc (nat_lit 0))), ([(.emod (nat_lit 12) (.var (nat_lit 13)))], (Int.ofNat (nat_lit 1)))])
  (.test (.le [([(.emod (nat_lit 12) (.var (nat_lit 13)))], (Int.ofNat (nat_lit 1)))])
  (.leaf (.bool true))
  (.leaf (.bool true)))
  (.leaf (.bool true)))
theorem f5C40 : checkT Tryd.prog (xWith (xOf symX) f5R) (gxOf symG) (sumsOf sums13_x12im16383to16383) 10000 5 f5A f5T40 (((((((facts0 f5K).yes f5Q0).no f5Q1).yes f5Q36).yes f5Q37).yes f5Q38).yes f5Q39) = true := by kernel_rfl
def f5T41 : STree := (.test (.le [([], (Int.negSucc (nat_lit 3))), ([(.emod (nat_lit 12) (.var (nat_lit 13)))], (Int.ofNat (nat_lit 1)))])
  (.test (.le [([], (Int.negSucc (nat_lit 2))), ([(.emod (nat_lit 12) (.var (nat_lit 13)))], (Int.ofNat (nat_lit 1)))])
  (.leaf (.bool true))
  (.leaf (.bool true)))
  (.leaf (.bool true)))
theorem f5C41 : checkT Tryd.prog (xWith (xOf symX) f5R) (gxOf symG) (sumsOf sums13_x12im16383to16383) 10000 5 f5A f5T41 (((((((facts0 f5K).yes f5Q0).no f5Q1).yes f5Q36).yes f5Q37).yes f5Q38).no f5Q39) = true := by kernel_rfl
def f5T42 : STree := .test f5Q39 f5T40 f5T41
theorem f5C42 : checkT Tryd.prog (xWith (xOf symX) f5R) (gxOf symG) (sumsOf sums13_x12im16383to16383) 10000 5 f5A f5T42 ((((((facts0 f5K).yes f5Q0).no f5Q1).yes f5Q36).yes f5Q37).yes f5Q38) = true := checkT_test f5C40 f5C41
def f5Q43 : Quest := (.le [([], (Int.negSucc (nat_lit 7))), ([(.emod (nat_lit 12) (.var (nat_lit 13)))], (Int.ofNat (nat_lit 1)))])
def f5T44 : STree := (.test (.le [([], (Int.negSucc (nat_lit 6))), ([(.emod (nat_lit 12) (.var (nat_lit 13)))], (Int.ofNat (nat_lit 1)))])
  (.test (.le [([], (Int.negSucc (nat_lit 5))), ([(.emod (nat_lit 12) (.var (nat_lit 13)))], (Int.ofNat (nat_lit 1)))])
  (.leaf (.bool true))
  (.leaf (.bool true)))
  (.leaf (.bool true)))
theorem f5C44 : checkT Tryd.prog (xWith (xOf symX) f5R) (gxOf symG) (sumsOf sums13_x12im16383to16383) 10000 5 f5A f5T44 (((((((facts0 f5K).yes f5Q0).no f5Q1).yes f5Q36).yes f5Q37).no f5Q38).yes f5Q43) = true := by kernel_rfl
def f5T45 : STree := (.test (.le [([], (Int.negSucc (nat_lit 9))), ([(.emod (nat_lit 12) (.var (nat_lit 13)))], (Int.ofNat (nat_lit 1)))])
  (.test (.le [([], (Int.negSucc (nat_lit 8))), ([(.emod (nat_lit 12) (.var (nat_lit 13)))], (Int.ofNat (nat_lit 1)))])
  (.leaf (.bool true))
  (.leaf (.bool true)))
  (.leaf (.bool true)))
theorem f5C45 : checkT Tryd.prog (xWith (xOf symX) f5R) (gxOf symG) (sumsOf sums13_x12im16383to16383) 10000 5 f5A f5T45 (((((((facts0 f5K).yes f5Q0).no f5Q1).yes f5Q36).yes f5Q37).no f5Q38).no f5Q43) = true := by kernel_rfl
def f5T46 : STree := .test f5Q43 f5T44 f5T45
theorem f5C46 : checkT Tryd.prog (xWith (xOf symX) f5R) (gxOf symG) (sumsOf sums13_x12im16383to16383) 10000 5 f5A f5T46 ((((((facts0 f5K).yes f5Q0).no f5Q1).yes f5Q36).yes f5Q37).no f5Q38) = true := checkT_test f5C44 f5C45
def f5T47 : STree := .test f5Q38 f5T42 f5T46
theorem f5C47 : checkT Tryd.prog (xWith (xOf symX) f5R) (gxOf symG) (sumsOf sums13_x12im16383to16383) 10000 5 f5A f5T47 (((((facts0 f5K).yes f5Q0).no f5Q1).yes f5Q36).yes f5Q37) = true := checkT_test f5C42 f5C46
def f5Q48 : Quest := (.le [([], (Int.negSucc (nat_lit 4))), ([(.emod (nat_lit 12) (.var (nat_lit 13)))], (Int.ofNat (nat_lit 1)))])
def f5Q49 : Quest := (.le [([], (Int.negSucc (nat_lit 1))), ([(.emod (nat_lit 12) (.var (nat_lit 13)))], (Int.ofNat (nat_lit 1)))])
def f5T50 : STree := (.test (.le [([], (Int.negSucc (nat_lit 0))), ([(.emod (nat_lit 12) (.var (nat_lit 13)))], (Int.ofNat (nat_lit 1)))])
  (.test (.le [([(.emod (nat_lit 12) (.var (nat_lit 13)))], (Int.ofNat (nat_lit 1)))])
  (.leaf (.bool true))
  (.leaf (.bool true)))
  (.leaf (.bool true)))
theorem f5C50 : checkT Tryd.prog (xWith (xOf symX) f5R) (gxOf symG) (sumsOf sums13_x12im16383to16383) 10000 5 f5A f5T50 (((((((facts0 f5K).yes f5Q0).no f5Q1).yes f5Q36).no f5Q37).yes f5Q48).yes f5Q49) = true := by kernel_rfl
def f5T51 : STree := (.test (.le [([], (Int.negSucc (nat_lit 3))), ([(.emod (nat_lit 12) (.var (nat_lit 13)))], (Int.ofNat (nat_lit 1)))])
  (.test (.le [([], (Int.negSucc (nat_lit 2))), ([(.emod (nat_lit 12) (.var (nat_lit 13)))], (Int.ofNat (nat_lit 1)))])
  (.leaf (.bool true))
  (.leaf (.bool true)))
  (.leaf (.bool true)))
theorem f5C51 : checkT Tryd.prog (xWith (xOf symX) f5R) (gxOf symG) (sumsOf sums13_x12im16383to16383) 10000 5 f5A f5T51 (((((((facts0 f5K).yes f5Q0).no f5Q1).yes f5Q36).no f5Q37).yes f5Q48).no f5Q49) = true := by kernel_rfl
def f5T52 : STree := .test f5Q49 f5T50 f5T51
theorem f5C52 : checkT Tryd.prog (xWith (xOf symX) f5R) (gxOf symG) (sumsOf sums13_x12im16383to16383) 10000 5 f5A f5T52 ((((((facts0 f5K).yes f5Q0).no f5Q1).yes f5Q36).no f5Q37).yes f5Q48) = true := checkT_test f5C50 f5C51
def f5Q53 : Quest := (.le [([], (Int.negSucc (nat_lit 7))), ([(.emod (nat_lit 12) (.var (nat_lit 13)))], (Int.ofNat (nat_lit 1)))])
def f5T54 : STree := (.test (.le [([], (Int.negSucc (nat_lit 6))), ([(.emod (nat_lit 12) (.var (nat_lit 13)))], (Int.ofNat (nat_lit 1)))])
  (.test (.le [([], (Int.negSucc (nat_lit 5))), ([(.emod (nat_lit 12) (.var (nat_lit 13)))], (Int.ofNat (nat_lit 1)))])
  (.leaf (.bool true))
  (.leaf (.bool true)))
  (.leaf (.bool true)))
theorem f5C54 : checkT Tryd.prog (xWith (xOf symX) f5R) (gxOf symG) (sumsOf sums13_x12im16383to16383) 10000 5 f5A f5T54 (((((((facts0 f5K).yes f5Q0).no f5Q1).yes f5Q36).no f5Q37).no f5Q48).yes f5Q53) = true := by kernel_rfl
def f5T55 : STree := (.test (.le [([], (Int.negSucc (nat_lit 9))), ([(.emod (nat_lit 12) (.var (nat_lit 13)))], (Int.ofNat (nat_lit 1)))])
  (.test (.le [([], (Int.negSucc (nat_lit 8))), ([(.emod (nat_lit 12) (.var (nat_lit 13)))], (Int.ofNat (nat_lit 1)))])
  (.leaf (.bool true))
  (.leaf (.bool true)))
  (.leaf (.bool true)))
theorem f5C55 : checkT Tryd.prog (xWith (xOf symX) f5R) (gxOf symG) (sumsOf sums13_x12im16383to16383) 10000 5 f5A f5T55 (((((((facts0 f5K).yes f5Q0).no f5Q1).yes f5Q36).no f5Q37).no f5Q48).no f5Q53) = true := by kernel_rfl
def f5T56 : STree := .test f5Q53 f5T54 f5T55
theorem f5C56 : checkT Tryd.prog (xWith (xOf symX) f5R) (gxOf symG) (sumsOf sums13_x12im16383to16383) 10000 5 f5A f5T56 ((((((facts0 f5K).yes f5Q0).no f5Q1).yes f5Q36).no f5Q37).no f5Q48) = true := checkT_test f5C54 f5C55
def f5T57 : STree := .test f5Q48 f5T52 f5T56
theorem f5C57 : checkT Tryd.prog (xWith (xOf symX) f5R) (gxOf symG) (sumsOf sums13_x12im16383to16383) 10000 5 f5A f5T57 (((((facts0 f5K).yes f5Q0).no f5Q1).yes f5Q36).no f5Q37) = true := checkT_test f5C52 f5C56
def f5T58 : STree := .test f5Q37 f5T47 f5T57
theorem f5C58 : checkT Tryd.prog (xWith (xOf symX) f5R) (gxOf symG) (sumsOf sums13_x12im16383to16383) 10000 5 f5A f5T58 ((((facts0 f5K).yes f5Q0).no f5Q1).yes f5Q36) = true := checkT_test f5C47 f5C57
def f5Q59 : Quest := (.le [([], (Int.negSucc (nat_lit 4))), ([(.emod (nat_lit 12) (.var (nat_lit 13)))], (Int.ofNat (nat_lit 1)))])
def f5Q60 : Quest := (.le [([], (Int.negSucc (nat_lit 1))), ([(.emod (nat_lit 12) (.var (nat_lit 13)))], (Int.ofNat (nat_lit 1)))])
def f5T61 : STree := (.test (.le [([], (Int.negSucc (nat_lit 0))), ([(.emod (nat_lit 12) (.var (nat_lit 13)))], (Int.ofNat (nat_lit 1)))])
  (.test (.le [([(.emod (nat_lit 12) (.var (nat_lit 13)))], (Int.ofNat (nat_lit 1)))])
  (.leaf (.bool true))
  (.leaf (.bool true)))
  (.leaf (.bool true)))
theorem f5C61 : checkT Tryd.prog (xWith (xOf symX) f5R) (gxOf symG) (sumsOf sums13_x12im16383to16383) 10000 5 f5A f5T61 ((((((facts0 f5K).yes f5Q0).no f5Q1).no f5Q36).yes f5Q59).yes f5Q60) = true := by kernel_rfl
def f5T62 : STree := (.test (.le [([], (Int.negSucc (nat_lit 3))), ([(.emod (nat_lit 12) (.var (nat_lit 13)))], (Int.ofNat (nat_lit 1)))])
  (.test (.le [([], (Int.negSucc (nat_lit 2))), ([(.emod (nat_lit 12) (.var (nat_lit 13)))], (Int.ofNat (nat_lit 1)))])
  (.leaf (.bool true))
  (.leaf (.bool true)))
  (.leaf (.bool true)))
theorem f5C62 : checkT Tryd.prog (xWith (xOf symX) f5R) (gxOf symG) (sumsOf sums13_x12im16383to16383) 10000 5 f5A f5T62 ((((((facts0 f5K).yes f5Q0).no f5Q1).no f5Q36).yes f5Q59).no f5Q60) = true := by kernel_rfl
def f5T63 : STree := .test f5Q60 f5T61 f5T62
theorem f5C63 : checkT Tryd.prog (xWith (xOf symX) f5R) (gxOf symG) (sumsOf sums13_x12im16383to16383) 10000 5 f5A f5T63 (((((facts0 f5K).yes f5Q0).no f5Q1).no f5Q36).yes f5Q59) = true := checkT_test f5C61 f5C62
def f5Q64 : Quest := (.le [([], (Int.negSucc (nat_lit 7))), ([(.emod (nat_lit 12) (.var (nat_lit 13)))], (Int.ofNat (nat_lit 1)))])
def f5T65 : STree := (.test (.le [([], (Int.negSucc (nat_lit 6))), ([(.emod (nat_lit 12) (.var (nat_lit 13)))], (Int.ofNat (nat_lit 1)))])
  (.test (.le [([], (Int.negSucc (nat_lit 5))), ([(.emod (nat_lit 12) (.var (nat_lit 13)))], (Int.ofNat (nat_lit 1)))])
  (.leaf (.bool true))
  (.leaf (.bool true)))
  (.leaf (.bool true)))
theorem f5C65 : checkT Tryd.prog (xWith (xOf symX) f5R) (gxOf symG) (sumsOf sums13_x12im16383to16383) 10000 5 f5A f5T65 ((((((facts0 f5K).yes f5Q0).no f5Q1).no f5Q36).no f5Q59).yes f5Q64) = true := by kernel_rfl
def f5T66 : STree := (.test (.le [([], (Int.negSucc (nat_lit 9))), ([(.emod (nat_lit 12) (.var (nat_lit 13)))], (Int.ofNat (nat_lit 1)))])
  (.test (.le [([], (Int.negSucc (nat_lit 8))), ([(.emod (nat_lit 12) (.var (nat_lit 13)))], (Int.ofNat (nat_lit 1)))])
  (.leaf (.bool true))
  (.leaf (.bool true)))
  (.leaf (.bool true)))
theorem f5C66 : checkT Tryd.prog (xWith (xOf symX) f5R) (gxOf symG) (sumsOf sums13_x12im16383to16383) 10000 5 f5A f5T66 ((((((facts0 f5K).yes f5Q0).no f5Q1).no f5Q36).no f5Q59).no f5Q64) = true := by kernel_rfl
def f5T67 : STree := .test f5Q64 f5T65 f5T66
theorem f5C67 : checkT Tryd.prog (xWith (xOf symX) f5R) (gxOf symG) (sumsOf sums13_x12im16383to16383) 10000 5 f5A f5T67 (((((facts0 f5K).yes f5Q0).no f5Q1).no f5Q36).no f5Q59) = true := checkT_test f5C65 f5C66
def f5T68 : STree := .test f5Q59 f5T63 f5T67
theorem f5C68 : checkT Tryd.prog (xWith (xOf symX) f5R) (gxOf symG) (sumsOf sums13_x12im16383to16383) 10000 5 f5A f5T68 ((((facts0 f5K).yes f5Q0).no f5Q1).no f5Q36) = true := checkT_test f5C63 f5C67
def f5T69 : STree := .test f5Q36 f5T58 f5T68
theorem f5C69 : checkT Tryd.prog (xWith (xOf symX) f5R) (gxOf symG) (sumsOf sums13_x12im16383to16383) 10000 5 f5A f5T69 (((facts0 f5K).yes f5Q0).no f5Q1) = true := checkT_test f5C58 f5C68
def f5T70 : STree := .test f5Q1 f5T35 f5T69
theorem f5C70 : checkT Tryd.prog (xWith (xOf symX) f5R) (gxOf symG) (sumsOf sums13_x12im16383to16383) 10000 5 f5A f5T70 ((facts0 f5K).yes f5Q0) = true := checkT_test f5C35 f5C69
def f5Q71 : Quest := (.le [([], (Int.negSucc (nat_lit 7))), ([(.emod (nat_lit 12) (.var (nat_lit 12)))], (Int.ofNat (nat_lit 1)))])
def f5Q72 : Quest := (.le [([], (Int.negSucc (nat_lit 6))), ([(.emod (nat_lit 12) (.var (nat_lit 12)))], (Int.ofNat (nat_lit 1)))])
def f5Q73 : Quest := (.le [([], (Int.negSucc (nat_lit 5))), ([(.emod (nat_lit 12) (.var (nat_lit 12)))], (Int.ofNat (nat_lit 1)))])
def f5Q74 : Quest := (.le [([], (Int.negSucc (nat_lit 4))), ([(.emod (nat_lit 12) (.var (nat_lit 13)))], (Int.ofNat (nat_lit 1)))])
def f5Q75 : Quest := (.le [([], (Int.negSucc (nat_lit 1))), ([(.emod (nat_lit 12) (.var (nat_lit 13)))], (Int.ofNat (nat_lit 1)))])
def f5T76 : STree := (.test (.le [([], (Int.negSucc (nat_lit 0))), ([(.emod (nat_lit 12) (.var (nat_lit 13)))], (Int.ofNat (nat_lit 1)))])
  (.test (.le [([(.emod (nat_lit 12) (.var (nat_lit 13)))], (Int.ofNat (nat_lit 1)))])
  (.leaf (.bool true))
  (.leaf (.bool true)))
  (.leaf (.bool true)))
theorem f5C76 : checkT Tryd.prog (xWith (xOf symX) f5R) (gxOf symG) (sumsOf sums13_x12im16383to16383) 10000 5 f5A f5T76 (((((((facts0 f5K).no f5Q0).yes f5Q71).yes f5Q72).yes f5Q73).yes f5Q74).yes f5Q75) = true := by kernel_rfl
def f5T77 : STree := (.test (.le [([], (Int.negSucc (nat_lit 3))), ([(.emod (nat_lit 12) (.var (nat_lit 13)))], (Int.ofNat (nat_lit 1)))])
  (.test (.le [([], (Int.negSucc (nat_lit 2))), ([(.emod (nat_lit 12) (.var (nat_lit 13)))], (Int.ofNat (nat_lit 1)))])
  (.leaf (.bool true))
  (.leaf (.bool true)))
  (.leaf (.bool true)))
theorem f5C77 : checkT Tryd.prog (xWith (xOf symX) f5R) (gxOf symG) (sumsOf sums13_x12im16383to16383) 10000 5 f5A f5T77 (((((((facts0 f5K).no f5Q0).yes f5Q71).yes f5Q72).yes f5Q73).yes f5Q74).no f5Q75) = true := by kernel_rfl
def f5T78 : STree := .test f5Q75 f5T76 f5T77
theorem f5C78 : checkT Tryd.prog (xWith (xOf symX) f5R) (gxOf symG) (sumsOf sums13_x12im16383to16383) 10000 5 f5A f5T78 ((((((facts0 f5K).no f5Q0).yes f5Q71).yes f5Q72).yes f5Q73).yes f5Q74) = true := checkT_test f5C76 f5C77
def f5Q79 : Quest := (.le [([], (Int.negSucc (nat_lit 7))), ([(.emod (nat_lit 12) (.var (nat_lit 13)))], (Int.ofNat (nat_lit 1)))])
def f5T80 : STree := (.test (.le [([], (Int.negSucc (nat_lit 6))), ([(.emod (nat_lit 12) (.var (nat_lit 13)))], (Int.ofNat (nat_lit 1)))])
  (.test (.le [([], (Int.negSucc (nat_lit 5))), ([(.emod (nat_lit 12) (.var (nat_lit 13)))], (Int.ofNat (nat_lit 1)))])
  (.leaf (.bool true))
  (.leaf (.bool true)))
  (.leaf (.bool true)))
theorem f5C80 : checkT Tryd.prog (xWith (xOf symX) f5R) (gxOf symG) (sumsOf sums13_x12im16383to16383) 10000 5 f5A f5T80 (((((((facts0 f5K).no f5Q0).yes f5Q71).yes f5Q72).yes f5Q73).no f5Q74).yes f5Q79) = true := by kernel_rfl
def f5T81 : STree := (.test (.le [([], (Int.negSucc (nat_lit 9))), ([(.emod (nat_lit 12) (.var (nat_lit 13)))], (Int.ofNat (nat_lit 1)))])
  (.test (.le [([], (Int.negSucc (nat_lit 8))), ([(.emod (nat_lit 12) (.var (nat_lit 13)))], (Int.ofNat (nat_lit 1)))])
  (.leaf (.bool true))
  (.leaf (.bool true)))
  (.leaf (.bool true)))
theorem f5C81 : checkT Tryd.prog (xWith (xOf symX) f5R) (gxOf symG) (sumsOf sums13_x12im16383to16383) 10000 5 f5A f5T81 (((((((facts0 f5K).no f5Q0).yes f5Q71).yes f5Q72).yes f5Q73).no f5Q74).no f5Q79) = true := by kernel_rfl
def f5T82 : STree := .test f5Q79 f5T80 f5T81
theorem f5C82 : checkT Tryd.prog (xWith (xOf symX) f5R) (gxOf symG) (sumsOf sums13_x12im16383to16383) 10000 5 f5A f5T82 ((((((facts0 f5K).no f5Q0).yes f5Q71).yes f5Q72).yes f5Q73).no f5Q74) = true := checkT_test f5C80 f5C81
def f5T83 : STree := .test f5Q74 f5T78 f5T82
theorem f5C83 : checkT Tryd.prog (xWith (xOf symX) f5R) (gxOf symG) (sumsOf sums13_x12im16383to16383) 10000 5 f5A f5T83 (((((facts0 f5K).no f5Q0).yes f5Q71).yes f5Q72).yes f5Q73) = true := checkT_test f5C78 f5C82
def f5Q84 : Quest := (.le [([], (Int.negSucc (nat_lit 4))), ([(.emod (nat_lit 12) (.var (nat_lit 13)))], (Int.ofNat (nat_lit 1)))])
def f5Q85 : Quest := (.le [([], (Int.negSucc (nat_lit 1))), ([(.emod (nat_lit 12) (.var (nat_lit 13)))], (Int.ofNat (nat_lit 1)))])
def f5T86 : STree := (.test (.le [([], (Int.negSucc (nat_lit 0))), ([(.emod (nat_lit 12) (.var (nat_lit 13)))], (Int.ofNat (nat_lit 1)))])
  (.test (.le [([(.emod (nat_lit 12) (.var (nat_lit 13)))], (Int.ofNat (nat_lit 1)))])
  (.leaf (.bool true))
  (.leaf (.bool true)))
  (.leaf (.bool true)))
theorem f5C86 : checkT Tryd.prog (xWith (xOf symX) f5R) (gxOf symG) (sumsOf sums13_x12im16383to16383) 10000 5 f5A f5T86 (((((((facts0 f5K).no f5Q0).yes f5Q71).yes f5Q72).no f5Q73).yes f5Q84).yes f5Q85) = true := by kernel_rfl
def f5T87 : STree := (.test (.le [([], (Int.negSucc (nat_lit 3))), ([(.emod (nat_lit 12) (.var (nat_lit 13)))], (Int.ofNat (nat_lit 1)))])
  (.test (.le [([], (Int.negSucc (nat_lit 2))), ([(.emod (nat_lit 12) (.var (nat_lit 13)))], (Int.ofNat (nat_lit 1)))])
  (.leaf (.bool true))
  (.leaf (.bool true)))
  (.leaf (.bool true)))
theorem f5C87 : checkT Tryd.prog (xWith (xOf symX) f5R) (gxOf symG) (sumsOf sums13_x12im16383to16383) 10000 5 f5A f5T87 (((((((facts0 f5K).no f5Q0).yes f5Q71).yes f5Q72).no f5Q73).yes f5Q84).no f5Q85) = true := by kernel_rfl
def f5T88 : STree := .test f5Q85 f5T86 f5T87
theorem f5C88 : checkT Tryd.prog (xWith (xOf symX) f5R) (gxOf symG) (sumsOf sums13_x12im16383to16383) 10000 5 f5A f5T88 ((((((facts0 f5K).no f5Q0).yes f5Q71).yes f5Q72).no f5Q73).yes f5Q84) = true := checkT_test f5C86 f5C87
def f5Q89 : Quest := (.le [([], (Int.negSucc (nat_lit 7))), ([(.emod (nat_lit 12) (.var (nat_lit 13)))], (Int.ofNat (nat_lit 1)))])
def f5T90 : STree := (.test (.le [([], (Int.negSucc (nat_lit 6))), ([(.emod (nat_lit 12) (.var (nat_lit 13)))], (Int.ofNat (nat_lit 1)))])
  (.test (.le [([], (Int.negSucc (nat_lit 5))), ([(.emod (nat_lit 12) (.var (nat_lit 13)))], (Int.ofNat (nat_lit 1)))])
  (.leaf (.bool true))
  (.leaf (.bool true)))
  (.leaf (.bool true)))
theorem f5C90 : checkT Tryd.prog (xWith (xOf symX) f5R) (gxOf symG) (sumsOf sums13_x12im16383to16383) 10000 5 f5A f5T90 (((((((facts0 f5K).no f5Q0).yes f5Q71).yes f5Q72).no f5Q73).no f5Q84).yes f5Q89) = true := by kernel_rfl
def f5T91 : STree := (.test (.le [([], (Int.negSucc (nat_lit 9))), ([(.emod (nat_lit 12) (.var (nat_lit 13)))], (Int.ofNat (nat_lit 1)))])
  (.test (.le [([], (Int.negSucc (nat_lit 8))), ([(.emod (nat_lit 12) (.var (nat_lit 13)))], (Int.ofNat (nat_lit 1)))])
  (.leaf (.bool true))
  (.leaf (.bool true)))
  (.leaf (.bool true)))
theorem f5C91 : checkT Tryd.prog (xWith (xOf symX) f5R) (gxOf symG) (sumsOf sums13_x12im16383to16383) 10000 5 f5A f5T91 (((((((facts0 f5K).no f5Q0).yes f5Q71).yes f5Q72).no f5Q73).no f5Q84).no f5Q89) = true := by kernel_rfl
def f5T92 : STree := .test f5Q89 f5T90 f5T91
theorem f5C92 : checkT Tryd.prog (xWith (xOf symX) f5R) (gxOf symG) (sumsOf sums13_x12im16383to16383) 10000 5 f5A f5T92 ((((((facts0 f5K).no f5Q0).yes f5Q71).yes f5Q72).no f5Q73).no f5Q84) = true := checkT_test f5C90 f5C91
def f5T93 : STree := .test f5Q84 f5T88 f5T92
theorem f5C93 : checkT Tryd.prog (xWith (xOf symX) f5R) (gxOf symG) (sumsOf sums13_x12im16383to16383) 10000 5 f5A f5T93 (((((facts0 f5K).no f5Q0).yes f5Q71).yes f5Q72).no f5Q73) = true := checkT_test f5C88 f5C92
def f5T94 : STree := .test f5Q73 f5T83 f5T93
theorem f5C94 : checkT Tryd.prog (xWith (xOf symX) f5R) (gxOf symG) (sumsOf sums13_x12im16383to16383) 10000 5 f5A f5T94 ((((facts0 f5K).no f5Q0).yes f5Q71).yes f5Q72) = true := checkT_test f5C83 f5C93
def f5Q95 : Quest := (.le [([], (Int.negSucc (nat_lit 4))), ([(.emod (nat_lit 12) (.var (nat_lit 13)))], (Int.ofNat (nat_lit 1)))])
def f5Q96 : Quest := (.le [([], (Int.negSucc (nat_lit 1))), ([(.emod (nat_lit 12) (.var (nat_lit 13)))], (Int.ofNat (nat_lit 1)))])
def f5T97 : STree := (.test (.le [([], (Int.negSucc (nat_lit 0))), ([(.emod (nat_lit 12) (.var (nat_lit 13)))], (Int.ofNat (nat_lit 1)))])
  (.test (.le [([(.emod (nat_lit 12) (.var (nat_lit 13)))], (Int.ofNat (nat_lit 1)))])
  (.leaf (.bool true))
  (.leaf (.bool true)))
  (.leaf (.bool true)))
theorem f5C97 : checkT Tryd.prog (xWith (xOf symX) f5R) (gxOf symG) (sumsOf sums13_x12im16383to16383) 10000 5 f5A f5T97 ((((((facts0 f5K).no f5Q0).yes f5Q71).no f5Q72).yes f5Q95).yes f5Q96) = true := by kernel_rfl
def f5T98 : STree := (.test (.le [([], (Int.negSucc (nat_lit 3))), ([(.emod (nat_lit 12) (.var (nat_lit 13)))], (Int.ofNat (nat_lit 1)))])
  (.test (.le [([], (Int.negSucc (nat_lit 2))), ([(.emod (nat_lit 12) (.var (nat_lit 13)))], (Int.ofNat (nat_lit 1)))])
  (.leaf (.bool true))
  (.leaf (.bool true)))
  (.leaf (.bool true)))
theorem f5C98 : checkT Tryd.prog (xWith (xOf symX) f5R) (gxOf symG) (sumsOf sums13_x12im16383to16383) 10000 5 f5A f5T98 ((((((facts0 f5K).no f5Q0).yes f5Q71).no f5Q72).yes f5Q95).no f5Q96) = true := by kernel_rfl
def f5T99 : STree := .test f5Q96 f5T97 f5T98
theorem f5C99 : checkT Tryd.prog (xWith (xOf symX) f5R) (gxOf symG) (sumsOf sums13_x12im16383to16383) 10000 5 f5A f5T99 (((((facts0 f5K).no f5Q0).yes f5Q71).no f5Q72).yes f5Q95) = true := checkT_test f5C97 f5C98
def f5Q100 : Quest := (.le [([], (Int.negSucc (nat_lit 7))), ([(.emod (nat_lit 12) (.var (nat_lit 13)))], (Int.ofNat (nat_lit 1)))])
def f5T101 : STree := (.test (.le [([], (Int.negSucc (nat_lit 6))), ([(.emod (nat_lit 12) (.var (nat_lit 13)))], (Int.ofNat (nat_lit 1)))])
  (.test (.le [([], (Int.negSucc (nat_lit 5))), ([(.emod (nat_lit 12) (.var (nat_lit 13)))], (Int.ofNat (nat_lit 1)))])
  (.leaf (.bool true))
  (.leaf (.bool true)))
  (.leaf (.bool true)))
theorem f5C101 : checkT Tryd.prog (xWith (xOf symX) f5R) (gxOf symG) (sumsOf sums13_x12im16383to16383) 10000 5 f5A f5T101 ((((((facts0 f5K).no f5Q0).yes f5Q71).no f5Q72).no f5Q95).yes f5Q100) = true := by kernel_rfl
def f5T102 : STree := (.test (.le [([], (Int.negSucc (nat_lit 9))), ([(.emod (nat_lit 12) (.var (nat_lit 13)))], (Int.ofNat (nat_lit 1)))])
  (.test (.le [([], (Int.negSucc (nat_lit 8))), ([(.emod (nat_lit 12) (.var (nat_lit 13)))], (Int.ofNat (nat_lit 1)))])
  (.leaf (.bool true))
  (.leaf (.bool true)))
  (.leaf (.bool true)))
theorem f5C102 : checkT Tryd.prog (xWith (xOf symX) f5R) (gxOf symG) (sumsOf sums13_x12im16383to16383) 10000 5 f5A f5T102 ((((((facts0 f5K).no f5Q0).yes f5Q71).no f5Q72).no f5Q95).no f5Q100) = true := by kernel_rfl
def f5T103 : STree := .test f5Q100 f5T101 f5T102
theorem f5C103 : checkT Tryd.prog (xWith (xOf symX) f5R) (gxOf symG) (sumsOf sums13_x12im16383to16383) 10000 5 f5A f5T103 (((((facts0 f5K).no f5Q0).yes f5Q71).no f5Q72).no f5Q95) = true := checkT_test f5C101 f5C102
def f5T104 : STree := .test f5Q95 f5T99 f5T103
theorem f5C104 : checkT Tryd.prog (xWith (xOf symX) f5R) (gxOf symG) (sumsOf sums13_x12im16383to16383) 10000 5 f5A f5T104 ((((facts0 f5K).no f5Q0).yes f5Q71).no f5Q72) = true := checkT_test f5C99 f5C103
def f5T105 : STree := .test f5Q72 f5T94 f5T104
theorem f5C105 : checkT Tryd.prog (xWith (xOf symX) f5R) (gxOf symG) (sumsOf sums13_x12im16383to16383) 10000 5 f5A f5T105 (((facts0 f5K).no f5Q0).yes f5Q71) = true := checkT_test f5C94 f5C104
def f5Q106 : Quest := (.le [([], (Int.negSucc (nat_lit 9))), ([(.emod (nat_lit 12) (.var (nat_lit 12)))], (Int.ofNat (nat_lit 1)))])
def f5Q107 : Quest := (.le [([], (Int.negSucc (nat_lit 8))), ([(.emod (nat_lit 12) (.var (nat_lit 12)))], (Int.ofNat (nat_lit 1)))])
def f5Q108 : Quest := (.le [([], (Int.negSucc (nat_lit 4))), ([(.emod (nat_lit 12) (.var (nat_lit 13)))], (Int.ofNat (nat_lit 1)))])
def f5Q109 : Quest := (.le [([], (Int.negSucc (nat_lit 1))), ([(.emod (nat_lit 12) (.var (nat_lit 13)))], (Int.ofNat (nat_lit 1)))])
def f5T110 : STree := (.test (.le [([], (Int.negSucc (nat_lit 0))), ([(.emod (nat_lit 12) (.var (nat_lit 13)))], (Int.ofNat (nat_lit 1)))])
  (.test (.le [([(.emod (nat_lit 12) (.var (nat_lit 13)))], (Int.ofNat (nat_lit 1)))])
  (.leaf (.bool true))
  (.leaf (.bool true)))
  (.leaf (.bool true)))
theorem f5C110 : checkT Tryd.prog (xWith (xOf symX) f5R) (gxOf symG) (sumsOf sums13_x12im16383to16383) 10000 5 f5A f5T110 (((((((facts0 f5K).no f5Q0).no f5Q71).yes f5Q106).yes f5Q107).yes f5Q108).yes f5Q109) = true := by kernel_rfl
def f5T111 : STree := (.test (.le [([], (Int.negSucc (nat_lit 3))), ([(.emod (nat_lit 12) (.var (nat_lit 13)))], (Int.ofNat (nat_lit 1)))])
  (.test (.le [([], (Int.negSucc (nat_lit 2))), ([(.emod (nat_lit 12) (.var (nat_lit 13)))], (Int.ofNat (nat_lit 1)))])
  (.leaf (.bool true))
  (.leaf (.bool true)))
  (.leaf (.bool true)))
theorem f5C111 : checkT Tryd.prog (xWith (xOf symX) f5R) (gxOf symG) (sumsOf sums13_x12im16383to16383) 10000 5 f5A f5T111 (((((((facts0 f5K).no f5Q0).no f5Q71).yes f5Q106).yes f5Q107).yes f5Q108).no f5Q109) = true := by kernel_rfl
def f5T112 : STree := .test f5Q109 f5T110 f5T111
theorem f5C112 : checkT Tryd.prog (xWith (xOf symX) f5R) (gxOf symG) (sumsOf sums13_x12im16383to16383) 10000 5 f5A f5T112 ((((((facts0 f5K).no f5Q0).no f5Q71).yes f5Q106).yes f5Q107).yes f5Q108) = true := checkT_test f5C110 f5C111
def f5Q113 : Quest := (.le [([], (Int.negSucc (nat_lit 7))), ([(.emod (nat_lit 12) (.var (nat_lit 13)))], (Int.ofNat (nat_lit 1)))])
def f5T114 : STree := (.test (.le [([], (Int.negSucc (nat_lit 6))), ([(.emod (nat_lit 12) (.var (nat_lit 13)))], (Int.ofNat (nat_lit 1)))])
  (.test (.le [([], (Int.negSucc (nat_lit 5))), ([(.emod (nat_lit 12) (.var (nat_lit 13)))], (Int.ofNat (nat_lit 1)))])
  (.leaf (.bool true))
  (.leaf (.bool true)))
  (.leaf (.bool true)))
theorem f5C114 : checkT Tryd.prog (xWith (xOf symX) f5R) (gxOf symG) (sumsOf sums13_x12im16383to16383) 10000 5 f5A f5T114 (((((((facts0 f5K).no f5Q0).no f5Q71).yes f5Q106).yes f5Q107).no f5Q108).yes f5Q113) = true := by kernel_rfl
def f5T115 : STree := (.test (.le [([], (Int.negSucc (nat_lit 9))), ([(.emod (nat_lit 12) (.var (nat_lit 13)))], (Int.ofNat (nat_lit 1)))])
  (.test (.le [([], (Int.negSucc (nat_lit 8))), ([(.emod (nat_lit 12) (.var (nat_lit 13)))], (Int.ofNat (nat_lit 1)))])
  (.leaf (.bool true))
  (.leaf (.bool true)))
  (.leaf (.bool true)))
theorem f5C115 : checkT Tryd.prog (xWith (xOf symX) f5R) (gxOf symG) (sumsOf sums13_x12im16383to16383) 10000 5 f5A f5T115 (((((((facts0 f5K).no f5Q0).no f5Q71).yes f5Q106).yes f5Q107).no f5Q108).no f5Q113) = true := by kernel_rfl
def f5T116 : STree := .test f5Q113 f5T114 f5T115
theorem f5C116 : checkT Tryd.prog (xWith (xOf symX) f5R) (gxOf symG) (sumsOf sums13_x12im16383to16383) 10000 5 f5A f5T116 ((((((facts0 f5K).no f5Q0).no f5Q71).yes f5Q106).yes f5Q107).no f5Q108) = true := checkT_test f5C114 f5C115
def f5T117 : STree := .test f5Q108 f5T112 f5T116
theorem f5C117 : checkT Tryd.prog (xWith (xOf symX) f5R) (gxOf symG) (sumsOf sums13_x12im16383to16383) 10000 5 f5A f5T117 (((((facts0 f5K).no f5Q0).no f5Q71).yes f5Q106).yes f5Q107) = true := checkT_test f5C112 f5C116
def f5Q118 : Quest := (.le [([], (Int.negSucc (nat_lit 4))), ([(.emod (nat_lit 12) (.var (nat_lit 13)))], (Int.ofNat (nat_lit 1)))])
def f5Q119 : Quest := (.le [([], (Int.negSucc (nat_lit 1))), ([(.emod (nat_lit 12) (.var (nat_lit 13)))], (Int.ofNat (nat_lit 1)))])
def f5T120 : STree := (.test (.le [([], (Int.negSucc (nat_lit 0))), ([(.emod (nat_lit 12) (.var (nat_lit 13)))], (Int.ofNat (nat_lit 1)))])
  (.test (.le [([(.emod (nat_lit 12) (.var (nat_lit 13)))], (Int.ofNat (nat_lit 1)))])
  (.leaf (.bool true))
  (.leaf (.bool true)))
  (.leaf (.bool true)))
theorem f5C120 : checkT Tryd.prog (xWith (xOf symX) f5R) (gxOf symG) (sumsOf sums13_x12im16383to16383) 10000 5 f5A f5T120 (((((((facts0 f5K).no f5Q0).no f5Q71).yes f5Q106).no f5Q107).yes f5Q118).yes f5Q119) = true := by kernel_rfl
def f5T121 : STree := (.test (.le [([], (Int.negSucc (nat_lit 3))), ([(.emod (nat_lit 12) (.var (nat_lit 13)))], (Int.ofNat (nat_lit 1)))])
  (.test (.le [([], (Int.negSucc (nat_lit 2))), ([(.emod (nat_lit 12) (.var (nat_lit 13)))], (Int.ofNat (nat_lit 1)))])
  (.leaf (.bool true))
  (.leaf (.bool true)))
  (.leaf (.bool true)))
theorem f5C121 : checkT Tryd.prog (xWith (xOf symX) f5R) (gxOf symG) (sumsOf sums13_x12im16383to16383) 10000 5 f5A f5T121 (((((((facts0 f5K).no f5Q0).no f5Q71).yes f5Q106).no f5Q107).yes f5Q118).no f5Q119) = true := by kernel_rfl
def f5T122 : STree := .test f5Q119 f5T120 f5T121
theorem f5C122 : checkT Tryd.prog (xWith (xOf symX) f5R) (gxOf symG) (sumsOf sums13_x12im16383to16383) 10000 5 f5A f5T122 ((((((facts0 f5K).no f5Q0).no f5Q71).yes f5Q106).no f5Q107).yes f5Q118) = true := checkT_test f5C120 f5C121
def f5Q123 : Quest := (.le [([], (Int.negSucc (nat_lit 7))), ([(.emod (nat_lit 12) (.var (nat_lit 13)))], (Int.ofNat (nat_lit 1)))])
def f5T124 : STree := (.test (.le [([], (Int.negSucc (nat_lit 6))), ([(.emod (nat_lit 12) (.var (nat_lit 13)))], (Int.ofNat (nat_lit 1)))])
  (.test (.le [([], (Int.negSucc (nat_lit 5))), ([(.emod (nat_lit 12) (.var (nat_lit 13)))], (Int.ofNat (nat_lit 1)))])
  (.leaf (.bool true))
  (.leaf (.bool true)))
  (.leaf (.bool true)))
theorem f5C124 : checkT Tryd.prog (xWith (xOf symX) f5R) (gxOf symG) (sumsOf sums13_x12im16383to16383) 10000 5 f5A f5T124 (((((((facts0 f5K).no f5Q0).no f5Q71).yes f5Q106).no f5Q107).no f5Q118).yes f5Q123) = true := by kernel_rfl
def f5T125 : STree := (.test (.le [([], (Int.negSucc (nat_lit 9))), ([(.emod (nat_lit 12) (.var (nat_lit 13)))], (Int.ofNat (nat_lit 1)))])
  (.test (.le [([], (Int.negSucc (nat_lit 8))), ([(.emod (nat_lit 12) (.var (nat_lit 13)))], (Int.ofNat (nat_lit 1)))])
  (.leaf (.bool true))
  (.leaf (.bool true)))
  (.leaf (.bool true)))
theorem f5C125 : checkT Tryd.prog (xWith (xOf symX) f5R) (gxOf symG) (sumsOf sums13_x12im16383to16383) 10000 5 f5A f5T125 (((((((facts0 f5K).no f5Q0).no f5Q71).yes f5Q106).no f5Q107).no f5Q118).no f5Q123) = true := by kernel_rfl
def f5T126 : STree := .test f5Q123 f5T124 f5T125
theorem f5C126 : checkT Tryd.prog (xWith (xOf symX) f5R) (gxOf symG) (sumsOf sums13_x12im16383to16383) 10000 5 f5A f5T126 ((((((facts0 f5K).no f5Q0).no f5Q71).yes f5Q106).no f5Q107).no f5Q118) = true := checkT_test f5C124 f5C125
def f5T127 : STree := .test f5Q118 f5T122 f5T126
theorem f5C127 : checkT Tryd.prog (xWith (xOf symX) f5R) (gxOf symG) (sumsOf sums13_x12im16383to16383) 10000 5 f5A f5T127 (((((facts0 f5K).no f5Q0).no f5Q71).yes f5Q106).no f5Q107) = true := checkT_test f5C122 f5C126
def f5T128 : STree := .test f5Q107 f5T117 f5T127
theorem f5C128 : checkT Tryd.prog (xWith (xOf symX) f5R) (gxOf symG) (sumsOf sums13_x12im16383to16383) 10000 5 f5A f5T128 ((((facts0 f5K).no f5Q0).no f5Q71).yes f5Q106) = true := checkT_test f5C117 f5C127
def f5Q129 : Quest := (.le [([], (Int.negSucc (nat_lit 4))), ([(.emod (nat_lit 12) (.var (nat_lit 13)))], (Int.ofNat (nat_lit 1)))])
def f5Q130 : Quest := (.le [([], (Int.negSucc (nat_lit 1))), ([(.emod (nat_lit 12) (.var (nat_lit 13)))], (Int.ofNat (nat_lit 1)))])
def f5T131 : STree := (.test (.le [([], (Int.negSucc (nat_lit 0))), ([(.emod (nat_lit 12) (.var (nat_lit 13)))], (Int.ofNat (nat_lit 1)))])
  (.test (.le [([(.emod (nat_lit 12) (.var (nat_lit 13)))], (Int.ofNat (nat_lit 1)))])
  (.leaf (.bool true))
  (.leaf (.bool true)))
  (.leaf (.bool true)))
theorem f5C131 : checkT Tryd.prog (xWith (xOf symX) f5R) (gxOf symG) (sumsOf sums13_x12im16383to16383) 10000 5 f5A f5T131 ((((((facts0 f5K).no f5Q0).no f5Q71).no f5Q106).yes f5Q129).yes f5Q130) = true := by kernel_rfl
def f5T132 : STree := (.test (.le [([], (Int.negSucc (nat_lit 3))), ([(.emod (nat_lit 12) (.var (nat_lit 13)))], (Int.ofNat (nat_lit 1)))])
  (.test (.le [([], (Int.negSucc (nat_lit 2))), ([(.emod (nat_lit 12) (.var (nat_lit 13)))], (Int.ofNat (nat_lit 1)))])
  (.leaf (.bool true))
  (.leaf (.bool true)))
  (.leaf (.bool true)))
theorem f5C132 : checkT Tryd.prog (xWith (xOf symX) f5R) (gxOf symG) (sumsOf sums13_x12im16383to16383) 10000 5 f5A f5T132 ((((((facts0 f5K).no f5Q0).no f5Q71).no f5Q106).yes f5Q129).no f5Q130) = true := by kernel_rfl
def f5T133 : STree := .test f5Q130 f5T131 f5T132
theorem f5C133 : checkT Tryd.prog (xWith (xOf symX) f5R) (gxOf symG) (sumsOf sums13_x12im16383to16383) 10000 5 f5A f5T133 (((((facts0 f5K).no f5Q0).no f5Q71).no f5Q106).yes f5Q129) = true := checkT_test f5C131 f5C132
def f5Q134 : Quest := (.le [([], (Int.negSucc (nat_lit 7))), ([(.emod (nat_lit 12) (.var (nat_lit 13)))], (Int.ofNat (nat_lit 1)))])
def f5T135 : STree := (.test (.le [([], (Int.negSucc (nat_lit 6))), ([(.emod (nat_lit 12) (.var (nat_lit 13)))], (Int.ofNat (nat_lit 1)))])
  (.test (.le [([], (Int.negSucc (nat_lit 5))), ([(.emod (nat_lit 12) (.var (nat_lit 13)))], (Int.ofNat (nat_lit 1)))])
  (.leaf (.bool true))
  (.leaf (.bool true)))
  (.leaf (.bool true)))
theorem f5C135 : checkT Tryd.prog (xWith (xOf symX) f5R) (gxOf symG) (sumsOf sums13_x12im16383to16383) 10000 5 f5A f5T135 ((((((facts0 f5K).no f5Q0).no f5Q71).no f5Q106).no f5Q129).yes f5Q134) = true := by kernel_rfl
def f5T136 : STree := (.test (.le [([], (Int.negSucc (nat_lit 9))), ([(.emod (nat_lit 12) (.var (nat_lit 13)))], (Int.ofNat (nat_lit 1)))])
  (.test (.le [([], (Int.negSucc (nat_lit 8))), ([(.emod (nat_lit 12) (.var (nat_lit 13)))], (Int.ofNat (nat_lit 1)))])
  (.leaf (.bool true))
  (.leaf (.bool true)))
  (.leaf (.bool true)))
theorem f5C136 : checkT Tryd.prog (xWith (xOf symX) f5R) (gxOf symG) (sumsOf sums13_x12im16383to16383) 10000 5 f5A f5T136 ((((((facts0 f5K).no f5Q0).no f5Q71).no f5Q106).no f5Q129).no f5Q134) = true := by kernel_rfl
def f5T137 : STree := .test f5Q134 f5T135 f5T136
theorem f5C137 : checkT Tryd.prog (xWith (xOf symX) f5R) (gxOf symG) (sumsOf sums13_x12im16383to16383) 10000 5 f5A f5T137 (((((facts0 f5K).no f5Q0).no f5Q71).no f5Q106).no f5Q129) = true := checkT_test f5C135 f5C136
def f5T138 : STree := .test f5Q129 f5T133 f5T137
theorem f5C138 : checkT Tryd.prog (xWith (xOf symX) f5R) (gxOf symG) (sumsOf sums13_x12im16383to16383) 10000 5 f5A f5T138 ((((facts0 f5K).no f5Q0).no f5Q71).no f5Q106) = true := checkT_test f5C133 f5C137
def f5T139 : STree := .test f5Q106 f5T128 f5T138
theorem f5C139 : checkT Tryd.prog (xWith (xOf symX) f5R) (gxOf symG) (sumsOf sums13_x12im16383to16383) 10000 5 f5A f5T139 (((facts0 f5K).no f5Q0).no f5Q71) = true := checkT_test f5C128 f5C138
def f5T140 : STree := .test f5Q71 f5T105 f5T139
theorem f5C140 : checkT Tryd.prog (xWith (xOf symX) f5R) (gxOf symG) (sumsOf sums13_x12im16383to16383) 10000 5 f5A f5T140 ((facts0 f5K).no f5Q0) = true := checkT_test f5C105 f5C139
def f5T141 : STree := .test f5Q0 f5T70 f5T140
theorem f5C141 : checkT Tryd.prog (xWith (xOf symX) f5R) (gxOf symG) (sumsOf sums13_x12im16383to16383) 10000 5 f5A f5T141 (facts0 f5K) = true := checkT_test f5C70 f5C140
def f5M : Summ := ⟨f5A, f5K, f5T141, f5R, []⟩
theorem f5Ok : SumOk Tryd.prog (xOf symX) (gxOf symG) 5 f5M := sumOk_of symMixed symClosed sums13_x12im16383to16383Ok f5C141
end Go.Proofs.YtjghifocfjbmcaaDoor
