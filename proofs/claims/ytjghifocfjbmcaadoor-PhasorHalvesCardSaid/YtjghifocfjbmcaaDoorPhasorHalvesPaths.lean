/- The paths of PhasorHalves, each checked by the kernel. -/
import Derived.Test.YtjghifocfjbmcaaDoorSums
import Derived.KernelRfl
namespace Go.Proofs.YtjghifocfjbmcaaDoor
open Go.Sym

def f3A : List SV := [(.agg [(.int .i64 [([(.var (nat_lit 0))], (Int.ofNat (nat_lit 1)))]), (.int .i64 [([(.var (nat_lit 1))], (Int.ofNat (nat_lit 1)))]), (.int .i64 [([(.var (nat_lit 2))], (Int.ofNat (nat_lit 1)))]), (.int .i64 [([(.var (nat_lit 3))], (Int.ofNat (nat_lit 1)))]), (.int .i64 [([(.var (nat_lit 4))], (Int.ofNat (nat_lit 1)))]), (.int .i64 [([(.var (nat_lit 5))], (Int.ofNat (nat_lit 1)))])]), (.int .i64 [([(.var (nat_lit 6))], (Int.ofNat (nat_lit 1)))])]
def f3K : List Iv := [ivT .i64, ivT .i64, ivT .i64, ivT .i64, ivT .i64, ivT .i64, ivT .i64]
def f3R : List (List SV) := []
def f3Q0 : Quest := (.le [([], (Int.negSucc (nat_lit 1))), ([(.emod (nat_lit 6) (.var (nat_lit 6)))], (Int.ofNat (nat_lit 1)))])
def f3Q1 : Quest := (.le [([], (Int.negSucc (nat_lit 0))), ([(.emod (nat_lit 6) (.var (nat_lit 6)))], (Int.ofNat (nat_lit 1)))])
def f3Q2 : Quest := (.le [([(.emod (nat_lit 6) (.var (nat_lit 6)))], (Int.ofNat (nat_lit 1)))])
def f3Q3 : Quest := (.eq [([], (Int.negSucc (nat_lit 16382))), ([(.emod (nat_lit 32767) (.var (nat_lit 0)))], (Int.ofNat (nat_lit 1)))])
def f3Q4 : Quest := (.eq [([], (Int.negSucc (nat_lit 16382))), ([(.emod (nat_lit 32767) (.var (nat_lit 1)))], (Int.ofNat (nat_lit 1)))])
def f3Q5 : Quest := (.eq [([], (Int.negSucc (nat_lit 16382))), ([(.emod (nat_lit 32767) (.var (nat_lit 2)))], (Int.ofNat (nat_lit 1)))])
def f3T6 : STree := (.test (.eq [([], (Int.negSucc (nat_lit 16382))), ([(.emod (nat_lit 32767) (.var (nat_lit 3)))], (Int.ofNat (nat_lit 1)))])
  (.test (.eq [([], (Int.negSucc (nat_lit 16382))), ([(.emod (nat_lit 32767) (.var (nat_lit 4)))], (Int.ofNat (nat_lit 1)))])
  (.test (.eq [([], (Int.negSucc (nat_lit 16382))), ([(.emod (nat_lit 32767) (.var (nat_lit 5)))], (Int.ofNat (nat_lit 1)))])
  (.leaf (.bool true))
  (.leaf (.bool true)))
  (.leaf (.bool true)))
  (.leaf (.bool true)))
theorem f3C6 : checkT Tryd.prog (xWith (xOf symX) f3R) (gxOf symG) (sumsOf sums13_x12im16383to16383) 10000 3 f3A f3T6 (((((((facts0 f3K).yes f3Q0).yes f3Q1).yes f3Q2).yes f3Q3).yes f3Q4).yes f3Q5) = true := by kernel_rfl
def f3T7 : STree := (.leaf (.bool true))
theorem f3C7 : checkT Tryd.prog (xWith (xOf symX) f3R) (gxOf symG) (sumsOf sums13_x12im16383to16383) 10000 3 f3A f3T7 (((((((facts0 f3K).yes f3Q0).yes f3Q1).yes f3Q2).yes f3Q3).yes f3Q4).no f3Q5) = true := by kernel_rfl
def f3T8 : STree := .test f3Q5 f3T6 f3T7
theorem f3C8 : checkT Tryd.prog (xWith (xOf symX) f3R) (gxOf symG) (sumsOf sums13_x12im16383to16383) 10000 3 f3A f3T8 ((((((facts0 f3K).yes f3Q0).yes f3Q1).yes f3Q2).yes f3Q3).yes f3Q4) = true := checkT_test f3C6 f3C7
def f3T9 : STree := (.leaf (.bool true))
theorem f3C9 : checkT Tryd.prog (xWith (xOf symX) f3R) (gxOf symG) (sumsOf sums13_x12im16383to16383) 10000 3 f3A f3T9 ((((((facts0 f3K).yes f3Q0).yes f3Q1).yes f3Q2).yes f3Q3).no f3Q4) = true := by kernel_rfl
def f3T10 : STree := .test f3Q4 f3T8 f3T9
theorem f3C10 : checkT Tryd.prog (xWith (xOf symX) f3R) (gxOf symG) (sumsOf sums13_x12im16383to16383) 10000 3 f3A f3T10 (((((facts0 f3K).yes f3Q0).yes f3Q1).yes f3Q2).yes f3Q3) = true := checkT_test f3C8 f3C9
def f3T11 : STree := (.leaf (.bool true))
theorem f3C11 : checkT Tryd.prog (xWith (xOf symX) f3R) (gxOf symG) (sumsOf sums13_x12im16383to16383) 10000 3 f3A f3T11 (((((facts0 f3K).yes f3Q0).yes f3Q1).yes f3Q2).no f3Q3) = true := by kernel_rfl
def f3T12 : STree := .test f3Q3 f3T10 f3T11
theorem f3C12 : checkT Tryd.prog (xWith (xOf symX) f3R) (gxOf symG) (sumsOf sums13_x12im16383to16383) 10000 3 f3A f3T12 ((((facts0 f3K).yes f3Q0).yes f3Q1).yes f3Q2) = true := checkT_test f3C10 f3C11
def f3Q13 : Quest := (.eq [([], (Int.negSucc (nat_lit 16382))), ([(.emod (nat_lit 32767) (.var (nat_lit 0)))], (Int.ofNat (nat_lit 1)))])
def f3Q14 : Quest := (.eq [([], (Int.negSucc (nat_lit 16382))), ([(.emod (nat_lit 32767) (.var (nat_lit 1)))], (Int.ofNat (nat_lit 1)))])
def f3Q15 : Quest := (.eq [([], (Int.negSucc (nat_lit 16382))), ([(.emod (nat_lit 32767) (.var (nat_lit 2)))], (Int.ofNat (nat_lit 1)))])
def f3T16 : STree := (.test (.eq [([], (Int.negSucc (nat_lit 16382))), ([(.emod (nat_lit 32767) (.var (nat_lit 3)))], (Int.ofNat (nat_lit 1)))])
  (.test (.eq [([], (Int.negSucc (nat_lit 16382))), ([(.emod (nat_lit 32767) (.var (nat_lit 4)))], (Int.ofNat (nat_lit 1)))])
  (.test (.eq [([], (Int.negSucc (nat_lit 16382))), ([(.emod (nat_lit 32767) (.var (nat_lit 5)))], (Int.ofNat (nat_lit 1)))])
  (.leaf (.bool true))
  (.leaf (.bool true)))
  (.leaf (.bool true)))
  (.leaf (.bool true)))
theorem f3C16 : checkT Tryd.prog (xWith (xOf symX) f3R) (gxOf symG) (sumsOf sums13_x12im16383to16383) 10000 3 f3A f3T16 (((((((facts0 f3K).yes f3Q0).yes f3Q1).no f3Q2).yes f3Q13).yes f3Q14).yes f3Q15) = true := by kernel_rfl
def f3T17 : STree := (.leaf (.bool true))
theorem f3C17 : checkT Tryd.prog (xWith (xOf symX) f3R) (gxOf symG) (sumsOf sums13_x12im16383to16383) 10000 3 f3A f3T17 (((((((facts0 f3K).yes f3Q0).yes f3Q1).no f3Q2).yes f3Q13).yes f3Q14).no f3Q15) = true := by kernel_rfl
def f3T18 : STree := .test f3Q15 f3T16 f3T17
theorem f3C18 : checkT Tryd.prog (xWith (xOf symX) f3R) (gxOf symG) (sumsOf sums13_x12im16383to16383) 10000 3 f3A f3T18 ((((((facts0 f3K).yes f3Q0).yes f3Q1).no f3Q2).yes f3Q13).yes f3Q14) = true := checkT_test f3C16 f3C17
def f3T19 : STree := (.leaf (.bool true))
theorem f3C19 : checkT Tryd.prog (xWith (xOf symX) f3R) (gxOf symG) (sumsOf sums13_x12im16383to16383) 10000 3 f3A f3T19 ((((((facts0 f3K).yes f3Q0).yes f3Q1).no f3Q2).yes f3Q13).no f3Q14) = true := by kernel_rfl
def f3T20 : STree := .test f3Q14 f3T18 f3T19
theorem f3C20 : checkT Tryd.prog (xWith (xOf symX) f3R) (gxOf symG) (sumsOf sums13_x12im16383to16383) 10000 3 f3A f3T20 (((((facts0 f3K).yes f3Q0).yes f3Q1).no f3Q2).yes f3Q13) = true := checkT_test f3C18 f3C19
def f3T21 : STree := (.leaf (.bool true))
theorem f3C21 : checkT Tryd.prog (xWith (xOf symX) f3R) (gxOf symG) (sumsOf sums13_x12im16383to16383) 10000 3 f3A f3T21 (((((facts0 f3K).yes f3Q0).yes f3Q1).no f3Q2).no f3Q13) = true := by kernel_rfl
def f3T22 : STree := .test f3Q13 f3T20 f3T21
theorem f3C22 : checkT Tryd.prog (xWith (xOf symX) f3R) (gxOf symG) (sumsOf sums13_x12im16383to16383) 10000 3 f3A f3T22 ((((facts0 f3K).yes f3Q0).yes f3Q1).no f3Q2) = true := checkT_test f3C20 f3C21
def f3T23 : STree := .test f3Q2 f3T12 f3T22
theorem f3C23 : checkT Tryd.prog (xWith (xOf symX) f3R) (gxOf symG) (sumsOf sums13_x12im16383to16383) 10000 3 f3A f3T23 (((facts0 f3K).yes f3Q0).yes f3Q1) = true := checkT_test f3C12 f3C22
def f3Q24 : Quest := (.eq [([], (Int.negSucc (nat_lit 16382))), ([(.emod (nat_lit 32767) (.var (nat_lit 0)))], (Int.ofNat (nat_lit 1)))])
def f3Q25 : Quest := (.eq [([], (Int.negSucc (nat_lit 16382))), ([(.emod (nat_lit 32767) (.var (nat_lit 1)))], (Int.ofNat (nat_lit 1)))])
def f3Q26 : Quest := (.eq [([], (Int.negSucc (nat_lit 16382))), ([(.emod (nat_lit 32767) (.var (nat_lit 2)))], (Int.ofNat (nat_lit 1)))])
def f3T27 : STree := (.test (.eq [([], (Int.negSucc (nat_lit 16382))), ([(.emod (nat_lit 32767) (.var (nat_lit 3)))], (Int.ofNat (nat_lit 1)))])
  (.test (.eq [([], (Int.negSucc (nat_lit 16382))), ([(.emod (nat_lit 32767) (.var (nat_lit 4)))], (Int.ofNat (nat_lit 1)))])
  (.test (.eq [([], (Int.negSucc (nat_lit 16382))), ([(.emod (nat_lit 32767) (.var (nat_lit 5)))], (Int.ofNat (nat_lit 1)))])
  (.leaf (.bool true))
  (.leaf (.bool true)))
  (.leaf (.bool true)))
  (.leaf (.bool true)))
theorem f3C27 : checkT Tryd.prog (xWith (xOf symX) f3R) (gxOf symG) (sumsOf sums13_x12im16383to16383) 10000 3 f3A f3T27 ((((((facts0 f3K).yes f3Q0).no f3Q1).yes f3Q24).yes f3Q25).yes f3Q26) = true := by kernel_rfl
def f3T28 : STree := (.leaf (.bool true))
theorem f3C28 : checkT Tryd.prog (xWith (xOf symX) f3R) (gxOf symG) (sumsOf sums13_x12im16383to16383) 10000 3 f3A f3T28 ((((((facts0 f3K).yes f3Q0).no f3Q1).yes f3Q24).yes f3Q25).no f3Q26) = true := by kernel_rfl
def f3T29 : STree := .test f3Q26 f3T27 f3T28
theorem f3C29 : checkT Tryd.prog (xWith (xOf symX) f3R) (gxOf symG) (sumsOf sums13_x12im16383to16383) 10000 3 f3A f3T29 (((((facts0 f3K).yes f3Q0).no f3Q1).yes f3Q24).yes f3Q25) = true := checkT_test f3C27 f3C28
def f3T30 : STree := (.leaf (.bool true))
theorem f3C30 : checkT Tryd.prog (xWith (xOf symX) f3R) (gxOf symG) (sumsOf sums13_x12im16383to16383) 10000 3 f3A f3T30 (((((facts0 f3K).yes f3Q0).no f3Q1).yes f3Q24).no f3Q25) = true := by kernel_rfl
def f3T31 : STree := .test f3Q25 f3T29 f3T30
theorem f3C31 : checkT Tryd.prog (xWith (xOf symX) f3R) (gxOf symG) (sumsOf sums13_x12im16383to16383) 10000 3 f3A f3T31 ((((facts0 f3K).yes f3Q0).no f3Q1).yes f3Q24) = true := checkT_test f3C29 f3C30
def f3T32 : STree := (.leaf (.bool true))
theorem f3C32 : checkT Tryd.prog (xWith (xOf symX) f3R) (gxOf symG) (sumsOf sums13_x12im16383to16383) 10000 3 f3A f3T32 ((((facts0 f3K).yes f3Q0).no f3Q1).no f3Q24) = true := by kernel_rfl
def f3T33 : STree := .test f3Q24 f3T31 f3T32
theorem f3C33 : checkT Tryd.prog (xWith (xOf symX) f3R) (gxOf symG) (sumsOf sums13_x12im16383to16383) 10000 3 f3A f3T33 (((facts0 f3K).yes f3Q0).no f3Q1) = true := checkT_test f3C31 f3C32
def f3T34 : STree := .test f3Q1 f3T23 f3T33
theorem f3C34 : checkT Tryd.prog (xWith (xOf symX) f3R) (gxOf symG) (sumsOf sums13_x12im16383to16383) 10000 3 f3A f3T34 ((facts0 f3K).yes f3Q0) = true := checkT_test f3C23 f3C33
def f3Q35 : Quest := (.le [([], (Int.negSucc (nat_lit 3))), ([(.emod (nat_lit 6) (.var (nat_lit 6)))], (Int.ofNat (nat_lit 1)))])
def f3Q36 : Quest := (.le [([], (Int.negSucc (nat_lit 2))), ([(.emod (nat_lit 6) (.var (nat_lit 6)))], (Int.ofNat (nat_lit 1)))])
def f3Q37 : Quest := (.eq [([], (Int.negSucc (nat_lit 16382))), ([(.emod (nat_lit 32767) (.var (nat_lit 0)))], (Int.ofNat (nat_lit 1)))])
def f3Q38 : Quest := (.eq [([], (Int.negSucc (nat_lit 16382))), ([(.emod (nat_lit 32767) (.var (nat_lit 1)))], (Int.ofNat (nat_lit 1)))])
def f3Q39 : Quest := (.eq [([], (Int.negSucc (nat_lit 16382))), ([(.emod (nat_lit 32767) (.var (nat_lit 2)))], (Int.ofNat (nat_lit 1)))])
def f3T40 : STree := (.test (.eq [([], (Int.negSucc (nat_lit 16382))), ([(.emod (nat_lit 32767) (.var (nat_lit 3)))], (Int.ofNat (nat_lit 1)))])
  (.test (.eq [([], (Int.negSucc (nat_lit 16382))), ([(.emod (nat_lit 32767) (.var (nat_lit 4)))], (Int.ofNat (nat_lit 1)))])
  (.test (.eq [([], (Int.negSucc (nat_lit 16382))), ([(.emod (nat_lit 32767) (.var (nat_lit 5)))], (Int.ofNat (nat_lit 1)))])
  (.leaf (.bool true))
  (.leaf (.bool true)))
  (.leaf (.bool true)))
  (.leaf (.bool true)))
theorem f3C40 : checkT Tryd.prog (xWith (xOf symX) f3R) (gxOf symG) (sumsOf sums13_x12im16383to16383) 10000 3 f3A f3T40 (((((((facts0 f3K).no f3Q0).yes f3Q35).yes f3Q36).yes f3Q37).yes f3Q38).yes f3Q39) = true := by kernel_rfl
def f3T41 : STree := (.leaf (.bool true))
theorem f3C41 : checkT Tryd.prog (xWith (xOf symX) f3R) (gxOf symG) (sumsOf sums13_x12im16383to16383) 10000 3 f3A f3T41 (((((((facts0 f3K).no f3Q0).yes f3Q35).yes f3Q36).yes f3Q37).yes f3Q38).no f3Q39) = true := by kernel_rfl
def f3T42 : STree := .test f3Q39 f3T40 f3T41
theorem f3C42 : checkT Tryd.prog (xWith (xOf symX) f3R) (gxOf symG) (sumsOf sums13_x12im16383to16383) 10000 3 f3A f3T42 ((((((facts0 f3K).no f3Q0).yes f3Q35).yes f3Q36).yes f3Q37).yes f3Q38) = true := checkT_test f3C40 f3C41
def f3T43 : STree := (.leaf (.bool true))
theorem f3C43 : checkT Tryd.prog (xWith (xOf symX) f3R) (gxOf symG) (sumsOf sums13_x12im16383to16383) 10000 3 f3A f3T43 ((((((facts0 f3K).no f3Q0).yes f3Q35).yes f3Q36).yes f3Q37).no f3Q38) = true := by kernel_rfl
def f3T44 : STree := .test f3Q38 f3T42 f3T43
theorem f3C44 : checkT Tryd.prog (xWith (xOf symX) f3R) (gxOf symG) (sumsOf sums13_x12im16383to16383) 10000 3 f3A f3T44 (((((facts0 f3K).no f3Q0).yes f3Q35).yes f3Q36).yes f3Q37) = true := checkT_test f3C42 f3C43
def f3T45 : STree := (.leaf (.bool true))
theorem f3C45 : checkT Tryd.prog (xWith (xOf symX) f3R) (gxOf symG) (sumsOf sums13_x12im16383to16383) 10000 3 f3A f3T45 (((((facts0 f3K).no f3Q0).yes f3Q35).yes f3Q36).no f3Q37) = true := by kernel_rfl
def f3T46 : STree := .test f3Q37 f3T44 f3T45
theorem f3C46 : checkT Tryd.prog (xWith (xOf symX) f3R) (gxOf symG) (sumsOf sums13_x12im16383to16383) 10000 3 f3A f3T46 ((((facts0 f3K).no f3Q0).yes f3Q35).yes f3Q36) = true := checkT_test f3C44 f3C45
def f3Q47 : Quest := (.eq [([], (Int.negSucc (nat_lit 16382))), ([(.emod (nat_lit 32767) (.var (nat_lit 0)))], (Int.ofNat (nat_lit 1)))])
def f3Q48 : Quest := (.eq [([], (Int.negSucc (nat_lit 16382))), ([(.emod (nat_lit 32767) (.var (nat_lit 1)))], (Int.ofNat (nat_lit 1)))])
def f3Q49 : Quest := (.eq [([], (Int.negSucc (nat_lit 16382))), ([(.emod (nat_lit 32767) (.var (nat_lit 2)))], (Int.ofNat (nat_lit 1)))])
def f3T50 : STree := (.test (.eq [([], (Int.negSucc (nat_lit 16382))), ([(.emod (nat_lit 32767) (.var (nat_lit 3)))], (Int.ofNat (nat_lit 1)))])
  (.test (.eq [([], (Int.negSucc (nat_lit 16382))), ([(.emod (nat_lit 32767) (.var (nat_lit 4)))], (Int.ofNat (nat_lit 1)))])
  (.test (.eq [([], (Int.negSucc (nat_lit 16382))), ([(.emod (nat_lit 32767) (.var (nat_lit 5)))], (Int.ofNat (nat_lit 1)))])
  (.leaf (.bool true))
  (.leaf (.bool true)))
  (.leaf (.bool true)))
  (.leaf (.bool true)))
theorem f3C50 : checkT Tryd.prog (xWith (xOf symX) f3R) (gxOf symG) (sumsOf sums13_x12im16383to16383) 10000 3 f3A f3T50 (((((((facts0 f3K).no f3Q0).yes f3Q35).no f3Q36).yes f3Q47).yes f3Q48).yes f3Q49) = true := by kernel_rfl
def f3T51 : STree := (.leaf (.bool true))
theorem f3C51 : checkT Tryd.prog (xWith (xOf symX) f3R) (gxOf symG) (sumsOf sums13_x12im16383to16383) 10000 3 f3A f3T51 (((((((facts0 f3K).no f3Q0).yes f3Q35).no f3Q36).yes f3Q47).yes f3Q48).no f3Q49) = true := by kernel_rfl
def f3T52 : STree := .test f3Q49 f3T50 f3T51
theorem f3C52 : checkT Tryd.prog (xWith (xOf symX) f3R) (gxOf symG) (sumsOf sums13_x12im16383to16383) 10000 3 f3A f3T52 ((((((facts0 f3K).no f3Q0).yes f3Q35).no f3Q36).yes f3Q47).yes f3Q48) = true := checkT_test f3C50 f3C51
def f3T53 : STree := (.leaf (.bool true))
theorem f3C53 : checkT Tryd.prog (xWith (xOf symX) f3R) (gxOf symG) (sumsOf sums13_x12im16383to16383) 10000 3 f3A f3T53 ((((((facts0 f3K).no f3Q0).yes f3Q35).no f3Q36).yes f3Q47).no f3Q48) = true := by kernel_rfl
def f3T54 : STree := .test f3Q48 f3T52 f3T53
theorem f3C54 : checkT Tryd.prog (xWith (xOf symX) f3R) (gxOf symG) (sumsOf sums13_x12im16383to16383) 10000 3 f3A f3T54 (((((facts0 f3K).no f3Q0).yes f3Q35).no f3Q36).yes f3Q47) = true := checkT_test f3C52 f3C53
def f3T55 : STree := (.leaf (.bool true))
theorem f3C55 : checkT Tryd.prog (xWith (xOf symX) f3R) (gxOf symG) (sumsOf sums13_x12im16383to16383) 10000 3 f3A f3T55 (((((facts0 f3K).no f3Q0).yes f3Q35).no f3Q36).no f3Q47) = true := by kernel_rfl
def f3T56 : STree := .test f3Q47 f3T54 f3T55
theorem f3C56 : checkT Tryd.prog (xWith (xOf symX) f3R) (gxOf symG) (sumsOf sums13_x12im16383to16383) 10000 3 f3A f3T56 ((((facts0 f3K).no f3Q0).yes f3Q35).no f3Q36) = true := checkT_test f3C54 f3C55
def f3T57 : STree := .test f3Q36 f3T46 f3T56
theorem f3C57 : checkT Tryd.prog (xWith (xOf symX) f3R) (gxOf symG) (sumsOf sums13_x12im16383to16383) 10000 3 f3A f3T57 (((facts0 f3K).no f3Q0).yes f3Q35) = true := checkT_test f3C46 f3C56
def f3Q58 : Quest := (.eq [([], (Int.negSucc (nat_lit 16382))), ([(.emod (nat_lit 32767) (.var (nat_lit 0)))], (Int.ofNat (nat_lit 1)))])
def f3Q59 : Quest := (.eq [([], (Int.negSucc (nat_lit 16382))), ([(.emod (nat_lit 32767) (.var (nat_lit 1)))], (Int.ofNat (nat_lit 1)))])
def f3Q60 : Quest := (.eq [([], (Int.negSucc (nat_lit 16382))), ([(.emod (nat_lit 32767) (.var (nat_lit 2)))], (Int.ofNat (nat_lit 1)))])
def f3T61 : STree := (.test (.eq [([], (Int.negSucc (nat_lit 16382))), ([(.emod (nat_lit 32767) (.var (nat_lit 3)))], (Int.ofNat (nat_lit 1)))])
  (.test (.eq [([], (Int.negSucc (nat_lit 16382))), ([(.emod (nat_lit 32767) (.var (nat_lit 4)))], (Int.ofNat (nat_lit 1)))])
  (.test (.eq [([], (Int.negSucc (nat_lit 16382))), ([(.emod (nat_lit 32767) (.var (nat_lit 5)))], (Int.ofNat (nat_lit 1)))])
  (.leaf (.bool true))
  (.leaf (.bool true)))
  (.leaf (.bool true)))
  (.leaf (.bool true)))
theorem f3C61 : checkT Tryd.prog (xWith (xOf symX) f3R) (gxOf symG) (sumsOf sums13_x12im16383to16383) 10000 3 f3A f3T61 ((((((facts0 f3K).no f3Q0).no f3Q35).yes f3Q58).yes f3Q59).yes f3Q60) = true := by kernel_rfl
def f3T62 : STree := (.leaf (.bool true))
theorem f3C62 : checkT Tryd.prog (xWith (xOf symX) f3R) (gxOf symG) (sumsOf sums13_x12im16383to16383) 10000 3 f3A f3T62 ((((((facts0 f3K).no f3Q0).no f3Q35).yes f3Q58).yes f3Q59).no f3Q60) = true := by kernel_rfl
def f3T63 : STree := .test f3Q60 f3T61 f3T62
theorem f3C63 : checkT Tryd.prog (xWith (xOf symX) f3R) (gxOf symG) (sumsOf sums13_x12im16383to16383) 10000 3 f3A f3T63 (((((facts0 f3K).no f3Q0).no f3Q35).yes f3Q58).yes f3Q59) = true := checkT_test f3C61 f3C62
def f3T64 : STree := (.leaf (.bool true))
theorem f3C64 : checkT Tryd.prog (xWith (xOf symX) f3R) (gxOf symG) (sumsOf sums13_x12im16383to16383) 10000 3 f3A f3T64 (((((facts0 f3K).no f3Q0).no f3Q35).yes f3Q58).no f3Q59) = true := by kernel_rfl
def f3T65 : STree := .test f3Q59 f3T63 f3T64
theorem f3C65 : checkT Tryd.prog (xWith (xOf symX) f3R) (gxOf symG) (sumsOf sums13_x12im16383to16383) 10000 3 f3A f3T65 ((((facts0 f3K).no f3Q0).no f3Q35).yes f3Q58) = true := checkT_test f3C63 f3C64
def f3T66 : STree := (.leaf (.bool true))
theorem f3C66 : checkT Tryd.prog (xWith (xOf symX) f3R) (gxOf symG) (sumsOf sums13_x12im16383to16383) 10000 3 f3A f3T66 ((((facts0 f3K).no f3Q0).no f3Q35).no f3Q58) = true := by kernel_rfl
def f3T67 : STree := .test f3Q58 f3T65 f3T66
theorem f3C67 : checkT Tryd.prog (xWith (xOf symX) f3R) (gxOf symG) (sumsOf sums13_x12im16383to16383) 10000 3 f3A f3T67 (((facts0 f3K).no f3Q0).no f3Q35) = true := checkT_test f3C65 f3C66
def f3T68 : STree := .test f3Q35 f3T57 f3T67
theorem f3C68 : checkT Tryd.prog (xWith (xOf symX) f3R) (gxOf symG) (sumsOf sums13_x12im16383to16383) 10000 3 f3A f3T68 ((facts0 f3K).no f3Q0) = true := checkT_test f3C57 f3C67
def f3T69 : STree := .test f3Q0 f3T34 f3T68
theorem f3C69 : checkT Tryd.prog (xWith (xOf symX) f3R) (gxOf symG) (sumsOf sums13_x12im16383to16383) 10000 3 f3A f3T69 (facts0 f3K) = true := checkT_test f3C34 f3C68
def f3M : Summ := ⟨f3A, f3K, f3T69, f3R, []⟩
theorem f3Ok : SumOk Tryd.prog (xOf symX) (gxOf symG) 3 f3M := sumOk_of symMixed symClosed sums13_x12im16383to16383Ok f3C69
end Go.Proofs.YtjghifocfjbmcaaDoor
