/- The paths of SurdSums, each checked by the kernel. -/
import Derived.Test.YtjghifocfjbmcabDoorSumsC
import Derived.KernelRfl
namespace Go.Proofs.YtjghifocfjbmcabDoor
open Go.Sym

def f7A : List SV := [(.agg [(.int .i64 [([(.var (nat_lit 0))], (Int.ofNat (nat_lit 1)))]), (.int .i64 [([(.var (nat_lit 1))], (Int.ofNat (nat_lit 1)))])]), (.agg [(.int .i64 [([(.var (nat_lit 2))], (Int.ofNat (nat_lit 1)))]), (.int .i64 [([(.var (nat_lit 3))], (Int.ofNat (nat_lit 1)))])]), (.int .i64 [([(.var (nat_lit 4))], (Int.ofNat (nat_lit 1)))])]
def f7K : List Iv := [ivT .i64, ivT .i64, ivT .i64, ivT .i64, ivT .i64]
def f7R : List (List SV) := []
def f7Q0 : Quest := (.le [([], (Int.ofNat (nat_lit 1152921504606846977))), ([(.var (nat_lit 0))], (Int.ofNat (nat_lit 1)))])
def f7T1 : STree := (.leaf (.bool true))
theorem f7C1 : checkT Tryd.prog (xWith (xOf symX) f7R) (gxOf symG) (sumsOf sums26) 10000 7 f7A f7T1 ((facts0 f7K).yes f7Q0) = true := by kernel_rfl
def f7Q2 : Quest := (.le [([], (Int.ofNat (nat_lit 1152921504606846977))), ([(.var (nat_lit 0))], (Int.negSucc (nat_lit 0)))])
def f7T3 : STree := (.leaf (.bool true))
theorem f7C3 : checkT Tryd.prog (xWith (xOf symX) f7R) (gxOf symG) (sumsOf sums26) 10000 7 f7A f7T3 (((facts0 f7K).no f7Q0).yes f7Q2) = true := by kernel_rfl
def f7Q4 : Quest := (.le [([], (Int.ofNat (nat_lit 1152921504606846977))), ([(.var (nat_lit 1))], (Int.ofNat (nat_lit 1)))])
def f7T5 : STree := (.leaf (.bool true))
theorem f7C5 : checkT Tryd.prog (xWith (xOf symX) f7R) (gxOf symG) (sumsOf sums26) 10000 7 f7A f7T5 ((((facts0 f7K).no f7Q0).no f7Q2).yes f7Q4) = true := by kernel_rfl
def f7Q6 : Quest := (.le [([], (Int.ofNat (nat_lit 1152921504606846977))), ([(.var (nat_lit 1))], (Int.negSucc (nat_lit 0)))])
def f7T7 : STree := (.leaf (.bool true))
theorem f7C7 : checkT Tryd.prog (xWith (xOf symX) f7R) (gxOf symG) (sumsOf sums26) 10000 7 f7A f7T7 (((((facts0 f7K).no f7Q0).no f7Q2).no f7Q4).yes f7Q6) = true := by kernel_rfl
def f7Q8 : Quest := (.le [([], (Int.ofNat (nat_lit 1152921504606846977))), ([(.var (nat_lit 2))], (Int.ofNat (nat_lit 1)))])
def f7Q9 : Quest := (.le [([], (Int.ofNat (nat_lit 1152921504606846977))), ([(.var (nat_lit 4))], (Int.ofNat (nat_lit 1)))])
def f7T10 : STree := (.leaf (.bool true))
theorem f7C10 : checkT Tryd.prog (xWith (xOf symX) f7R) (gxOf symG) (sumsOf sums26) 10000 7 f7A f7T10 (((((((facts0 f7K).no f7Q0).no f7Q2).no f7Q4).no f7Q6).yes f7Q8).yes f7Q9) = true := by kernel_rfl
def f7Q11 : Quest := (.le [([], (Int.ofNat (nat_lit 1152921504606846977))), ([(.var (nat_lit 4))], (Int.negSucc (nat_lit 0)))])
def f7T12 : STree := (.leaf (.bool true))
theorem f7C12 : checkT Tryd.prog (xWith (xOf symX) f7R) (gxOf symG) (sumsOf sums26) 10000 7 f7A f7T12 ((((((((facts0 f7K).no f7Q0).no f7Q2).no f7Q4).no f7Q6).yes f7Q8).no f7Q9).yes f7Q11) = true := by kernel_rfl
def f7Q13 : Quest := (.le [([], (Int.negSucc (nat_lit 1152921504606846975))), ([(.var (nat_lit 0)), (.var (nat_lit 4))], (Int.ofNat (nat_lit 1)))])
def f7T14 : STree := (.test (.le [([], (Int.negSucc (nat_lit 1152921504606846975))), ([(.var (nat_lit 0)), (.var (nat_lit 4))], (Int.negSucc (nat_lit 0)))])
  (.test (.le [([], (Int.negSucc (nat_lit 1152921504606846975))), ([(.var (nat_lit 1)), (.var (nat_lit 4))], (Int.ofNat (nat_lit 1)))])
  (.test (.le [([], (Int.negSucc (nat_lit 1152921504606846975))), ([(.var (nat_lit 1)), (.var (nat_lit 4))], (Int.negSucc (nat_lit 0)))])
  (.leaf (.bool true))
  (.leaf (.bool true)))
  (.leaf (.bool true)))
  (.test (.le [([], (Int.negSucc (nat_lit 1152921504606846975))), ([(.var (nat_lit 1)), (.var (nat_lit 4))], (Int.ofNat (nat_lit 1)))])
  (.test (.le [([], (Int.negSucc (nat_lit 1152921504606846975))), ([(.var (nat_lit 1)), (.var (nat_lit 4))], (Int.negSucc (nat_lit 0)))])
  (.leaf (.bool true))
  (.leaf (.bool true)))
  (.leaf (.bool true))))
theorem f7C14 : checkT Tryd.prog (xWith (xOf symX) f7R) (gxOf symG) (sumsOf sums26) 10000 7 f7A f7T14 (((((((((facts0 f7K).no f7Q0).no f7Q2).no f7Q4).no f7Q6).yes f7Q8).no f7Q9).no f7Q11).yes f7Q13) = true := by kernel_rfl
def f7T15 : STree := (.test (.le [([], (Int.negSucc (nat_lit 1152921504606846975))), ([(.var (nat_lit 1)), (.var (nat_lit 4))], (Int.ofNat (nat_lit 1)))])
  (.test (.le [([], (Int.negSucc (nat_lit 1152921504606846975))), ([(.var (nat_lit 1)), (.var (nat_lit 4))], (Int.negSucc (nat_lit 0)))])
  (.leaf (.bool true))
  (.leaf (.bool true)))
  (.leaf (.bool true)))
theorem f7C15 : checkT Tryd.prog (xWith (xOf symX) f7R) (gxOf symG) (sumsOf sums26) 10000 7 f7A f7T15 (((((((((facts0 f7K).no f7Q0).no f7Q2).no f7Q4).no f7Q6).yes f7Q8).no f7Q9).no f7Q11).no f7Q13) = true := by kernel_rfl
def f7T16 : STree := .test f7Q13 f7T14 f7T15
theorem f7C16 : checkT Tryd.prog (xWith (xOf symX) f7R) (gxOf symG) (sumsOf sums26) 10000 7 f7A f7T16 ((((((((facts0 f7K).no f7Q0).no f7Q2).no f7Q4).no f7Q6).yes f7Q8).no f7Q9).no f7Q11) = true := checkT_test f7C14 f7C15
def f7T17 : STree := .test f7Q11 f7T12 f7T16
theorem f7C17 : checkT Tryd.prog (xWith (xOf symX) f7R) (gxOf symG) (sumsOf sums26) 10000 7 f7A f7T17 (((((((facts0 f7K).no f7Q0).no f7Q2).no f7Q4).no f7Q6).yes f7Q8).no f7Q9) = true := checkT_test f7C12 f7C16
def f7T18 : STree := .test f7Q9 f7T10 f7T17
theorem f7C18 : checkT Tryd.prog (xWith (xOf symX) f7R) (gxOf symG) (sumsOf sums26) 10000 7 f7A f7T18 ((((((facts0 f7K).no f7Q0).no f7Q2).no f7Q4).no f7Q6).yes f7Q8) = true := checkT_test f7C10 f7C17
def f7Q19 : Quest := (.le [([], (Int.ofNat (nat_lit 1152921504606846977))), ([(.var (nat_lit 2))], (Int.negSucc (nat_lit 0)))])
def f7Q20 : Quest := (.le [([], (Int.ofNat (nat_lit 1152921504606846977))), ([(.var (nat_lit 4))], (Int.ofNat (nat_lit 1)))])
def f7T21 : STree := (.leaf (.bool true))
theorem f7C21 : checkT Tryd.prog (xWith (xOf symX) f7R) (gxOf symG) (sumsOf sums26) 10000 7 f7A f7T21 ((((((((facts0 f7K).no f7Q0).no f7Q2).no f7Q4).no f7Q6).no f7Q8).yes f7Q19).yes f7Q20) = true := by kernel_rfl
def f7Q22 : Quest := (.le [([], (Int.ofNat (nat_lit 1152921504606846977))), ([(.var (nat_lit 4))], (Int.negSucc (nat_lit 0)))])
def f7T23 : STree := (.leaf (.bool true))
theorem f7C23 : checkT Tryd.prog (xWith (xOf symX) f7R) (gxOf symG) (sumsOf sums26) 10000 7 f7A f7T23 (((((((((facts0 f7K).no f7Q0).no f7Q2).no f7Q4).no f7Q6).no f7Q8).yes f7Q19).no f7Q20).yes f7Q22) = true := by kernel_rfl
def f7Q24 : Quest := (.le [([], (Int.negSucc (nat_lit 1152921504606846975))), ([(.var (nat_lit 0)), (.var (nat_lit 4))], (Int.ofNat (nat_lit 1)))])
def f7T25 : STree := (.test (.le [([], (Int.negSucc (nat_lit 1152921504606846975))), ([(.var (nat_lit 0)), (.var (nat_lit 4))], (Int.negSucc (nat_lit 0)))])
  (.test (.le [([], (Int.negSucc (nat_lit 1152921504606846975))), ([(.var (nat_lit 1)), (.var (nat_lit 4))], (Int.ofNat (nat_lit 1)))])
  (.test (.le [([], (Int.negSucc (nat_lit 1152921504606846975))), ([(.var (nat_lit 1)), (.var (nat_lit 4))], (Int.negSucc (nat_lit 0)))])
  (.leaf (.bool true))
  (.leaf (.bool true)))
  (.leaf (.bool true)))
  (.test (.le [([], (Int.negSucc (nat_lit 1152921504606846975))), ([(.var (nat_lit 1)), (.var (nat_lit 4))], (Int.ofNat (nat_lit 1)))])
  (.test (.le [([], (Int.negSucc (nat_lit 1152921504606846975))), ([(.var (nat_lit 1)), (.var (nat_lit 4))], (Int.negSucc (nat_lit 0)))])
  (.leaf (.bool true))
  (.leaf (.bool true)))
  (.leaf (.bool true))))
theorem f7C25 : checkT Tryd.prog (xWith (xOf symX) f7R) (gxOf symG) (sumsOf sums26) 10000 7 f7A f7T25 ((((((((((facts0 f7K).no f7Q0).no f7Q2).no f7Q4).no f7Q6).no f7Q8).yes f7Q19).no f7Q20).no f7Q22).yes f7Q24) = true := by kernel_rfl
def f7T26 : STree := (.test (.le [([], (Int.negSucc (nat_lit 1152921504606846975))), ([(.var (nat_lit 1)), (.var (nat_lit 4))], (Int.ofNat (nat_lit 1)))])
  (.test (.le [([], (Int.negSucc (nat_lit 1152921504606846975))), ([(.var (nat_lit 1)), (.var (nat_lit 4))], (Int.negSucc (nat_lit 0)))])
  (.leaf (.bool true))
  (.leaf (.bool true)))
  (.leaf (.bool true)))
theorem f7C26 : checkT Tryd.prog (xWith (xOf symX) f7R) (gxOf symG) (sumsOf sums26) 10000 7 f7A f7T26 ((((((((((facts0 f7K).no f7Q0).no f7Q2).no f7Q4).no f7Q6).no f7Q8).yes f7Q19).no f7Q20).no f7Q22).no f7Q24) = true := by kernel_rfl
def f7T27 : STree := .test f7Q24 f7T25 f7T26
theorem f7C27 : checkT Tryd.prog (xWith (xOf symX) f7R) (gxOf symG) (sumsOf sums26) 10000 7 f7A f7T27 (((((((((facts0 f7K).no f7Q0).no f7Q2).no f7Q4).no f7Q6).no f7Q8).yes f7Q19).no f7Q20).no f7Q22) = true := checkT_test f7C25 f7C26
def f7T28 : STree := .test f7Q22 f7T23 f7T27
theorem f7C28 : checkT Tryd.prog (xWith (xOf symX) f7R) (gxOf symG) (sumsOf sums26) 10000 7 f7A f7T28 ((((((((facts0 f7K).no f7Q0).no f7Q2).no f7Q4).no f7Q6).no f7Q8).yes f7Q19).no f7Q20) = true := checkT_test f7C23 f7C27
def f7T29 : STree := .test f7Q20 f7T21 f7T28
theorem f7C29 : checkT Tryd.prog (xWith (xOf symX) f7R) (gxOf symG) (sumsOf sums26) 10000 7 f7A f7T29 (((((((facts0 f7K).no f7Q0).no f7Q2).no f7Q4).no f7Q6).no f7Q8).yes f7Q19) = true := checkT_test f7C21 f7C28
def f7Q30 : Quest := (.le [([], (Int.ofNat (nat_lit 1152921504606846977))), ([(.var (nat_lit 3))], (Int.ofNat (nat_lit 1)))])
def f7Q31 : Quest := (.le [([], (Int.ofNat (nat_lit 1152921504606846977))), ([(.var (nat_lit 4))], (Int.ofNat (nat_lit 1)))])
def f7T32 : STree := (.leaf (.bool true))
theorem f7C32 : checkT Tryd.prog (xWith (xOf symX) f7R) (gxOf symG) (sumsOf sums26) 10000 7 f7A f7T32 (((((((((facts0 f7K).no f7Q0).no f7Q2).no f7Q4).no f7Q6).no f7Q8).no f7Q19).yes f7Q30).yes f7Q31) = true := by kernel_rfl
def f7Q33 : Quest := (.le [([], (Int.ofNat (nat_lit 1152921504606846977))), ([(.var (nat_lit 4))], (Int.negSucc (nat_lit 0)))])
def f7T34 : STree := (.leaf (.bool true))
theorem f7C34 : checkT Tryd.prog (xWith (xOf symX) f7R) (gxOf symG) (sumsOf sums26) 10000 7 f7A f7T34 ((((((((((facts0 f7K).no f7Q0).no f7Q2).no f7Q4).no f7Q6).no f7Q8).no f7Q19).yes f7Q30).no f7Q31).yes f7Q33) = true := by kernel_rfl
def f7Q35 : Quest := (.le [([], (Int.negSucc (nat_lit 1152921504606846975))), ([(.var (nat_lit 0)), (.var (nat_lit 4))], (Int.ofNat (nat_lit 1)))])
def f7T36 : STree := (.test (.le [([], (Int.negSucc (nat_lit 1152921504606846975))), ([(.var (nat_lit 0)), (.var (nat_lit 4))], (Int.negSucc (nat_lit 0)))])
  (.test (.le [([], (Int.negSucc (nat_lit 1152921504606846975))), ([(.var (nat_lit 1)), (.var (nat_lit 4))], (Int.ofNat (nat_lit 1)))])
  (.test (.le [([], (Int.negSucc (nat_lit 1152921504606846975))), ([(.var (nat_lit 1)), (.var (nat_lit 4))], (Int.negSucc (nat_lit 0)))])
  (.leaf (.bool true))
  (.leaf (.bool true)))
  (.leaf (.bool true)))
  (.test (.le [([], (Int.negSucc (nat_lit 1152921504606846975))), ([(.var (nat_lit 1)), (.var (nat_lit 4))], (Int.ofNat (nat_lit 1)))])
  (.test (.le [([], (Int.negSucc (nat_lit 1152921504606846975))), ([(.var (nat_lit 1)), (.var (nat_lit 4))], (Int.negSucc (nat_lit 0)))])
  (.leaf (.bool true))
  (.leaf (.bool true)))
  (.leaf (.bool true))))
theorem f7C36 : checkT Tryd.prog (xWith (xOf symX) f7R) (gxOf symG) (sumsOf sums26) 10000 7 f7A f7T36 (((((((((((facts0 f7K).no f7Q0).no f7Q2).no f7Q4).no f7Q6).no f7Q8).no f7Q19).yes f7Q30).no f7Q31).no f7Q33).yes f7Q35) = true := by kernel_rfl
def f7T37 : STree := (.test (.le [([], (Int.negSucc (nat_lit 1152921504606846975))), ([(.var (nat_lit 1)), (.var (nat_lit 4))], (Int.ofNat (nat_lit 1)))])
  (.test (.le [([], (Int.negSucc (nat_lit 1152921504606846975))), ([(.var (nat_lit 1)), (.var (nat_lit 4))], (Int.negSucc (nat_lit 0)))])
  (.leaf (.bool true))
  (.leaf (.bool true)))
  (.leaf (.bool true)))
theorem f7C37 : checkT Tryd.prog (xWith (xOf symX) f7R) (gxOf symG) (sumsOf sums26) 10000 7 f7A f7T37 (((((((((((facts0 f7K).no f7Q0).no f7Q2).no f7Q4).no f7Q6).no f7Q8).no f7Q19).yes f7Q30).no f7Q31).no f7Q33).no f7Q35) = true := by kernel_rfl
def f7T38 : STree := .test f7Q35 f7T36 f7T37
theorem f7C38 : checkT Tryd.prog (xWith (xOf symX) f7R) (gxOf symG) (sumsOf sums26) 10000 7 f7A f7T38 ((((((((((facts0 f7K).no f7Q0).no f7Q2).no f7Q4).no f7Q6).no f7Q8).no f7Q19).yes f7Q30).no f7Q31).no f7Q33) = true := checkT_test f7C36 f7C37
def f7T39 : STree := .test f7Q33 f7T34 f7T38
theorem f7C39 : checkT Tryd.prog (xWith (xOf symX) f7R) (gxOf symG) (sumsOf sums26) 10000 7 f7A f7T39 (((((((((facts0 f7K).no f7Q0).no f7Q2).no f7Q4).no f7Q6).no f7Q8).no f7Q19).yes f7Q30).no f7Q31) = true := checkT_test f7C34 f7C38
def f7T40 : STree := .test f7Q31 f7T32 f7T39
theorem f7C40 : checkT Tryd.prog (xWith (xOf symX) f7R) (gxOf symG) (sumsOf sums26) 10000 7 f7A f7T40 ((((((((facts0 f7K).no f7Q0).no f7Q2).no f7Q4).no f7Q6).no f7Q8).no f7Q19).yes f7Q30) = true := checkT_test f7C32 f7C39
def f7Q41 : Quest := (.le [([], (Int.ofNat (nat_lit 1152921504606846977))), ([(.var (nat_lit 3))], (Int.negSucc (nat_lit 0)))])
def f7Q42 : Quest := (.le [([], (Int.ofNat (nat_lit 1152921504606846977))), ([(.var (nat_lit 4))], (Int.ofNat (nat_lit 1)))])
def f7T43 : STree := (.leaf (.bool true))
theorem f7C43 : checkT Tryd.prog (xWith (xOf symX) f7R) (gxOf symG) (sumsOf sums26) 10000 7 f7A f7T43 ((((((((((facts0 f7K).no f7Q0).no f7Q2).no f7Q4).no f7Q6).no f7Q8).no f7Q19).no f7Q30).yes f7Q41).yes f7Q42) = true := by kernel_rfl
def f7Q44 : Quest := (.le [([], (Int.ofNat (nat_lit 1152921504606846977))), ([(.var (nat_lit 4))], (Int.negSucc (nat_lit 0)))])
def f7T45 : STree := (.leaf (.bool true))
theorem f7C45 : checkT Tryd.prog (xWith (xOf symX) f7R) (gxOf symG) (sumsOf sums26) 10000 7 f7A f7T45 (((((((((((facts0 f7K).no f7Q0).no f7Q2).no f7Q4).no f7Q6).no f7Q8).no f7Q19).no f7Q30).yes f7Q41).no f7Q42).yes f7Q44) = true := by kernel_rfl
def f7Q46 : Quest := (.le [([], (Int.negSucc (nat_lit 1152921504606846975))), ([(.var (nat_lit 0)), (.var (nat_lit 4))], (Int.ofNat (nat_lit 1)))])
def f7T47 : STree := (.test (.le [([], (Int.negSucc (nat_lit 1152921504606846975))), ([(.var (nat_lit 0)), (.var (nat_lit 4))], (Int.negSucc (nat_lit 0)))])
  (.test (.le [([], (Int.negSucc (nat_lit 1152921504606846975))), ([(.var (nat_lit 1)), (.var (nat_lit 4))], (Int.ofNat (nat_lit 1)))])
  (.test (.le [([], (Int.negSucc (nat_lit 1152921504606846975))), ([(.var (nat_lit 1)), (.var (nat_lit 4))], (Int.negSucc (nat_lit 0)))])
  (.leaf (.bool true))
  (.leaf (.bool true)))
  (.leaf (.bool true)))
  (.test (.le [([], (Int.negSucc (nat_lit 1152921504606846975))), ([(.var (nat_lit 1)), (.var (nat_lit 4))], (Int.ofNat (nat_lit 1)))])
  (.test (.le [([], (Int.negSucc (nat_lit 1152921504606846975))), ([(.var (nat_lit 1)), (.var (nat_lit 4))], (Int.negSucc (nat_lit 0)))])
  (.leaf (.bool true))
  (.leaf (.bool true)))
  (.leaf (.bool true))))
theorem f7C47 : checkT Tryd.prog (xWith (xOf symX) f7R) (gxOf symG) (sumsOf sums26) 10000 7 f7A f7T47 ((((((((((((facts0 f7K).no f7Q0).no f7Q2).no f7Q4).no f7Q6).no f7Q8).no f7Q19).no f7Q30).yes f7Q41).no f7Q42).no f7Q44).yes f7Q46) = true := by kernel_rfl
def f7T48 : STree := (.test (.le [([], (Int.negSucc (nat_lit 1152921504606846975))), ([(.var (nat_lit 1)), (.var (nat_lit 4))], (Int.ofNat (nat_lit 1)))])
  (.test (.le [([], (Int.negSucc (nat_lit 1152921504606846975))), ([(.var (nat_lit 1)), (.var (nat_lit 4))], (Int.negSucc (nat_lit 0)))])
  (.leaf (.bool true))
  (.leaf (.bool true)))
  (.leaf (.bool true)))
theorem f7C48 : checkT Tryd.prog (xWith (xOf symX) f7R) (gxOf symG) (sumsOf sums26) 10000 7 f7A f7T48 ((((((((((((facts0 f7K).no f7Q0).no f7Q2).no f7Q4).no f7Q6).no f7Q8).no f7Q19).no f7Q30).yes f7Q41).no f7Q42).no f7Q44).no f7Q46) = true := by kernel_rfl
def f7T49 : STree := .test f7Q46 f7T47 f7T48
theorem f7C49 : checkT Tryd.prog (xWith (xOf symX) f7R) (gxOf symG) (sumsOf sums26) 10000 7 f7A f7T49 (((((((((((facts0 f7K).no f7Q0).no f7Q2).no f7Q4).no f7Q6).no f7Q8).no f7Q19).no f7Q30).yes f7Q41).no f7Q42).no f7Q44) = true := checkT_test f7C47 f7C48
def f7T50 : STree := .test f7Q44 f7T45 f7T49
theorem f7C50 : checkT Tryd.prog (xWith (xOf symX) f7R) (gxOf symG) (sumsOf sums26) 10000 7 f7A f7T50 ((((((((((facts0 f7K).no f7Q0).no f7Q2).no f7Q4).no f7Q6).no f7Q8).no f7Q19).no f7Q30).yes f7Q41).no f7Q42) = true := checkT_test f7C45 f7C49
def f7T51 : STree := .test f7Q42 f7T43 f7T50
theorem f7C51 : checkT Tryd.prog (xWith (xOf symX) f7R) (gxOf symG) (sumsOf sums26) 10000 7 f7A f7T51 (((((((((facts0 f7K).no f7Q0).no f7Q2).no f7Q4).no f7Q6).no f7Q8).no f7Q19).no f7Q30).yes f7Q41) = true := checkT_test f7C43 f7C50
def f7Q52 : Quest := (.le [([], (Int.ofNat (nat_lit 1152921504606846977))), ([(.var (nat_lit 0))], (Int.ofNat (nat_lit 1))), ([(.var (nat_lit 2))], (Int.ofNat (nat_lit 1)))])
def f7Q53 : Quest := (.le [([], (Int.ofNat (nat_lit 1152921504606846977))), ([(.var (nat_lit 0))], (Int.ofNat (nat_lit 1))), ([(.var (nat_lit 2))], (Int.negSucc (nat_lit 0)))])
def f7Q54 : Quest := (.le [([], (Int.ofNat (nat_lit 1152921504606846977))), ([(.var (nat_lit 4))], (Int.ofNat (nat_lit 1)))])
def f7T55 : STree := (.leaf (.bool true))
theorem f7C55 : checkT Tryd.prog (xWith (xOf symX) f7R) (gxOf symG) (sumsOf sums26) 10000 7 f7A f7T55 ((((((((((((facts0 f7K).no f7Q0).no f7Q2).no f7Q4).no f7Q6).no f7Q8).no f7Q19).no f7Q30).no f7Q41).yes f7Q52).yes f7Q53).yes f7Q54) = true := by kernel_rfl
def f7Q56 : Quest := (.le [([], (Int.ofNat (nat_lit 1152921504606846977))), ([(.var (nat_lit 4))], (Int.negSucc (nat_lit 0)))])
def f7T57 : STree := (.leaf (.bool true))
theorem f7C57 : checkT Tryd.prog (xWith (xOf symX) f7R) (gxOf symG) (sumsOf sums26) 10000 7 f7A f7T57 (((((((((((((facts0 f7K).no f7Q0).no f7Q2).no f7Q4).no f7Q6).no f7Q8).no f7Q19).no f7Q30).no f7Q41).yes f7Q52).yes f7Q53).no f7Q54).yes f7Q56) = true := by kernel_rfl
def f7Q58 : Quest := (.le [([], (Int.negSucc (nat_lit 1152921504606846975))), ([(.var (nat_lit 0)), (.var (nat_lit 4))], (Int.ofNat (nat_lit 1)))])
def f7T59 : STree := (.test (.le [([], (Int.negSucc (nat_lit 1152921504606846975))), ([(.var (nat_lit 0)), (.var (nat_lit 4))], (Int.negSucc (nat_lit 0)))])
  (.test (.le [([], (Int.negSucc (nat_lit 1152921504606846975))), ([(.var (nat_lit 1)), (.var (nat_lit 4))], (Int.ofNat (nat_lit 1)))])
  (.test (.le [([], (Int.negSucc (nat_lit 1152921504606846975))), ([(.var (nat_lit 1)), (.var (nat_lit 4))], (Int.negSucc (nat_lit 0)))])
  (.leaf (.bool true))
  (.leaf (.bool true)))
  (.leaf (.bool true)))
  (.test (.le [([], (Int.negSucc (nat_lit 1152921504606846975))), ([(.var (nat_lit 1)), (.var (nat_lit 4))], (Int.ofNat (nat_lit 1)))])
  (.test (.le [([], (Int.negSucc (nat_lit 1152921504606846975))), ([(.var (nat_lit 1)), (.var (nat_lit 4))], (Int.negSucc (nat_lit 0)))])
  (.leaf (.bool true))
  (.leaf (.bool true)))
  (.leaf (.bool true))))
theorem f7C59 : checkT Tryd.prog (xWith (xOf symX) f7R) (gxOf symG) (sumsOf sums26) 10000 7 f7A f7T59 ((((((((((((((facts0 f7K).no f7Q0).no f7Q2).no f7Q4).no f7Q6).no f7Q8).no f7Q19).no f7Q30).no f7Q41).yes f7Q52).yes f7Q53).no f7Q54).no f7Q56).yes f7Q58) = true := by kernel_rfl
def f7T60 : STree := (.test (.le [([], (Int.negSucc (nat_lit 1152921504606846975))), ([(.var (nat_lit 1)), (.var (nat_lit 4))], (Int.ofNat (nat_lit 1)))])
  (.test (.le [([], (Int.negSucc (nat_lit 1152921504606846975))), ([(.var (nat_lit 1)), (.var (nat_lit 4))], (Int.negSucc (nat_lit 0)))])
  (.leaf (.bool true))
  (.leaf (.bool true)))
  (.leaf (.bool true)))
theorem f7C60 : checkT Tryd.prog (xWith (xOf symX) f7R) (gxOf symG) (sumsOf sums26) 10000 7 f7A f7T60 ((((((((((((((facts0 f7K).no f7Q0).no f7Q2).no f7Q4).no f7Q6).no f7Q8).no f7Q19).no f7Q30).no f7Q41).yes f7Q52).yes f7Q53).no f7Q54).no f7Q56).no f7Q58) = true := by kernel_rfl
def f7T61 : STree := .test f7Q58 f7T59 f7T60
theorem f7C61 : checkT Tryd.prog (xWith (xOf symX) f7R) (gxOf symG) (sumsOf sums26) 10000 7 f7A f7T61 (((((((((((((facts0 f7K).no f7Q0).no f7Q2).no f7Q4).no f7Q6).no f7Q8).no f7Q19).no f7Q30).no f7Q41).yes f7Q52).yes f7Q53).no f7Q54).no f7Q56) = true := checkT_test f7C59 f7C60
def f7T62 : STree := .test f7Q56 f7T57 f7T61
theorem f7C62 : checkT Tryd.prog (xWith (xOf symX) f7R) (gxOf symG) (sumsOf sums26) 10000 7 f7A f7T62 ((((((((((((facts0 f7K).no f7Q0).no f7Q2).no f7Q4).no f7Q6).no f7Q8).no f7Q19).no f7Q30).no f7Q41).yes f7Q52).yes f7Q53).no f7Q54) = true := checkT_test f7C57 f7C61
def f7T63 : STree := .test f7Q54 f7T55 f7T62
theorem f7C63 : checkT Tryd.prog (xWith (xOf symX) f7R) (gxOf symG) (sumsOf sums26) 10000 7 f7A f7T63 (((((((((((facts0 f7K).no f7Q0).no f7Q2).no f7Q4).no f7Q6).no f7Q8).no f7Q19).no f7Q30).no f7Q41).yes f7Q52).yes f7Q53) = true := checkT_test f7C55 f7C62
def f7Q64 : Quest := (.le [([], (Int.ofNat (nat_lit 1152921504606846977))), ([(.var (nat_lit 0))], (Int.negSucc (nat_lit 0))), ([(.var (nat_lit 2))], (Int.ofNat (nat_lit 1)))])
def f7Q65 : Quest := (.le [([], (Int.ofNat (nat_lit 1152921504606846977))), ([(.var (nat_lit 4))], (Int.ofNat (nat_lit 1)))])
def f7T66 : STree := (.leaf (.bool true))
theorem f7C66 : checkT Tryd.prog (xWith (xOf symX) f7R) (gxOf symG) (sumsOf sums26) 10000 7 f7A f7T66 (((((((((((((facts0 f7K).no f7Q0).no f7Q2).no f7Q4).no f7Q6).no f7Q8).no f7Q19).no f7Q30).no f7Q41).yes f7Q52).no f7Q53).yes f7Q64).yes f7Q65) = true := by kernel_rfl
def f7Q67 : Quest := (.le [([], (Int.ofNat (nat_lit 1152921504606846977))), ([(.var (nat_lit 4))], (Int.negSucc (nat_lit 0)))])
def f7T68 : STree := (.leaf (.bool true))
theorem f7C68 : checkT Tryd.prog (xWith (xOf symX) f7R) (gxOf symG) (sumsOf sums26) 10000 7 f7A f7T68 ((((((((((((((facts0 f7K).no f7Q0).no f7Q2).no f7Q4).no f7Q6).no f7Q8).no f7Q19).no f7Q30).no f7Q41).yes f7Q52).no f7Q53).yes f7Q64).no f7Q65).yes f7Q67) = true := by kernel_rfl
def f7Q69 : Quest := (.le [([], (Int.negSucc (nat_lit 1152921504606846975))), ([(.var (nat_lit 0)), (.var (nat_lit 4))], (Int.ofNat (nat_lit 1)))])
def f7T70 : STree := (.test (.le [([], (Int.negSucc (nat_lit 1152921504606846975))), ([(.var (nat_lit 0)), (.var (nat_lit 4))], (Int.negSucc (nat_lit 0)))])
  (.test (.le [([], (Int.negSucc (nat_lit 1152921504606846975))), ([(.var (nat_lit 1)), (.var (nat_lit 4))], (Int.ofNat (nat_lit 1)))])
  (.test (.le [([], (Int.negSucc (nat_lit 1152921504606846975))), ([(.var (nat_lit 1)), (.var (nat_lit 4))], (Int.negSucc (nat_lit 0)))])
  (.leaf (.bool true))
  (.leaf (.bool true)))
  (.leaf (.bool true)))
  (.test (.le [([], (Int.negSucc (nat_lit 1152921504606846975))), ([(.var (nat_lit 1)), (.var (nat_lit 4))], (Int.ofNat (nat_lit 1)))])
  (.test (.le [([], (Int.negSucc (nat_lit 1152921504606846975))), ([(.var (nat_lit 1)), (.var (nat_lit 4))], (Int.negSucc (nat_lit 0)))])
  (.leaf (.bool true))
  (.leaf (.bool true)))
  (.leaf (.bool true))))
theorem f7C70 : checkT Tryd.prog (xWith (xOf symX) f7R) (gxOf symG) (sumsOf sums26) 10000 7 f7A f7T70 (((((((((((((((facts0 f7K).no f7Q0).no f7Q2).no f7Q4).no f7Q6).no f7Q8).no f7Q19).no f7Q30).no f7Q41).yes f7Q52).no f7Q53).yes f7Q64).no f7Q65).no f7Q67).yes f7Q69) = true := by kernel_rfl
def f7T71 : STree := (.test (.le [([], (Int.negSucc (nat_lit 1152921504606846975))), ([(.var (nat_lit 1)), (.var (nat_lit 4))], (Int.ofNat (nat_lit 1)))])
  (.test (.le [([], (Int.negSucc (nat_lit 1152921504606846975))), ([(.var (nat_lit 1)), (.var (nat_lit 4))], (Int.negSucc (nat_lit 0)))])
  (.leaf (.bool true))
  (.leaf (.bool true)))
  (.leaf (.bool true)))
theorem f7C71 : checkT Tryd.prog (xWith (xOf symX) f7R) (gxOf symG) (sumsOf sums26) 10000 7 f7A f7T71 (((((((((((((((facts0 f7K).no f7Q0).no f7Q2).no f7Q4).no f7Q6).no f7Q8).no f7Q19).no f7Q30).no f7Q41).yes f7Q52).no f7Q53).yes f7Q64).no f7Q65).no f7Q67).no f7Q69) = true := by kernel_rfl
def f7T72 : STree := .test f7Q69 f7T70 f7T71
theorem f7C72 : checkT Tryd.prog (xWith (xOf symX) f7R) (gxOf symG) (sumsOf sums26) 10000 7 f7A f7T72 ((((((((((((((facts0 f7K).no f7Q0).no f7Q2).no f7Q4).no f7Q6).no f7Q8).no f7Q19).no f7Q30).no f7Q41).yes f7Q52).no f7Q53).yes f7Q64).no f7Q65).no f7Q67) = true := checkT_test f7C70 f7C71
def f7T73 : STree := .test f7Q67 f7T68 f7T72
theorem f7C73 : checkT Tryd.prog (xWith (xOf symX) f7R) (gxOf symG) (sumsOf sums26) 10000 7 f7A f7T73 (((((((((((((facts0 f7K).no f7Q0).no f7Q2).no f7Q4).no f7Q6).no f7Q8).no f7Q19).no f7Q30).no f7Q41).yes f7Q52).no f7Q53).yes f7Q64).no f7Q65) = true := checkT_test f7C68 f7C72
def f7T74 : STree := .test f7Q65 f7T66 f7T73
theorem f7C74 : checkT Tryd.prog (xWith (xOf symX) f7R) (gxOf symG) (sumsOf sums26) 10000 7 f7A f7T74 ((((((((((((facts0 f7K).no f7Q0).no f7Q2).no f7Q4).no f7Q6).no f7Q8).no f7Q19).no f7Q30).no f7Q41).yes f7Q52).no f7Q53).yes f7Q64) = true := checkT_test f7C66 f7C73
def f7Q75 : Quest := (.le [([], (Int.ofNat (nat_lit 1152921504606846977))), ([(.var (nat_lit 1))], (Int.ofNat (nat_lit 1))), ([(.var (nat_lit 3))], (Int.negSucc (nat_lit 0)))])
def f7Q76 : Quest := (.le [([], (Int.ofNat (nat_lit 1152921504606846977))), ([(.var (nat_lit 4))], (Int.ofNat (nat_lit 1)))])
def f7T77 : STree := (.leaf (.bool true))
theorem f7C77 : checkT Tryd.prog (xWith (xOf symX) f7R) (gxOf symG) (sumsOf sums26) 10000 7 f7A f7T77 ((((((((((((((facts0 f7K).no f7Q0).no f7Q2).no f7Q4).no f7Q6).no f7Q8).no f7Q19).no f7Q30).no f7Q41).yes f7Q52).no f7Q53).no f7Q64).yes f7Q75).yes f7Q76) = true := by kernel_rfl
def f7Q78 : Quest := (.le [([], (Int.ofNat (nat_lit 1152921504606846977))), ([(.var (nat_lit 4))], (Int.negSucc (nat_lit 0)))])
def f7T79 : STree := (.leaf (.bool true))
theorem f7C79 : checkT Tryd.prog (xWith (xOf symX) f7R) (gxOf symG) (sumsOf sums26) 10000 7 f7A f7T79 (((((((((((((((facts0 f7K).no f7Q0).no f7Q2).no f7Q4).no f7Q6).no f7Q8).no f7Q19).no f7Q30).no f7Q41).yes f7Q52).no f7Q53).no f7Q64).yes f7Q75).no f7Q76).yes f7Q78) = true := by kernel_rfl
def f7Q80 : Quest := (.le [([], (Int.negSucc (nat_lit 1152921504606846975))), ([(.var (nat_lit 0)), (.var (nat_lit 4))], (Int.ofNat (nat_lit 1)))])
def f7T81 : STree := (.test (.le [([], (Int.negSucc (nat_lit 1152921504606846975))), ([(.var (nat_lit 0)), (.var (nat_lit 4))], (Int.negSucc (nat_lit 0)))])
  (.test (.le [([], (Int.negSucc (nat_lit 1152921504606846975))), ([(.var (nat_lit 1)), (.var (nat_lit 4))], (Int.ofNat (nat_lit 1)))])
  (.test (.le [([], (Int.negSucc (nat_lit 1152921504606846975))), ([(.var (nat_lit 1)), (.var (nat_lit 4))], (Int.negSucc (nat_lit 0)))])
  (.leaf (.bool true))
  (.leaf (.bool true)))
  (.leaf (.bool true)))
  (.test (.le [([], (Int.negSucc (nat_lit 1152921504606846975))), ([(.var (nat_lit 1)), (.var (nat_lit 4))], (Int.ofNat (nat_lit 1)))])
  (.test (.le [([], (Int.negSucc (nat_lit 1152921504606846975))), ([(.var (nat_lit 1)), (.var (nat_lit 4))], (Int.negSucc (nat_lit 0)))])
  (.leaf (.bool true))
  (.leaf (.bool true)))
  (.leaf (.bool true))))
theorem f7C81 : checkT Tryd.prog (xWith (xOf symX) f7R) (gxOf symG) (sumsOf sums26) 10000 7 f7A f7T81 ((((((((((((((((facts0 f7K).no f7Q0).no f7Q2).no f7Q4).no f7Q6).no f7Q8).no f7Q19).no f7Q30).no f7Q41).yes f7Q52).no f7Q53).no f7Q64).yes f7Q75).no f7Q76).no f7Q78).yes f7Q80) = true := by kernel_rfl
def f7T82 : STree := (.test (.le [([], (Int.negSucc (nat_lit 1152921504606846975))), ([(.var (nat_lit 1)), (.var (nat_lit 4))], (Int.ofNat (nat_lit 1)))])
  (.test (.le [([], (Int.negSucc (nat_lit 1152921504606846975))), ([(.var (nat_lit 1)), (.var (nat_lit 4))], (Int.negSucc (nat_lit 0)))])
  (.leaf (.bool true))
  (.leaf (.bool true)))
  (.leaf (.bool true)))
theorem f7C82 : checkT Tryd.prog (xWith (xOf symX) f7R) (gxOf symG) (sumsOf sums26) 10000 7 f7A f7T82 ((((((((((((((((facts0 f7K).no f7Q0).no f7Q2).no f7Q4).no f7Q6).no f7Q8).no f7Q19).no f7Q30).no f7Q41).yes f7Q52).no f7Q53).no f7Q64).yes f7Q75).no f7Q76).no f7Q78).no f7Q80) = true := by kernel_rfl
def f7T83 : STree := .test f7Q80 f7T81 f7T82
theorem f7C83 : checkT Tryd.prog (xWith (xOf symX) f7R) (gxOf symG) (sumsOf sums26) 10000 7 f7A f7T83 (((((((((((((((facts0 f7K).no f7Q0).no f7Q2).no f7Q4).no f7Q6).no f7Q8).no f7Q19).no f7Q30).no f7Q41).yes f7Q52).no f7Q53).no f7Q64).yes f7Q75).no f7Q76).no f7Q78) = true := checkT_test f7C81 f7C82
def f7T84 : STree := .test f7Q78 f7T79 f7T83
theorem f7C84 : checkT Tryd.prog (xWith (xOf symX) f7R) (gxOf symG) (sumsOf sums26) 10000 7 f7A f7T84 ((((((((((((((facts0 f7K).no f7Q0).no f7Q2).no f7Q4).no f7Q6).no f7Q8).no f7Q19).no f7Q30).no f7Q41).yes f7Q52).no f7Q53).no f7Q64).yes f7Q75).no f7Q76) = true := checkT_test f7C79 f7C83
def f7T85 : STree := .test f7Q76 f7T77 f7T84
theorem f7C85 : checkT Tryd.prog (xWith (xOf symX) f7R) (gxOf symG) (sumsOf sums26) 10000 7 f7A f7T85 (((((((((((((facts0 f7K).no f7Q0).no f7Q2).no f7Q4).no f7Q6).no f7Q8).no f7Q19).no f7Q30).no f7Q41).yes f7Q52).no f7Q53).no f7Q64).yes f7Q75) = true := checkT_test f7C77 f7C84
def f7Q86 : Quest := (.le [([], (Int.ofNat (nat_lit 1152921504606846977))), ([(.var (nat_lit 1))], (Int.negSucc (nat_lit 0))), ([(.var (nat_lit 3))], (Int.ofNat (nat_lit 1)))])
def f7Q87 : Quest := (.le [([], (Int.ofNat (nat_lit 1152921504606846977))), ([(.var (nat_lit 4))], (Int.ofNat (nat_lit 1)))])
def f7T88 : STree := (.leaf (.bool true))
theorem f7C88 : checkT Tryd.prog (xWith (xOf symX) f7R) (gxOf symG) (sumsOf sums26) 10000 7 f7A f7T88 (((((((((((((((facts0 f7K).no f7Q0).no f7Q2).no f7Q4).no f7Q6).no f7Q8).no f7Q19).no f7Q30).no f7Q41).yes f7Q52).no f7Q53).no f7Q64).no f7Q75).yes f7Q86).yes f7Q87) = true := by kernel_rfl
def f7Q89 : Quest := (.le [([], (Int.ofNat (nat_lit 1152921504606846977))), ([(.var (nat_lit 4))], (Int.negSucc (nat_lit 0)))])
def f7T90 : STree := (.leaf (.bool true))
theorem f7C90 : checkT Tryd.prog (xWith (xOf symX) f7R) (gxOf symG) (sumsOf sums26) 10000 7 f7A f7T90 ((((((((((((((((facts0 f7K).no f7Q0).no f7Q2).no f7Q4).no f7Q6).no f7Q8).no f7Q19).no f7Q30).no f7Q41).yes f7Q52).no f7Q53).no f7Q64).no f7Q75).yes f7Q86).no f7Q87).yes f7Q89) = true := by kernel_rfl
def f7Q91 : Quest := (.le [([], (Int.negSucc (nat_lit 1152921504606846975))), ([(.var (nat_lit 0)), (.var (nat_lit 4))], (Int.ofNat (nat_lit 1)))])
def f7T92 : STree := (.test (.le [([], (Int.negSucc (nat_lit 1152921504606846975))), ([(.var (nat_lit 0)), (.var (nat_lit 4))], (Int.negSucc (nat_lit 0)))])
  (.test (.le [([], (Int.negSucc (nat_lit 1152921504606846975))), ([(.var (nat_lit 1)), (.var (nat_lit 4))], (Int.ofNat (nat_lit 1)))])
  (.test (.le [([], (Int.negSucc (nat_lit 1152921504606846975))), ([(.var (nat_lit 1)), (.var (nat_lit 4))], (Int.negSucc (nat_lit 0)))])
  (.leaf (.bool true))
  (.leaf (.bool true)))
  (.leaf (.bool true)))
  (.test (.le [([], (Int.negSucc (nat_lit 1152921504606846975))), ([(.var (nat_lit 1)), (.var (nat_lit 4))], (Int.ofNat (nat_lit 1)))])
  (.test (.le [([], (Int.negSucc (nat_lit 1152921504606846975))), ([(.var (nat_lit 1)), (.var (nat_lit 4))], (Int.negSucc (nat_lit 0)))])
  (.leaf (.bool true))
  (.leaf (.bool true)))
  (.leaf (.bool true))))
theorem f7C92 : checkT Tryd.prog (xWith (xOf symX) f7R) (gxOf symG) (sumsOf sums26) 10000 7 f7A f7T92 (((((((((((((((((facts0 f7K).no f7Q0).no f7Q2).no f7Q4).no f7Q6).no f7Q8).no f7Q19).no f7Q30).no f7Q41).yes f7Q52).no f7Q53).no f7Q64).no f7Q75).yes f7Q86).no f7Q87).no f7Q89).yes f7Q91) = true := by kernel_rfl
def f7T93 : STree := (.test (.le [([], (Int.negSucc (nat_lit 1152921504606846975))), ([(.var (nat_lit 1)), (.var (nat_lit 4))], (Int.ofNat (nat_lit 1)))])
  (.test (.le [([], (Int.negSucc (nat_lit 1152921504606846975))), ([(.var (nat_lit 1)), (.var (nat_lit 4))], (Int.negSucc (nat_lit 0)))])
  (.leaf (.bool true))
  (.leaf (.bool true)))
  (.leaf (.bool true)))
theorem f7C93 : checkT Tryd.prog (xWith (xOf symX) f7R) (gxOf symG) (sumsOf sums26) 10000 7 f7A f7T93 (((((((((((((((((facts0 f7K).no f7Q0).no f7Q2).no f7Q4).no f7Q6).no f7Q8).no f7Q19).no f7Q30).no f7Q41).yes f7Q52).no f7Q53).no f7Q64).no f7Q75).yes f7Q86).no f7Q87).no f7Q89).no f7Q91) = true := by kernel_rfl
def f7T94 : STree := .test f7Q91 f7T92 f7T93
theorem f7C94 : checkT Tryd.prog (xWith (xOf symX) f7R) (gxOf symG) (sumsOf sums26) 10000 7 f7A f7T94 ((((((((((((((((facts0 f7K).no f7Q0).no f7Q2).no f7Q4).no f7Q6).no f7Q8).no f7Q19).no f7Q30).no f7Q41).yes f7Q52).no f7Q53).no f7Q64).no f7Q75).yes f7Q86).no f7Q87).no f7Q89) = true := checkT_test f7C92 f7C93
def f7T95 : STree := .test f7Q89 f7T90 f7T94
theorem f7C95 : checkT Tryd.prog (xWith (xOf symX) f7R) (gxOf symG) (sumsOf sums26) 10000 7 f7A f7T95 (((((((((((((((facts0 f7K).no f7Q0).no f7Q2).no f7Q4).no f7Q6).no f7Q8).no f7Q19).no f7Q30).no f7Q41).yes f7Q52).no f7Q53).no f7Q64).no f7Q75).yes f7Q86).no f7Q87) = true := checkT_test f7C90 f7C94
def f7T96 : STree := .test f7Q87 f7T88 f7T95
theorem f7C96 : checkT Tryd.prog (xWith (xOf symX) f7R) (gxOf symG) (sumsOf sums26) 10000 7 f7A f7T96 ((((((((((((((facts0 f7K).no f7Q0).no f7Q2).no f7Q4).no f7Q6).no f7Q8).no f7Q19).no f7Q30).no f7Q41).yes f7Q52).no f7Q53).no f7Q64).no f7Q75).yes f7Q86) = true := checkT_test f7C88 f7C95
def f7Q97 : Quest := (.le [([], (Int.ofNat (nat_lit 1152921504606846977))), ([(.var (nat_lit 4))], (Int.ofNat (nat_lit 1)))])
def f7T98 : STree := (.leaf (.bool true))
theorem f7C98 : checkT Tryd.prog (xWith (xOf symX) f7R) (gxOf symG) (sumsOf sums26) 10000 7 f7A f7T98 (((((((((((((((facts0 f7K).no f7Q0).no f7Q2).no f7Q4).no f7Q6).no f7Q8).no f7Q19).no f7Q30).no f7Q41).yes f7Q52).no f7Q53).no f7Q64).no f7Q75).no f7Q86).yes f7Q97) = true := by kernel_rfl
def f7Q99 : Quest := (.le [([], (Int.ofNat (nat_lit 1152921504606846977))), ([(.var (nat_lit 4))], (Int.negSucc (nat_lit 0)))])
def f7T100 : STree := (.leaf (.bool true))
theorem f7C100 : checkT Tryd.prog (xWith (xOf symX) f7R) (gxOf symG) (sumsOf sums26) 10000 7 f7A f7T100 ((((((((((((((((facts0 f7K).no f7Q0).no f7Q2).no f7Q4).no f7Q6).no f7Q8).no f7Q19).no f7Q30).no f7Q41).yes f7Q52).no f7Q53).no f7Q64).no f7Q75).no f7Q86).no f7Q97).yes f7Q99) = true := by kernel_rfl
def f7Q101 : Quest := (.le [([], (Int.negSucc (nat_lit 1152921504606846975))), ([(.var (nat_lit 0)), (.var (nat_lit 4))], (Int.ofNat (nat_lit 1)))])
def f7T102 : STree := (.test (.le [([], (Int.negSucc (nat_lit 1152921504606846975))), ([(.var (nat_lit 0)), (.var (nat_lit 4))], (Int.negSucc (nat_lit 0)))])
  (.test (.le [([], (Int.negSucc (nat_lit 1152921504606846975))), ([(.var (nat_lit 1)), (.var (nat_lit 4))], (Int.ofNat (nat_lit 1)))])
  (.test (.le [([], (Int.negSucc (nat_lit 1152921504606846975))), ([(.var (nat_lit 1)), (.var (nat_lit 4))], (Int.negSucc (nat_lit 0)))])
  (.leaf (.bool true))
  (.leaf (.bool true)))
  (.leaf (.bool true)))
  (.test (.le [([], (Int.negSucc (nat_lit 1152921504606846975))), ([(.var (nat_lit 1)), (.var (nat_lit 4))], (Int.ofNat (nat_lit 1)))])
  (.test (.le [([], (Int.negSucc (nat_lit 1152921504606846975))), ([(.var (nat_lit 1)), (.var (nat_lit 4))], (Int.negSucc (nat_lit 0)))])
  (.leaf (.bool true))
  (.leaf (.bool true)))
  (.leaf (.bool true))))
theorem f7C102 : checkT Tryd.prog (xWith (xOf symX) f7R) (gxOf symG) (sumsOf sums26) 10000 7 f7A f7T102 (((((((((((((((((facts0 f7K).no f7Q0).no f7Q2).no f7Q4).no f7Q6).no f7Q8).no f7Q19).no f7Q30).no f7Q41).yes f7Q52).no f7Q53).no f7Q64).no f7Q75).no f7Q86).no f7Q97).no f7Q99).yes f7Q101) = true := by kernel_rfl
def f7T103 : STree := (.test (.le [([], (Int.negSucc (nat_lit 1152921504606846975))), ([(.var (nat_lit 1)), (.var (nat_lit 4))], (Int.ofNat (nat_lit 1)))])
  (.test (.le [([], (Int.negSucc (nat_lit 1152921504606846975))), ([(.var (nat_lit 1)), (.var (nat_lit 4))], (Int.negSucc (nat_lit 0)))])
  (.leaf (.bool true))
  (.leaf (.bool true)))
  (.leaf (.bool true)))
theorem f7C103 : checkT Tryd.prog (xWith (xOf symX) f7R) (gxOf symG) (sumsOf sums26) 10000 7 f7A f7T103 (((((((((((((((((facts0 f7K).no f7Q0).no f7Q2).no f7Q4).no f7Q6).no f7Q8).no f7Q19).no f7Q30).no f7Q41).yes f7Q52).no f7Q53).no f7Q64).no f7Q75).no f7Q86).no f7Q97).no f7Q99).no f7Q101) = true := by kernel_rfl
def f7T104 : STree := .test f7Q101 f7T102 f7T103
theorem f7C104 : checkT Tryd.prog (xWith (xOf symX) f7R) (gxOf symG) (sumsOf sums26) 10000 7 f7A f7T104 ((((((((((((((((facts0 f7K).no f7Q0).no f7Q2).no f7Q4).no f7Q6).no f7Q8).no f7Q19).no f7Q30).no f7Q41).yes f7Q52).no f7Q53).no f7Q64).no f7Q75).no f7Q86).no f7Q97).no f7Q99) = true := checkT_test f7C102 f7C103
def f7T105 : STree := .test f7Q99 f7T100 f7T104
theorem f7C105 : checkT Tryd.prog (xWith (xOf symX) f7R) (gxOf symG) (sumsOf sums26) 10000 7 f7A f7T105 (((((((((((((((facts0 f7K).no f7Q0).no f7Q2).no f7Q4).no f7Q6).no f7Q8).no f7Q19).no f7Q30).no f7Q41).yes f7Q52).no f7Q53).no f7Q64).no f7Q75).no f7Q86).no f7Q97) = true := checkT_test f7C100 f7C104
def f7T106 : STree := .test f7Q97 f7T98 f7T105
theorem f7C106 : checkT Tryd.prog (xWith (xOf symX) f7R) (gxOf symG) (sumsOf sums26) 10000 7 f7A f7T106 ((((((((((((((facts0 f7K).no f7Q0).no f7Q2).no f7Q4).no f7Q6).no f7Q8).no f7Q19).no f7Q30).no f7Q41).yes f7Q52).no f7Q53).no f7Q64).no f7Q75).no f7Q86) = true := checkT_test f7C98 f7C105
def f7T107 : STree := .test f7Q86 f7T96 f7T106
theorem f7C107 : checkT Tryd.prog (xWith (xOf symX) f7R) (gxOf symG) (sumsOf sums26) 10000 7 f7A f7T107 (((((((((((((facts0 f7K).no f7Q0).no f7Q2).no f7Q4).no f7Q6).no f7Q8).no f7Q19).no f7Q30).no f7Q41).yes f7Q52).no f7Q53).no f7Q64).no f7Q75) = true := checkT_test f7C96 f7C106
def f7T108 : STree := .test f7Q75 f7T85 f7T107
theorem f7C108 : checkT Tryd.prog (xWith (xOf symX) f7R) (gxOf symG) (sumsOf sums26) 10000 7 f7A f7T108 ((((((((((((facts0 f7K).no f7Q0).no f7Q2).no f7Q4).no f7Q6).no f7Q8).no f7Q19).no f7Q30).no f7Q41).yes f7Q52).no f7Q53).no f7Q64) = true := checkT_test f7C85 f7C107
def f7T109 : STree := .test f7Q64 f7T74 f7T108
theorem f7C109 : checkT Tryd.prog (xWith (xOf symX) f7R) (gxOf symG) (sumsOf sums26) 10000 7 f7A f7T109 (((((((((((facts0 f7K).no f7Q0).no f7Q2).no f7Q4).no f7Q6).no f7Q8).no f7Q19).no f7Q30).no f7Q41).yes f7Q52).no f7Q53) = true := checkT_test f7C74 f7C108
def f7T110 : STree := .test f7Q53 f7T63 f7T109
theorem f7C110 : checkT Tryd.prog (xWith (xOf symX) f7R) (gxOf symG) (sumsOf sums26) 10000 7 f7A f7T110 ((((((((((facts0 f7K).no f7Q0).no f7Q2).no f7Q4).no f7Q6).no f7Q8).no f7Q19).no f7Q30).no f7Q41).yes f7Q52) = true := checkT_test f7C63 f7C109
def f7Q111 : Quest := (.le [([], (Int.ofNat (nat_lit 1152921504606846977))), ([(.var (nat_lit 0))], (Int.negSucc (nat_lit 0))), ([(.var (nat_lit 2))], (Int.negSucc (nat_lit 0)))])
def f7Q112 : Quest := (.le [([], (Int.ofNat (nat_lit 1152921504606846977))), ([(.var (nat_lit 0))], (Int.ofNat (nat_lit 1))), ([(.var (nat_lit 2))], (Int.negSucc (nat_lit 0)))])
def f7Q113 : Quest := (.le [([], (Int.ofNat (nat_lit 1152921504606846977))), ([(.var (nat_lit 4))], (Int.ofNat (nat_lit 1)))])
def f7T114 : STree := (.leaf (.bool true))
theorem f7C114 : checkT Tryd.prog (xWith (xOf symX) f7R) (gxOf symG) (sumsOf sums26) 10000 7 f7A f7T114 (((((((((((((facts0 f7K).no f7Q0).no f7Q2).no f7Q4).no f7Q6).no f7Q8).no f7Q19).no f7Q30).no f7Q41).no f7Q52).yes f7Q111).yes f7Q112).yes f7Q113) = true := by kernel_rfl
def f7Q115 : Quest := (.le [([], (Int.ofNat (nat_lit 1152921504606846977))), ([(.var (nat_lit 4))], (Int.negSucc (nat_lit 0)))])
def f7T116 : STree := (.leaf (.bool true))
theorem f7C116 : checkT Tryd.prog (xWith (xOf symX) f7R) (gxOf symG) (sumsOf sums26) 10000 7 f7A f7T116 ((((((((((((((facts0 f7K).no f7Q0).no f7Q2).no f7Q4).no f7Q6).no f7Q8).no f7Q19).no f7Q30).no f7Q41).no f7Q52).yes f7Q111).yes f7Q112).no f7Q113).yes f7Q115) = true := by kernel_rfl
def f7Q117 : Quest := (.le [([], (Int.negSucc (nat_lit 1152921504606846975))), ([(.var (nat_lit 0)), (.var (nat_lit 4))], (Int.ofNat (nat_lit 1)))])
def f7T118 : STree := (.test (.le [([], (Int.negSucc (nat_lit 1152921504606846975))), ([(.var (nat_lit 0)), (.var (nat_lit 4))], (Int.negSucc (nat_lit 0)))])
  (.test (.le [([], (Int.negSucc (nat_lit 1152921504606846975))), ([(.var (nat_lit 1)), (.var (nat_lit 4))], (Int.ofNat (nat_lit 1)))])
  (.test (.le [([], (Int.negSucc (nat_lit 1152921504606846975))), ([(.var (nat_lit 1)), (.var (nat_lit 4))], (Int.negSucc (nat_lit 0)))])
  (.leaf (.bool true))
  (.leaf (.bool true)))
  (.leaf (.bool true)))
  (.test (.le [([], (Int.negSucc (nat_lit 1152921504606846975))), ([(.var (nat_lit 1)), (.var (nat_lit 4))], (Int.ofNat (nat_lit 1)))])
  (.test (.le [([], (Int.negSucc (nat_lit 1152921504606846975))), ([(.var (nat_lit 1)), (.var (nat_lit 4))], (Int.negSucc (nat_lit 0)))])
  (.leaf (.bool true))
  (.leaf (.bool true)))
  (.leaf (.bool true))))
theorem f7C118 : checkT Tryd.prog (xWith (xOf symX) f7R) (gxOf symG) (sumsOf sums26) 10000 7 f7A f7T118 (((((((((((((((facts0 f7K).no f7Q0).no f7Q2).no f7Q4).no f7Q6).no f7Q8).no f7Q19).no f7Q30).no f7Q41).no f7Q52).yes f7Q111).yes f7Q112).no f7Q113).no f7Q115).yes f7Q117) = true := by kernel_rfl
def f7T119 : STree := (.test (.le [([], (Int.negSucc (nat_lit 1152921504606846975))), ([(.var (nat_lit 1)), (.var (nat_lit 4))], (Int.ofNat (nat_lit 1)))])
  (.test (.le [([], (Int.negSucc (nat_lit 1152921504606846975))), ([(.var (nat_lit 1)), (.var (nat_lit 4))], (Int.negSucc (nat_lit 0)))])
  (.leaf (.bool true))
  (.leaf (.bool true)))
  (.leaf (.bool true)))
theorem f7C119 : checkT Tryd.prog (xWith (xOf symX) f7R) (gxOf symG) (sumsOf sums26) 10000 7 f7A f7T119 (((((((((((((((facts0 f7K).no f7Q0).no f7Q2).no f7Q4).no f7Q6).no f7Q8).no f7Q19).no f7Q30).no f7Q41).no f7Q52).yes f7Q111).yes f7Q112).no f7Q113).no f7Q115).no f7Q117) = true := by kernel_rfl
def f7T120 : STree := .test f7Q117 f7T118 f7T119
theorem f7C120 : checkT Tryd.prog (xWith (xOf symX) f7R) (gxOf symG) (sumsOf sums26) 10000 7 f7A f7T120 ((((((((((((((facts0 f7K).no f7Q0).no f7Q2).no f7Q4).no f7Q6).no f7Q8).no f7Q19).no f7Q30).no f7Q41).no f7Q52).yes f7Q111).yes f7Q112).no f7Q113).no f7Q115) = true := checkT_test f7C118 f7C119
def f7T121 : STree := .test f7Q115 f7T116 f7T120
theorem f7C121 : checkT Tryd.prog (xWith (xOf symX) f7R) (gxOf symG) (sumsOf sums26) 10000 7 f7A f7T121 (((((((((((((facts0 f7K).no f7Q0).no f7Q2).no f7Q4).no f7Q6).no f7Q8).no f7Q19).no f7Q30).no f7Q41).no f7Q52).yes f7Q111).yes f7Q112).no f7Q113) = true := checkT_test f7C116 f7C120
def f7T122 : STree := .test f7Q113 f7T114 f7T121
theorem f7C122 : checkT Tryd.prog (xWith (xOf symX) f7R) (gxOf symG) (sumsOf sums26) 10000 7 f7A f7T122 ((((((((((((facts0 f7K).no f7Q0).no f7Q2).no f7Q4).no f7Q6).no f7Q8).no f7Q19).no f7Q30).no f7Q41).no f7Q52).yes f7Q111).yes f7Q112) = true := checkT_test f7C114 f7C121
def f7Q123 : Quest := (.le [([], (Int.ofNat (nat_lit 1152921504606846977))), ([(.var (nat_lit 0))], (Int.negSucc (nat_lit 0))), ([(.var (nat_lit 2))], (Int.ofNat (nat_lit 1)))])
def f7Q124 : Quest := (.le [([], (Int.ofNat (nat_lit 1152921504606846977))), ([(.var (nat_lit 4))], (Int.ofNat (nat_lit 1)))])
def f7T125 : STree := (.leaf (.bool true))
theorem f7C125 : checkT Tryd.prog (xWith (xOf symX) f7R) (gxOf symG) (sumsOf sums26) 10000 7 f7A f7T125 ((((((((((((((facts0 f7K).no f7Q0).no f7Q2).no f7Q4).no f7Q6).no f7Q8).no f7Q19).no f7Q30).no f7Q41).no f7Q52).yes f7Q111).no f7Q112).yes f7Q123).yes f7Q124) = true := by kernel_rfl
def f7Q126 : Quest := (.le [([], (Int.ofNat (nat_lit 1152921504606846977))), ([(.var (nat_lit 4))], (Int.negSucc (nat_lit 0)))])
def f7T127 : STree := (.leaf (.bool true))
theorem f7C127 : checkT Tryd.prog (xWith (xOf symX) f7R) (gxOf symG) (sumsOf sums26) 10000 7 f7A f7T127 (((((((((((((((facts0 f7K).no f7Q0).no f7Q2).no f7Q4).no f7Q6).no f7Q8).no f7Q19).no f7Q30).no f7Q41).no f7Q52).yes f7Q111).no f7Q112).yes f7Q123).no f7Q124).yes f7Q126) = true := by kernel_rfl
def f7Q128 : Quest := (.le [([], (Int.negSucc (nat_lit 1152921504606846975))), ([(.var (nat_lit 0)), (.var (nat_lit 4))], (Int.ofNat (nat_lit 1)))])
def f7T129 : STree := (.test (.le [([], (Int.negSucc (nat_lit 1152921504606846975))), ([(.var (nat_lit 0)), (.var (nat_lit 4))], (Int.negSucc (nat_lit 0)))])
  (.test (.le [([], (Int.negSucc (nat_lit 1152921504606846975))), ([(.var (nat_lit 1)), (.var (nat_lit 4))], (Int.ofNat (nat_lit 1)))])
  (.test (.le [([], (Int.negSucc (nat_lit 1152921504606846975))), ([(.var (nat_lit 1)), (.var (nat_lit 4))], (Int.negSucc (nat_lit 0)))])
  (.leaf (.bool true))
  (.leaf (.bool true)))
  (.leaf (.bool true)))
  (.test (.le [([], (Int.negSucc (nat_lit 1152921504606846975))), ([(.var (nat_lit 1)), (.var (nat_lit 4))], (Int.ofNat (nat_lit 1)))])
  (.test (.le [([], (Int.negSucc (nat_lit 1152921504606846975))), ([(.var (nat_lit 1)), (.var (nat_lit 4))], (Int.negSucc (nat_lit 0)))])
  (.leaf (.bool true))
  (.leaf (.bool true)))
  (.leaf (.bool true))))
theorem f7C129 : checkT Tryd.prog (xWith (xOf symX) f7R) (gxOf symG) (sumsOf sums26) 10000 7 f7A f7T129 ((((((((((((((((facts0 f7K).no f7Q0).no f7Q2).no f7Q4).no f7Q6).no f7Q8).no f7Q19).no f7Q30).no f7Q41).no f7Q52).yes f7Q111).no f7Q112).yes f7Q123).no f7Q124).no f7Q126).yes f7Q128) = true := by kernel_rfl
def f7T130 : STree := (.test (.le [([], (Int.negSucc (nat_lit 1152921504606846975))), ([(.var (nat_lit 1)), (.var (nat_lit 4))], (Int.ofNat (nat_lit 1)))])
  (.test (.le [([], (Int.negSucc (nat_lit 1152921504606846975))), ([(.var (nat_lit 1)), (.var (nat_lit 4))], (Int.negSucc (nat_lit 0)))])
  (.leaf (.bool true))
  (.leaf (.bool true)))
  (.leaf (.bool true)))
theorem f7C130 : checkT Tryd.prog (xWith (xOf symX) f7R) (gxOf symG) (sumsOf sums26) 10000 7 f7A f7T130 ((((((((((((((((facts0 f7K).no f7Q0).no f7Q2).no f7Q4).no f7Q6).no f7Q8).no f7Q19).no f7Q30).no f7Q41).no f7Q52).yes f7Q111).no f7Q112).yes f7Q123).no f7Q124).no f7Q126).no f7Q128) = true := by kernel_rfl
def f7T131 : STree := .test f7Q128 f7T129 f7T130
theorem f7C131 : checkT Tryd.prog (xWith (xOf symX) f7R) (gxOf symG) (sumsOf sums26) 10000 7 f7A f7T131 (((((((((((((((facts0 f7K).no f7Q0).no f7Q2).no f7Q4).no f7Q6).no f7Q8).no f7Q19).no f7Q30).no f7Q41).no f7Q52).yes f7Q111).no f7Q112).yes f7Q123).no f7Q124).no f7Q126) = true := checkT_test f7C129 f7C130
def f7T132 : STree := .test f7Q126 f7T127 f7T131
theorem f7C132 : checkT Tryd.prog (xWith (xOf symX) f7R) (gxOf symG) (sumsOf sums26) 10000 7 f7A f7T132 ((((((((((((((facts0 f7K).no f7Q0).no f7Q2).no f7Q4).no f7Q6).no f7Q8).no f7Q19).no f7Q30).no f7Q41).no f7Q52).yes f7Q111).no f7Q112).yes f7Q123).no f7Q124) = true := checkT_test f7C127 f7C131
def f7T133 : STree := .test f7Q124 f7T125 f7T132
theorem f7C133 : checkT Tryd.prog (xWith (xOf symX) f7R) (gxOf symG) (sumsOf sums26) 10000 7 f7A f7T133 (((((((((((((facts0 f7K).no f7Q0).no f7Q2).no f7Q4).no f7Q6).no f7Q8).no f7Q19).no f7Q30).no f7Q41).no f7Q52).yes f7Q111).no f7Q112).yes f7Q123) = true := checkT_test f7C125 f7C132
def f7Q134 : Quest := (.le [([], (Int.ofNat (nat_lit 1152921504606846977))), ([(.var (nat_lit 1))], (Int.ofNat (nat_lit 1))), ([(.var (nat_lit 3))], (Int.negSucc (nat_lit 0)))])
def f7Q135 : Quest := (.le [([], (Int.ofNat (nat_lit 1152921504606846977))), ([(.var (nat_lit 4))], (Int.ofNat (nat_lit 1)))])
def f7T136 : STree := (.leaf (.bool true))
theorem f7C136 : checkT Tryd.prog (xWith (xOf symX) f7R) (gxOf symG) (sumsOf sums26) 10000 7 f7A f7T136 (((((((((((((((facts0 f7K).no f7Q0).no f7Q2).no f7Q4).no f7Q6).no f7Q8).no f7Q19).no f7Q30).no f7Q41).no f7Q52).yes f7Q111).no f7Q112).no f7Q123).yes f7Q134).yes f7Q135) = true := by kernel_rfl
def f7Q137 : Quest := (.le [([], (Int.ofNat (nat_lit 1152921504606846977))), ([(.var (nat_lit 4))], (Int.negSucc (nat_lit 0)))])
def f7T138 : STree := (.leaf (.bool true))
theorem f7C138 : checkT Tryd.prog (xWith (xOf symX) f7R) (gxOf symG) (sumsOf sums26) 10000 7 f7A f7T138 ((((((((((((((((facts0 f7K).no f7Q0).no f7Q2).no f7Q4).no f7Q6).no f7Q8).no f7Q19).no f7Q30).no f7Q41).no f7Q52).yes f7Q111).no f7Q112).no f7Q123).yes f7Q134).no f7Q135).yes f7Q137) = true := by kernel_rfl
def f7Q139 : Quest := (.le [([], (Int.negSucc (nat_lit 1152921504606846975))), ([(.var (nat_lit 0)), (.var (nat_lit 4))], (Int.ofNat (nat_lit 1)))])
def f7T140 : STree := (.test (.le [([], (Int.negSucc (nat_lit 1152921504606846975))), ([(.var (nat_lit 0)), (.var (nat_lit 4))], (Int.negSucc (nat_lit 0)))])
  (.test (.le [([], (Int.negSucc (nat_lit 1152921504606846975))), ([(.var (nat_lit 1)), (.var (nat_lit 4))], (Int.ofNat (nat_lit 1)))])
  (.test (.le [([], (Int.negSucc (nat_lit 1152921504606846975))), ([(.var (nat_lit 1)), (.var (nat_lit 4))], (Int.negSucc (nat_lit 0)))])
  (.leaf (.bool true))
  (.leaf (.bool true)))
  (.leaf (.bool true)))
  (.test (.le [([], (Int.negSucc (nat_lit 1152921504606846975))), ([(.var (nat_lit 1)), (.var (nat_lit 4))], (Int.ofNat (nat_lit 1)))])
  (.test (.le [([], (Int.negSucc (nat_lit 1152921504606846975))), ([(.var (nat_lit 1)), (.var (nat_lit 4))], (Int.negSucc (nat_lit 0)))])
  (.leaf (.bool true))
  (.leaf (.bool true)))
  (.leaf (.bool true))))
theorem f7C140 : checkT Tryd.prog (xWith (xOf symX) f7R) (gxOf symG) (sumsOf sums26) 10000 7 f7A f7T140 (((((((((((((((((facts0 f7K).no f7Q0).no f7Q2).no f7Q4).no f7Q6).no f7Q8).no f7Q19).no f7Q30).no f7Q41).no f7Q52).yes f7Q111).no f7Q112).no f7Q123).yes f7Q134).no f7Q135).no f7Q137).yes f7Q139) = true := by kernel_rfl
def f7T141 : STree := (.test (.le [([], (Int.negSucc (nat_lit 1152921504606846975))), ([(.var (nat_lit 1)), (.var (nat_lit 4))], (Int.ofNat (nat_lit 1)))])
  (.test (.le [([], (Int.negSucc (nat_lit 1152921504606846975))), ([(.var (nat_lit 1)), (.var (nat_lit 4))], (Int.negSucc (nat_lit 0)))])
  (.leaf (.bool true))
  (.leaf (.bool true)))
  (.leaf (.bool true)))
theorem f7C141 : checkT Tryd.prog (xWith (xOf symX) f7R) (gxOf symG) (sumsOf sums26) 10000 7 f7A f7T141 (((((((((((((((((facts0 f7K).no f7Q0).no f7Q2).no f7Q4).no f7Q6).no f7Q8).no f7Q19).no f7Q30).no f7Q41).no f7Q52).yes f7Q111).no f7Q112).no f7Q123).yes f7Q134).no f7Q135).no f7Q137).no f7Q139) = true := by kernel_rfl
def f7T142 : STree := .test f7Q139 f7T140 f7T141
theorem f7C142 : checkT Tryd.prog (xWith (xOf symX) f7R) (gxOf symG) (sumsOf sums26) 10000 7 f7A f7T142 ((((((((((((((((facts0 f7K).no f7Q0).no f7Q2).no f7Q4).no f7Q6).no f7Q8).no f7Q19).no f7Q30).no f7Q41).no f7Q52).yes f7Q111).no f7Q112).no f7Q123).yes f7Q134).no f7Q135).no f7Q137) = true := checkT_test f7C140 f7C141
def f7T143 : STree := .test f7Q137 f7T138 f7T142
theorem f7C143 : checkT Tryd.prog (xWith (xOf symX) f7R) (gxOf symG) (sumsOf sums26) 10000 7 f7A f7T143 (((((((((((((((facts0 f7K).no f7Q0).no f7Q2).no f7Q4).no f7Q6).no f7Q8).no f7Q19).no f7Q30).no f7Q41).no f7Q52).yes f7Q111).no f7Q112).no f7Q123).yes f7Q134).no f7Q135) = true := checkT_test f7C138 f7C142
def f7T144 : STree := .test f7Q135 f7T136 f7T143
theorem f7C144 : checkT Tryd.prog (xWith (xOf symX) f7R) (gxOf symG) (sumsOf sums26) 10000 7 f7A f7T144 ((((((((((((((facts0 f7K).no f7Q0).no f7Q2).no f7Q4).no f7Q6).no f7Q8).no f7Q19).no f7Q30).no f7Q41).no f7Q52).yes f7Q111).no f7Q112).no f7Q123).yes f7Q134) = true := checkT_test f7C136 f7C143
def f7Q145 : Quest := (.le [([], (Int.ofNat (nat_lit 1152921504606846977))), ([(.var (nat_lit 1))], (Int.negSucc (nat_lit 0))), ([(.var (nat_lit 3))], (Int.ofNat (nat_lit 1)))])
def f7Q146 : Quest := (.le [([], (Int.ofNat (nat_lit 1152921504606846977))), ([(.var (nat_lit 4))], (Int.ofNat (nat_lit 1)))])
def f7T147 : STree := (.leaf (.bool true))
theorem f7C147 : checkT Tryd.prog (xWith (xOf symX) f7R) (gxOf symG) (sumsOf sums26) 10000 7 f7A f7T147 ((((((((((((((((facts0 f7K).no f7Q0).no f7Q2).no f7Q4).no f7Q6).no f7Q8).no f7Q19).no f7Q30).no f7Q41).no f7Q52).yes f7Q111).no f7Q112).no f7Q123).no f7Q134).yes f7Q145).yes f7Q146) = true := by kernel_rfl
def f7Q148 : Quest := (.le [([], (Int.ofNat (nat_lit 1152921504606846977))), ([(.var (nat_lit 4))], (Int.negSucc (nat_lit 0)))])
def f7T149 : STree := (.leaf (.bool true))
theorem f7C149 : checkT Tryd.prog (xWith (xOf symX) f7R) (gxOf symG) (sumsOf sums26) 10000 7 f7A f7T149 (((((((((((((((((facts0 f7K).no f7Q0).no f7Q2).no f7Q4).no f7Q6).no f7Q8).no f7Q19).no f7Q30).no f7Q41).no f7Q52).yes f7Q111).no f7Q112).no f7Q123).no f7Q134).yes f7Q145).no f7Q146).yes f7Q148) = true := by kernel_rfl
def f7Q150 : Quest := (.le [([], (Int.negSucc (nat_lit 1152921504606846975))), ([(.var (nat_lit 0)), (.var (nat_lit 4))], (Int.ofNat (nat_lit 1)))])
def f7T151 : STree := (.test (.le [([], (Int.negSucc (nat_lit 1152921504606846975))), ([(.var (nat_lit 0)), (.var (nat_lit 4))], (Int.negSucc (nat_lit 0)))])
  (.test (.le [([], (Int.negSucc (nat_lit 1152921504606846975))), ([(.var (nat_lit 1)), (.var (nat_lit 4))], (Int.ofNat (nat_lit 1)))])
  (.test (.le [([], (Int.negSucc (nat_lit 1152921504606846975))), ([(.var (nat_lit 1)), (.var (nat_lit 4))], (Int.negSucc (nat_lit 0)))])
  (.leaf (.bool true))
  (.leaf (.bool true)))
  (.leaf (.bool true)))
  (.test (.le [([], (Int.negSucc (nat_lit 1152921504606846975))), ([(.var (nat_lit 1)), (.var (nat_lit 4))], (Int.ofNat (nat_lit 1)))])
  (.test (.le [([], (Int.negSucc (nat_lit 1152921504606846975))), ([(.var (nat_lit 1)), (.var (nat_lit 4))], (Int.negSucc (nat_lit 0)))])
  (.leaf (.bool true))
  (.leaf (.bool true)))
  (.leaf (.bool true))))
theorem f7C151 : checkT Tryd.prog (xWith (xOf symX) f7R) (gxOf symG) (sumsOf sums26) 10000 7 f7A f7T151 ((((((((((((((((((facts0 f7K).no f7Q0).no f7Q2).no f7Q4).no f7Q6).no f7Q8).no f7Q19).no f7Q30).no f7Q41).no f7Q52).yes f7Q111).no f7Q112).no f7Q123).no f7Q134).yes f7Q145).no f7Q146).no f7Q148).yes f7Q150) = true := by kernel_rfl
def f7T152 : STree := (.test (.le [([], (Int.negSucc (nat_lit 1152921504606846975))), ([(.var (nat_lit 1)), (.var (nat_lit 4))], (Int.ofNat (nat_lit 1)))])
  (.test (.le [([], (Int.negSucc (nat_lit 1152921504606846975))), ([(.var (nat_lit 1)), (.var (nat_lit 4))], (Int.negSucc (nat_lit 0)))])
  (.leaf (.bool true))
  (.leaf (.bool true)))
  (.leaf (.bool true)))
theorem f7C152 : checkT Tryd.prog (xWith (xOf symX) f7R) (gxOf symG) (sumsOf sums26) 10000 7 f7A f7T152 ((((((((((((((((((facts0 f7K).no f7Q0).no f7Q2).no f7Q4).no f7Q6).no f7Q8).no f7Q19).no f7Q30).no f7Q41).no f7Q52).yes f7Q111).no f7Q112).no f7Q123).no f7Q134).yes f7Q145).no f7Q146).no f7Q148).no f7Q150) = true := by kernel_rfl
def f7T153 : STree := .test f7Q150 f7T151 f7T152
theorem f7C153 : checkT Tryd.prog (xWith (xOf symX) f7R) (gxOf symG) (sumsOf sums26) 10000 7 f7A f7T153 (((((((((((((((((facts0 f7K).no f7Q0).no f7Q2).no f7Q4).no f7Q6).no f7Q8).no f7Q19).no f7Q30).no f7Q41).no f7Q52).yes f7Q111).no f7Q112).no f7Q123).no f7Q134).yes f7Q145).no f7Q146).no f7Q148) = true := checkT_test f7C151 f7C152
def f7T154 : STree := .test f7Q148 f7T149 f7T153
theorem f7C154 : checkT Tryd.prog (xWith (xOf symX) f7R) (gxOf symG) (sumsOf sums26) 10000 7 f7A f7T154 ((((((((((((((((facts0 f7K).no f7Q0).no f7Q2).no f7Q4).no f7Q6).no f7Q8).no f7Q19).no f7Q30).no f7Q41).no f7Q52).yes f7Q111).no f7Q112).no f7Q123).no f7Q134).yes f7Q145).no f7Q146) = true := checkT_test f7C149 f7C153
def f7T155 : STree := .test f7Q146 f7T147 f7T154
theorem f7C155 : checkT Tryd.prog (xWith (xOf symX) f7R) (gxOf symG) (sumsOf sums26) 10000 7 f7A f7T155 (((((((((((((((facts0 f7K).no f7Q0).no f7Q2).no f7Q4).no f7Q6).no f7Q8).no f7Q19).no f7Q30).no f7Q41).no f7Q52).yes f7Q111).no f7Q112).no f7Q123).no f7Q134).yes f7Q145) = true := checkT_test f7C147 f7C154
def f7Q156 : Quest := (.le [([], (Int.ofNat (nat_lit 1152921504606846977))), ([(.var (nat_lit 4))], (Int.ofNat (nat_lit 1)))])
def f7T157 : STree := (.leaf (.bool true))
theorem f7C157 : checkT Tryd.prog (xWith (xOf symX) f7R) (gxOf symG) (sumsOf sums26) 10000 7 f7A f7T157 ((((((((((((((((facts0 f7K).no f7Q0).no f7Q2).no f7Q4).no f7Q6).no f7Q8).no f7Q19).no f7Q30).no f7Q41).no f7Q52).yes f7Q111).no f7Q112).no f7Q123).no f7Q134).no f7Q145).yes f7Q156) = true := by kernel_rfl
def f7Q158 : Quest := (.le [([], (Int.ofNat (nat_lit 1152921504606846977))), ([(.var (nat_lit 4))], (Int.negSucc (nat_lit 0)))])
def f7T159 : STree := (.leaf (.bool true))
theorem f7C159 : checkT Tryd.prog (xWith (xOf symX) f7R) (gxOf symG) (sumsOf sums26) 10000 7 f7A f7T159 (((((((((((((((((facts0 f7K).no f7Q0).no f7Q2).no f7Q4).no f7Q6).no f7Q8).no f7Q19).no f7Q30).no f7Q41).no f7Q52).yes f7Q111).no f7Q112).no f7Q123).no f7Q134).no f7Q145).no f7Q156).yes f7Q158) = true := by kernel_rfl
def f7Q160 : Quest := (.le [([], (Int.negSucc (nat_lit 1152921504606846975))), ([(.var (nat_lit 0)), (.var (nat_lit 4))], (Int.ofNat (nat_lit 1)))])
def f7T161 : STree := (.test (.le [([], (Int.negSucc (nat_lit 1152921504606846975))), ([(.var (nat_lit 0)), (.var (nat_lit 4))], (Int.negSucc (nat_lit 0)))])
  (.test (.le [([], (Int.negSucc (nat_lit 1152921504606846975))), ([(.var (nat_lit 1)), (.var (nat_lit 4))], (Int.ofNat (nat_lit 1)))])
  (.test (.le [([], (Int.negSucc (nat_lit 1152921504606846975))), ([(.var (nat_lit 1)), (.var (nat_lit 4))], (Int.negSucc (nat_lit 0)))])
  (.leaf (.bool true))
  (.leaf (.bool true)))
  (.leaf (.bool true)))
  (.test (.le [([], (Int.negSucc (nat_lit 1152921504606846975))), ([(.var (nat_lit 1)), (.var (nat_lit 4))], (Int.ofNat (nat_lit 1)))])
  (.test (.le [([], (Int.negSucc (nat_lit 1152921504606846975))), ([(.var (nat_lit 1)), (.var (nat_lit 4))], (Int.negSucc (nat_lit 0)))])
  (.leaf (.bool true))
  (.leaf (.bool true)))
  (.leaf (.bool true))))
theorem f7C161 : checkT Tryd.prog (xWith (xOf symX) f7R) (gxOf symG) (sumsOf sums26) 10000 7 f7A f7T161 ((((((((((((((((((facts0 f7K).no f7Q0).no f7Q2).no f7Q4).no f7Q6).no f7Q8).no f7Q19).no f7Q30).no f7Q41).no f7Q52).yes f7Q111).no f7Q112).no f7Q123).no f7Q134).no f7Q145).no f7Q156).no f7Q158).yes f7Q160) = true := by kernel_rfl
def f7T162 : STree := (.test (.le [([], (Int.negSucc (nat_lit 1152921504606846975))), ([(.var (nat_lit 1)), (.var (nat_lit 4))], (Int.ofNat (nat_lit 1)))])
  (.test (.le [([], (Int.negSucc (nat_lit 1152921504606846975))), ([(.var (nat_lit 1)), (.var (nat_lit 4))], (Int.negSucc (nat_lit 0)))])
  (.leaf (.bool true))
  (.leaf (.bool true)))
  (.leaf (.bool true)))
theorem f7C162 : checkT Tryd.prog (xWith (xOf symX) f7R) (gxOf symG) (sumsOf sums26) 10000 7 f7A f7T162 ((((((((((((((((((facts0 f7K).no f7Q0).no f7Q2).no f7Q4).no f7Q6).no f7Q8).no f7Q19).no f7Q30).no f7Q41).no f7Q52).yes f7Q111).no f7Q112).no f7Q123).no f7Q134).no f7Q145).no f7Q156).no f7Q158).no f7Q160) = true := by kernel_rfl
def f7T163 : STree := .test f7Q160 f7T161 f7T162
theorem f7C163 : checkT Tryd.prog (xWith (xOf symX) f7R) (gxOf symG) (sumsOf sums26) 10000 7 f7A f7T163 (((((((((((((((((facts0 f7K).no f7Q0).no f7Q2).no f7Q4).no f7Q6).no f7Q8).no f7Q19).no f7Q30).no f7Q41).no f7Q52).yes f7Q111).no f7Q112).no f7Q123).no f7Q134).no f7Q145).no f7Q156).no f7Q158) = true := checkT_test f7C161 f7C162
def f7T164 : STree := .test f7Q158 f7T159 f7T163
theorem f7C164 : checkT Tryd.prog (xWith (xOf symX) f7R) (gxOf symG) (sumsOf sums26) 10000 7 f7A f7T164 ((((((((((((((((facts0 f7K).no f7Q0).no f7Q2).no f7Q4).no f7Q6).no f7Q8).no f7Q19).no f7Q30).no f7Q41).no f7Q52).yes f7Q111).no f7Q112).no f7Q123).no f7Q134).no f7Q145).no f7Q156) = true := checkT_test f7C159 f7C163
def f7T165 : STree := .test f7Q156 f7T157 f7T164
theorem f7C165 : checkT Tryd.prog (xWith (xOf symX) f7R) (gxOf symG) (sumsOf sums26) 10000 7 f7A f7T165 (((((((((((((((facts0 f7K).no f7Q0).no f7Q2).no f7Q4).no f7Q6).no f7Q8).no f7Q19).no f7Q30).no f7Q41).no f7Q52).yes f7Q111).no f7Q112).no f7Q123).no f7Q134).no f7Q145) = true := checkT_test f7C157 f7C164
def f7T166 : STree := .test f7Q145 f7T155 f7T165
theorem f7C166 : checkT Tryd.prog (xWith (xOf symX) f7R) (gxOf symG) (sumsOf sums26) 10000 7 f7A f7T166 ((((((((((((((facts0 f7K).no f7Q0).no f7Q2).no f7Q4).no f7Q6).no f7Q8).no f7Q19).no f7Q30).no f7Q41).no f7Q52).yes f7Q111).no f7Q112).no f7Q123).no f7Q134) = true := checkT_test f7C155 f7C165
def f7T167 : STree := .test f7Q134 f7T144 f7T166
theorem f7C167 : checkT Tryd.prog (xWith (xOf symX) f7R) (gxOf symG) (sumsOf sums26) 10000 7 f7A f7T167 (((((((((((((facts0 f7K).no f7Q0).no f7Q2).no f7Q4).no f7Q6).no f7Q8).no f7Q19).no f7Q30).no f7Q41).no f7Q52).yes f7Q111).no f7Q112).no f7Q123) = true := checkT_test f7C144 f7C166
def f7T168 : STree := .test f7Q123 f7T133 f7T167
theorem f7C168 : checkT Tryd.prog (xWith (xOf symX) f7R) (gxOf symG) (sumsOf sums26) 10000 7 f7A f7T168 ((((((((((((facts0 f7K).no f7Q0).no f7Q2).no f7Q4).no f7Q6).no f7Q8).no f7Q19).no f7Q30).no f7Q41).no f7Q52).yes f7Q111).no f7Q112) = true := checkT_test f7C133 f7C167
def f7T169 : STree := .test f7Q112 f7T122 f7T168
theorem f7C169 : checkT Tryd.prog (xWith (xOf symX) f7R) (gxOf symG) (sumsOf sums26) 10000 7 f7A f7T169 (((((((((((facts0 f7K).no f7Q0).no f7Q2).no f7Q4).no f7Q6).no f7Q8).no f7Q19).no f7Q30).no f7Q41).no f7Q52).yes f7Q111) = true := checkT_test f7C122 f7C168
def f7Q170 : Quest := (.le [([], (Int.ofNat (nat_lit 1152921504606846977))), ([(.var (nat_lit 1))], (Int.ofNat (nat_lit 1))), ([(.var (nat_lit 3))], (Int.ofNat (nat_lit 1)))])
def f7Q171 : Quest := (.le [([], (Int.ofNat (nat_lit 1152921504606846977))), ([(.var (nat_lit 0))], (Int.ofNat (nat_lit 1))), ([(.var (nat_lit 2))], (Int.negSucc (nat_lit 0)))])
def f7Q172 : Quest := (.le [([], (Int.ofNat (nat_lit 1152921504606846977))), ([(.var (nat_lit 4))], (Int.ofNat (nat_lit 1)))])
def f7T173 : STree := (.leaf (.bool true))
theorem f7C173 : checkT Tryd.prog (xWith (xOf symX) f7R) (gxOf symG) (sumsOf sums26) 10000 7 f7A f7T173 ((((((((((((((facts0 f7K).no f7Q0).no f7Q2).no f7Q4).no f7Q6).no f7Q8).no f7Q19).no f7Q30).no f7Q41).no f7Q52).no f7Q111).yes f7Q170).yes f7Q171).yes f7Q172) = true := by kernel_rfl
def f7Q174 : Quest := (.le [([], (Int.ofNat (nat_lit 1152921504606846977))), ([(.var (nat_lit 4))], (Int.negSucc (nat_lit 0)))])
def f7T175 : STree := (.leaf (.bool true))
theorem f7C175 : checkT Tryd.prog (xWith (xOf symX) f7R) (gxOf symG) (sumsOf sums26) 10000 7 f7A f7T175 (((((((((((((((facts0 f7K).no f7Q0).no f7Q2).no f7Q4).no f7Q6).no f7Q8).no f7Q19).no f7Q30).no f7Q41).no f7Q52).no f7Q111).yes f7Q170).yes f7Q171).no f7Q172).yes f7Q174) = true := by kernel_rfl
def f7Q176 : Quest := (.le [([], (Int.negSucc (nat_lit 1152921504606846975))), ([(.var (nat_lit 0)), (.var (nat_lit 4))], (Int.ofNat (nat_lit 1)))])
def f7T177 : STree := (.test (.le [([], (Int.negSucc (nat_lit 1152921504606846975))), ([(.var (nat_lit 0)), (.var (nat_lit 4))], (Int.negSucc (nat_lit 0)))])
  (.test (.le [([], (Int.negSucc (nat_lit 1152921504606846975))), ([(.var (nat_lit 1)), (.var (nat_lit 4))], (Int.ofNat (nat_lit 1)))])
  (.test (.le [([], (Int.negSucc (nat_lit 1152921504606846975))), ([(.var (nat_lit 1)), (.var (nat_lit 4))], (Int.negSucc (nat_lit 0)))])
  (.leaf (.bool true))
  (.leaf (.bool true)))
  (.leaf (.bool true)))
  (.test (.le [([], (Int.negSucc (nat_lit 1152921504606846975))), ([(.var (nat_lit 1)), (.var (nat_lit 4))], (Int.ofNat (nat_lit 1)))])
  (.test (.le [([], (Int.negSucc (nat_lit 1152921504606846975))), ([(.var (nat_lit 1)), (.var (nat_lit 4))], (Int.negSucc (nat_lit 0)))])
  (.leaf (.bool true))
  (.leaf (.bool true)))
  (.leaf (.bool true))))
theorem f7C177 : checkT Tryd.prog (xWith (xOf symX) f7R) (gxOf symG) (sumsOf sums26) 10000 7 f7A f7T177 ((((((((((((((((facts0 f7K).no f7Q0).no f7Q2).no f7Q4).no f7Q6).no f7Q8).no f7Q19).no f7Q30).no f7Q41).no f7Q52).no f7Q111).yes f7Q170).yes f7Q171).no f7Q172).no f7Q174).yes f7Q176) = true := by kernel_rfl
def f7T178 : STree := (.test (.le [([], (Int.negSucc (nat_lit 1152921504606846975))), ([(.var (nat_lit 1)), (.var (nat_lit 4))], (Int.ofNat (nat_lit 1)))])
  (.test (.le [([], (Int.negSucc (nat_lit 1152921504606846975))), ([(.var (nat_lit 1)), (.var (nat_lit 4))], (Int.negSucc (nat_lit 0)))])
  (.leaf (.bool true))
  (.leaf (.bool true)))
  (.leaf (.bool true)))
theorem f7C178 : checkT Tryd.prog (xWith (xOf symX) f7R) (gxOf symG) (sumsOf sums26) 10000 7 f7A f7T178 ((((((((((((((((facts0 f7K).no f7Q0).no f7Q2).no f7Q4).no f7Q6).no f7Q8).no f7Q19).no f7Q30).no f7Q41).no f7Q52).no f7Q111).yes f7Q170).yes f7Q171).no f7Q172).no f7Q174).no f7Q176) = true := by kernel_rfl
def f7T179 : STree := .test f7Q176 f7T177 f7T178
theorem f7C179 : checkT Tryd.prog (xWith (xOf symX) f7R) (gxOf symG) (sumsOf sums26) 10000 7 f7A f7T179 (((((((((((((((facts0 f7K).no f7Q0).no f7Q2).no f7Q4).no f7Q6).no f7Q8).no f7Q19).no f7Q30).no f7Q41).no f7Q52).no f7Q111).yes f7Q170).yes f7Q171).no f7Q172).no f7Q174) = true := checkT_test f7C177 f7C178
def f7T180 : STree := .test f7Q174 f7T175 f7T179
theorem f7C180 : checkT Tryd.prog (xWith (xOf symX) f7R) (gxOf symG) (sumsOf sums26) 10000 7 f7A f7T180 ((((((((((((((facts0 f7K).no f7Q0).no f7Q2).no f7Q4).no f7Q6).no f7Q8).no f7Q19).no f7Q30).no f7Q41).no f7Q52).no f7Q111).yes f7Q170).yes f7Q171).no f7Q172) = true := checkT_test f7C175 f7C179
def f7T181 : STree := .test f7Q172 f7T173 f7T180
theorem f7C181 : checkT Tryd.prog (xWith (xOf symX) f7R) (gxOf symG) (sumsOf sums26) 10000 7 f7A f7T181 (((((((((((((facts0 f7K).no f7Q0).no f7Q2).no f7Q4).no f7Q6).no f7Q8).no f7Q19).no f7Q30).no f7Q41).no f7Q52).no f7Q111).yes f7Q170).yes f7Q171) = true := checkT_test f7C173 f7C180
def f7Q182 : Quest := (.le [([], (Int.ofNat (nat_lit 1152921504606846977))), ([(.var (nat_lit 0))], (Int.negSucc (nat_lit 0))), ([(.var (nat_lit 2))], (Int.ofNat (nat_lit 1)))])
def f7Q183 : Quest := (.le [([], (Int.ofNat (nat_lit 1152921504606846977))), ([(.var (nat_lit 4))], (Int.ofNat (nat_lit 1)))])
def f7T184 : STree := (.leaf (.bool true))
theorem f7C184 : checkT Tryd.prog (xWith (xOf symX) f7R) (gxOf symG) (sumsOf sums26) 10000 7 f7A f7T184 (((((((((((((((facts0 f7K).no f7Q0).no f7Q2).no f7Q4).no f7Q6).no f7Q8).no f7Q19).no f7Q30).no f7Q41).no f7Q52).no f7Q111).yes f7Q170).no f7Q171).yes f7Q182).yes f7Q183) = true := by kernel_rfl
def f7Q185 : Quest := (.le [([], (Int.ofNat (nat_lit 1152921504606846977))), ([(.var (nat_lit 4))], (Int.negSucc (nat_lit 0)))])
def f7T186 : STree := (.leaf (.bool true))
theorem f7C186 : checkT Tryd.prog (xWith (xOf symX) f7R) (gxOf symG) (sumsOf sums26) 10000 7 f7A f7T186 ((((((((((((((((facts0 f7K).no f7Q0).no f7Q2).no f7Q4).no f7Q6).no f7Q8).no f7Q19).no f7Q30).no f7Q41).no f7Q52).no f7Q111).yes f7Q170).no f7Q171).yes f7Q182).no f7Q183).yes f7Q185) = true := by kernel_rfl
def f7Q187 : Quest := (.le [([], (Int.negSucc (nat_lit 1152921504606846975))), ([(.var (nat_lit 0)), (.var (nat_lit 4))], (Int.ofNat (nat_lit 1)))])
def f7T188 : STree := (.test (.le [([], (Int.negSucc (nat_lit 1152921504606846975))), ([(.var (nat_lit 0)), (.var (nat_lit 4))], (Int.negSucc (nat_lit 0)))])
  (.test (.le [([], (Int.negSucc (nat_lit 1152921504606846975))), ([(.var (nat_lit 1)), (.var (nat_lit 4))], (Int.ofNat (nat_lit 1)))])
  (.test (.le [([], (Int.negSucc (nat_lit 1152921504606846975))), ([(.var (nat_lit 1)), (.var (nat_lit 4))], (Int.negSucc (nat_lit 0)))])
  (.leaf (.bool true))
  (.leaf (.bool true)))
  (.leaf (.bool true)))
  (.test (.le [([], (Int.negSucc (nat_lit 1152921504606846975))), ([(.var (nat_lit 1)), (.var (nat_lit 4))], (Int.ofNat (nat_lit 1)))])
  (.test (.le [([], (Int.negSucc (nat_lit 1152921504606846975))), ([(.var (nat_lit 1)), (.var (nat_lit 4))], (Int.negSucc (nat_lit 0)))])
  (.leaf (.bool true))
  (.leaf (.bool true)))
  (.leaf (.bool true))))
theorem f7C188 : checkT Tryd.prog (xWith (xOf symX) f7R) (gxOf symG) (sumsOf sums26) 10000 7 f7A f7T188 (((((((((((((((((facts0 f7K).no f7Q0).no f7Q2).no f7Q4).no f7Q6).no f7Q8).no f7Q19).no f7Q30).no f7Q41).no f7Q52).no f7Q111).yes f7Q170).no f7Q171).yes f7Q182).no f7Q183).no f7Q185).yes f7Q187) = true := by kernel_rfl
def f7T189 : STree := (.test (.le [([], (Int.negSucc (nat_lit 1152921504606846975))), ([(.var (nat_lit 1)), (.var (nat_lit 4))], (Int.ofNat (nat_lit 1)))])
  (.test (.le [([], (Int.negSucc (nat_lit 1152921504606846975))), ([(.var (nat_lit 1)), (.var (nat_lit 4))], (Int.negSucc (nat_lit 0)))])
  (.leaf (.bool true))
  (.leaf (.bool true)))
  (.leaf (.bool true)))
theorem f7C189 : checkT Tryd.prog (xWith (xOf symX) f7R) (gxOf symG) (sumsOf sums26) 10000 7 f7A f7T189 (((((((((((((((((facts0 f7K).no f7Q0).no f7Q2).no f7Q4).no f7Q6).no f7Q8).no f7Q19).no f7Q30).no f7Q41).no f7Q52).no f7Q111).yes f7Q170).no f7Q171).yes f7Q182).no f7Q183).no f7Q185).no f7Q187) = true := by kernel_rfl
def f7T190 : STree := .test f7Q187 f7T188 f7T189
theorem f7C190 : checkT Tryd.prog (xWith (xOf symX) f7R) (gxOf symG) (sumsOf sums26) 10000 7 f7A f7T190 ((((((((((((((((facts0 f7K).no f7Q0).no f7Q2).no f7Q4).no f7Q6).no f7Q8).no f7Q19).no f7Q30).no f7Q41).no f7Q52).no f7Q111).yes f7Q170).no f7Q171).yes f7Q182).no f7Q183).no f7Q185) = true := checkT_test f7C188 f7C189
def f7T191 : STree := .test f7Q185 f7T186 f7T190
theorem f7C191 : checkT Tryd.prog (xWith (xOf symX) f7R) (gxOf symG) (sumsOf sums26) 10000 7 f7A f7T191 (((((((((((((((facts0 f7K).no f7Q0).no f7Q2).no f7Q4).no f7Q6).no f7Q8).no f7Q19).no f7Q30).no f7Q41).no f7Q52).no f7Q111).yes f7Q170).no f7Q171).yes f7Q182).no f7Q183) = true := checkT_test f7C186 f7C190
def f7T192 : STree := .test f7Q183 f7T184 f7T191
theorem f7C192 : checkT Tryd.prog (xWith (xOf symX) f7R) (gxOf symG) (sumsOf sums26) 10000 7 f7A f7T192 ((((((((((((((facts0 f7K).no f7Q0).no f7Q2).no f7Q4).no f7Q6).no f7Q8).no f7Q19).no f7Q30).no f7Q41).no f7Q52).no f7Q111).yes f7Q170).no f7Q171).yes f7Q182) = true := checkT_test f7C184 f7C191
def f7Q193 : Quest := (.le [([], (Int.ofNat (nat_lit 1152921504606846977))), ([(.var (nat_lit 1))], (Int.ofNat (nat_lit 1))), ([(.var (nat_lit 3))], (Int.negSucc (nat_lit 0)))])
def f7Q194 : Quest := (.le [([], (Int.ofNat (nat_lit 1152921504606846977))), ([(.var (nat_lit 4))], (Int.ofNat (nat_lit 1)))])
def f7T195 : STree := (.leaf (.bool true))
theorem f7C195 : checkT Tryd.prog (xWith (xOf symX) f7R) (gxOf symG) (sumsOf sums26) 10000 7 f7A f7T195 ((((((((((((((((facts0 f7K).no f7Q0).no f7Q2).no f7Q4).no f7Q6).no f7Q8).no f7Q19).no f7Q30).no f7Q41).no f7Q52).no f7Q111).yes f7Q170).no f7Q171).no f7Q182).yes f7Q193).yes f7Q194) = true := by kernel_rfl
def f7Q196 : Quest := (.le [([], (Int.ofNat (nat_lit 1152921504606846977))), ([(.var (nat_lit 4))], (Int.negSucc (nat_lit 0)))])
def f7T197 : STree := (.leaf (.bool true))
theorem f7C197 : checkT Tryd.prog (xWith (xOf symX) f7R) (gxOf symG) (sumsOf sums26) 10000 7 f7A f7T197 (((((((((((((((((facts0 f7K).no f7Q0).no f7Q2).no f7Q4).no f7Q6).no f7Q8).no f7Q19).no f7Q30).no f7Q41).no f7Q52).no f7Q111).yes f7Q170).no f7Q171).no f7Q182).yes f7Q193).no f7Q194).yes f7Q196) = true := by kernel_rfl
def f7Q198 : Quest := (.le [([], (Int.negSucc (nat_lit 1152921504606846975))), ([(.var (nat_lit 0)), (.var (nat_lit 4))], (Int.ofNat (nat_lit 1)))])
def f7T199 : STree := (.test (.le [([], (Int.negSucc (nat_lit 1152921504606846975))), ([(.var (nat_lit 0)), (.var (nat_lit 4))], (Int.negSucc (nat_lit 0)))])
  (.test (.le [([], (Int.negSucc (nat_lit 1152921504606846975))), ([(.var (nat_lit 1)), (.var (nat_lit 4))], (Int.ofNat (nat_lit 1)))])
  (.test (.le [([], (Int.negSucc (nat_lit 1152921504606846975))), ([(.var (nat_lit 1)), (.var (nat_lit 4))], (Int.negSucc (nat_lit 0)))])
  (.leaf (.bool true))
  (.leaf (.bool true)))
  (.leaf (.bool true)))
  (.test (.le [([], (Int.negSucc (nat_lit 1152921504606846975))), ([(.var (nat_lit 1)), (.var (nat_lit 4))], (Int.ofNat (nat_lit 1)))])
  (.test (.le [([], (Int.negSucc (nat_lit 1152921504606846975))), ([(.var (nat_lit 1)), (.var (nat_lit 4))], (Int.negSucc (nat_lit 0)))])
  (.leaf (.bool true))
  (.leaf (.bool true)))
  (.leaf (.bool true))))
theorem f7C199 : checkT Tryd.prog (xWith (xOf symX) f7R) (gxOf symG) (sumsOf sums26) 10000 7 f7A f7T199 ((((((((((((((((((facts0 f7K).no f7Q0).no f7Q2).no f7Q4).no f7Q6).no f7Q8).no f7Q19).no f7Q30).no f7Q41).no f7Q52).no f7Q111).yes f7Q170).no f7Q171).no f7Q182).yes f7Q193).no f7Q194).no f7Q196).yes f7Q198) = true := by kernel_rfl
def f7T200 : STree := (.test (.le [([], (Int.negSucc (nat_lit 1152921504606846975))), ([(.var (nat_lit 1)), (.var (nat_lit 4))], (Int.ofNat (nat_lit 1)))])
  (.test (.le [([], (Int.negSucc (nat_lit 1152921504606846975))), ([(.var (nat_lit 1)), (.var (nat_lit 4))], (Int.negSucc (nat_lit 0)))])
  (.leaf (.bool true))
  (.leaf (.bool true)))
  (.leaf (.bool true)))
theorem f7C200 : checkT Tryd.prog (xWith (xOf symX) f7R) (gxOf symG) (sumsOf sums26) 10000 7 f7A f7T200 ((((((((((((((((((facts0 f7K).no f7Q0).no f7Q2).no f7Q4).no f7Q6).no f7Q8).no f7Q19).no f7Q30).no f7Q41).no f7Q52).no f7Q111).yes f7Q170).no f7Q171).no f7Q182).yes f7Q193).no f7Q194).no f7Q196).no f7Q198) = true := by kernel_rfl
def f7T201 : STree := .test f7Q198 f7T199 f7T200
theorem f7C201 : checkT Tryd.prog (xWith (xOf symX) f7R) (gxOf symG) (sumsOf sums26) 10000 7 f7A f7T201 (((((((((((((((((facts0 f7K).no f7Q0).no f7Q2).no f7Q4).no f7Q6).no f7Q8).no f7Q19).no f7Q30).no f7Q41).no f7Q52).no f7Q111).yes f7Q170).no f7Q171).no f7Q182).yes f7Q193).no f7Q194).no f7Q196) = true := checkT_test f7C199 f7C200
def f7T202 : STree := .test f7Q196 f7T197 f7T201
theorem f7C202 : checkT Tryd.prog (xWith (xOf symX) f7R) (gxOf symG) (sumsOf sums26) 10000 7 f7A f7T202 ((((((((((((((((facts0 f7K).no f7Q0).no f7Q2).no f7Q4).no f7Q6).no f7Q8).no f7Q19).no f7Q30).no f7Q41).no f7Q52).no f7Q111).yes f7Q170).no f7Q171).no f7Q182).yes f7Q193).no f7Q194) = true := checkT_test f7C197 f7C201
def f7T203 : STree := .test f7Q194 f7T195 f7T202
theorem f7C203 : checkT Tryd.prog (xWith (xOf symX) f7R) (gxOf symG) (sumsOf sums26) 10000 7 f7A f7T203 (((((((((((((((facts0 f7K).no f7Q0).no f7Q2).no f7Q4).no f7Q6).no f7Q8).no f7Q19).no f7Q30).no f7Q41).no f7Q52).no f7Q111).yes f7Q170).no f7Q171).no f7Q182).yes f7Q193) = true := checkT_test f7C195 f7C202
def f7Q204 : Quest := (.le [([], (Int.ofNat (nat_lit 1152921504606846977))), ([(.var (nat_lit 1))], (Int.negSucc (nat_lit 0))), ([(.var (nat_lit 3))], (Int.ofNat (nat_lit 1)))])
def f7Q205 : Quest := (.le [([], (Int.ofNat (nat_lit 1152921504606846977))), ([(.var (nat_lit 4))], (Int.ofNat (nat_lit 1)))])
def f7T206 : STree := (.leaf (.bool true))
theorem f7C206 : checkT Tryd.prog (xWith (xOf symX) f7R) (gxOf symG) (sumsOf sums26) 10000 7 f7A f7T206 (((((((((((((((((facts0 f7K).no f7Q0).no f7Q2).no f7Q4).no f7Q6).no f7Q8).no f7Q19).no f7Q30).no f7Q41).no f7Q52).no f7Q111).yes f7Q170).no f7Q171).no f7Q182).no f7Q193).yes f7Q204).yes f7Q205) = true := by kernel_rfl
def f7Q207 : Quest := (.le [([], (Int.ofNat (nat_lit 1152921504606846977))), ([(.var (nat_lit 4))], (Int.negSucc (nat_lit 0)))])
def f7T208 : STree := (.leaf (.bool true))
theorem f7C208 : checkT Tryd.prog (xWith (xOf symX) f7R) (gxOf symG) (sumsOf sums26) 10000 7 f7A f7T208 ((((((((((((((((((facts0 f7K).no f7Q0).no f7Q2).no f7Q4).no f7Q6).no f7Q8).no f7Q19).no f7Q30).no f7Q41).no f7Q52).no f7Q111).yes f7Q170).no f7Q171).no f7Q182).no f7Q193).yes f7Q204).no f7Q205).yes f7Q207) = true := by kernel_rfl
def f7Q209 : Quest := (.le [([], (Int.negSucc (nat_lit 1152921504606846975))), ([(.var (nat_lit 0)), (.var (nat_lit 4))], (Int.ofNat (nat_lit 1)))])
def f7T210 : STree := (.test (.le [([], (Int.negSucc (nat_lit 1152921504606846975))), ([(.var (nat_lit 0)), (.var (nat_lit 4))], (Int.negSucc (nat_lit 0)))])
  (.test (.le [([], (Int.negSucc (nat_lit 1152921504606846975))), ([(.var (nat_lit 1)), (.var (nat_lit 4))], (Int.ofNat (nat_lit 1)))])
  (.test (.le [([], (Int.negSucc (nat_lit 1152921504606846975))), ([(.var (nat_lit 1)), (.var (nat_lit 4))], (Int.negSucc (nat_lit 0)))])
  (.leaf (.bool true))
  (.leaf (.bool true)))
  (.leaf (.bool true)))
  (.test (.le [([], (Int.negSucc (nat_lit 1152921504606846975))), ([(.var (nat_lit 1)), (.var (nat_lit 4))], (Int.ofNat (nat_lit 1)))])
  (.test (.le [([], (Int.negSucc (nat_lit 1152921504606846975))), ([(.var (nat_lit 1)), (.var (nat_lit 4))], (Int.negSucc (nat_lit 0)))])
  (.leaf (.bool true))
  (.leaf (.bool true)))
  (.leaf (.bool true))))
theorem f7C210 : checkT Tryd.prog (xWith (xOf symX) f7R) (gxOf symG) (sumsOf sums26) 10000 7 f7A f7T210 (((((((((((((((((((facts0 f7K).no f7Q0).no f7Q2).no f7Q4).no f7Q6).no f7Q8).no f7Q19).no f7Q30).no f7Q41).no f7Q52).no f7Q111).yes f7Q170).no f7Q171).no f7Q182).no f7Q193).yes f7Q204).no f7Q205).no f7Q207).yes f7Q209) = true := by kernel_rfl
def f7T211 : STree := (.test (.le [([], (Int.negSucc (nat_lit 1152921504606846975))), ([(.var (nat_lit 1)), (.var (nat_lit 4))], (Int.ofNat (nat_lit 1)))])
  (.test (.le [([], (Int.negSucc (nat_lit 1152921504606846975))), ([(.var (nat_lit 1)), (.var (nat_lit 4))], (Int.negSucc (nat_lit 0)))])
  (.leaf (.bool true))
  (.leaf (.bool true)))
  (.leaf (.bool true)))
theorem f7C211 : checkT Tryd.prog (xWith (xOf symX) f7R) (gxOf symG) (sumsOf sums26) 10000 7 f7A f7T211 (((((((((((((((((((facts0 f7K).no f7Q0).no f7Q2).no f7Q4).no f7Q6).no f7Q8).no f7Q19).no f7Q30).no f7Q41).no f7Q52).no f7Q111).yes f7Q170).no f7Q171).no f7Q182).no f7Q193).yes f7Q204).no f7Q205).no f7Q207).no f7Q209) = true := by kernel_rfl
def f7T212 : STree := .test f7Q209 f7T210 f7T211
theorem f7C212 : checkT Tryd.prog (xWith (xOf symX) f7R) (gxOf symG) (sumsOf sums26) 10000 7 f7A f7T212 ((((((((((((((((((facts0 f7K).no f7Q0).no f7Q2).no f7Q4).no f7Q6).no f7Q8).no f7Q19).no f7Q30).no f7Q41).no f7Q52).no f7Q111).yes f7Q170).no f7Q171).no f7Q182).no f7Q193).yes f7Q204).no f7Q205).no f7Q207) = true := checkT_test f7C210 f7C211
def f7T213 : STree := .test f7Q207 f7T208 f7T212
theorem f7C213 : checkT Tryd.prog (xWith (xOf symX) f7R) (gxOf symG) (sumsOf sums26) 10000 7 f7A f7T213 (((((((((((((((((facts0 f7K).no f7Q0).no f7Q2).no f7Q4).no f7Q6).no f7Q8).no f7Q19).no f7Q30).no f7Q41).no f7Q52).no f7Q111).yes f7Q170).no f7Q171).no f7Q182).no f7Q193).yes f7Q204).no f7Q205) = true := checkT_test f7C208 f7C212
def f7T214 : STree := .test f7Q205 f7T206 f7T213
theorem f7C214 : checkT Tryd.prog (xWith (xOf symX) f7R) (gxOf symG) (sumsOf sums26) 10000 7 f7A f7T214 ((((((((((((((((facts0 f7K).no f7Q0).no f7Q2).no f7Q4).no f7Q6).no f7Q8).no f7Q19).no f7Q30).no f7Q41).no f7Q52).no f7Q111).yes f7Q170).no f7Q171).no f7Q182).no f7Q193).yes f7Q204) = true := checkT_test f7C206 f7C213
def f7Q215 : Quest := (.le [([], (Int.ofNat (nat_lit 1152921504606846977))), ([(.var (nat_lit 4))], (Int.ofNat (nat_lit 1)))])
def f7T216 : STree := (.leaf (.bool true))
theorem f7C216 : checkT Tryd.prog (xWith (xOf symX) f7R) (gxOf symG) (sumsOf sums26) 10000 7 f7A f7T216 (((((((((((((((((facts0 f7K).no f7Q0).no f7Q2).no f7Q4).no f7Q6).no f7Q8).no f7Q19).no f7Q30).no f7Q41).no f7Q52).no f7Q111).yes f7Q170).no f7Q171).no f7Q182).no f7Q193).no f7Q204).yes f7Q215) = true := by kernel_rfl
def f7Q217 : Quest := (.le [([], (Int.ofNat (nat_lit 1152921504606846977))), ([(.var (nat_lit 4))], (Int.negSucc (nat_lit 0)))])
def f7T218 : STree := (.leaf (.bool true))
theorem f7C218 : checkT Tryd.prog (xWith (xOf symX) f7R) (gxOf symG) (sumsOf sums26) 10000 7 f7A f7T218 ((((((((((((((((((facts0 f7K).no f7Q0).no f7Q2).no f7Q4).no f7Q6).no f7Q8).no f7Q19).no f7Q30).no f7Q41).no f7Q52).no f7Q111).yes f7Q170).no f7Q171).no f7Q182).no f7Q193).no f7Q204).no f7Q215).yes f7Q217) = true := by kernel_rfl
def f7Q219 : Quest := (.le [([], (Int.negSucc (nat_lit 1152921504606846975))), ([(.var (nat_lit 0)), (.var (nat_lit 4))], (Int.ofNat (nat_lit 1)))])
def f7T220 : STree := (.test (.le [([], (Int.negSucc (nat_lit 1152921504606846975))), ([(.var (nat_lit 0)), (.var (nat_lit 4))], (Int.negSucc (nat_lit 0)))])
  (.test (.le [([], (Int.negSucc (nat_lit 1152921504606846975))), ([(.var (nat_lit 1)), (.var (nat_lit 4))], (Int.ofNat (nat_lit 1)))])
  (.test (.le [([], (Int.negSucc (nat_lit 1152921504606846975))), ([(.var (nat_lit 1)), (.var (nat_lit 4))], (Int.negSucc (nat_lit 0)))])
  (.leaf (.bool true))
  (.leaf (.bool true)))
  (.leaf (.bool true)))
  (.test (.le [([], (Int.negSucc (nat_lit 1152921504606846975))), ([(.var (nat_lit 1)), (.var (nat_lit 4))], (Int.ofNat (nat_lit 1)))])
  (.test (.le [([], (Int.negSucc (nat_lit 1152921504606846975))), ([(.var (nat_lit 1)), (.var (nat_lit 4))], (Int.negSucc (nat_lit 0)))])
  (.leaf (.bool true))
  (.leaf (.bool true)))
  (.leaf (.bool true))))
theorem f7C220 : checkT Tryd.prog (xWith (xOf symX) f7R) (gxOf symG) (sumsOf sums26) 10000 7 f7A f7T220 (((((((((((((((((((facts0 f7K).no f7Q0).no f7Q2).no f7Q4).no f7Q6).no f7Q8).no f7Q19).no f7Q30).no f7Q41).no f7Q52).no f7Q111).yes f7Q170).no f7Q171).no f7Q182).no f7Q193).no f7Q204).no f7Q215).no f7Q217).yes f7Q219) = true := by kernel_rfl
def f7T221 : STree := (.test (.le [([], (Int.negSucc (nat_lit 1152921504606846975))), ([(.var (nat_lit 1)), (.var (nat_lit 4))], (Int.ofNat (nat_lit 1)))])
  (.test (.le [([], (Int.negSucc (nat_lit 1152921504606846975))), ([(.var (nat_lit 1)), (.var (nat_lit 4))], (Int.negSucc (nat_lit 0)))])
  (.leaf (.bool true))
  (.leaf (.bool true)))
  (.leaf (.bool true)))
theorem f7C221 : checkT Tryd.prog (xWith (xOf symX) f7R) (gxOf symG) (sumsOf sums26) 10000 7 f7A f7T221 (((((((((((((((((((facts0 f7K).no f7Q0).no f7Q2).no f7Q4).no f7Q6).no f7Q8).no f7Q19).no f7Q30).no f7Q41).no f7Q52).no f7Q111).yes f7Q170).no f7Q171).no f7Q182).no f7Q193).no f7Q204).no f7Q215).no f7Q217).no f7Q219) = true := by kernel_rfl
def f7T222 : STree := .test f7Q219 f7T220 f7T221
theorem f7C222 : checkT Tryd.prog (xWith (xOf symX) f7R) (gxOf symG) (sumsOf sums26) 10000 7 f7A f7T222 ((((((((((((((((((facts0 f7K).no f7Q0).no f7Q2).no f7Q4).no f7Q6).no f7Q8).no f7Q19).no f7Q30).no f7Q41).no f7Q52).no f7Q111).yes f7Q170).no f7Q171).no f7Q182).no f7Q193).no f7Q204).no f7Q215).no f7Q217) = true := checkT_test f7C220 f7C221
def f7T223 : STree := .test f7Q217 f7T218 f7T222
theorem f7C223 : checkT Tryd.prog (xWith (xOf symX) f7R) (gxOf symG) (sumsOf sums26) 10000 7 f7A f7T223 (((((((((((((((((facts0 f7K).no f7Q0).no f7Q2).no f7Q4).no f7Q6).no f7Q8).no f7Q19).no f7Q30).no f7Q41).no f7Q52).no f7Q111).yes f7Q170).no f7Q171).no f7Q182).no f7Q193).no f7Q204).no f7Q215) = true := checkT_test f7C218 f7C222
def f7T224 : STree := .test f7Q215 f7T216 f7T223
theorem f7C224 : checkT Tryd.prog (xWith (xOf symX) f7R) (gxOf symG) (sumsOf sums26) 10000 7 f7A f7T224 ((((((((((((((((facts0 f7K).no f7Q0).no f7Q2).no f7Q4).no f7Q6).no f7Q8).no f7Q19).no f7Q30).no f7Q41).no f7Q52).no f7Q111).yes f7Q170).no f7Q171).no f7Q182).no f7Q193).no f7Q204) = true := checkT_test f7C216 f7C223
def f7T225 : STree := .test f7Q204 f7T214 f7T224
theorem f7C225 : checkT Tryd.prog (xWith (xOf symX) f7R) (gxOf symG) (sumsOf sums26) 10000 7 f7A f7T225 (((((((((((((((facts0 f7K).no f7Q0).no f7Q2).no f7Q4).no f7Q6).no f7Q8).no f7Q19).no f7Q30).no f7Q41).no f7Q52).no f7Q111).yes f7Q170).no f7Q171).no f7Q182).no f7Q193) = true := checkT_test f7C214 f7C224
def f7T226 : STree := .test f7Q193 f7T203 f7T225
theorem f7C226 : checkT Tryd.prog (xWith (xOf symX) f7R) (gxOf symG) (sumsOf sums26) 10000 7 f7A f7T226 ((((((((((((((facts0 f7K).no f7Q0).no f7Q2).no f7Q4).no f7Q6).no f7Q8).no f7Q19).no f7Q30).no f7Q41).no f7Q52).no f7Q111).yes f7Q170).no f7Q171).no f7Q182) = true := checkT_test f7C203 f7C225
def f7T227 : STree := .test f7Q182 f7T192 f7T226
theorem f7C227 : checkT Tryd.prog (xWith (xOf symX) f7R) (gxOf symG) (sumsOf sums26) 10000 7 f7A f7T227 (((((((((((((facts0 f7K).no f7Q0).no f7Q2).no f7Q4).no f7Q6).no f7Q8).no f7Q19).no f7Q30).no f7Q41).no f7Q52).no f7Q111).yes f7Q170).no f7Q171) = true := checkT_test f7C192 f7C226
def f7T228 : STree := .test f7Q171 f7T181 f7T227
theorem f7C228 : checkT Tryd.prog (xWith (xOf symX) f7R) (gxOf symG) (sumsOf sums26) 10000 7 f7A f7T228 ((((((((((((facts0 f7K).no f7Q0).no f7Q2).no f7Q4).no f7Q6).no f7Q8).no f7Q19).no f7Q30).no f7Q41).no f7Q52).no f7Q111).yes f7Q170) = true := checkT_test f7C181 f7C227
def f7Q229 : Quest := (.le [([], (Int.ofNat (nat_lit 1152921504606846977))), ([(.var (nat_lit 1))], (Int.negSucc (nat_lit 0))), ([(.var (nat_lit 3))], (Int.negSucc (nat_lit 0)))])
def f7Q230 : Quest := (.le [([], (Int.ofNat (nat_lit 1152921504606846977))), ([(.var (nat_lit 0))], (Int.ofNat (nat_lit 1))), ([(.var (nat_lit 2))], (Int.negSucc (nat_lit 0)))])
def f7Q231 : Quest := (.le [([], (Int.ofNat (nat_lit 1152921504606846977))), ([(.var (nat_lit 4))], (Int.ofNat (nat_lit 1)))])
def f7T232 : STree := (.leaf (.bool true))
theorem f7C232 : checkT Tryd.prog (xWith (xOf symX) f7R) (gxOf symG) (sumsOf sums26) 10000 7 f7A f7T232 (((((((((((((((facts0 f7K).no f7Q0).no f7Q2).no f7Q4).no f7Q6).no f7Q8).no f7Q19).no f7Q30).no f7Q41).no f7Q52).no f7Q111).no f7Q170).yes f7Q229).yes f7Q230).yes f7Q231) = true := by kernel_rfl
def f7Q233 : Quest := (.le [([], (Int.ofNat (nat_lit 1152921504606846977))), ([(.var (nat_lit 4))], (Int.negSucc (nat_lit 0)))])
def f7T234 : STree := (.leaf (.bool true))
theorem f7C234 : checkT Tryd.prog (xWith (xOf symX) f7R) (gxOf symG) (sumsOf sums26) 10000 7 f7A f7T234 ((((((((((((((((facts0 f7K).no f7Q0).no f7Q2).no f7Q4).no f7Q6).no f7Q8).no f7Q19).no f7Q30).no f7Q41).no f7Q52).no f7Q111).no f7Q170).yes f7Q229).yes f7Q230).no f7Q231).yes f7Q233) = true := by kernel_rfl
def f7Q235 : Quest := (.le [([], (Int.negSucc (nat_lit 1152921504606846975))), ([(.var (nat_lit 0)), (.var (nat_lit 4))], (Int.ofNat (nat_lit 1)))])
def f7T236 : STree := (.test (.le [([], (Int.negSucc (nat_lit 1152921504606846975))), ([(.var (nat_lit 0)), (.var (nat_lit 4))], (Int.negSucc (nat_lit 0)))])
  (.test (.le [([], (Int.negSucc (nat_lit 1152921504606846975))), ([(.var (nat_lit 1)), (.var (nat_lit 4))], (Int.ofNat (nat_lit 1)))])
  (.test (.le [([], (Int.negSucc (nat_lit 1152921504606846975))), ([(.var (nat_lit 1)), (.var (nat_lit 4))], (Int.negSucc (nat_lit 0)))])
  (.leaf (.bool true))
  (.leaf (.bool true)))
  (.leaf (.bool true)))
  (.test (.le [([], (Int.negSucc (nat_lit 1152921504606846975))), ([(.var (nat_lit 1)), (.var (nat_lit 4))], (Int.ofNat (nat_lit 1)))])
  (.test (.le [([], (Int.negSucc (nat_lit 1152921504606846975))), ([(.var (nat_lit 1)), (.var (nat_lit 4))], (Int.negSucc (nat_lit 0)))])
  (.leaf (.bool true))
  (.leaf (.bool true)))
  (.leaf (.bool true))))
theorem f7C236 : checkT Tryd.prog (xWith (xOf symX) f7R) (gxOf symG) (sumsOf sums26) 10000 7 f7A f7T236 (((((((((((((((((facts0 f7K).no f7Q0).no f7Q2).no f7Q4).no f7Q6).no f7Q8).no f7Q19).no f7Q30).no f7Q41).no f7Q52).no f7Q111).no f7Q170).yes f7Q229).yes f7Q230).no f7Q231).no f7Q233).yes f7Q235) = true := by kernel_rfl
def f7T237 : STree := (.test (.le [([], (Int.negSucc (nat_lit 1152921504606846975))), ([(.var (nat_lit 1)), (.var (nat_lit 4))], (Int.ofNat (nat_lit 1)))])
  (.test (.le [([], (Int.negSucc (nat_lit 1152921504606846975))), ([(.var (nat_lit 1)), (.var (nat_lit 4))], (Int.negSucc (nat_lit 0)))])
  (.leaf (.bool true))
  (.leaf (.bool true)))
  (.leaf (.bool true)))
theorem f7C237 : checkT Tryd.prog (xWith (xOf symX) f7R) (gxOf symG) (sumsOf sums26) 10000 7 f7A f7T237 (((((((((((((((((facts0 f7K).no f7Q0).no f7Q2).no f7Q4).no f7Q6).no f7Q8).no f7Q19).no f7Q30).no f7Q41).no f7Q52).no f7Q111).no f7Q170).yes f7Q229).yes f7Q230).no f7Q231).no f7Q233).no f7Q235) = true := by kernel_rfl
def f7T238 : STree := .test f7Q235 f7T236 f7T237
theorem f7C238 : checkT Tryd.prog (xWith (xOf symX) f7R) (gxOf symG) (sumsOf sums26) 10000 7 f7A f7T238 ((((((((((((((((facts0 f7K).no f7Q0).no f7Q2).no f7Q4).no f7Q6).no f7Q8).no f7Q19).no f7Q30).no f7Q41).no f7Q52).no f7Q111).no f7Q170).yes f7Q229).yes f7Q230).no f7Q231).no f7Q233) = true := checkT_test f7C236 f7C237
def f7T239 : STree := .test f7Q233 f7T234 f7T238
theorem f7C239 : checkT Tryd.prog (xWith (xOf symX) f7R) (gxOf symG) (sumsOf sums26) 10000 7 f7A f7T239 (((((((((((((((facts0 f7K).no f7Q0).no f7Q2).no f7Q4).no f7Q6).no f7Q8).no f7Q19).no f7Q30).no f7Q41).no f7Q52).no f7Q111).no f7Q170).yes f7Q229).yes f7Q230).no f7Q231) = true := checkT_test f7C234 f7C238
def f7T240 : STree := .test f7Q231 f7T232 f7T239
theorem f7C240 : checkT Tryd.prog (xWith (xOf symX) f7R) (gxOf symG) (sumsOf sums26) 10000 7 f7A f7T240 ((((((((((((((facts0 f7K).no f7Q0).no f7Q2).no f7Q4).no f7Q6).no f7Q8).no f7Q19).no f7Q30).no f7Q41).no f7Q52).no f7Q111).no f7Q170).yes f7Q229).yes f7Q230) = true := checkT_test f7C232 f7C239
def f7Q241 : Quest := (.le [([], (Int.ofNat (nat_lit 1152921504606846977))), ([(.var (nat_lit 0))], (Int.negSucc (nat_lit 0))), ([(.var (nat_lit 2))], (Int.ofNat (nat_lit 1)))])
def f7Q242 : Quest := (.le [([], (Int.ofNat (nat_lit 1152921504606846977))), ([(.var (nat_lit 4))], (Int.ofNat (nat_lit 1)))])
def f7T243 : STree := (.leaf (.bool true))
theorem f7C243 : checkT Tryd.prog (xWith (xOf symX) f7R) (gxOf symG) (sumsOf sums26) 10000 7 f7A f7T243 ((((((((((((((((facts0 f7K).no f7Q0).no f7Q2).no f7Q4).no f7Q6).no f7Q8).no f7Q19).no f7Q30).no f7Q41).no f7Q52).no f7Q111).no f7Q170).yes f7Q229).no f7Q230).yes f7Q241).yes f7Q242) = true := by kernel_rfl
def f7Q244 : Quest := (.le [([], (Int.ofNat (nat_lit 1152921504606846977))), ([(.var (nat_lit 4))], (Int.negSucc (nat_lit 0)))])
def f7T245 : STree := (.leaf (.bool true))
theorem f7C245 : checkT Tryd.prog (xWith (xOf symX) f7R) (gxOf symG) (sumsOf sums26) 10000 7 f7A f7T245 (((((((((((((((((facts0 f7K).no f7Q0).no f7Q2).no f7Q4).no f7Q6).no f7Q8).no f7Q19).no f7Q30).no f7Q41).no f7Q52).no f7Q111).no f7Q170).yes f7Q229).no f7Q230).yes f7Q241).no f7Q242).yes f7Q244) = true := by kernel_rfl
def f7Q246 : Quest := (.le [([], (Int.negSucc (nat_lit 1152921504606846975))), ([(.var (nat_lit 0)), (.var (nat_lit 4))], (Int.ofNat (nat_lit 1)))])
def f7T247 : STree := (.test (.le [([], (Int.negSucc (nat_lit 1152921504606846975))), ([(.var (nat_lit 0)), (.var (nat_lit 4))], (Int.negSucc (nat_lit 0)))])
  (.test (.le [([], (Int.negSucc (nat_lit 1152921504606846975))), ([(.var (nat_lit 1)), (.var (nat_lit 4))], (Int.ofNat (nat_lit 1)))])
  (.test (.le [([], (Int.negSucc (nat_lit 1152921504606846975))), ([(.var (nat_lit 1)), (.var (nat_lit 4))], (Int.negSucc (nat_lit 0)))])
  (.leaf (.bool true))
  (.leaf (.bool true)))
  (.leaf (.bool true)))
  (.test (.le [([], (Int.negSucc (nat_lit 1152921504606846975))), ([(.var (nat_lit 1)), (.var (nat_lit 4))], (Int.ofNat (nat_lit 1)))])
  (.test (.le [([], (Int.negSucc (nat_lit 1152921504606846975))), ([(.var (nat_lit 1)), (.var (nat_lit 4))], (Int.negSucc (nat_lit 0)))])
  (.leaf (.bool true))
  (.leaf (.bool true)))
  (.leaf (.bool true))))
theorem f7C247 : checkT Tryd.prog (xWith (xOf symX) f7R) (gxOf symG) (sumsOf sums26) 10000 7 f7A f7T247 ((((((((((((((((((facts0 f7K).no f7Q0).no f7Q2).no f7Q4).no f7Q6).no f7Q8).no f7Q19).no f7Q30).no f7Q41).no f7Q52).no f7Q111).no f7Q170).yes f7Q229).no f7Q230).yes f7Q241).no f7Q242).no f7Q244).yes f7Q246) = true := by kernel_rfl
def f7T248 : STree := (.test (.le [([], (Int.negSucc (nat_lit 1152921504606846975))), ([(.var (nat_lit 1)), (.var (nat_lit 4))], (Int.ofNat (nat_lit 1)))])
  (.test (.le [([], (Int.negSucc (nat_lit 1152921504606846975))), ([(.var (nat_lit 1)), (.var (nat_lit 4))], (Int.negSucc (nat_lit 0)))])
  (.leaf (.bool true))
  (.leaf (.bool true)))
  (.leaf (.bool true)))
theorem f7C248 : checkT Tryd.prog (xWith (xOf symX) f7R) (gxOf symG) (sumsOf sums26) 10000 7 f7A f7T248 ((((((((((((((((((facts0 f7K).no f7Q0).no f7Q2).no f7Q4).no f7Q6).no f7Q8).no f7Q19).no f7Q30).no f7Q41).no f7Q52).no f7Q111).no f7Q170).yes f7Q229).no f7Q230).yes f7Q241).no f7Q242).no f7Q244).no f7Q246) = true := by kernel_rfl
def f7T249 : STree := .test f7Q246 f7T247 f7T248
theorem f7C249 : checkT Tryd.prog (xWith (xOf symX) f7R) (gxOf symG) (sumsOf sums26) 10000 7 f7A f7T249 (((((((((((((((((facts0 f7K).no f7Q0).no f7Q2).no f7Q4).no f7Q6).no f7Q8).no f7Q19).no f7Q30).no f7Q41).no f7Q52).no f7Q111).no f7Q170).yes f7Q229).no f7Q230).yes f7Q241).no f7Q242).no f7Q244) = true := checkT_test f7C247 f7C248
def f7T250 : STree := .test f7Q244 f7T245 f7T249
theorem f7C250 : checkT Tryd.prog (xWith (xOf symX) f7R) (gxOf symG) (sumsOf sums26) 10000 7 f7A f7T250 ((((((((((((((((facts0 f7K).no f7Q0).no f7Q2).no f7Q4).no f7Q6).no f7Q8).no f7Q19).no f7Q30).no f7Q41).no f7Q52).no f7Q111).no f7Q170).yes f7Q229).no f7Q230).yes f7Q241).no f7Q242) = true := checkT_test f7C245 f7C249
def f7T251 : STree := .test f7Q242 f7T243 f7T250
theorem f7C251 : checkT Tryd.prog (xWith (xOf symX) f7R) (gxOf symG) (sumsOf sums26) 10000 7 f7A f7T251 (((((((((((((((facts0 f7K).no f7Q0).no f7Q2).no f7Q4).no f7Q6).no f7Q8).no f7Q19).no f7Q30).no f7Q41).no f7Q52).no f7Q111).no f7Q170).yes f7Q229).no f7Q230).yes f7Q241) = true := checkT_test f7C243 f7C250
def f7Q252 : Quest := (.le [([], (Int.ofNat (nat_lit 1152921504606846977))), ([(.var (nat_lit 1))], (Int.ofNat (nat_lit 1))), ([(.var (nat_lit 3))], (Int.negSucc (nat_lit 0)))])
def f7Q253 : Quest := (.le [([], (Int.ofNat (nat_lit 1152921504606846977))), ([(.var (nat_lit 4))], (Int.ofNat (nat_lit 1)))])
def f7T254 : STree := (.leaf (.bool true))
theorem f7C254 : checkT Tryd.prog (xWith (xOf symX) f7R) (gxOf symG) (sumsOf sums26) 10000 7 f7A f7T254 (((((((((((((((((facts0 f7K).no f7Q0).no f7Q2).no f7Q4).no f7Q6).no f7Q8).no f7Q19).no f7Q30).no f7Q41).no f7Q52).no f7Q111).no f7Q170).yes f7Q229).no f7Q230).no f7Q241).yes f7Q252).yes f7Q253) = true := by kernel_rfl
def f7Q255 : Quest := (.le [([], (Int.ofNat (nat_lit 1152921504606846977))), ([(.var (nat_lit 4))], (Int.negSucc (nat_lit 0)))])
def f7T256 : STree := (.leaf (.bool true))
theorem f7C256 : checkT Tryd.prog (xWith (xOf symX) f7R) (gxOf symG) (sumsOf sums26) 10000 7 f7A f7T256 ((((((((((((((((((facts0 f7K).no f7Q0).no f7Q2).no f7Q4).no f7Q6).no f7Q8).no f7Q19).no f7Q30).no f7Q41).no f7Q52).no f7Q111).no f7Q170).yes f7Q229).no f7Q230).no f7Q241).yes f7Q252).no f7Q253).yes f7Q255) = true := by kernel_rfl
def f7Q257 : Quest := (.le [([], (Int.negSucc (nat_lit 1152921504606846975))), ([(.var (nat_lit 0)), (.var (nat_lit 4))], (Int.ofNat (nat_lit 1)))])
def f7T258 : STree := (.test (.le [([], (Int.negSucc (nat_lit 1152921504606846975))), ([(.var (nat_lit 0)), (.var (nat_lit 4))], (Int.negSucc (nat_lit 0)))])
  (.test (.le [([], (Int.negSucc (nat_lit 1152921504606846975))), ([(.var (nat_lit 1)), (.var (nat_lit 4))], (Int.ofNat (nat_lit 1)))])
  (.test (.le [([], (Int.negSucc (nat_lit 1152921504606846975))), ([(.var (nat_lit 1)), (.var (nat_lit 4))], (Int.negSucc (nat_lit 0)))])
  (.leaf (.bool true))
  (.leaf (.bool true)))
  (.leaf (.bool true)))
  (.test (.le [([], (Int.negSucc (nat_lit 1152921504606846975))), ([(.var (nat_lit 1)), (.var (nat_lit 4))], (Int.ofNat (nat_lit 1)))])
  (.test (.le [([], (Int.negSucc (nat_lit 1152921504606846975))), ([(.var (nat_lit 1)), (.var (nat_lit 4))], (Int.negSucc (nat_lit 0)))])
  (.leaf (.bool true))
  (.leaf (.bool true)))
  (.leaf (.bool true))))
theorem f7C258 : checkT Tryd.prog (xWith (xOf symX) f7R) (gxOf symG) (sumsOf sums26) 10000 7 f7A f7T258 (((((((((((((((((((facts0 f7K).no f7Q0).no f7Q2).no f7Q4).no f7Q6).no f7Q8).no f7Q19).no f7Q30).no f7Q41).no f7Q52).no f7Q111).no f7Q170).yes f7Q229).no f7Q230).no f7Q241).yes f7Q252).no f7Q253).no f7Q255).yes f7Q257) = true := by kernel_rfl
def f7T259 : STree := (.test (.le [([], (Int.negSucc (nat_lit 1152921504606846975))), ([(.var (nat_lit 1)), (.var (nat_lit 4))], (Int.ofNat (nat_lit 1)))])
  (.test (.le [([], (Int.negSucc (nat_lit 1152921504606846975))), ([(.var (nat_lit 1)), (.var (nat_lit 4))], (Int.negSucc (nat_lit 0)))])
  (.leaf (.bool true))
  (.leaf (.bool true)))
  (.leaf (.bool true)))
theorem f7C259 : checkT Tryd.prog (xWith (xOf symX) f7R) (gxOf symG) (sumsOf sums26) 10000 7 f7A f7T259 (((((((((((((((((((facts0 f7K).no f7Q0).no f7Q2).no f7Q4).no f7Q6).no f7Q8).no f7Q19).no f7Q30).no f7Q41).no f7Q52).no f7Q111).no f7Q170).yes f7Q229).no f7Q230).no f7Q241).yes f7Q252).no f7Q253).no f7Q255).no f7Q257) = true := by kernel_rfl
def f7T260 : STree := .test f7Q257 f7T258 f7T259
theorem f7C260 : checkT Tryd.prog (xWith (xOf symX) f7R) (gxOf symG) (sumsOf sums26) 10000 7 f7A f7T260 ((((((((((((((((((facts0 f7K).no f7Q0).no f7Q2).no f7Q4).no f7Q6).no f7Q8).no f7Q19).no f7Q30).no f7Q41).no f7Q52).no f7Q111).no f7Q170).yes f7Q229).no f7Q230).no f7Q241).yes f7Q252).no f7Q253).no f7Q255) = true := checkT_test f7C258 f7C259
def f7T261 : STree := .test f7Q255 f7T256 f7T260
theorem f7C261 : checkT Tryd.prog (xWith (xOf symX) f7R) (gxOf symG) (sumsOf sums26) 10000 7 f7A f7T261 (((((((((((((((((facts0 f7K).no f7Q0).no f7Q2).no f7Q4).no f7Q6).no f7Q8).no f7Q19).no f7Q30).no f7Q41).no f7Q52).no f7Q111).no f7Q170).yes f7Q229).no f7Q230).no f7Q241).yes f7Q252).no f7Q253) = true := checkT_test f7C256 f7C260
def f7T262 : STree := .test f7Q253 f7T254 f7T261
theorem f7C262 : checkT Tryd.prog (xWith (xOf symX) f7R) (gxOf symG) (sumsOf sums26) 10000 7 f7A f7T262 ((((((((((((((((facts0 f7K).no f7Q0).no f7Q2).no f7Q4).no f7Q6).no f7Q8).no f7Q19).no f7Q30).no f7Q41).no f7Q52).no f7Q111).no f7Q170).yes f7Q229).no f7Q230).no f7Q241).yes f7Q252) = true := checkT_test f7C254 f7C261
def f7Q263 : Quest := (.le [([], (Int.ofNat (nat_lit 1152921504606846977))), ([(.var (nat_lit 1))], (Int.negSucc (nat_lit 0))), ([(.var (nat_lit 3))], (Int.ofNat (nat_lit 1)))])
def f7Q264 : Quest := (.le [([], (Int.ofNat (nat_lit 1152921504606846977))), ([(.var (nat_lit 4))], (Int.ofNat (nat_lit 1)))])
def f7T265 : STree := (.leaf (.bool true))
theorem f7C265 : checkT Tryd.prog (xWith (xOf symX) f7R) (gxOf symG) (sumsOf sums26) 10000 7 f7A f7T265 ((((((((((((((((((facts0 f7K).no f7Q0).no f7Q2).no f7Q4).no f7Q6).no f7Q8).no f7Q19).no f7Q30).no f7Q41).no f7Q52).no f7Q111).no f7Q170).yes f7Q229).no f7Q230).no f7Q241).no f7Q252).yes f7Q263).yes f7Q264) = true := by kernel_rfl
def f7Q266 : Quest := (.le [([], (Int.ofNat (nat_lit 1152921504606846977))), ([(.var (nat_lit 4))], (Int.negSucc (nat_lit 0)))])
def f7T267 : STree := (.leaf (.bool true))
theorem f7C267 : checkT Tryd.prog (xWith (xOf symX) f7R) (gxOf symG) (sumsOf sums26) 10000 7 f7A f7T267 (((((((((((((((((((facts0 f7K).no f7Q0).no f7Q2).no f7Q4).no f7Q6).no f7Q8).no f7Q19).no f7Q30).no f7Q41).no f7Q52).no f7Q111).no f7Q170).yes f7Q229).no f7Q230).no f7Q241).no f7Q252).yes f7Q263).no f7Q264).yes f7Q266) = true := by kernel_rfl
def f7Q268 : Quest := (.le [([], (Int.negSucc (nat_lit 1152921504606846975))), ([(.var (nat_lit 0)), (.var (nat_lit 4))], (Int.ofNat (nat_lit 1)))])
def f7T269 : STree := (.test (.le [([], (Int.negSucc (nat_lit 1152921504606846975))), ([(.var (nat_lit 0)), (.var (nat_lit 4))], (Int.negSucc (nat_lit 0)))])
  (.test (.le [([], (Int.negSucc (nat_lit 1152921504606846975))), ([(.var (nat_lit 1)), (.var (nat_lit 4))], (Int.ofNat (nat_lit 1)))])
  (.test (.le [([], (Int.negSucc (nat_lit 1152921504606846975))), ([(.var (nat_lit 1)), (.var (nat_lit 4))], (Int.negSucc (nat_lit 0)))])
  (.leaf (.bool true))
  (.leaf (.bool true)))
  (.leaf (.bool true)))
  (.test (.le [([], (Int.negSucc (nat_lit 1152921504606846975))), ([(.var (nat_lit 1)), (.var (nat_lit 4))], (Int.ofNat (nat_lit 1)))])
  (.test (.le [([], (Int.negSucc (nat_lit 1152921504606846975))), ([(.var (nat_lit 1)), (.var (nat_lit 4))], (Int.negSucc (nat_lit 0)))])
  (.leaf (.bool true))
  (.leaf (.bool true)))
  (.leaf (.bool true))))
theorem f7C269 : checkT Tryd.prog (xWith (xOf symX) f7R) (gxOf symG) (sumsOf sums26) 10000 7 f7A f7T269 ((((((((((((((((((((facts0 f7K).no f7Q0).no f7Q2).no f7Q4).no f7Q6).no f7Q8).no f7Q19).no f7Q30).no f7Q41).no f7Q52).no f7Q111).no f7Q170).yes f7Q229).no f7Q230).no f7Q241).no f7Q252).yes f7Q263).no f7Q264).no f7Q266).yes f7Q268) = true := by kernel_rfl
def f7T270 : STree := (.test (.le [([], (Int.negSucc (nat_lit 1152921504606846975))), ([(.var (nat_lit 1)), (.var (nat_lit 4))], (Int.ofNat (nat_lit 1)))])
  (.test (.le [([], (Int.negSucc (nat_lit 1152921504606846975))), ([(.var (nat_lit 1)), (.var (nat_lit 4))], (Int.negSucc (nat_lit 0)))])
  (.leaf (.bool true))
  (.leaf (.bool true)))
  (.leaf (.bool true)))
theorem f7C270 : checkT Tryd.prog (xWith (xOf symX) f7R) (gxOf symG) (sumsOf sums26) 10000 7 f7A f7T270 ((((((((((((((((((((facts0 f7K).no f7Q0).no f7Q2).no f7Q4).no f7Q6).no f7Q8).no f7Q19).no f7Q30).no f7Q41).no f7Q52).no f7Q111).no f7Q170).yes f7Q229).no f7Q230).no f7Q241).no f7Q252).yes f7Q263).no f7Q264).no f7Q266).no f7Q268) = true := by kernel_rfl
def f7T271 : STree := .test f7Q268 f7T269 f7T270
theorem f7C271 : checkT Tryd.prog (xWith (xOf symX) f7R) (gxOf symG) (sumsOf sums26) 10000 7 f7A f7T271 (((((((((((((((((((facts0 f7K).no f7Q0).no f7Q2).no f7Q4).no f7Q6).no f7Q8).no f7Q19).no f7Q30).no f7Q41).no f7Q52).no f7Q111).no f7Q170).yes f7Q229).no f7Q230).no f7Q241).no f7Q252).yes f7Q263).no f7Q264).no f7Q266) = true := checkT_test f7C269 f7C270
def f7T272 : STree := .test f7Q266 f7T267 f7T271
theorem f7C272 : checkT Tryd.prog (xWith (xOf symX) f7R) (gxOf symG) (sumsOf sums26) 10000 7 f7A f7T272 ((((((((((((((((((facts0 f7K).no f7Q0).no f7Q2).no f7Q4).no f7Q6).no f7Q8).no f7Q19).no f7Q30).no f7Q41).no f7Q52).no f7Q111).no f7Q170).yes f7Q229).no f7Q230).no f7Q241).no f7Q252).yes f7Q263).no f7Q264) = true := checkT_test f7C267 f7C271
def f7T273 : STree := .test f7Q264 f7T265 f7T272
theorem f7C273 : checkT Tryd.prog (xWith (xOf symX) f7R) (gxOf symG) (sumsOf sums26) 10000 7 f7A f7T273 (((((((((((((((((facts0 f7K).no f7Q0).no f7Q2).no f7Q4).no f7Q6).no f7Q8).no f7Q19).no f7Q30).no f7Q41).no f7Q52).no f7Q111).no f7Q170).yes f7Q229).no f7Q230).no f7Q241).no f7Q252).yes f7Q263) = true := checkT_test f7C265 f7C272
def f7Q274 : Quest := (.le [([], (Int.ofNat (nat_lit 1152921504606846977))), ([(.var (nat_lit 4))], (Int.ofNat (nat_lit 1)))])
def f7T275 : STree := (.leaf (.bool true))
theorem f7C275 : checkT Tryd.prog (xWith (xOf symX) f7R) (gxOf symG) (sumsOf sums26) 10000 7 f7A f7T275 ((((((((((((((((((facts0 f7K).no f7Q0).no f7Q2).no f7Q4).no f7Q6).no f7Q8).no f7Q19).no f7Q30).no f7Q41).no f7Q52).no f7Q111).no f7Q170).yes f7Q229).no f7Q230).no f7Q241).no f7Q252).no f7Q263).yes f7Q274) = true := by kernel_rfl
def f7Q276 : Quest := (.le [([], (Int.ofNat (nat_lit 1152921504606846977))), ([(.var (nat_lit 4))], (Int.negSucc (nat_lit 0)))])
def f7T277 : STree := (.leaf (.bool true))
theorem f7C277 : checkT Tryd.prog (xWith (xOf symX) f7R) (gxOf symG) (sumsOf sums26) 10000 7 f7A f7T277 (((((((((((((((((((facts0 f7K).no f7Q0).no f7Q2).no f7Q4).no f7Q6).no f7Q8).no f7Q19).no f7Q30).no f7Q41).no f7Q52).no f7Q111).no f7Q170).yes f7Q229).no f7Q230).no f7Q241).no f7Q252).no f7Q263).no f7Q274).yes f7Q276) = true := by kernel_rfl
def f7Q278 : Quest := (.le [([], (Int.negSucc (nat_lit 1152921504606846975))), ([(.var (nat_lit 0)), (.var (nat_lit 4))], (Int.ofNat (nat_lit 1)))])
def f7T279 : STree := (.test (.le [([], (Int.negSucc (nat_lit 1152921504606846975))), ([(.var (nat_lit 0)), (.var (nat_lit 4))], (Int.negSucc (nat_lit 0)))])
  (.test (.le [([], (Int.negSucc (nat_lit 1152921504606846975))), ([(.var (nat_lit 1)), (.var (nat_lit 4))], (Int.ofNat (nat_lit 1)))])
  (.test (.le [([], (Int.negSucc (nat_lit 1152921504606846975))), ([(.var (nat_lit 1)), (.var (nat_lit 4))], (Int.negSucc (nat_lit 0)))])
  (.leaf (.bool true))
  (.leaf (.bool true)))
  (.leaf (.bool true)))
  (.test (.le [([], (Int.negSucc (nat_lit 1152921504606846975))), ([(.var (nat_lit 1)), (.var (nat_lit 4))], (Int.ofNat (nat_lit 1)))])
  (.test (.le [([], (Int.negSucc (nat_lit 1152921504606846975))), ([(.var (nat_lit 1)), (.var (nat_lit 4))], (Int.negSucc (nat_lit 0)))])
  (.leaf (.bool true))
  (.leaf (.bool true)))
  (.leaf (.bool true))))
theorem f7C279 : checkT Tryd.prog (xWith (xOf symX) f7R) (gxOf symG) (sumsOf sums26) 10000 7 f7A f7T279 ((((((((((((((((((((facts0 f7K).no f7Q0).no f7Q2).no f7Q4).no f7Q6).no f7Q8).no f7Q19).no f7Q30).no f7Q41).no f7Q52).no f7Q111).no f7Q170).yes f7Q229).no f7Q230).no f7Q241).no f7Q252).no f7Q263).no f7Q274).no f7Q276).yes f7Q278) = true := by kernel_rfl
def f7T280 : STree := (.test (.le [([], (Int.negSucc (nat_lit 1152921504606846975))), ([(.var (nat_lit 1)), (.var (nat_lit 4))], (Int.ofNat (nat_lit 1)))])
  (.test (.le [([], (Int.negSucc (nat_lit 1152921504606846975))), ([(.var (nat_lit 1)), (.var (nat_lit 4))], (Int.negSucc (nat_lit 0)))])
  (.leaf (.bool true))
  (.leaf (.bool true)))
  (.leaf (.bool true)))
theorem f7C280 : checkT Tryd.prog (xWith (xOf symX) f7R) (gxOf symG) (sumsOf sums26) 10000 7 f7A f7T280 ((((((((((((((((((((facts0 f7K).no f7Q0).no f7Q2).no f7Q4).no f7Q6).no f7Q8).no f7Q19).no f7Q30).no f7Q41).no f7Q52).no f7Q111).no f7Q170).yes f7Q229).no f7Q230).no f7Q241).no f7Q252).no f7Q263).no f7Q274).no f7Q276).no f7Q278) = true := by kernel_rfl
def f7T281 : STree := .test f7Q278 f7T279 f7T280
theorem f7C281 : checkT Tryd.prog (xWith (xOf symX) f7R) (gxOf symG) (sumsOf sums26) 10000 7 f7A f7T281 (((((((((((((((((((facts0 f7K).no f7Q0).no f7Q2).no f7Q4).no f7Q6).no f7Q8).no f7Q19).no f7Q30).no f7Q41).no f7Q52).no f7Q111).no f7Q170).yes f7Q229).no f7Q230).no f7Q241).no f7Q252).no f7Q263).no f7Q274).no f7Q276) = true := checkT_test f7C279 f7C280
def f7T282 : STree := .test f7Q276 f7T277 f7T281
theorem f7C282 : checkT Tryd.prog (xWith (xOf symX) f7R) (gxOf symG) (sumsOf sums26) 10000 7 f7A f7T282 ((((((((((((((((((facts0 f7K).no f7Q0).no f7Q2).no f7Q4).no f7Q6).no f7Q8).no f7Q19).no f7Q30).no f7Q41).no f7Q52).no f7Q111).no f7Q170).yes f7Q229).no f7Q230).no f7Q241).no f7Q252).no f7Q263).no f7Q274) = true := checkT_test f7C277 f7C281
def f7T283 : STree := .test f7Q274 f7T275 f7T282
theorem f7C283 : checkT Tryd.prog (xWith (xOf symX) f7R) (gxOf symG) (sumsOf sums26) 10000 7 f7A f7T283 (((((((((((((((((facts0 f7K).no f7Q0).no f7Q2).no f7Q4).no f7Q6).no f7Q8).no f7Q19).no f7Q30).no f7Q41).no f7Q52).no f7Q111).no f7Q170).yes f7Q229).no f7Q230).no f7Q241).no f7Q252).no f7Q263) = true := checkT_test f7C275 f7C282
def f7T284 : STree := .test f7Q263 f7T273 f7T283
theorem f7C284 : checkT Tryd.prog (xWith (xOf symX) f7R) (gxOf symG) (sumsOf sums26) 10000 7 f7A f7T284 ((((((((((((((((facts0 f7K).no f7Q0).no f7Q2).no f7Q4).no f7Q6).no f7Q8).no f7Q19).no f7Q30).no f7Q41).no f7Q52).no f7Q111).no f7Q170).yes f7Q229).no f7Q230).no f7Q241).no f7Q252) = true := checkT_test f7C273 f7C283
def f7T285 : STree := .test f7Q252 f7T262 f7T284
theorem f7C285 : checkT Tryd.prog (xWith (xOf symX) f7R) (gxOf symG) (sumsOf sums26) 10000 7 f7A f7T285 (((((((((((((((facts0 f7K).no f7Q0).no f7Q2).no f7Q4).no f7Q6).no f7Q8).no f7Q19).no f7Q30).no f7Q41).no f7Q52).no f7Q111).no f7Q170).yes f7Q229).no f7Q230).no f7Q241) = true := checkT_test f7C262 f7C284
def f7T286 : STree := .test f7Q241 f7T251 f7T285
theorem f7C286 : checkT Tryd.prog (xWith (xOf symX) f7R) (gxOf symG) (sumsOf sums26) 10000 7 f7A f7T286 ((((((((((((((facts0 f7K).no f7Q0).no f7Q2).no f7Q4).no f7Q6).no f7Q8).no f7Q19).no f7Q30).no f7Q41).no f7Q52).no f7Q111).no f7Q170).yes f7Q229).no f7Q230) = true := checkT_test f7C251 f7C285
def f7T287 : STree := .test f7Q230 f7T240 f7T286
theorem f7C287 : checkT Tryd.prog (xWith (xOf symX) f7R) (gxOf symG) (sumsOf sums26) 10000 7 f7A f7T287 (((((((((((((facts0 f7K).no f7Q0).no f7Q2).no f7Q4).no f7Q6).no f7Q8).no f7Q19).no f7Q30).no f7Q41).no f7Q52).no f7Q111).no f7Q170).yes f7Q229) = true := checkT_test f7C240 f7C286
def f7Q288 : Quest := (.le [([], (Int.ofNat (nat_lit 1152921504606846977))), ([(.var (nat_lit 0))], (Int.ofNat (nat_lit 1))), ([(.var (nat_lit 2))], (Int.negSucc (nat_lit 0)))])
def f7Q289 : Quest := (.le [([], (Int.ofNat (nat_lit 1152921504606846977))), ([(.var (nat_lit 4))], (Int.ofNat (nat_lit 1)))])
def f7T290 : STree := (.leaf (.bool true))
theorem f7C290 : checkT Tryd.prog (xWith (xOf symX) f7R) (gxOf symG) (sumsOf sums26) 10000 7 f7A f7T290 (((((((((((((((facts0 f7K).no f7Q0).no f7Q2).no f7Q4).no f7Q6).no f7Q8).no f7Q19).no f7Q30).no f7Q41).no f7Q52).no f7Q111).no f7Q170).no f7Q229).yes f7Q288).yes f7Q289) = true := by kernel_rfl
def f7Q291 : Quest := (.le [([], (Int.ofNat (nat_lit 1152921504606846977))), ([(.var (nat_lit 4))], (Int.negSucc (nat_lit 0)))])
def f7T292 : STree := (.leaf (.bool true))
theorem f7C292 : checkT Tryd.prog (xWith (xOf symX) f7R) (gxOf symG) (sumsOf sums26) 10000 7 f7A f7T292 ((((((((((((((((facts0 f7K).no f7Q0).no f7Q2).no f7Q4).no f7Q6).no f7Q8).no f7Q19).no f7Q30).no f7Q41).no f7Q52).no f7Q111).no f7Q170).no f7Q229).yes f7Q288).no f7Q289).yes f7Q291) = true := by kernel_rfl
def f7Q293 : Quest := (.le [([], (Int.negSucc (nat_lit 1152921504606846975))), ([(.var (nat_lit 0)), (.var (nat_lit 4))], (Int.ofNat (nat_lit 1)))])
def f7T294 : STree := (.test (.le [([], (Int.negSucc (nat_lit 1152921504606846975))), ([(.var (nat_lit 0)), (.var (nat_lit 4))], (Int.negSucc (nat_lit 0)))])
  (.test (.le [([], (Int.negSucc (nat_lit 1152921504606846975))), ([(.var (nat_lit 1)), (.var (nat_lit 4))], (Int.ofNat (nat_lit 1)))])
  (.test (.le [([], (Int.negSucc (nat_lit 1152921504606846975))), ([(.var (nat_lit 1)), (.var (nat_lit 4))], (Int.negSucc (nat_lit 0)))])
  (.leaf (.bool true))
  (.leaf (.bool true)))
  (.leaf (.bool true)))
  (.test (.le [([], (Int.negSucc (nat_lit 1152921504606846975))), ([(.var (nat_lit 1)), (.var (nat_lit 4))], (Int.ofNat (nat_lit 1)))])
  (.test (.le [([], (Int.negSucc (nat_lit 1152921504606846975))), ([(.var (nat_lit 1)), (.var (nat_lit 4))], (Int.negSucc (nat_lit 0)))])
  (.leaf (.bool true))
  (.leaf (.bool true)))
  (.leaf (.bool true))))
theorem f7C294 : checkT Tryd.prog (xWith (xOf symX) f7R) (gxOf symG) (sumsOf sums26) 10000 7 f7A f7T294 (((((((((((((((((facts0 f7K).no f7Q0).no f7Q2).no f7Q4).no f7Q6).no f7Q8).no f7Q19).no f7Q30).no f7Q41).no f7Q52).no f7Q111).no f7Q170).no f7Q229).yes f7Q288).no f7Q289).no f7Q291).yes f7Q293) = true := by kernel_rfl
def f7T295 : STree := (.test (.le [([], (Int.negSucc (nat_lit 1152921504606846975))), ([(.var (nat_lit 1)), (.var (nat_lit 4))], (Int.ofNat (nat_lit 1)))])
  (.test (.le [([], (Int.negSucc (nat_lit 1152921504606846975))), ([(.var (nat_lit 1)), (.var (nat_lit 4))], (Int.negSucc (nat_lit 0)))])
  (.leaf (.bool true))
  (.leaf (.bool true)))
  (.leaf (.bool true)))
theorem f7C295 : checkT Tryd.prog (xWith (xOf symX) f7R) (gxOf symG) (sumsOf sums26) 10000 7 f7A f7T295 (((((((((((((((((facts0 f7K).no f7Q0).no f7Q2).no f7Q4).no f7Q6).no f7Q8).no f7Q19).no f7Q30).no f7Q41).no f7Q52).no f7Q111).no f7Q170).no f7Q229).yes f7Q288).no f7Q289).no f7Q291).no f7Q293) = true := by kernel_rfl
def f7T296 : STree := .test f7Q293 f7T294 f7T295
theorem f7C296 : checkT Tryd.prog (xWith (xOf symX) f7R) (gxOf symG) (sumsOf sums26) 10000 7 f7A f7T296 ((((((((((((((((facts0 f7K).no f7Q0).no f7Q2).no f7Q4).no f7Q6).no f7Q8).no f7Q19).no f7Q30).no f7Q41).no f7Q52).no f7Q111).no f7Q170).no f7Q229).yes f7Q288).no f7Q289).no f7Q291) = true := checkT_test f7C294 f7C295
def f7T297 : STree := .test f7Q291 f7T292 f7T296
theorem f7C297 : checkT Tryd.prog (xWith (xOf symX) f7R) (gxOf symG) (sumsOf sums26) 10000 7 f7A f7T297 (((((((((((((((facts0 f7K).no f7Q0).no f7Q2).no f7Q4).no f7Q6).no f7Q8).no f7Q19).no f7Q30).no f7Q41).no f7Q52).no f7Q111).no f7Q170).no f7Q229).yes f7Q288).no f7Q289) = true := checkT_test f7C292 f7C296
def f7T298 : STree := .test f7Q289 f7T290 f7T297
theorem f7C298 : checkT Tryd.prog (xWith (xOf symX) f7R) (gxOf symG) (sumsOf sums26) 10000 7 f7A f7T298 ((((((((((((((facts0 f7K).no f7Q0).no f7Q2).no f7Q4).no f7Q6).no f7Q8).no f7Q19).no f7Q30).no f7Q41).no f7Q52).no f7Q111).no f7Q170).no f7Q229).yes f7Q288) = true := checkT_test f7C290 f7C297
def f7Q299 : Quest := (.le [([], (Int.ofNat (nat_lit 1152921504606846977))), ([(.var (nat_lit 0))], (Int.negSucc (nat_lit 0))), ([(.var (nat_lit 2))], (Int.ofNat (nat_lit 1)))])
def f7Q300 : Quest := (.le [([], (Int.ofNat (nat_lit 1152921504606846977))), ([(.var (nat_lit 4))], (Int.ofNat (nat_lit 1)))])
def f7T301 : STree := (.leaf (.bool true))
theorem f7C301 : checkT Tryd.prog (xWith (xOf symX) f7R) (gxOf symG) (sumsOf sums26) 10000 7 f7A f7T301 ((((((((((((((((facts0 f7K).no f7Q0).no f7Q2).no f7Q4).no f7Q6).no f7Q8).no f7Q19).no f7Q30).no f7Q41).no f7Q52).no f7Q111).no f7Q170).no f7Q229).no f7Q288).yes f7Q299).yes f7Q300) = true := by kernel_rfl
def f7Q302 : Quest := (.le [([], (Int.ofNat (nat_lit 1152921504606846977))), ([(.var (nat_lit 4))], (Int.negSucc (nat_lit 0)))])
def f7T303 : STree := (.leaf (.bool true))
theorem f7C303 : checkT Tryd.prog (xWith (xOf symX) f7R) (gxOf symG) (sumsOf sums26) 10000 7 f7A f7T303 (((((((((((((((((facts0 f7K).no f7Q0).no f7Q2).no f7Q4).no f7Q6).no f7Q8).no f7Q19).no f7Q30).no f7Q41).no f7Q52).no f7Q111).no f7Q170).no f7Q229).no f7Q288).yes f7Q299).no f7Q300).yes f7Q302) = true := by kernel_rfl
def f7Q304 : Quest := (.le [([], (Int.negSucc (nat_lit 1152921504606846975))), ([(.var (nat_lit 0)), (.var (nat_lit 4))], (Int.ofNat (nat_lit 1)))])
def f7T305 : STree := (.test (.le [([], (Int.negSucc (nat_lit 1152921504606846975))), ([(.var (nat_lit 0)), (.var (nat_lit 4))], (Int.negSucc (nat_lit 0)))])
  (.test (.le [([], (Int.negSucc (nat_lit 1152921504606846975))), ([(.var (nat_lit 1)), (.var (nat_lit 4))], (Int.ofNat (nat_lit 1)))])
  (.test (.le [([], (Int.negSucc (nat_lit 1152921504606846975))), ([(.var (nat_lit 1)), (.var (nat_lit 4))], (Int.negSucc (nat_lit 0)))])
  (.leaf (.bool true))
  (.leaf (.bool true)))
  (.leaf (.bool true)))
  (.test (.le [([], (Int.negSucc (nat_lit 1152921504606846975))), ([(.var (nat_lit 1)), (.var (nat_lit 4))], (Int.ofNat (nat_lit 1)))])
  (.test (.le [([], (Int.negSucc (nat_lit 1152921504606846975))), ([(.var (nat_lit 1)), (.var (nat_lit 4))], (Int.negSucc (nat_lit 0)))])
  (.leaf (.bool true))
  (.leaf (.bool true)))
  (.leaf (.bool true))))
theorem f7C305 : checkT Tryd.prog (xWith (xOf symX) f7R) (gxOf symG) (sumsOf sums26) 10000 7 f7A f7T305 ((((((((((((((((((facts0 f7K).no f7Q0).no f7Q2).no f7Q4).no f7Q6).no f7Q8).no f7Q19).no f7Q30).no f7Q41).no f7Q52).no f7Q111).no f7Q170).no f7Q229).no f7Q288).yes f7Q299).no f7Q300).no f7Q302).yes f7Q304) = true := by kernel_rfl
def f7T306 : STree := (.test (.le [([], (Int.negSucc (nat_lit 1152921504606846975))), ([(.var (nat_lit 1)), (.var (nat_lit 4))], (Int.ofNat (nat_lit 1)))])
  (.test (.le [([], (Int.negSucc (nat_lit 1152921504606846975))), ([(.var (nat_lit 1)), (.var (nat_lit 4))], (Int.negSucc (nat_lit 0)))])
  (.leaf (.bool true))
  (.leaf (.bool true)))
  (.leaf (.bool true)))
theorem f7C306 : checkT Tryd.prog (xWith (xOf symX) f7R) (gxOf symG) (sumsOf sums26) 10000 7 f7A f7T306 ((((((((((((((((((facts0 f7K).no f7Q0).no f7Q2).no f7Q4).no f7Q6).no f7Q8).no f7Q19).no f7Q30).no f7Q41).no f7Q52).no f7Q111).no f7Q170).no f7Q229).no f7Q288).yes f7Q299).no f7Q300).no f7Q302).no f7Q304) = true := by kernel_rfl
def f7T307 : STree := .test f7Q304 f7T305 f7T306
theorem f7C307 : checkT Tryd.prog (xWith (xOf symX) f7R) (gxOf symG) (sumsOf sums26) 10000 7 f7A f7T307 (((((((((((((((((facts0 f7K).no f7Q0).no f7Q2).no f7Q4).no f7Q6).no f7Q8).no f7Q19).no f7Q30).no f7Q41).no f7Q52).no f7Q111).no f7Q170).no f7Q229).no f7Q288).yes f7Q299).no f7Q300).no f7Q302) = true := checkT_test f7C305 f7C306
def f7T308 : STree := .test f7Q302 f7T303 f7T307
theorem f7C308 : checkT Tryd.prog (xWith (xOf symX) f7R) (gxOf symG) (sumsOf sums26) 10000 7 f7A f7T308 ((((((((((((((((facts0 f7K).no f7Q0).no f7Q2).no f7Q4).no f7Q6).no f7Q8).no f7Q19).no f7Q30).no f7Q41).no f7Q52).no f7Q111).no f7Q170).no f7Q229).no f7Q288).yes f7Q299).no f7Q300) = true := checkT_test f7C303 f7C307
def f7T309 : STree := .test f7Q300 f7T301 f7T308
theorem f7C309 : checkT Tryd.prog (xWith (xOf symX) f7R) (gxOf symG) (sumsOf sums26) 10000 7 f7A f7T309 (((((((((((((((facts0 f7K).no f7Q0).no f7Q2).no f7Q4).no f7Q6).no f7Q8).no f7Q19).no f7Q30).no f7Q41).no f7Q52).no f7Q111).no f7Q170).no f7Q229).no f7Q288).yes f7Q299) = true := checkT_test f7C301 f7C308
def f7Q310 : Quest := (.le [([], (Int.ofNat (nat_lit 1152921504606846977))), ([(.var (nat_lit 1))], (Int.ofNat (nat_lit 1))), ([(.var (nat_lit 3))], (Int.negSucc (nat_lit 0)))])
def f7Q311 : Quest := (.le [([], (Int.ofNat (nat_lit 1152921504606846977))), ([(.var (nat_lit 4))], (Int.ofNat (nat_lit 1)))])
def f7T312 : STree := (.leaf (.bool true))
theorem f7C312 : checkT Tryd.prog (xWith (xOf symX) f7R) (gxOf symG) (sumsOf sums26) 10000 7 f7A f7T312 (((((((((((((((((facts0 f7K).no f7Q0).no f7Q2).no f7Q4).no f7Q6).no f7Q8).no f7Q19).no f7Q30).no f7Q41).no f7Q52).no f7Q111).no f7Q170).no f7Q229).no f7Q288).no f7Q299).yes f7Q310).yes f7Q311) = true := by kernel_rfl
def f7Q313 : Quest := (.le [([], (Int.ofNat (nat_lit 1152921504606846977))), ([(.var (nat_lit 4))], (Int.negSucc (nat_lit 0)))])
def f7T314 : STree := (.leaf (.bool true))
theorem f7C314 : checkT Tryd.prog (xWith (xOf symX) f7R) (gxOf symG) (sumsOf sums26) 10000 7 f7A f7T314 ((((((((((((((((((facts0 f7K).no f7Q0).no f7Q2).no f7Q4).no f7Q6).no f7Q8).no f7Q19).no f7Q30).no f7Q41).no f7Q52).no f7Q111).no f7Q170).no f7Q229).no f7Q288).no f7Q299).yes f7Q310).no f7Q311).yes f7Q313) = true := by kernel_rfl
def f7Q315 : Quest := (.le [([], (Int.negSucc (nat_lit 1152921504606846975))), ([(.var (nat_lit 0)), (.var (nat_lit 4))], (Int.ofNat (nat_lit 1)))])
def f7T316 : STree := (.test (.le [([], (Int.negSucc (nat_lit 1152921504606846975))), ([(.var (nat_lit 0)), (.var (nat_lit 4))], (Int.negSucc (nat_lit 0)))])
  (.test (.le [([], (Int.negSucc (nat_lit 1152921504606846975))), ([(.var (nat_lit 1)), (.var (nat_lit 4))], (Int.ofNat (nat_lit 1)))])
  (.test (.le [([], (Int.negSucc (nat_lit 1152921504606846975))), ([(.var (nat_lit 1)), (.var (nat_lit 4))], (Int.negSucc (nat_lit 0)))])
  (.leaf (.bool true))
  (.leaf (.bool true)))
  (.leaf (.bool true)))
  (.test (.le [([], (Int.negSucc (nat_lit 1152921504606846975))), ([(.var (nat_lit 1)), (.var (nat_lit 4))], (Int.ofNat (nat_lit 1)))])
  (.test (.le [([], (Int.negSucc (nat_lit 1152921504606846975))), ([(.var (nat_lit 1)), (.var (nat_lit 4))], (Int.negSucc (nat_lit 0)))])
  (.leaf (.bool true))
  (.leaf (.bool true)))
  (.leaf (.bool true))))
theorem f7C316 : checkT Tryd.prog (xWith (xOf symX) f7R) (gxOf symG) (sumsOf sums26) 10000 7 f7A f7T316 (((((((((((((((((((facts0 f7K).no f7Q0).no f7Q2).no f7Q4).no f7Q6).no f7Q8).no f7Q19).no f7Q30).no f7Q41).no f7Q52).no f7Q111).no f7Q170).no f7Q229).no f7Q288).no f7Q299).yes f7Q310).no f7Q311).no f7Q313).yes f7Q315) = true := by kernel_rfl
def f7T317 : STree := (.test (.le [([], (Int.negSucc (nat_lit 1152921504606846975))), ([(.var (nat_lit 1)), (.var (nat_lit 4))], (Int.ofNat (nat_lit 1)))])
  (.test (.le [([], (Int.negSucc (nat_lit 1152921504606846975))), ([(.var (nat_lit 1)), (.var (nat_lit 4))], (Int.negSucc (nat_lit 0)))])
  (.leaf (.bool true))
  (.leaf (.bool true)))
  (.leaf (.bool true)))
theorem f7C317 : checkT Tryd.prog (xWith (xOf symX) f7R) (gxOf symG) (sumsOf sums26) 10000 7 f7A f7T317 (((((((((((((((((((facts0 f7K).no f7Q0).no f7Q2).no f7Q4).no f7Q6).no f7Q8).no f7Q19).no f7Q30).no f7Q41).no f7Q52).no f7Q111).no f7Q170).no f7Q229).no f7Q288).no f7Q299).yes f7Q310).no f7Q311).no f7Q313).no f7Q315) = true := by kernel_rfl
def f7T318 : STree := .test f7Q315 f7T316 f7T317
theorem f7C318 : checkT Tryd.prog (xWith (xOf symX) f7R) (gxOf symG) (sumsOf sums26) 10000 7 f7A f7T318 ((((((((((((((((((facts0 f7K).no f7Q0).no f7Q2).no f7Q4).no f7Q6).no f7Q8).no f7Q19).no f7Q30).no f7Q41).no f7Q52).no f7Q111).no f7Q170).no f7Q229).no f7Q288).no f7Q299).yes f7Q310).no f7Q311).no f7Q313) = true := checkT_test f7C316 f7C317
def f7T319 : STree := .test f7Q313 f7T314 f7T318
theorem f7C319 : checkT Tryd.prog (xWith (xOf symX) f7R) (gxOf symG) (sumsOf sums26) 10000 7 f7A f7T319 (((((((((((((((((facts0 f7K).no f7Q0).no f7Q2).no f7Q4).no f7Q6).no f7Q8).no f7Q19).no f7Q30).no f7Q41).no f7Q52).no f7Q111).no f7Q170).no f7Q229).no f7Q288).no f7Q299).yes f7Q310).no f7Q311) = true := checkT_test f7C314 f7C318
def f7T320 : STree := .test f7Q311 f7T312 f7T319
theorem f7C320 : checkT Tryd.prog (xWith (xOf symX) f7R) (gxOf symG) (sumsOf sums26) 10000 7 f7A f7T320 ((((((((((((((((facts0 f7K).no f7Q0).no f7Q2).no f7Q4).no f7Q6).no f7Q8).no f7Q19).no f7Q30).no f7Q41).no f7Q52).no f7Q111).no f7Q170).no f7Q229).no f7Q288).no f7Q299).yes f7Q310) = true := checkT_test f7C312 f7C319
def f7Q321 : Quest := (.le [([], (Int.ofNat (nat_lit 1152921504606846977))), ([(.var (nat_lit 1))], (Int.negSucc (nat_lit 0))), ([(.var (nat_lit 3))], (Int.ofNat (nat_lit 1)))])
def f7Q322 : Quest := (.le [([], (Int.ofNat (nat_lit 1152921504606846977))), ([(.var (nat_lit 4))], (Int.ofNat (nat_lit 1)))])
def f7T323 : STree := (.leaf (.bool true))
theorem f7C323 : checkT Tryd.prog (xWith (xOf symX) f7R) (gxOf symG) (sumsOf sums26) 10000 7 f7A f7T323 ((((((((((((((((((facts0 f7K).no f7Q0).no f7Q2).no f7Q4).no f7Q6).no f7Q8).no f7Q19).no f7Q30).no f7Q41).no f7Q52).no f7Q111).no f7Q170).no f7Q229).no f7Q288).no f7Q299).no f7Q310).yes f7Q321).yes f7Q322) = true := by kernel_rfl
def f7Q324 : Quest := (.le [([], (Int.ofNat (nat_lit 1152921504606846977))), ([(.var (nat_lit 4))], (Int.negSucc (nat_lit 0)))])
def f7T325 : STree := (.leaf (.bool true))
theorem f7C325 : checkT Tryd.prog (xWith (xOf symX) f7R) (gxOf symG) (sumsOf sums26) 10000 7 f7A f7T325 (((((((((((((((((((facts0 f7K).no f7Q0).no f7Q2).no f7Q4).no f7Q6).no f7Q8).no f7Q19).no f7Q30).no f7Q41).no f7Q52).no f7Q111).no f7Q170).no f7Q229).no f7Q288).no f7Q299).no f7Q310).yes f7Q321).no f7Q322).yes f7Q324) = true := by kernel_rfl
def f7Q326 : Quest := (.le [([], (Int.negSucc (nat_lit 1152921504606846975))), ([(.var (nat_lit 0)), (.var (nat_lit 4))], (Int.ofNat (nat_lit 1)))])
def f7T327 : STree := (.test (.le [([], (Int.negSucc (nat_lit 1152921504606846975))), ([(.var (nat_lit 0)), (.var (nat_lit 4))], (Int.negSucc (nat_lit 0)))])
  (.test (.le [([], (Int.negSucc (nat_lit 1152921504606846975))), ([(.var (nat_lit 1)), (.var (nat_lit 4))], (Int.ofNat (nat_lit 1)))])
  (.test (.le [([], (Int.negSucc (nat_lit 1152921504606846975))), ([(.var (nat_lit 1)), (.var (nat_lit 4))], (Int.negSucc (nat_lit 0)))])
  (.leaf (.bool true))
  (.leaf (.bool true)))
  (.leaf (.bool true)))
  (.test (.le [([], (Int.negSucc (nat_lit 1152921504606846975))), ([(.var (nat_lit 1)), (.var (nat_lit 4))], (Int.ofNat (nat_lit 1)))])
  (.test (.le [([], (Int.negSucc (nat_lit 1152921504606846975))), ([(.var (nat_lit 1)), (.var (nat_lit 4))], (Int.negSucc (nat_lit 0)))])
  (.leaf (.bool true))
  (.leaf (.bool true)))
  (.leaf (.bool true))))
theorem f7C327 : checkT Tryd.prog (xWith (xOf symX) f7R) (gxOf symG) (sumsOf sums26) 10000 7 f7A f7T327 ((((((((((((((((((((facts0 f7K).no f7Q0).no f7Q2).no f7Q4).no f7Q6).no f7Q8).no f7Q19).no f7Q30).no f7Q41).no f7Q52).no f7Q111).no f7Q170).no f7Q229).no f7Q288).no f7Q299).no f7Q310).yes f7Q321).no f7Q322).no f7Q324).yes f7Q326) = true := by kernel_rfl
def f7T328 : STree := (.test (.le [([], (Int.negSucc (nat_lit 1152921504606846975))), ([(.var (nat_lit 1)), (.var (nat_lit 4))], (Int.ofNat (nat_lit 1)))])
  (.test (.le [([], (Int.negSucc (nat_lit 1152921504606846975))), ([(.var (nat_lit 1)), (.var (nat_lit 4))], (Int.negSucc (nat_lit 0)))])
  (.leaf (.bool true))
  (.leaf (.bool true)))
  (.leaf (.bool true)))
theorem f7C328 : checkT Tryd.prog (xWith (xOf symX) f7R) (gxOf symG) (sumsOf sums26) 10000 7 f7A f7T328 ((((((((((((((((((((facts0 f7K).no f7Q0).no f7Q2).no f7Q4).no f7Q6).no f7Q8).no f7Q19).no f7Q30).no f7Q41).no f7Q52).no f7Q111).no f7Q170).no f7Q229).no f7Q288).no f7Q299).no f7Q310).yes f7Q321).no f7Q322).no f7Q324).no f7Q326) = true := by kernel_rfl
def f7T329 : STree := .test f7Q326 f7T327 f7T328
theorem f7C329 : checkT Tryd.prog (xWith (xOf symX) f7R) (gxOf symG) (sumsOf sums26) 10000 7 f7A f7T329 (((((((((((((((((((facts0 f7K).no f7Q0).no f7Q2).no f7Q4).no f7Q6).no f7Q8).no f7Q19).no f7Q30).no f7Q41).no f7Q52).no f7Q111).no f7Q170).no f7Q229).no f7Q288).no f7Q299).no f7Q310).yes f7Q321).no f7Q322).no f7Q324) = true := checkT_test f7C327 f7C328
def f7T330 : STree := .test f7Q324 f7T325 f7T329
theorem f7C330 : checkT Tryd.prog (xWith (xOf symX) f7R) (gxOf symG) (sumsOf sums26) 10000 7 f7A f7T330 ((((((((((((((((((facts0 f7K).no f7Q0).no f7Q2).no f7Q4).no f7Q6).no f7Q8).no f7Q19).no f7Q30).no f7Q41).no f7Q52).no f7Q111).no f7Q170).no f7Q229).no f7Q288).no f7Q299).no f7Q310).yes f7Q321).no f7Q322) = true := checkT_test f7C325 f7C329
def f7T331 : STree := .test f7Q322 f7T323 f7T330
theorem f7C331 : checkT Tryd.prog (xWith (xOf symX) f7R) (gxOf symG) (sumsOf sums26) 10000 7 f7A f7T331 (((((((((((((((((facts0 f7K).no f7Q0).no f7Q2).no f7Q4).no f7Q6).no f7Q8).no f7Q19).no f7Q30).no f7Q41).no f7Q52).no f7Q111).no f7Q170).no f7Q229).no f7Q288).no f7Q299).no f7Q310).yes f7Q321) = true := checkT_test f7C323 f7C330
def f7Q332 : Quest := (.le [([], (Int.ofNat (nat_lit 1152921504606846977))), ([(.var (nat_lit 4))], (Int.ofNat (nat_lit 1)))])
def f7T333 : STree := (.leaf (.bool true))
theorem f7C333 : checkT Tryd.prog (xWith (xOf symX) f7R) (gxOf symG) (sumsOf sums26) 10000 7 f7A f7T333 ((((((((((((((((((facts0 f7K).no f7Q0).no f7Q2).no f7Q4).no f7Q6).no f7Q8).no f7Q19).no f7Q30).no f7Q41).no f7Q52).no f7Q111).no f7Q170).no f7Q229).no f7Q288).no f7Q299).no f7Q310).no f7Q321).yes f7Q332) = true := by kernel_rfl
def f7Q334 : Quest := (.le [([], (Int.ofNat (nat_lit 1152921504606846977))), ([(.var (nat_lit 4))], (Int.negSucc (nat_lit 0)))])
def f7T335 : STree := (.leaf (.bool true))
theorem f7C335 : checkT Tryd.prog (xWith (xOf symX) f7R) (gxOf symG) (sumsOf sums26) 10000 7 f7A f7T335 (((((((((((((((((((facts0 f7K).no f7Q0).no f7Q2).no f7Q4).no f7Q6).no f7Q8).no f7Q19).no f7Q30).no f7Q41).no f7Q52).no f7Q111).no f7Q170).no f7Q229).no f7Q288).no f7Q299).no f7Q310).no f7Q321).no f7Q332).yes f7Q334) = true := by kernel_rfl
def f7Q336 : Quest := (.le [([], (Int.negSucc (nat_lit 1152921504606846975))), ([(.var (nat_lit 0)), (.var (nat_lit 4))], (Int.ofNat (nat_lit 1)))])
def f7T337 : STree := (.test (.le [([], (Int.negSucc (nat_lit 1152921504606846975))), ([(.var (nat_lit 0)), (.var (nat_lit 4))], (Int.negSucc (nat_lit 0)))])
  (.test (.le [([], (Int.negSucc (nat_lit 1152921504606846975))), ([(.var (nat_lit 1)), (.var (nat_lit 4))], (Int.ofNat (nat_lit 1)))])
  (.test (.le [([], (Int.negSucc (nat_lit 1152921504606846975))), ([(.var (nat_lit 1)), (.var (nat_lit 4))], (Int.negSucc (nat_lit 0)))])
  (.leaf (.bool true))
  (.leaf (.bool true)))
  (.leaf (.bool true)))
  (.test (.le [([], (Int.negSucc (nat_lit 1152921504606846975))), ([(.var (nat_lit 1)), (.var (nat_lit 4))], (Int.ofNat (nat_lit 1)))])
  (.test (.le [([], (Int.negSucc (nat_lit 1152921504606846975))), ([(.var (nat_lit 1)), (.var (nat_lit 4))], (Int.negSucc (nat_lit 0)))])
  (.leaf (.bool true))
  (.leaf (.bool true)))
  (.leaf (.bool true))))
theorem f7C337 : checkT Tryd.prog (xWith (xOf symX) f7R) (gxOf symG) (sumsOf sums26) 10000 7 f7A f7T337 ((((((((((((((((((((facts0 f7K).no f7Q0).no f7Q2).no f7Q4).no f7Q6).no f7Q8).no f7Q19).no f7Q30).no f7Q41).no f7Q52).no f7Q111).no f7Q170).no f7Q229).no f7Q288).no f7Q299).no f7Q310).no f7Q321).no f7Q332).no f7Q334).yes f7Q336) = true := by kernel_rfl
def f7T338 : STree := (.test (.le [([], (Int.negSucc (nat_lit 1152921504606846975))), ([(.var (nat_lit 1)), (.var (nat_lit 4))], (Int.ofNat (nat_lit 1)))])
  (.test (.le [([], (Int.negSucc (nat_lit 1152921504606846975))), ([(.var (nat_lit 1)), (.var (nat_lit 4))], (Int.negSucc (nat_lit 0)))])
  (.leaf (.bool true))
  (.leaf (.bool true)))
  (.leaf (.bool true)))
theorem f7C338 : checkT Tryd.prog (xWith (xOf symX) f7R) (gxOf symG) (sumsOf sums26) 10000 7 f7A f7T338 ((((((((((((((((((((facts0 f7K).no f7Q0).no f7Q2).no f7Q4).no f7Q6).no f7Q8).no f7Q19).no f7Q30).no f7Q41).no f7Q52).no f7Q111).no f7Q170).no f7Q229).no f7Q288).no f7Q299).no f7Q310).no f7Q321).no f7Q332).no f7Q334).no f7Q336) = true := by kernel_rfl
def f7T339 : STree := .test f7Q336 f7T337 f7T338
theorem f7C339 : checkT Tryd.prog (xWith (xOf symX) f7R) (gxOf symG) (sumsOf sums26) 10000 7 f7A f7T339 (((((((((((((((((((facts0 f7K).no f7Q0).no f7Q2).no f7Q4).no f7Q6).no f7Q8).no f7Q19).no f7Q30).no f7Q41).no f7Q52).no f7Q111).no f7Q170).no f7Q229).no f7Q288).no f7Q299).no f7Q310).no f7Q321).no f7Q332).no f7Q334) = true := checkT_test f7C337 f7C338
def f7T340 : STree := .test f7Q334 f7T335 f7T339
theorem f7C340 : checkT Tryd.prog (xWith (xOf symX) f7R) (gxOf symG) (sumsOf sums26) 10000 7 f7A f7T340 ((((((((((((((((((facts0 f7K).no f7Q0).no f7Q2).no f7Q4).no f7Q6).no f7Q8).no f7Q19).no f7Q30).no f7Q41).no f7Q52).no f7Q111).no f7Q170).no f7Q229).no f7Q288).no f7Q299).no f7Q310).no f7Q321).no f7Q332) = true := checkT_test f7C335 f7C339
def f7T341 : STree := .test f7Q332 f7T333 f7T340
theorem f7C341 : checkT Tryd.prog (xWith (xOf symX) f7R) (gxOf symG) (sumsOf sums26) 10000 7 f7A f7T341 (((((((((((((((((facts0 f7K).no f7Q0).no f7Q2).no f7Q4).no f7Q6).no f7Q8).no f7Q19).no f7Q30).no f7Q41).no f7Q52).no f7Q111).no f7Q170).no f7Q229).no f7Q288).no f7Q299).no f7Q310).no f7Q321) = true := checkT_test f7C333 f7C340
def f7T342 : STree := .test f7Q321 f7T331 f7T341
theorem f7C342 : checkT Tryd.prog (xWith (xOf symX) f7R) (gxOf symG) (sumsOf sums26) 10000 7 f7A f7T342 ((((((((((((((((facts0 f7K).no f7Q0).no f7Q2).no f7Q4).no f7Q6).no f7Q8).no f7Q19).no f7Q30).no f7Q41).no f7Q52).no f7Q111).no f7Q170).no f7Q229).no f7Q288).no f7Q299).no f7Q310) = true := checkT_test f7C331 f7C341
def f7T343 : STree := .test f7Q310 f7T320 f7T342
theorem f7C343 : checkT Tryd.prog (xWith (xOf symX) f7R) (gxOf symG) (sumsOf sums26) 10000 7 f7A f7T343 (((((((((((((((facts0 f7K).no f7Q0).no f7Q2).no f7Q4).no f7Q6).no f7Q8).no f7Q19).no f7Q30).no f7Q41).no f7Q52).no f7Q111).no f7Q170).no f7Q229).no f7Q288).no f7Q299) = true := checkT_test f7C320 f7C342
def f7T344 : STree := .test f7Q299 f7T309 f7T343
theorem f7C344 : checkT Tryd.prog (xWith (xOf symX) f7R) (gxOf symG) (sumsOf sums26) 10000 7 f7A f7T344 ((((((((((((((facts0 f7K).no f7Q0).no f7Q2).no f7Q4).no f7Q6).no f7Q8).no f7Q19).no f7Q30).no f7Q41).no f7Q52).no f7Q111).no f7Q170).no f7Q229).no f7Q288) = true := checkT_test f7C309 f7C343
def f7T345 : STree := .test f7Q288 f7T298 f7T344
theorem f7C345 : checkT Tryd.prog (xWith (xOf symX) f7R) (gxOf symG) (sumsOf sums26) 10000 7 f7A f7T345 (((((((((((((facts0 f7K).no f7Q0).no f7Q2).no f7Q4).no f7Q6).no f7Q8).no f7Q19).no f7Q30).no f7Q41).no f7Q52).no f7Q111).no f7Q170).no f7Q229) = true := checkT_test f7C298 f7C344
def f7T346 : STree := .test f7Q229 f7T287 f7T345
theorem f7C346 : checkT Tryd.prog (xWith (xOf symX) f7R) (gxOf symG) (sumsOf sums26) 10000 7 f7A f7T346 ((((((((((((facts0 f7K).no f7Q0).no f7Q2).no f7Q4).no f7Q6).no f7Q8).no f7Q19).no f7Q30).no f7Q41).no f7Q52).no f7Q111).no f7Q170) = true := checkT_test f7C287 f7C345
def f7T347 : STree := .test f7Q170 f7T228 f7T346
theorem f7C347 : checkT Tryd.prog (xWith (xOf symX) f7R) (gxOf symG) (sumsOf sums26) 10000 7 f7A f7T347 (((((((((((facts0 f7K).no f7Q0).no f7Q2).no f7Q4).no f7Q6).no f7Q8).no f7Q19).no f7Q30).no f7Q41).no f7Q52).no f7Q111) = true := checkT_test f7C228 f7C346
def f7T348 : STree := .test f7Q111 f7T169 f7T347
theorem f7C348 : checkT Tryd.prog (xWith (xOf symX) f7R) (gxOf symG) (sumsOf sums26) 10000 7 f7A f7T348 ((((((((((facts0 f7K).no f7Q0).no f7Q2).no f7Q4).no f7Q6).no f7Q8).no f7Q19).no f7Q30).no f7Q41).no f7Q52) = true := checkT_test f7C169 f7C347
def f7T349 : STree := .test f7Q52 f7T110 f7T348
theorem f7C349 : checkT Tryd.prog (xWith (xOf symX) f7R) (gxOf symG) (sumsOf sums26) 10000 7 f7A f7T349 (((((((((facts0 f7K).no f7Q0).no f7Q2).no f7Q4).no f7Q6).no f7Q8).no f7Q19).no f7Q30).no f7Q41) = true := checkT_test f7C110 f7C348
def f7T350 : STree := .test f7Q41 f7T51 f7T349
theorem f7C350 : checkT Tryd.prog (xWith (xOf symX) f7R) (gxOf symG) (sumsOf sums26) 10000 7 f7A f7T350 ((((((((facts0 f7K).no f7Q0).no f7Q2).no f7Q4).no f7Q6).no f7Q8).no f7Q19).no f7Q30) = true := checkT_test f7C51 f7C349
def f7T351 : STree := .test f7Q30 f7T40 f7T350
theorem f7C351 : checkT Tryd.prog (xWith (xOf symX) f7R) (gxOf symG) (sumsOf sums26) 10000 7 f7A f7T351 (((((((facts0 f7K).no f7Q0).no f7Q2).no f7Q4).no f7Q6).no f7Q8).no f7Q19) = true := checkT_test f7C40 f7C350
def f7T352 : STree := .test f7Q19 f7T29 f7T351
theorem f7C352 : checkT Tryd.prog (xWith (xOf symX) f7R) (gxOf symG) (sumsOf sums26) 10000 7 f7A f7T352 ((((((facts0 f7K).no f7Q0).no f7Q2).no f7Q4).no f7Q6).no f7Q8) = true := checkT_test f7C29 f7C351
def f7T353 : STree := .test f7Q8 f7T18 f7T352
theorem f7C353 : checkT Tryd.prog (xWith (xOf symX) f7R) (gxOf symG) (sumsOf sums26) 10000 7 f7A f7T353 (((((facts0 f7K).no f7Q0).no f7Q2).no f7Q4).no f7Q6) = true := checkT_test f7C18 f7C352
def f7T354 : STree := .test f7Q6 f7T7 f7T353
theorem f7C354 : checkT Tryd.prog (xWith (xOf symX) f7R) (gxOf symG) (sumsOf sums26) 10000 7 f7A f7T354 ((((facts0 f7K).no f7Q0).no f7Q2).no f7Q4) = true := checkT_test f7C7 f7C353
def f7T355 : STree := .test f7Q4 f7T5 f7T354
theorem f7C355 : checkT Tryd.prog (xWith (xOf symX) f7R) (gxOf symG) (sumsOf sums26) 10000 7 f7A f7T355 (((facts0 f7K).no f7Q0).no f7Q2) = true := checkT_test f7C5 f7C354
def f7T356 : STree := .test f7Q2 f7T3 f7T355
theorem f7C356 : checkT Tryd.prog (xWith (xOf symX) f7R) (gxOf symG) (sumsOf sums26) 10000 7 f7A f7T356 ((facts0 f7K).no f7Q0) = true := checkT_test f7C3 f7C355
def f7T357 : STree := .test f7Q0 f7T1 f7T356
theorem f7C357 : checkT Tryd.prog (xWith (xOf symX) f7R) (gxOf symG) (sumsOf sums26) 10000 7 f7A f7T357 (facts0 f7K) = true := checkT_test f7C1 f7C356
def f7M : Summ := ⟨f7A, f7K, f7T357, f7R, []⟩
theorem f7Ok : SumOk Tryd.prog (xOf symX) (gxOf symG) 7 f7M := sumOk_of symMixed symClosed sums26Ok f7C357
end Go.Proofs.YtjghifocfjbmcabDoor
