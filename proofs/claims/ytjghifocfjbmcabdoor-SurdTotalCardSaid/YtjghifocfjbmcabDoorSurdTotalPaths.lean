/- The paths of SurdTotal, each checked by the kernel. -/
import Derived.Test.YtjghifocfjbmcabDoorSums
import Derived.KernelRfl
namespace Go.Proofs.YtjghifocfjbmcabDoor
open Go.Sym

def f5A : List SV := [(.agg [(.int .i64 [([(.var (nat_lit 0))], (Int.ofNat (nat_lit 1)))]), (.int .i64 [([(.var (nat_lit 1))], (Int.ofNat (nat_lit 1)))])]), (.agg [(.int .i64 [([(.var (nat_lit 2))], (Int.ofNat (nat_lit 1)))]), (.int .i64 [([(.var (nat_lit 3))], (Int.ofNat (nat_lit 1)))])]), (.agg [(.int .i64 [([(.var (nat_lit 4))], (Int.ofNat (nat_lit 1)))]), (.int .i64 [([(.var (nat_lit 5))], (Int.ofNat (nat_lit 1)))])])]
def f5K : List Iv := [ivT .i64, ivT .i64, ivT .i64, ivT .i64, ivT .i64, ivT .i64]
def f5R : List (List SV) := []
def f5Q0 : Quest := (.le [([(.app (nat_lit 0) (.add (.rem (.var (nat_lit 0)) (.lit (Int.ofNat (nat_lit 1048576)))) (.mul (.lit (Int.negSucc (nat_lit 0))) (.rem (.var (nat_lit 2)) (.lit (Int.ofNat (nat_lit 1048576)))))) (.add (.rem (.var (nat_lit 1)) (.lit (Int.ofNat (nat_lit 1048576)))) (.mul (.lit (Int.negSucc (nat_lit 0))) (.rem (.var (nat_lit 3)) (.lit (Int.ofNat (nat_lit 1048576)))))) (.lit (Int.ofNat (nat_lit 0))))], (Int.ofNat (nat_lit 1)))])
def f5Q1 : Quest := (.le [([], (Int.ofNat (nat_lit 1))), ([(.app (nat_lit 0) (.add (.rem (.var (nat_lit 0)) (.lit (Int.ofNat (nat_lit 1048576)))) (.mul (.lit (Int.negSucc (nat_lit 0))) (.rem (.var (nat_lit 2)) (.lit (Int.ofNat (nat_lit 1048576)))))) (.add (.rem (.var (nat_lit 1)) (.lit (Int.ofNat (nat_lit 1048576)))) (.mul (.lit (Int.negSucc (nat_lit 0))) (.rem (.var (nat_lit 3)) (.lit (Int.ofNat (nat_lit 1048576)))))) (.lit (Int.ofNat (nat_lit 0))))], (Int.ofNat (nat_lit 1)))])
def f5Q2 : Quest := (.eq [([(.rem (.var (nat_lit 0)) (.lit (Int.ofNat (nat_lit 1048576))))], (Int.ofNat (nat_lit 1))), ([(.rem (.var (nat_lit 2)) (.lit (Int.ofNat (nat_lit 1048576))))], (Int.negSucc (nat_lit 0)))])
def f5T3 : STree := (.test (.eq [([(.rem (.var (nat_lit 1)) (.lit (Int.ofNat (nat_lit 1048576))))], (Int.ofNat (nat_lit 1))), ([(.rem (.var (nat_lit 3)) (.lit (Int.ofNat (nat_lit 1048576))))], (Int.negSucc (nat_lit 0)))])
  (.test (.le [([(.app (nat_lit 0) (.add (.rem (.var (nat_lit 2)) (.lit (Int.ofNat (nat_lit 1048576)))) (.mul (.lit (Int.negSucc (nat_lit 0))) (.rem (.var (nat_lit 4)) (.lit (Int.ofNat (nat_lit 1048576)))))) (.add (.rem (.var (nat_lit 3)) (.lit (Int.ofNat (nat_lit 1048576)))) (.mul (.lit (Int.negSucc (nat_lit 0))) (.rem (.var (nat_lit 5)) (.lit (Int.ofNat (nat_lit 1048576)))))) (.lit (Int.ofNat (nat_lit 0))))], (Int.ofNat (nat_lit 1)))])
  (.test (.le [([], (Int.ofNat (nat_lit 1))), ([(.app (nat_lit 0) (.add (.rem (.var (nat_lit 2)) (.lit (Int.ofNat (nat_lit 1048576)))) (.mul (.lit (Int.negSucc (nat_lit 0))) (.rem (.var (nat_lit 4)) (.lit (Int.ofNat (nat_lit 1048576)))))) (.add (.rem (.var (nat_lit 3)) (.lit (Int.ofNat (nat_lit 1048576)))) (.mul (.lit (Int.negSucc (nat_lit 0))) (.rem (.var (nat_lit 5)) (.lit (Int.ofNat (nat_lit 1048576)))))) (.lit (Int.ofNat (nat_lit 0))))], (Int.ofNat (nat_lit 1)))])
  (.leaf (.bool true))
  (.test (.le [([(.app (nat_lit 0) (.add (.rem (.var (nat_lit 0)) (.lit (Int.ofNat (nat_lit 1048576)))) (.mul (.lit (Int.negSucc (nat_lit 0))) (.rem (.var (nat_lit 4)) (.lit (Int.ofNat (nat_lit 1048576)))))) (.add (.rem (.var (nat_lit 1)) (.lit (Int.ofNat (nat_lit 1048576)))) (.mul (.lit (Int.negSucc (nat_lit 0))) (.rem (.var (nat_lit 5)) (.lit (Int.ofNat (nat_lit 1048576)))))) (.lit (Int.ofNat (nat_lit 0))))], (Int.ofNat (nat_lit 1)))])
  (.test (.le [([], (Int.ofNat (nat_lit 1))), ([(.app (nat_lit 0) (.add (.rem (.var (nat_lit 0)) (.lit (Int.ofNat (nat_lit 1048576)))) (.mul (.lit (Int.negSucc (nat_lit 0))) (.rem (.var (nat_lit 4)) (.lit (Int.ofNat (nat_lit 1048576)))))) (.add (.rem (.var (nat_lit 1)) (.lit (Int.ofNat (nat_lit 1048576)))) (.mul (.lit (Int.negSucc (nat_lit 0))) (.rem (.var (nat_lit 5)) (.lit (Int.ofNat (nat_lit 1048576)))))) (.lit (Int.ofNat (nat_lit 0))))], (Int.ofNat (nat_lit 1)))])
  (.leaf (.bool false))
  (.leaf (.bool true)))
  (.leaf (.bool true))))
  (.test (.le [([(.app (nat_lit 0) (.add (.rem (.var (nat_lit 0)) (.lit (Int.ofNat (nat_lit 1048576)))) (.mul (.lit (Int.negSucc (nat_lit 0))) (.rem (.var (nat_lit 4)) (.lit (Int.ofNat (nat_lit 1048576)))))) (.add (.rem (.var (nat_lit 1)) (.lit (Int.ofNat (nat_lit 1048576)))) (.mul (.lit (Int.negSucc (nat_lit 0))) (.rem (.var (nat_lit 5)) (.lit (Int.ofNat (nat_lit 1048576)))))) (.lit (Int.ofNat (nat_lit 0))))], (Int.ofNat (nat_lit 1)))])
  (.test (.le [([], (Int.ofNat (nat_lit 1))), ([(.app (nat_lit 0) (.add (.rem (.var (nat_lit 0)) (.lit (Int.ofNat (nat_lit 1048576)))) (.mul (.lit (Int.negSucc (nat_lit 0))) (.rem (.var (nat_lit 4)) (.lit (Int.ofNat (nat_lit 1048576)))))) (.add (.rem (.var (nat_lit 1)) (.lit (Int.ofNat (nat_lit 1048576)))) (.mul (.lit (Int.negSucc (nat_lit 0))) (.rem (.var (nat_lit 5)) (.lit (Int.ofNat (nat_lit 1048576)))))) (.lit (Int.ofNat (nat_lit 0))))], (Int.ofNat (nat_lit 1)))])
  (.leaf (.bool false))
  (.leaf (.bool true)))
  (.leaf (.bool true))))
  (.leaf (.bool true)))
theorem f5C3 : checkT Tryd.prog (xWith (xOf symX) f5R) (gxOf symG) (sumsOf sums10) 10000 5 f5A f5T3 ((((facts0 f5K).yes f5Q0).yes f5Q1).yes f5Q2) = true := by kernel_rfl
def f5T4 : STree := (.leaf (.bool true))
theorem f5C4 : checkT Tryd.prog (xWith (xOf symX) f5R) (gxOf symG) (sumsOf sums10) 10000 5 f5A f5T4 ((((facts0 f5K).yes f5Q0).yes f5Q1).no f5Q2) = true := by kernel_rfl
def f5T5 : STree := .test f5Q2 f5T3 f5T4
theorem f5C5 : checkT Tryd.prog (xWith (xOf symX) f5R) (gxOf symG) (sumsOf sums10) 10000 5 f5A f5T5 (((facts0 f5K).yes f5Q0).yes f5Q1) = true := checkT_test f5C3 f5C4
def f5Q6 : Quest := (.eq [([(.rem (.var (nat_lit 0)) (.lit (Int.ofNat (nat_lit 1048576))))], (Int.ofNat (nat_lit 1))), ([(.rem (.var (nat_lit 2)) (.lit (Int.ofNat (nat_lit 1048576))))], (Int.negSucc (nat_lit 0)))])
def f5T7 : STree := (.test (.eq [([(.rem (.var (nat_lit 1)) (.lit (Int.ofNat (nat_lit 1048576))))], (Int.ofNat (nat_lit 1))), ([(.rem (.var (nat_lit 3)) (.lit (Int.ofNat (nat_lit 1048576))))], (Int.negSucc (nat_lit 0)))])
  (.test (.le [([(.app (nat_lit 0) (.add (.rem (.var (nat_lit 2)) (.lit (Int.ofNat (nat_lit 1048576)))) (.mul (.lit (Int.negSucc (nat_lit 0))) (.rem (.var (nat_lit 4)) (.lit (Int.ofNat (nat_lit 1048576)))))) (.add (.rem (.var (nat_lit 3)) (.lit (Int.ofNat (nat_lit 1048576)))) (.mul (.lit (Int.negSucc (nat_lit 0))) (.rem (.var (nat_lit 5)) (.lit (Int.ofNat (nat_lit 1048576)))))) (.lit (Int.ofNat (nat_lit 0))))], (Int.ofNat (nat_lit 1)))])
  (.test (.le [([], (Int.ofNat (nat_lit 1))), ([(.app (nat_lit 0) (.add (.rem (.var (nat_lit 2)) (.lit (Int.ofNat (nat_lit 1048576)))) (.mul (.lit (Int.negSucc (nat_lit 0))) (.rem (.var (nat_lit 4)) (.lit (Int.ofNat (nat_lit 1048576)))))) (.add (.rem (.var (nat_lit 3)) (.lit (Int.ofNat (nat_lit 1048576)))) (.mul (.lit (Int.negSucc (nat_lit 0))) (.rem (.var (nat_lit 5)) (.lit (Int.ofNat (nat_lit 1048576)))))) (.lit (Int.ofNat (nat_lit 0))))], (Int.ofNat (nat_lit 1)))])
  (.leaf (.bool true))
  (.test (.le [([(.app (nat_lit 0) (.add (.rem (.var (nat_lit 0)) (.lit (Int.ofNat (nat_lit 1048576)))) (.mul (.lit (Int.negSucc (nat_lit 0))) (.rem (.var (nat_lit 4)) (.lit (Int.ofNat (nat_lit 1048576)))))) (.add (.rem (.var (nat_lit 1)) (.lit (Int.ofNat (nat_lit 1048576)))) (.mul (.lit (Int.negSucc (nat_lit 0))) (.rem (.var (nat_lit 5)) (.lit (Int.ofNat (nat_lit 1048576)))))) (.lit (Int.ofNat (nat_lit 0))))], (Int.ofNat (nat_lit 1)))])
  (.test (.le [([], (Int.ofNat (nat_lit 1))), ([(.app (nat_lit 0) (.add (.rem (.var (nat_lit 0)) (.lit (Int.ofNat (nat_lit 1048576)))) (.mul (.lit (Int.negSucc (nat_lit 0))) (.rem (.var (nat_lit 4)) (.lit (Int.ofNat (nat_lit 1048576)))))) (.add (.rem (.var (nat_lit 1)) (.lit (Int.ofNat (nat_lit 1048576)))) (.mul (.lit (Int.negSucc (nat_lit 0))) (.rem (.var (nat_lit 5)) (.lit (Int.ofNat (nat_lit 1048576)))))) (.lit (Int.ofNat (nat_lit 0))))], (Int.ofNat (nat_lit 1)))])
  (.leaf (.bool false))
  (.leaf (.bool true)))
  (.leaf (.bool true))))
  (.test (.le [([(.app (nat_lit 0) (.add (.rem (.var (nat_lit 0)) (.lit (Int.ofNat (nat_lit 1048576)))) (.mul (.lit (Int.negSucc (nat_lit 0))) (.rem (.var (nat_lit 4)) (.lit (Int.ofNat (nat_lit 1048576)))))) (.add (.rem (.var (nat_lit 1)) (.lit (Int.ofNat (nat_lit 1048576)))) (.mul (.lit (Int.negSucc (nat_lit 0))) (.rem (.var (nat_lit 5)) (.lit (Int.ofNat (nat_lit 1048576)))))) (.lit (Int.ofNat (nat_lit 0))))], (Int.ofNat (nat_lit 1)))])
  (.test (.le [([], (Int.ofNat (nat_lit 1))), ([(.app (nat_lit 0) (.add (.rem (.var (nat_lit 0)) (.lit (Int.ofNat (nat_lit 1048576)))) (.mul (.lit (Int.negSucc (nat_lit 0))) (.rem (.var (nat_lit 4)) (.lit (Int.ofNat (nat_lit 1048576)))))) (.add (.rem (.var (nat_lit 1)) (.lit (Int.ofNat (nat_lit 1048576)))) (.mul (.lit (Int.negSucc (nat_lit 0))) (.rem (.var (nat_lit 5)) (.lit (Int.ofNat (nat_lit 1048576)))))) (.lit (Int.ofNat (nat_lit 0))))], (Int.ofNat (nat_lit 1)))])
  (.leaf (.bool false))
  (.leaf (.bool true)))
  (.leaf (.bool true))))
  (.leaf (.bool false)))
theorem f5C7 : checkT Tryd.prog (xWith (xOf symX) f5R) (gxOf symG) (sumsOf sums10) 10000 5 f5A f5T7 ((((facts0 f5K).yes f5Q0).no f5Q1).yes f5Q6) = true := by kernel_rfl
def f5T8 : STree := (.leaf (.bool false))
theorem f5C8 : checkT Tryd.prog (xWith (xOf symX) f5R) (gxOf symG) (sumsOf sums10) 10000 5 f5A f5T8 ((((facts0 f5K).yes f5Q0).no f5Q1).no f5Q6) = true := by kernel_rfl
def f5T9 : STree := .test f5Q6 f5T7 f5T8
theorem f5C9 : checkT Tryd.prog (xWith (xOf symX) f5R) (gxOf symG) (sumsOf sums10) 10000 5 f5A f5T9 (((facts0 f5K).yes f5Q0).no f5Q1) = true := checkT_test f5C7 f5C8
def f5T10 : STree := .test f5Q1 f5T5 f5T9
theorem f5C10 : checkT Tryd.prog (xWith (xOf symX) f5R) (gxOf symG) (sumsOf sums10) 10000 5 f5A f5T10 ((facts0 f5K).yes f5Q0) = true := checkT_test f5C5 f5C9
def f5Q11 : Quest := (.eq [([(.rem (.var (nat_lit 0)) (.lit (Int.ofNat (nat_lit 1048576))))], (Int.ofNat (nat_lit 1))), ([(.rem (.var (nat_lit 2)) (.lit (Int.ofNat (nat_lit 1048576))))], (Int.negSucc (nat_lit 0)))])
def f5Q12 : Quest := (.eq [([(.rem (.var (nat_lit 1)) (.lit (Int.ofNat (nat_lit 1048576))))], (Int.ofNat (nat_lit 1))), ([(.rem (.var (nat_lit 3)) (.lit (Int.ofNat (nat_lit 1048576))))], (Int.negSucc (nat_lit 0)))])
def f5T13 : STree := (.test (.le [([(.app (nat_lit 0) (.add (.rem (.var (nat_lit 2)) (.lit (Int.ofNat (nat_lit 1048576)))) (.mul (.lit (Int.negSucc (nat_lit 0))) (.rem (.var (nat_lit 4)) (.lit (Int.ofNat (nat_lit 1048576)))))) (.add (.rem (.var (nat_lit 3)) (.lit (Int.ofNat (nat_lit 1048576)))) (.mul (.lit (Int.negSucc (nat_lit 0))) (.rem (.var (nat_lit 5)) (.lit (Int.ofNat (nat_lit 1048576)))))) (.lit (Int.ofNat (nat_lit 0))))], (Int.ofNat (nat_lit 1)))])
  (.test (.le [([], (Int.ofNat (nat_lit 1))), ([(.app (nat_lit 0) (.add (.rem (.var (nat_lit 2)) (.lit (Int.ofNat (nat_lit 1048576)))) (.mul (.lit (Int.negSucc (nat_lit 0))) (.rem (.var (nat_lit 4)) (.lit (Int.ofNat (nat_lit 1048576)))))) (.add (.rem (.var (nat_lit 3)) (.lit (Int.ofNat (nat_lit 1048576)))) (.mul (.lit (Int.negSucc (nat_lit 0))) (.rem (.var (nat_lit 5)) (.lit (Int.ofNat (nat_lit 1048576)))))) (.lit (Int.ofNat (nat_lit 0))))], (Int.ofNat (nat_lit 1)))])
  (.leaf (.bool true))
  (.test (.le [([(.app (nat_lit 0) (.add (.rem (.var (nat_lit 0)) (.lit (Int.ofNat (nat_lit 1048576)))) (.mul (.lit (Int.negSucc (nat_lit 0))) (.rem (.var (nat_lit 4)) (.lit (Int.ofNat (nat_lit 1048576)))))) (.add (.rem (.var (nat_lit 1)) (.lit (Int.ofNat (nat_lit 1048576)))) (.mul (.lit (Int.negSucc (nat_lit 0))) (.rem (.var (nat_lit 5)) (.lit (Int.ofNat (nat_lit 1048576)))))) (.lit (Int.ofNat (nat_lit 0))))], (Int.ofNat (nat_lit 1)))])
  (.test (.le [([], (Int.ofNat (nat_lit 1))), ([(.app (nat_lit 0) (.add (.rem (.var (nat_lit 0)) (.lit (Int.ofNat (nat_lit 1048576)))) (.mul (.lit (Int.negSucc (nat_lit 0))) (.rem (.var (nat_lit 4)) (.lit (Int.ofNat (nat_lit 1048576)))))) (.add (.rem (.var (nat_lit 1)) (.lit (Int.ofNat (nat_lit 1048576)))) (.mul (.lit (Int.negSucc (nat_lit 0))) (.rem (.var (nat_lit 5)) (.lit (Int.ofNat (nat_lit 1048576)))))) (.lit (Int.ofNat (nat_lit 0))))], (Int.ofNat (nat_lit 1)))])
  (.leaf (.bool false))
  (.leaf (.bool true)))
  (.leaf (.bool true))))
  (.test (.le [([(.app (nat_lit 0) (.add (.rem (.var (nat_lit 0)) (.lit (Int.ofNat (nat_lit 1048576)))) (.mul (.lit (Int.negSucc (nat_lit 0))) (.rem (.var (nat_lit 4)) (.lit (Int.ofNat (nat_lit 1048576)))))) (.add (.rem (.var (nat_lit 1)) (.lit (Int.ofNat (nat_lit 1048576)))) (.mul (.lit (Int.negSucc (nat_lit 0))) (.rem (.var (nat_lit 5)) (.lit (Int.ofNat (nat_lit 1048576)))))) (.lit (Int.ofNat (nat_lit 0))))], (Int.ofNat (nat_lit 1)))])
  (.test (.le [([], (Int.ofNat (nat_lit 1))), ([(.app (nat_lit 0) (.add (.rem (.var (nat_lit 0)) (.lit (Int.ofNat (nat_lit 1048576)))) (.mul (.lit (Int.negSucc (nat_lit 0))) (.rem (.var (nat_lit 4)) (.lit (Int.ofNat (nat_lit 1048576)))))) (.add (.rem (.var (nat_lit 1)) (.lit (Int.ofNat (nat_lit 1048576)))) (.mul (.lit (Int.negSucc (nat_lit 0))) (.rem (.var (nat_lit 5)) (.lit (Int.ofNat (nat_lit 1048576)))))) (.lit (Int.ofNat (nat_lit 0))))], (Int.ofNat (nat_lit 1)))])
  (.leaf (.bool false))
  (.leaf (.bool true)))
  (.leaf (.bool true))))
theorem f5C13 : checkT Tryd.prog (xWith (xOf symX) f5R) (gxOf symG) (sumsOf sums10) 10000 5 f5A f5T13 ((((facts0 f5K).no f5Q0).yes f5Q11).yes f5Q12) = true := by kernel_rfl
def f5T14 : STree := (.test (.le [([(.app (nat_lit 0) (.add (.rem (.var (nat_lit 2)) (.lit (Int.ofNat (nat_lit 1048576)))) (.mul (.lit (Int.negSucc (nat_lit 0))) (.rem (.var (nat_lit 4)) (.lit (Int.ofNat (nat_lit 1048576)))))) (.add (.rem (.var (nat_lit 3)) (.lit (Int.ofNat (nat_lit 1048576)))) (.mul (.lit (Int.negSucc (nat_lit 0))) (.rem (.var (nat_lit 5)) (.lit (Int.ofNat (nat_lit 1048576)))))) (.lit (Int.ofNat (nat_lit 0))))], (Int.ofNat (nat_lit 1)))])
  (.test (.le [([], (Int.ofNat (nat_lit 1))), ([(.app (nat_lit 0) (.add (.rem (.var (nat_lit 2)) (.lit (Int.ofNat (nat_lit 1048576)))) (.mul (.lit (Int.negSucc (nat_lit 0))) (.rem (.var (nat_lit 4)) (.lit (Int.ofNat (nat_lit 1048576)))))) (.add (.rem (.var (nat_lit 3)) (.lit (Int.ofNat (nat_lit 1048576)))) (.mul (.lit (Int.negSucc (nat_lit 0))) (.rem (.var (nat_lit 5)) (.lit (Int.ofNat (nat_lit 1048576)))))) (.lit (Int.ofNat (nat_lit 0))))], (Int.ofNat (nat_lit 1)))])
  (.leaf (.bool true))
  (.test (.le [([(.app (nat_lit 0) (.add (.rem (.var (nat_lit 0)) (.lit (Int.ofNat (nat_lit 1048576)))) (.mul (.lit (Int.negSucc (nat_lit 0))) (.rem (.var (nat_lit 4)) (.lit (Int.ofNat (nat_lit 1048576)))))) (.add (.rem (.var (nat_lit 1)) (.lit (Int.ofNat (nat_lit 1048576)))) (.mul (.lit (Int.negSucc (nat_lit 0))) (.rem (.var (nat_lit 5)) (.lit (Int.ofNat (nat_lit 1048576)))))) (.lit (Int.ofNat (nat_lit 0))))], (Int.ofNat (nat_lit 1)))])
  (.test (.le [([], (Int.ofNat (nat_lit 1))), ([(.app (nat_lit 0) (.add (.rem (.var (nat_lit 0)) (.lit (Int.ofNat (nat_lit 1048576)))) (.mul (.lit (Int.negSucc (nat_lit 0))) (.rem (.var (nat_lit 4)) (.lit (Int.ofNat (nat_lit 1048576)))))) (.add (.rem (.var (nat_lit 1)) (.lit (Int.ofNat (nat_lit 1048576)))) (.mul (.lit (Int.negSucc (nat_lit 0))) (.rem (.var (nat_lit 5)) (.lit (Int.ofNat (nat_lit 1048576)))))) (.lit (Int.ofNat (nat_lit 0))))], (Int.ofNat (nat_lit 1)))])
  (.leaf (.bool false))
  (.leaf (.bool true)))
  (.leaf (.bool true))))
  (.test (.le [([(.app (nat_lit 0) (.add (.rem (.var (nat_lit 0)) (.lit (Int.ofNat (nat_lit 1048576)))) (.mul (.lit (Int.negSucc (nat_lit 0))) (.rem (.var (nat_lit 4)) (.lit (Int.ofNat (nat_lit 1048576)))))) (.add (.rem (.var (nat_lit 1)) (.lit (Int.ofNat (nat_lit 1048576)))) (.mul (.lit (Int.negSucc (nat_lit 0))) (.rem (.var (nat_lit 5)) (.lit (Int.ofNat (nat_lit 1048576)))))) (.lit (Int.ofNat (nat_lit 0))))], (Int.ofNat (nat_lit 1)))])
  (.test (.le [([], (Int.ofNat (nat_lit 1))), ([(.app (nat_lit 0) (.add (.rem (.var (nat_lit 0)) (.lit (Int.ofNat (nat_lit 1048576)))) (.mul (.lit (Int.negSucc (nat_lit 0))) (.rem (.var (nat_lit 4)) (.lit (Int.ofNat (nat_lit 1048576)))))) (.add (.rem (.var (nat_lit 1)) (.lit (Int.ofNat (nat_lit 1048576)))) (.mul (.lit (Int.negSucc (nat_lit 0))) (.rem (.var (nat_lit 5)) (.lit (Int.ofNat (nat_lit 1048576)))))) (.lit (Int.ofNat (nat_lit 0))))], (Int.ofNat (nat_lit 1)))])
  (.leaf (.bool false))
  (.leaf (.bool true)))
  (.leaf (.bool true))))
theorem f5C14 : checkT Tryd.prog (xWith (xOf symX) f5R) (gxOf symG) (sumsOf sums10) 10000 5 f5A f5T14 ((((facts0 f5K).no f5Q0).yes f5Q11).no f5Q12) = true := by kernel_rfl
def f5T15 : STree := .test f5Q12 f5T13 f5T14
theorem f5C15 : checkT Tryd.prog (xWith (xOf symX) f5R) (gxOf symG) (sumsOf sums10) 10000 5 f5A f5T15 (((facts0 f5K).no f5Q0).yes f5Q11) = true := checkT_test f5C13 f5C14
def f5T16 : STree := (.test (.le [([(.app (nat_lit 0) (.add (.rem (.var (nat_lit 2)) (.lit (Int.ofNat (nat_lit 1048576)))) (.mul (.lit (Int.negSucc (nat_lit 0))) (.rem (.var (nat_lit 4)) (.lit (Int.ofNat (nat_lit 1048576)))))) (.add (.rem (.var (nat_lit 3)) (.lit (Int.ofNat (nat_lit 1048576)))) (.mul (.lit (Int.negSucc (nat_lit 0))) (.rem (.var (nat_lit 5)) (.lit (Int.ofNat (nat_lit 1048576)))))) (.lit (Int.ofNat (nat_lit 0))))], (Int.ofNat (nat_lit 1)))])
  (.test (.le [([], (Int.ofNat (nat_lit 1))), ([(.app (nat_lit 0) (.add (.rem (.var (nat_lit 2)) (.lit (Int.ofNat (nat_lit 1048576)))) (.mul (.lit (Int.negSucc (nat_lit 0))) (.rem (.var (nat_lit 4)) (.lit (Int.ofNat (nat_lit 1048576)))))) (.add (.rem (.var (nat_lit 3)) (.lit (Int.ofNat (nat_lit 1048576)))) (.mul (.lit (Int.negSucc (nat_lit 0))) (.rem (.var (nat_lit 5)) (.lit (Int.ofNat (nat_lit 1048576)))))) (.lit (Int.ofNat (nat_lit 0))))], (Int.ofNat (nat_lit 1)))])
  (.leaf (.bool true))
  (.test (.le [([(.app (nat_lit 0) (.add (.rem (.var (nat_lit 0)) (.lit (Int.ofNat (nat_lit 1048576)))) (.mul (.lit (Int.negSucc (nat_lit 0))) (.rem (.var (nat_lit 4)) (.lit (Int.ofNat (nat_lit 1048576)))))) (.add (.rem (.var (nat_lit 1)) (.lit (Int.ofNat (nat_lit 1048576)))) (.mul (.lit (Int.negSucc (nat_lit 0))) (.rem (.var (nat_lit 5)) (.lit (Int.ofNat (nat_lit 1048576)))))) (.lit (Int.ofNat (nat_lit 0))))], (Int.ofNat (nat_lit 1)))])
  (.test (.le [([], (Int.ofNat (nat_lit 1))), ([(.app (nat_lit 0) (.add (.rem (.var (nat_lit 0)) (.lit (Int.ofNat (nat_lit 1048576)))) (.mul (.lit (Int.negSucc (nat_lit 0))) (.rem (.var (nat_lit 4)) (.lit (Int.ofNat (nat_lit 1048576)))))) (.add (.rem (.var (nat_lit 1)) (.lit (Int.ofNat (nat_lit 1048576)))) (.mul (.lit (Int.negSucc (nat_lit 0))) (.rem (.var (nat_lit 5)) (.lit (Int.ofNat (nat_lit 1048576)))))) (.lit (Int.ofNat (nat_lit 0))))], (Int.ofNat (nat_lit 1)))])
  (.leaf (.bool false))
  (.leaf (.bool true)))
  (.leaf (.bool true))))
  (.test (.le [([(.app (nat_lit 0) (.add (.rem (.var (nat_lit 0)) (.lit (Int.ofNat (nat_lit 1048576)))) (.mul (.lit (Int.negSucc (nat_lit 0))) (.rem (.var (nat_lit 4)) (.lit (Int.ofNat (nat_lit 1048576)))))) (.add (.rem (.var (nat_lit 1)) (.lit (Int.ofNat (nat_lit 1048576)))) (.mul (.lit (Int.negSucc (nat_lit 0))) (.rem (.var (nat_lit 5)) (.lit (Int.ofNat (nat_lit 1048576)))))) (.lit (Int.ofNat (nat_lit 0))))], (Int.ofNat (nat_lit 1)))])
  (.test (.le [([], (Int.ofNat (nat_lit 1))), ([(.app (nat_lit 0) (.add (.rem (.var (nat_lit 0)) (.lit (Int.ofNat (nat_lit 1048576)))) (.mul (.lit (Int.negSucc (nat_lit 0))) (.rem (.var (nat_lit 4)) (.lit (Int.ofNat (nat_lit 1048576)))))) (.add (.rem (.var (nat_lit 1)) (.lit (Int.ofNat (nat_lit 1048576)))) (.mul (.lit (Int.negSucc (nat_lit 0))) (.rem (.var (nat_lit 5)) (.lit (Int.ofNat (nat_lit 1048576)))))) (.lit (Int.ofNat (nat_lit 0))))], (Int.ofNat (nat_lit 1)))])
  (.leaf (.bool false))
  (.leaf (.bool true)))
  (.leaf (.bool true))))
theorem f5C16 : checkT Tryd.prog (xWith (xOf symX) f5R) (gxOf symG) (sumsOf sums10) 10000 5 f5A f5T16 (((facts0 f5K).no f5Q0).no f5Q11) = true := by kernel_rfl
def f5T17 : STree := .test f5Q11 f5T15 f5T16
theorem f5C17 : checkT Tryd.prog (xWith (xOf symX) f5R) (gxOf symG) (sumsOf sums10) 10000 5 f5A f5T17 ((facts0 f5K).no f5Q0) = true := checkT_test f5C15 f5C16
def f5T18 : STree := .test f5Q0 f5T10 f5T17
theorem f5C18 : checkT Tryd.prog (xWith (xOf symX) f5R) (gxOf symG) (sumsOf sums10) 10000 5 f5A f5T18 (facts0 f5K) = true := checkT_test f5C10 f5C17
def f5M : Summ := ⟨f5A, f5K, f5T18, f5R, []⟩
theorem f5Ok : SumOk Tryd.prog (xOf symX) (gxOf symG) 5 f5M := sumOk_of symMixed symClosed sums10Ok f5C18
theorem f5_exch : Exch f5M ⟨f5A, f5K, .leaf (.bool true), f5R, []⟩ := ⟨⟨rfl, rfl, rfl, rfl⟩, rfl, fun D hf _ => by
  simp only [f5M, f5Q0,f5Q1,f5Q2,f5T3,f5T4,f5T5,f5Q6,f5T7,f5T8,f5T9,f5T10,f5Q11,f5Q12,f5T13,f5T14,f5T15,f5T16,f5T17,f5T18, ev_le, ev_eq, ev_bool, Poly.ev, Mono.ev, E.ev, hf, stdF]
  generalize (D.env.v 0).tmod (Int.ofNat 1048576) = r0
  generalize (D.env.v 1).tmod (Int.ofNat 1048576) = r1
  generalize (D.env.v 2).tmod (Int.ofNat 1048576) = r2
  generalize (D.env.v 3).tmod (Int.ofNat 1048576) = r3
  generalize (D.env.v 4).tmod (Int.ofNat 1048576) = r4
  generalize (D.env.v 5).tmod (Int.ofNat 1048576) = r5
  simp only [neg_lit, one_lit, Int.neg_mul, Int.one_mul, Int.mul_one, Int.add_zero]
  have h1 := ssign_add (r0 + -r2) (r1 + -r3) (r2 + -r4) (r3 + -r5)
  rw [show r0 + -r2 + (r2 + -r4) = r0 + -r4 by omega, show r1 + -r3 + (r3 + -r5) = r1 + -r5 by omega] at h1
  have l1 := ssign_le (r0 + -r2) (r1 + -r3)
  have l2 := ssign_le (r2 + -r4) (r3 + -r5)
  have l3 := ssign_le (r0 + -r4) (r1 + -r5)
  have z1 := @ssign_zero (r0 + -r2) (r1 + -r3)
  generalize ssign (r0 + -r2) (r1 + -r3) = s1 at *
  generalize ssign (r2 + -r4) (r3 + -r5) = s2 at *
  generalize ssign (r0 + -r4) (r1 + -r5) = s3 at *
  repeat' split
  all_goals first | rfl | (exfalso; omega)⟩
theorem f5Law : SumOk Tryd.prog (xOf symX) (gxOf symG) 5 ⟨f5A, f5K, .leaf (.bool true), f5R, []⟩ := Exch.ok f5Ok f5_exch
end Go.Proofs.YtjghifocfjbmcabDoor
