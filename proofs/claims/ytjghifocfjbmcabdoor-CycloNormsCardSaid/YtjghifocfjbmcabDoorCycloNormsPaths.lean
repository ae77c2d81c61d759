/- The paths of CycloNorms, each checked by the kernel. -/
import Derived.Test.YtjghifocfjbmcabDoorSumsN
import Derived.KernelRfl
namespace Go.Proofs.YtjghifocfjbmcabDoor
open Go.Sym

def f9A : List SV := [(.agg [(.int .i64 [([(.var (nat_lit 0))], (Int.ofNat (nat_lit 1)))]), (.int .i64 [([(.var (nat_lit 1))], (Int.ofNat (nat_lit 1)))]), (.int .i64 [([(.var (nat_lit 2))], (Int.ofNat (nat_lit 1)))]), (.int .i64 [([(.var (nat_lit 3))], (Int.ofNat (nat_lit 1)))])]), (.agg [(.int .i64 [([(.var (nat_lit 4))], (Int.ofNat (nat_lit 1)))]), (.int .i64 [([(.var (nat_lit 5))], (Int.ofNat (nat_lit 1)))]), (.int .i64 [([(.var (nat_lit 6))], (Int.ofNat (nat_lit 1)))]), (.int .i64 [([(.var (nat_lit 7))], (Int.ofNat (nat_lit 1)))])]), (.int .i64 [([(.var (nat_lit 8))], (Int.ofNat (nat_lit 1)))])]
def f9K : List Iv := [ivT .i64, ivT .i64, ivT .i64, ivT .i64, ivT .i64, ivT .i64, ivT .i64, ivT .i64, ivT .i64]
def f9R : List (List SV) := []
def f9Q0 : Quest := (.le [([], (Int.negSucc (nat_lit 4))), ([(.emod (nat_lit 12) (.var (nat_lit 8)))], (Int.ofNat (nat_lit 1)))])
def f9Q1 : Quest := (.le [([], (Int.negSucc (nat_lit 1))), ([(.emod (nat_lit 12) (.var (nat_lit 8)))], (Int.ofNat (nat_lit 1)))])
def f9Q2 : Quest := (.le [([], (Int.negSucc (nat_lit 0))), ([(.emod (nat_lit 12) (.var (nat_lit 8)))], (Int.ofNat (nat_lit 1)))])
def f9Q3 : Quest := (.le [([(.emod (nat_lit 12) (.var (nat_lit 8)))], (Int.ofNat (nat_lit 1)))])
def f9Q4 : Quest := (.le [([(.app (nat_lit 0) (.add (.mul (.rem (.var (nat_lit 0)) (.lit (Int.ofNat (nat_lit 4096)))) (.rem (.var (nat_lit 0)) (.lit (Int.ofNat (nat_lit 4096))))) (.add (.mul (.rem (.var (nat_lit 0)) (.lit (Int.ofNat (nat_lit 4096)))) (.rem (.var (nat_lit 2)) (.lit (Int.ofNat (nat_lit 4096))))) (.add (.mul (.rem (.var (nat_lit 1)) (.lit (Int.ofNat (nat_lit 4096)))) (.rem (.var (nat_lit 1)) (.lit (Int.ofNat (nat_lit 4096))))) (.add (.mul (.rem (.var (nat_lit 1)) (.lit (Int.ofNat (nat_lit 4096)))) (.rem (.var (nat_lit 3)) (.lit (Int.ofNat (nat_lit 4096))))) (.add (.mul (.rem (.var (nat_lit 2)) (.lit (Int.ofNat (nat_lit 4096)))) (.rem (.var (nat_lit 2)) (.lit (Int.ofNat (nat_lit 4096))))) (.mul (.rem (.var (nat_lit 3)) (.lit (Int.ofNat (nat_lit 4096)))) (.rem (.var (nat_lit 3)) (.lit (Int.ofNat (nat_lit 4096)))))))))) (.add (.mul (.rem (.var (nat_lit 0)) (.lit (Int.ofNat (nat_lit 4096)))) (.rem (.var (nat_lit 1)) (.lit (Int.ofNat (nat_lit 4096))))) (.add (.mul (.rem (.var (nat_lit 1)) (.lit (Int.ofNat (nat_lit 4096)))) (.rem (.var (nat_lit 2)) (.lit (Int.ofNat (nat_lit 4096))))) (.mul (.rem (.var (nat_lit 2)) (.lit (Int.ofNat (nat_lit 4096)))) (.rem (.var (nat_lit 3)) (.lit (Int.ofNat (nat_lit 4096))))))) (.lit (Int.ofNat (nat_lit 0))))], (Int.ofNat (nat_lit 1)))])
def f9T5 : STree := (.test (.le [([], (Int.ofNat (nat_lit 1))), ([(.app (nat_lit 0) (.add (.mul (.rem (.var (nat_lit 0)) (.lit (Int.ofNat (nat_lit 4096)))) (.rem (.var (nat_lit 0)) (.lit (Int.ofNat (nat_lit 4096))))) (.add (.mul (.rem (.var (nat_lit 0)) (.lit (Int.ofNat (nat_lit 4096)))) (.rem (.var (nat_lit 2)) (.lit (Int.ofNat (nat_lit 4096))))) (.add (.mul (.rem (.var (nat_lit 1)) (.lit (Int.ofNat (nat_lit 4096)))) (.rem (.var (nat_lit 1)) (.lit (Int.ofNat (nat_lit 4096))))) (.add (.mul (.rem (.var (nat_lit 1)) (.lit (Int.ofNat (nat_lit 4096)))) (.rem (.var (nat_lit 3)) (.lit (Int.ofNat (nat_lit 4096))))) (.add (.mul (.rem (.var (nat_lit 2)) (.lit (Int.ofNat (nat_lit 4096)))) (.rem (.var (nat_lit 2)) (.lit (Int.ofNat (nat_lit 4096))))) (.mul (.rem (.var (nat_lit 3)) (.lit (Int.ofNat (nat_lit 4096)))) (.rem (.var (nat_lit 3)) (.lit (Int.ofNat (nat_lit 4096)))))))))) (.add (.mul (.rem (.var (nat_lit 0)) (.lit (Int.ofNat (nat_lit 4096)))) (.rem (.var (nat_lit 1)) (.lit (Int.ofNat (nat_lit 4096))))) (.add (.mul (.rem (.var (nat_lit 1)) (.lit (Int.ofNat (nat_lit 4096)))) (.rem (.var (nat_lit 2)) (.lit (Int.ofNat (nat_lit 4096))))) (.mul (.rem (.var (nat_lit 2)) (.lit (Int.ofNat (nat_lit 4096)))) (.rem (.var (nat_lit 3)) (.lit (Int.ofNat (nat_lit 4096))))))) (.lit (Int.ofNat (nat_lit 0))))], (Int.ofNat (nat_lit 1)))])
  (.leaf (.bool false))
  (.test (.eq [([(.rem (.var (nat_lit 0)) (.lit (Int.ofNat (nat_lit 4096))))], (Int.ofNat (nat_lit 1)))])
  (.test (.eq [([(.rem (.var (nat_lit 1)) (.lit (Int.ofNat (nat_lit 4096))))], (Int.ofNat (nat_lit 1)))])
  (.test (.eq [([(.rem (.var (nat_lit 2)) (.lit (Int.ofNat (nat_lit 4096))))], (Int.ofNat (nat_lit 1)))])
  (.test (.eq [([(.rem (.var (nat_lit 3)) (.lit (Int.ofNat (nat_lit 4096))))], (Int.ofNat (nat_lit 1)))])
  (.leaf (.bool true))
  (.leaf (.bool false)))
  (.leaf (.bool false)))
  (.leaf (.bool false)))
  (.leaf (.bool false))))
theorem f9C5 : checkT Tryd.prog (xWith (xOf symX) f9R) (gxOf symG) (sumsOf sums43) 10000 9 f9A f9T5 ((((((facts0 f9K).yes f9Q0).yes f9Q1).yes f9Q2).yes f9Q3).yes f9Q4) = true := by kernel_rfl
def f9T6 : STree := (.test (.eq [([(.rem (.var (nat_lit 0)) (.lit (Int.ofNat (nat_lit 4096))))], (Int.ofNat (nat_lit 1)))])
  (.test (.eq [([(.rem (.var (nat_lit 1)) (.lit (Int.ofNat (nat_lit 4096))))], (Int.ofNat (nat_lit 1)))])
  (.test (.eq [([(.rem (.var (nat_lit 2)) (.lit (Int.ofNat (nat_lit 4096))))], (Int.ofNat (nat_lit 1)))])
  (.test (.eq [([(.rem (.var (nat_lit 3)) (.lit (Int.ofNat (nat_lit 4096))))], (Int.ofNat (nat_lit 1)))])
  (.leaf (.bool true))
  (.leaf (.bool true)))
  (.leaf (.bool true)))
  (.leaf (.bool true)))
  (.leaf (.bool true)))
theorem f9C6 : checkT Tryd.prog (xWith (xOf symX) f9R) (gxOf symG) (sumsOf sums43) 10000 9 f9A f9T6 ((((((facts0 f9K).yes f9Q0).yes f9Q1).yes f9Q2).yes f9Q3).no f9Q4) = true := by kernel_rfl
def f9T7 : STree := .test f9Q4 f9T5 f9T6
theorem f9C7 : checkT Tryd.prog (xWith (xOf symX) f9R) (gxOf symG) (sumsOf sums43) 10000 9 f9A f9T7 (((((facts0 f9K).yes f9Q0).yes f9Q1).yes f9Q2).yes f9Q3) = true := checkT_test f9C5 f9C6
def f9Q8 : Quest := (.le [([(.app (nat_lit 0) (.add (.mul (.rem (.var (nat_lit 0)) (.lit (Int.ofNat (nat_lit 4096)))) (.rem (.var (nat_lit 0)) (.lit (Int.ofNat (nat_lit 4096))))) (.add (.mul (.rem (.var (nat_lit 0)) (.lit (Int.ofNat (nat_lit 4096)))) (.rem (.var (nat_lit 2)) (.lit (Int.ofNat (nat_lit 4096))))) (.add (.mul (.rem (.var (nat_lit 1)) (.lit (Int.ofNat (nat_lit 4096)))) (.rem (.var (nat_lit 1)) (.lit (Int.ofNat (nat_lit 4096))))) (.add (.mul (.rem (.var (nat_lit 1)) (.lit (Int.ofNat (nat_lit 4096)))) (.rem (.var (nat_lit 3)) (.lit (Int.ofNat (nat_lit 4096))))) (.add (.mul (.rem (.var (nat_lit 2)) (.lit (Int.ofNat (nat_lit 4096)))) (.rem (.var (nat_lit 2)) (.lit (Int.ofNat (nat_lit 4096))))) (.mul (.rem (.var (nat_lit 3)) (.lit (Int.ofNat (nat_lit 4096)))) (.rem (.var (nat_lit 3)) (.lit (Int.ofNat (nat_lit 4096)))))))))) (.add (.mul (.rem (.var (nat_lit 0)) (.lit (Int.ofNat (nat_lit 4096)))) (.rem (.var (nat_lit 1)) (.lit (Int.ofNat (nat_lit 4096))))) (.add (.mul (.rem (.var (nat_lit 1)) (.lit (Int.ofNat (nat_lit 4096)))) (.rem (.var (nat_lit 2)) (.lit (Int.ofNat (nat_lit 4096))))) (.mul (.rem (.var (nat_lit 2)) (.lit (Int.ofNat (nat_lit 4096)))) (.rem (.var (nat_lit 3)) (.lit (Int.ofNat (nat_lit 4096))))))) (.lit (Int.ofNat (nat_lit 0))))], (Int.ofNat (nat_lit 1)))])
def f9T9 : STree := (.test (.le [([], (Int.ofNat (nat_lit 1))), ([(.app (nat_lit 0) (.add (.mul (.rem (.var (nat_lit 0)) (.lit (Int.ofNat (nat_lit 4096)))) (.rem (.var (nat_lit 0)) (.lit (Int.ofNat (nat_lit 4096))))) (.add (.mul (.rem (.var (nat_lit 0)) (.lit (Int.ofNat (nat_lit 4096)))) (.rem (.var (nat_lit 2)) (.lit (Int.ofNat (nat_lit 4096))))) (.add (.mul (.rem (.var (nat_lit 1)) (.lit (Int.ofNat (nat_lit 4096)))) (.rem (.var (nat_lit 1)) (.lit (Int.ofNat (nat_lit 4096))))) (.add (.mul (.rem (.var (nat_lit 1)) (.lit (Int.ofNat (nat_lit 4096)))) (.rem (.var (nat_lit 3)) (.lit (Int.ofNat (nat_lit 4096))))) (.add (.mul (.rem (.var (nat_lit 2)) (.lit (Int.ofNat (nat_lit 4096)))) (.rem (.var (nat_lit 2)) (.lit (Int.ofNat (nat_lit 4096))))) (.mul (.rem (.var (nat_lit 3)) (.lit (Int.ofNat (nat_lit 4096)))) (.rem (.var (nat_lit 3)) (.lit (Int.ofNat (nat_lit 4096)))))))))) (.add (.mul (.rem (.var (nat_lit 0)) (.lit (Int.ofNat (nat_lit 4096)))) (.rem (.var (nat_lit 1)) (.lit (Int.ofNat (nat_lit 4096))))) (.add (.mul (.rem (.var (nat_lit 1)) (.lit (Int.ofNat (nat_lit 4096)))) (.rem (.var (nat_lit 2)) (.lit (Int.ofNat (nat_lit 4096))))) (.mul (.rem (.var (nat_lit 2)) (.lit (Int.ofNat (nat_lit 4096)))) (.rem (.var (nat_lit 3)) (.lit (Int.ofNat (nat_lit 4096))))))) (.lit (Int.ofNat (nat_lit 0))))], (Int.ofNat (nat_lit 1)))])
  (.leaf (.bool false))
  (.test (.eq [([(.rem (.var (nat_lit 0)) (.lit (Int.ofNat (nat_lit 4096))))], (Int.ofNat (nat_lit 1)))])
  (.test (.eq [([(.rem (.var (nat_lit 1)) (.lit (Int.ofNat (nat_lit 4096))))], (Int.ofNat (nat_lit 1)))])
  (.test (.eq [([(.rem (.var (nat_lit 2)) (.lit (Int.ofNat (nat_lit 4096))))], (Int.ofNat (nat_lit 1)))])
  (.test (.eq [([(.rem (.var (nat_lit 3)) (.lit (Int.ofNat (nat_lit 4096))))], (Int.ofNat (nat_lit 1)))])
  (.leaf (.bool true))
  (.leaf (.bool false)))
  (.leaf (.bool false)))
  (.leaf (.bool false)))
  (.leaf (.bool false))))
theorem f9C9 : checkT Tryd.prog (xWith (xOf symX) f9R) (gxOf symG) (sumsOf sums43) 10000 9 f9A f9T9 ((((((facts0 f9K).yes f9Q0).yes f9Q1).yes f9Q2).no f9Q3).yes f9Q8) = true := by kernel_rfl
def f9T10 : STree := (.test (.eq [([(.rem (.var (nat_lit 0)) (.lit (Int.ofNat (nat_lit 4096))))], (Int.ofNat (nat_lit 1)))])
  (.test (.eq [([(.rem (.var (nat_lit 1)) (.lit (Int.ofNat (nat_lit 4096))))], (Int.ofNat (nat_lit 1)))])
  (.test (.eq [([(.rem (.var (nat_lit 2)) (.lit (Int.ofNat (nat_lit 4096))))], (Int.ofNat (nat_lit 1)))])
  (.test (.eq [([(.rem (.var (nat_lit 3)) (.lit (Int.ofNat (nat_lit 4096))))], (Int.ofNat (nat_lit 1)))])
  (.leaf (.bool true))
  (.leaf (.bool true)))
  (.leaf (.bool true)))
  (.leaf (.bool true)))
  (.leaf (.bool true)))
theorem f9C10 : checkT Tryd.prog (xWith (xOf symX) f9R) (gxOf symG) (sumsOf sums43) 10000 9 f9A f9T10 ((((((facts0 f9K).yes f9Q0).yes f9Q1).yes f9Q2).no f9Q3).no f9Q8) = true := by kernel_rfl
def f9T11 : STree := .test f9Q8 f9T9 f9T10
theorem f9C11 : checkT Tryd.prog (xWith (xOf symX) f9R) (gxOf symG) (sumsOf sums43) 10000 9 f9A f9T11 (((((facts0 f9K).yes f9Q0).yes f9Q1).yes f9Q2).no f9Q3) = true := checkT_test f9C9 f9C10
def f9T12 : STree := .test f9Q3 f9T7 f9T11
theorem f9C12 : checkT Tryd.prog (xWith (xOf symX) f9R) (gxOf symG) (sumsOf sums43) 10000 9 f9A f9T12 ((((facts0 f9K).yes f9Q0).yes f9Q1).yes f9Q2) = true := checkT_test f9C7 f9C11
def f9Q13 : Quest := (.le [([(.app (nat_lit 0) (.add (.mul (.rem (.var (nat_lit 0)) (.lit (Int.ofNat (nat_lit 4096)))) (.rem (.var (nat_lit 0)) (.lit (Int.ofNat (nat_lit 4096))))) (.add (.mul (.rem (.var (nat_lit 0)) (.lit (Int.ofNat (nat_lit 4096)))) (.rem (.var (nat_lit 2)) (.lit (Int.ofNat (nat_lit 4096))))) (.add (.mul (.rem (.var (nat_lit 1)) (.lit (Int.ofNat (nat_lit 4096)))) (.rem (.var (nat_lit 1)) (.lit (Int.ofNat (nat_lit 4096))))) (.add (.mul (.rem (.var (nat_lit 1)) (.lit (Int.ofNat (nat_lit 4096)))) (.rem (.var (nat_lit 3)) (.lit (Int.ofNat (nat_lit 4096))))) (.add (.mul (.rem (.var (nat_lit 2)) (.lit (Int.ofNat (nat_lit 4096)))) (.rem (.var (nat_lit 2)) (.lit (Int.ofNat (nat_lit 4096))))) (.mul (.rem (.var (nat_lit 3)) (.lit (Int.ofNat (nat_lit 4096)))) (.rem (.var (nat_lit 3)) (.lit (Int.ofNat (nat_lit 4096)))))))))) (.add (.mul (.rem (.var (nat_lit 0)) (.lit (Int.ofNat (nat_lit 4096)))) (.rem (.var (nat_lit 1)) (.lit (Int.ofNat (nat_lit 4096))))) (.add (.mul (.rem (.var (nat_lit 1)) (.lit (Int.ofNat (nat_lit 4096)))) (.rem (.var (nat_lit 2)) (.lit (Int.ofNat (nat_lit 4096))))) (.mul (.rem (.var (nat_lit 2)) (.lit (Int.ofNat (nat_lit 4096)))) (.rem (.var (nat_lit 3)) (.lit (Int.ofNat (nat_lit 4096))))))) (.lit (Int.ofNat (nat_lit 0))))], (Int.ofNat (nat_lit 1)))])
def f9T14 : STree := (.test (.le [([], (Int.ofNat (nat_lit 1))), ([(.app (nat_lit 0) (.add (.mul (.rem (.var (nat_lit 0)) (.lit (Int.ofNat (nat_lit 4096)))) (.rem (.var (nat_lit 0)) (.lit (Int.ofNat (nat_lit 4096))))) (.add (.mul (.rem (.var (nat_lit 0)) (.lit (Int.ofNat (nat_lit 4096)))) (.rem (.var (nat_lit 2)) (.lit (Int.ofNat (nat_lit 4096))))) (.add (.mul (.rem (.var (nat_lit 1)) (.lit (Int.ofNat (nat_lit 4096)))) (.rem (.var (nat_lit 1)) (.lit (Int.ofNat (nat_lit 4096))))) (.add (.mul (.rem (.var (nat_lit 1)) (.lit (Int.ofNat (nat_lit 4096)))) (.rem (.var (nat_lit 3)) (.lit (Int.ofNat (nat_lit 4096))))) (.add (.mul (.rem (.var (nat_lit 2)) (.lit (Int.ofNat (nat_lit 4096)))) (.rem (.var (nat_lit 2)) (.lit (Int.ofNat (nat_lit 4096))))) (.mul (.rem (.var (nat_lit 3)) (.lit (Int.ofNat (nat_lit 4096)))) (.rem (.var (nat_lit 3)) (.lit (Int.ofNat (nat_lit 4096)))))))))) (.add (.mul (.rem (.var (nat_lit 0)) (.lit (Int.ofNat (nat_lit 4096)))) (.rem (.var (nat_lit 1)) (.lit (Int.ofNat (nat_lit 4096))))) (.add (.mul (.rem (.var (nat_lit 1)) (.lit (Int.ofNat (nat_lit 4096)))) (.rem (.var (nat_lit 2)) (.lit (Int.ofNat (nat_lit 4096))))) (.mul (.rem (.var (nat_lit 2)) (.lit (Int.ofNat (nat_lit 4096)))) (.rem (.var (nat_lit 3)) (.lit (Int.ofNat (nat_lit 4096))))))) (.lit (Int.ofNat (nat_lit 0))))], (Int.ofNat (nat_lit 1)))])
  (.leaf (.bool false))
  (.test (.eq [([(.rem (.var (nat_lit 0)) (.lit (Int.ofNat (nat_lit 4096))))], (Int.ofNat (nat_lit 1)))])
  (.test (.eq [([(.rem (.var (nat_lit 1)) (.lit (Int.ofNat (nat_lit 4096))))], (Int.ofNat (nat_lit 1)))])
  (.test (.eq [([(.rem (.var (nat_lit 2)) (.lit (Int.ofNat (nat_lit 4096))))], (Int.ofNat (nat_lit 1)))])
  (.test (.eq [([(.rem (.var (nat_lit 3)) (.lit (Int.ofNat (nat_lit 4096))))], (Int.ofNat (nat_lit 1)))])
  (.leaf (.bool true))
  (.leaf (.bool false)))
  (.leaf (.bool false)))
  (.leaf (.bool false)))
  (.leaf (.bool false))))
theorem f9C14 : checkT Tryd.prog (xWith (xOf symX) f9R) (gxOf symG) (sumsOf sums43) 10000 9 f9A f9T14 (((((facts0 f9K).yes f9Q0).yes f9Q1).no f9Q2).yes f9Q13) = true := by kernel_rfl
def f9T15 : STree := (.test (.eq [([(.rem (.var (nat_lit 0)) (.lit (Int.ofNat (nat_lit 4096))))], (Int.ofNat (nat_lit 1)))])
  (.test (.eq [([(.rem (.var (nat_lit 1)) (.lit (Int.ofNat (nat_lit 4096))))], (Int.ofNat (nat_lit 1)))])
  (.test (.eq [([(.rem (.var (nat_lit 2)) (.lit (Int.ofNat (nat_lit 4096))))], (Int.ofNat (nat_lit 1)))])
  (.test (.eq [([(.rem (.var (nat_lit 3)) (.lit (Int.ofNat (nat_lit 4096))))], (Int.ofNat (nat_lit 1)))])
  (.leaf (.bool true))
  (.leaf (.bool true)))
  (.leaf (.bool true)))
  (.leaf (.bool true)))
  (.leaf (.bool true)))
theorem f9C15 : checkT Tryd.prog (xWith (xOf symX) f9R) (gxOf symG) (sumsOf sums43) 10000 9 f9A f9T15 (((((facts0 f9K).yes f9Q0).yes f9Q1).no f9Q2).no f9Q13) = true := by kernel_rfl
def f9T16 : STree := .test f9Q13 f9T14 f9T15
theorem f9C16 : checkT Tryd.prog (xWith (xOf symX) f9R) (gxOf symG) (sumsOf sums43) 10000 9 f9A f9T16 ((((facts0 f9K).yes f9Q0).yes f9Q1).no f9Q2) = true := checkT_test f9C14 f9C15
def f9T17 : STree := .test f9Q2 f9T12 f9T16
theorem f9C17 : checkT Tryd.prog (xWith (xOf symX) f9R) (gxOf symG) (sumsOf sums43) 10000 9 f9A f9T17 (((facts0 f9K).yes f9Q0).yes f9Q1) = true := checkT_test f9C12 f9C16
def f9Q18 : Quest := (.le [([], (Int.negSucc (nat_lit 3))), ([(.emod (nat_lit 12) (.var (nat_lit 8)))], (Int.ofNat (nat_lit 1)))])
def f9Q19 : Quest := (.le [([], (Int.negSucc (nat_lit 2))), ([(.emod (nat_lit 12) (.var (nat_lit 8)))], (Int.ofNat (nat_lit 1)))])
def f9Q20 : Quest := (.le [([(.app (nat_lit 0) (.add (.mul (.rem (.var (nat_lit 0)) (.lit (Int.ofNat (nat_lit 4096)))) (.rem (.var (nat_lit 0)) (.lit (Int.ofNat (nat_lit 4096))))) (.add (.mul (.rem (.var (nat_lit 0)) (.lit (Int.ofNat (nat_lit 4096)))) (.rem (.var (nat_lit 2)) (.lit (Int.ofNat (nat_lit 4096))))) (.add (.mul (.rem (.var (nat_lit 1)) (.lit (Int.ofNat (nat_lit 4096)))) (.rem (.var (nat_lit 1)) (.lit (Int.ofNat (nat_lit 4096))))) (.add (.mul (.rem (.var (nat_lit 1)) (.lit (Int.ofNat (nat_lit 4096)))) (.rem (.var (nat_lit 3)) (.lit (Int.ofNat (nat_lit 4096))))) (.add (.mul (.rem (.var (nat_lit 2)) (.lit (Int.ofNat (nat_lit 4096)))) (.rem (.var (nat_lit 2)) (.lit (Int.ofNat (nat_lit 4096))))) (.mul (.rem (.var (nat_lit 3)) (.lit (Int.ofNat (nat_lit 4096)))) (.rem (.var (nat_lit 3)) (.lit (Int.ofNat (nat_lit 4096)))))))))) (.add (.mul (.rem (.var (nat_lit 0)) (.lit (Int.ofNat (nat_lit 4096)))) (.rem (.var (nat_lit 1)) (.lit (Int.ofNat (nat_lit 4096))))) (.add (.mul (.rem (.var (nat_lit 1)) (.lit (Int.ofNat (nat_lit 4096)))) (.rem (.var (nat_lit 2)) (.lit (Int.ofNat (nat_lit 4096))))) (.mul (.rem (.var (nat_lit 2)) (.lit (Int.ofNat (nat_lit 4096)))) (.rem (.var (nat_lit 3)) (.lit (Int.ofNat (nat_lit 4096))))))) (.lit (Int.ofNat (nat_lit 0))))], (Int.ofNat (nat_lit 1)))])
def f9T21 : STree := (.test (.le [([], (Int.ofNat (nat_lit 1))), ([(.app (nat_lit 0) (.add (.mul (.rem (.var (nat_lit 0)) (.lit (Int.ofNat (nat_lit 4096)))) (.rem (.var (nat_lit 0)) (.lit (Int.ofNat (nat_lit 4096))))) (.add (.mul (.rem (.var (nat_lit 0)) (.lit (Int.ofNat (nat_lit 4096)))) (.rem (.var (nat_lit 2)) (.lit (Int.ofNat (nat_lit 4096))))) (.add (.mul (.rem (.var (nat_lit 1)) (.lit (Int.ofNat (nat_lit 4096)))) (.rem (.var (nat_lit 1)) (.lit (Int.ofNat (nat_lit 4096))))) (.add (.mul (.rem (.var (nat_lit 1)) (.lit (Int.ofNat (nat_lit 4096)))) (.rem (.var (nat_lit 3)) (.lit (Int.ofNat (nat_lit 4096))))) (.add (.mul (.rem (.var (nat_lit 2)) (.lit (Int.ofNat (nat_lit 4096)))) (.rem (.var (nat_lit 2)) (.lit (Int.ofNat (nat_lit 4096))))) (.mul (.rem (.var (nat_lit 3)) (.lit (Int.ofNat (nat_lit 4096)))) (.rem (.var (nat_lit 3)) (.lit (Int.ofNat (nat_lit 4096)))))))))) (.add (.mul (.rem (.var (nat_lit 0)) (.lit (Int.ofNat (nat_lit 4096)))) (.rem (.var (nat_lit 1)) (.lit (Int.ofNat (nat_lit 4096))))) (.add (.mul (.rem (.var (nat_lit 1)) (.lit (Int.ofNat (nat_lit 4096)))) (.rem (.var (nat_lit 2)) (.lit (Int.ofNat (nat_lit 4096))))) (.mul (.rem (.var (nat_lit 2)) (.lit (Int.ofNat (nat_lit 4096)))) (.rem (.var (nat_lit 3)) (.lit (Int.ofNat (nat_lit 4096))))))) (.lit (Int.ofNat (nat_lit 0))))], (Int.ofNat (nat_lit 1)))])
  (.leaf (.bool false))
  (.test (.eq [([(.rem (.var (nat_lit 0)) (.lit (Int.ofNat (nat_lit 4096))))], (Int.ofNat (nat_lit 1)))])
  (.test (.eq [([(.rem (.var (nat_lit 1)) (.lit (Int.ofNat (nat_lit 4096))))], (Int.ofNat (nat_lit 1)))])
  (.test (.eq [([(.rem (.var (nat_lit 2)) (.lit (Int.ofNat (nat_lit 4096))))], (Int.ofNat (nat_lit 1)))])
  (.test (.eq [([(.rem (.var (nat_lit 3)) (.lit (Int.ofNat (nat_lit 4096))))], (Int.ofNat (nat_lit 1)))])
  (.leaf (.bool true))
  (.leaf (.bool false)))
  (.leaf (.bool false)))
  (.leaf (.bool false)))
  (.leaf (.bool false))))
theorem f9C21 : checkT Tryd.prog (xWith (xOf symX) f9R) (gxOf symG) (sumsOf sums43) 10000 9 f9A f9T21 ((((((facts0 f9K).yes f9Q0).no f9Q1).yes f9Q18).yes f9Q19).yes f9Q20) = true := by kernel_rfl
def f9T22 : STree := (.test (.eq [([(.rem (.var (nat_lit 0)) (.lit (Int.ofNat (nat_lit 4096))))], (Int.ofNat (nat_lit 1)))])
  (.test (.eq [([(.rem (.var (nat_lit 1)) (.lit (Int.ofNat (nat_lit 4096))))], (Int.ofNat (nat_lit 1)))])
  (.test (.eq [([(.rem (.var (nat_lit 2)) (.lit (Int.ofNat (nat_lit 4096))))], (Int.ofNat (nat_lit 1)))])
  (.test (.eq [([(.rem (.var (nat_lit 3)) (.lit (Int.ofNat (nat_lit 4096))))], (Int.ofNat (nat_lit 1)))])
  (.leaf (.bool true))
  (.leaf (.bool true)))
  (.leaf (.bool true)))
  (.leaf (.bool true)))
  (.leaf (.bool true)))
theorem f9C22 : checkT Tryd.prog (xWith (xOf symX) f9R) (gxOf symG) (sumsOf sums43) 10000 9 f9A f9T22 ((((((facts0 f9K).yes f9Q0).no f9Q1).yes f9Q18).yes f9Q19).no f9Q20) = true := by kernel_rfl
def f9T23 : STree := .test f9Q20 f9T21 f9T22
theorem f9C23 : checkT Tryd.prog (xWith (xOf symX) f9R) (gxOf symG) (sumsOf sums43) 10000 9 f9A f9T23 (((((facts0 f9K).yes f9Q0).no f9Q1).yes f9Q18).yes f9Q19) = true := checkT_test f9C21 f9C22
def f9Q24 : Quest := (.le [([(.app (nat_lit 0) (.add (.mul (.rem (.var (nat_lit 0)) (.lit (Int.ofNat (nat_lit 4096)))) (.rem (.var (nat_lit 0)) (.lit (Int.ofNat (nat_lit 4096))))) (.add (.mul (.rem (.var (nat_lit 0)) (.lit (Int.ofNat (nat_lit 4096)))) (.rem (.var (nat_lit 2)) (.lit (Int.ofNat (nat_lit 4096))))) (.add (.mul (.rem (.var (nat_lit 1)) (.lit (Int.ofNat (nat_lit 4096)))) (.rem (.var (nat_lit 1)) (.lit (Int.ofNat (nat_lit 4096))))) (.add (.mul (.rem (.var (nat_lit 1)) (.lit (Int.ofNat (nat_lit 4096)))) (.rem (.var (nat_lit 3)) (.lit (Int.ofNat (nat_lit 4096))))) (.add (.mul (.rem (.var (nat_lit 2)) (.lit (Int.ofNat (nat_lit 4096)))) (.rem (.var (nat_lit 2)) (.lit (Int.ofNat (nat_lit 4096))))) (.mul (.rem (.var (nat_lit 3)) (.lit (Int.ofNat (nat_lit 4096)))) (.rem (.var (nat_lit 3)) (.lit (Int.ofNat (nat_lit 4096)))))))))) (.add (.mul (.rem (.var (nat_lit 0)) (.lit (Int.ofNat (nat_lit 4096)))) (.rem (.var (nat_lit 1)) (.lit (Int.ofNat (nat_lit 4096))))) (.add (.mul (.rem (.var (nat_lit 1)) (.lit (Int.ofNat (nat_lit 4096)))) (.rem (.var (nat_lit 2)) (.lit (Int.ofNat (nat_lit 4096))))) (.mul (.rem (.var (nat_lit 2)) (.lit (Int.ofNat (nat_lit 4096)))) (.rem (.var (nat_lit 3)) (.lit (Int.ofNat (nat_lit 4096))))))) (.lit (Int.ofNat (nat_lit 0))))], (Int.ofNat (nat_lit 1)))])
def f9T25 : STree := (.test (.le [([], (Int.ofNat (nat_lit 1))), ([(.app (nat_lit 0) (.add (.mul (.rem (.var (nat_lit 0)) (.lit (Int.ofNat (nat_lit 4096)))) (.rem (.var (nat_lit 0)) (.lit (Int.ofNat (nat_lit 4096))))) (.add (.mul (.rem (.var (nat_lit 0)) (.lit (Int.ofNat (nat_lit 4096)))) (.rem (.var (nat_lit 2)) (.lit (Int.ofNat (nat_lit 4096))))) (.add (.mul (.rem (.var (nat_lit 1)) (.lit (Int.ofNat (nat_lit 4096)))) (.rem (.var (nat_lit 1)) (.lit (Int.ofNat (nat_lit 4096))))) (.add (.mul (.rem (.var (nat_lit 1)) (.lit (Int.ofNat (nat_lit 4096)))) (.rem (.var (nat_lit 3)) (.lit (Int.ofNat (nat_lit 4096))))) (.add (.mul (.rem (.var (nat_lit 2)) (.lit (Int.ofNat (nat_lit 4096)))) (.rem (.var (nat_lit 2)) (.lit (Int.ofNat (nat_lit 4096))))) (.mul (.rem (.var (nat_lit 3)) (.lit (Int.ofNat (nat_lit 4096)))) (.rem (.var (nat_lit 3)) (.lit (Int.ofNat (nat_lit 4096)))))))))) (.add (.mul (.rem (.var (nat_lit 0)) (.lit (Int.ofNat (nat_lit 4096)))) (.rem (.var (nat_lit 1)) (.lit (Int.ofNat (nat_lit 4096))))) (.add (.mul (.rem (.var (nat_lit 1)) (.lit (Int.ofNat (nat_lit 4096)))) (.rem (.var (nat_lit 2)) (.lit (Int.ofNat (nat_lit 4096))))) (.mul (.rem (.var (nat_lit 2)) (.lit (Int.ofNat (nat_lit 4096)))) (.rem (.var (nat_lit 3)) (.lit (Int.ofNat (nat_lit 4096))))))) (.lit (Int.ofNat (nat_lit 0))))], (Int.ofNat (nat_lit 1)))])
  (.leaf (.bool false))
  (.test (.eq [([(.rem (.var (nat_lit 0)) (.lit (Int.ofNat (nat_lit 4096))))], (Int.ofNat (nat_lit 1)))])
  (.test (.eq [([(.rem (.var (nat_lit 1)) (.lit (Int.ofNat (nat_lit 4096))))], (Int.ofNat (nat_lit 1)))])
  (.test (.eq [([(.rem (.var (nat_lit 2)) (.lit (Int.ofNat (nat_lit 4096))))], (Int.ofNat (nat_lit 1)))])
  (.test (.eq [([(.rem (.var (nat_lit 3)) (.lit (Int.ofNat (nat_lit 4096))))], (Int.ofNat (nat_lit 1)))])
  (.leaf (.bool true))
  (.leaf (.bool false)))
  (.leaf (.bool false)))
  (.leaf (.bool false)))
  (.leaf (.bool false))))
theorem f9C25 : checkT Tryd.prog (xWith (xOf symX) f9R) (gxOf symG) (sumsOf sums43) 10000 9 f9A f9T25 ((((((facts0 f9K).yes f9Q0).no f9Q1).yes f9Q18).no f9Q19).yes f9Q24) = true := by kernel_rfl
def f9T26 : STree := (.test (.eq [([(.rem (.var (nat_lit 0)) (.lit (Int.ofNat (nat_lit 4096))))], (Int.ofNat (nat_lit 1)))])
  (.test (.eq [([(.rem (.var (nat_lit 1)) (.lit (Int.ofNat (nat_lit 4096))))], (Int.ofNat (nat_lit 1)))])
  (.test (.eq [([(.rem (.var (nat_lit 2)) (.lit (Int.ofNat (nat_lit 4096))))], (Int.ofNat (nat_lit 1)))])
  (.test (.eq [([(.rem (.var (nat_lit 3)) (.lit (Int.ofNat (nat_lit 4096))))], (Int.ofNat (nat_lit 1)))])
  (.leaf (.bool true))
  (.leaf (.bool true)))
  (.leaf (.bool true)))
  (.leaf (.bool true)))
  (.leaf (.bool true)))
theorem f9C26 : checkT Tryd.prog (xWith (xOf symX) f9R) (gxOf symG) (sumsOf sums43) 10000 9 f9A f9T26 ((((((facts0 f9K).yes f9Q0).no f9Q1).yes f9Q18).no f9Q19).no f9Q24) = true := by kernel_rfl
def f9T27 : STree := .test f9Q24 f9T25 f9T26
theorem f9C27 : checkT Tryd.prog (xWith (xOf symX) f9R) (gxOf symG) (sumsOf sums43) 10000 9 f9A f9T27 (((((facts0 f9K).yes f9Q0).no f9Q1).yes f9Q18).no f9Q19) = true := checkT_test f9C25 f9C26
def f9T28 : STree := .test f9Q19 f9T23 f9T27
theorem f9C28 : checkT Tryd.prog (xWith (xOf symX) f9R) (gxOf symG) (sumsOf sums43) 10000 9 f9A f9T28 ((((facts0 f9K).yes f9Q0).no f9Q1).yes f9Q18) = true := checkT_test f9C23 f9C27
def f9Q29 : Quest := (.le [([(.app (nat_lit 0) (.add (.mul (.rem (.var (nat_lit 0)) (.lit (Int.ofNat (nat_lit 4096)))) (.rem (.var (nat_lit 0)) (.lit (Int.ofNat (nat_lit 4096))))) (.add (.mul (.rem (.var (nat_lit 0)) (.lit (Int.ofNat (nat_lit 4096)))) (.rem (.var (nat_lit 2)) (.lit (Int.ofNat (nat_lit 4096))))) (.add (.mul (.rem (.var (nat_lit 1)) (.lit (Int.ofNat (nat_lit 4096)))) (.rem (.var (nat_lit 1)) (.lit (Int.ofNat (nat_lit 4096))))) (.add (.mul (.rem (.var (nat_lit 1)) (.lit (Int.ofNat (nat_lit 4096)))) (.rem (.var (nat_lit 3)) (.lit (Int.ofNat (nat_lit 4096))))) (.add (.mul (.rem (.var (nat_lit 2)) (.lit (Int.ofNat (nat_lit 4096)))) (.rem (.var (nat_lit 2)) (.lit (Int.ofNat (nat_lit 4096))))) (.mul (.rem (.var (nat_lit 3)) (.lit (Int.ofNat (nat_lit 4096)))) (.rem (.var (nat_lit 3)) (.lit (Int.ofNat (nat_lit 4096)))))))))) (.add (.mul (.rem (.var (nat_lit 0)) (.lit (Int.ofNat (nat_lit 4096)))) (.rem (.var (nat_lit 1)) (.lit (Int.ofNat (nat_lit 4096))))) (.add (.mul (.rem (.var (nat_lit 1)) (.lit (Int.ofNat (nat_lit 4096)))) (.rem (.var (nat_lit 2)) (.lit (Int.ofNat (nat_lit 4096))))) (.mul (.rem (.var (nat_lit 2)) (.lit (Int.ofNat (nat_lit 4096)))) (.rem (.var (nat_lit 3)) (.lit (Int.ofNat (nat_lit 4096))))))) (.lit (Int.ofNat (nat_lit 0))))], (Int.ofNat (nat_lit 1)))])
def f9T30 : STree := (.test (.le [([], (Int.ofNat (nat_lit 1))), ([(.app (nat_lit 0) (.add (.mul (.rem (.var (nat_lit 0)) (.lit (Int.ofNat (nat_lit 4096)))) (.rem (.var (nat_lit 0)) (.lit (Int.ofNat (nat_lit 4096))))) (.add (.mul (.rem (.var (nat_lit 0)) (.lit (Int.ofNat (nat_lit 4096)))) (.rem (.var (nat_lit 2)) (.lit (Int.ofNat (nat_lit 4096))))) (.add (.mul (.rem (.var (nat_lit 1)) (.lit (Int.ofNat (nat_lit 4096)))) (.rem (.var (nat_lit 1)) (.lit (Int.ofNat (nat_lit 4096))))) (.add (.mul (.rem (.var (nat_lit 1)) (.lit (Int.ofNat (nat_lit 4096)))) (.rem (.var (nat_lit 3)) (.lit (Int.ofNat (nat_lit 4096))))) (.add (.mul (.rem (.var (nat_lit 2)) (.lit (Int.ofNat (nat_lit 4096)))) (.rem (.var (nat_lit 2)) (.lit (Int.ofNat (nat_lit 4096))))) (.mul (.rem (.var (nat_lit 3)) (.lit (Int.ofNat (nat_lit 4096)))) (.rem (.var (nat_lit 3)) (.lit (Int.ofNat (nat_lit 4096)))))))))) (.add (.mul (.rem (.var (nat_lit 0)) (.lit (Int.ofNat (nat_lit 4096)))) (.rem (.var (nat_lit 1)) (.lit (Int.ofNat (nat_lit 4096))))) (.add (.mul (.rem (.var (nat_lit 1)) (.lit (Int.ofNat (nat_lit 4096)))) (.rem (.var (nat_lit 2)) (.lit (Int.ofNat (nat_lit 4096))))) (.mul (.rem (.var (nat_lit 2)) (.lit (Int.ofNat (nat_lit 4096)))) (.rem (.var (nat_lit 3)) (.lit (Int.ofNat (nat_lit 4096))))))) (.lit (Int.ofNat (nat_lit 0))))], (Int.ofNat (nat_lit 1)))])
  (.leaf (.bool false))
  (.test (.eq [([(.rem (.var (nat_lit 0)) (.lit (Int.ofNat (nat_lit 4096))))], (Int.ofNat (nat_lit 1)))])
  (.test (.eq [([(.rem (.var (nat_lit 1)) (.lit (Int.ofNat (nat_lit 4096))))], (Int.ofNat (nat_lit 1)))])
  (.test (.eq [([(.rem (.var (nat_lit 2)) (.lit (Int.ofNat (nat_lit 4096))))], (Int.ofNat (nat_lit 1)))])
  (.test (.eq [([(.rem (.var (nat_lit 3)) (.lit (Int.ofNat (nat_lit 4096))))], (Int.ofNat (nat_lit 1)))])
  (.leaf (.bool true))
  (.leaf (.bool false)))
  (.leaf (.bool false)))
  (.leaf (.bool false)))
  (.leaf (.bool false))))
theorem f9C30 : checkT Tryd.prog (xWith (xOf symX) f9R) (gxOf symG) (sumsOf sums43) 10000 9 f9A f9T30 (((((facts0 f9K).yes f9Q0).no f9Q1).no f9Q18).yes f9Q29) = true := by kernel_rfl
def f9T31 : STree := (.test (.eq [([(.rem (.var (nat_lit 0)) (.lit (Int.ofNat (nat_lit 4096))))], (Int.ofNat (nat_lit 1)))])
  (.test (.eq [([(.rem (.var (nat_lit 1)) (.lit (Int.ofNat (nat_lit 4096))))], (Int.ofNat (nat_lit 1)))])
  (.test (.eq [([(.rem (.var (nat_lit 2)) (.lit (Int.ofNat (nat_lit 4096))))], (Int.ofNat (nat_lit 1)))])
  (.test (.eq [([(.rem (.var (nat_lit 3)) (.lit (Int.ofNat (nat_lit 4096))))], (Int.ofNat (nat_lit 1)))])
  (.leaf (.bool true))
  (.leaf (.bool true)))
  (.leaf (.bool true)))
  (.leaf (.bool true)))
  (.leaf (.bool true)))
theorem f9C31 : checkT Tryd.prog (xWith (xOf symX) f9R) (gxOf symG) (sumsOf sums43) 10000 9 f9A f9T31 (((((facts0 f9K).yes f9Q0).no f9Q1).no f9Q18).no f9Q29) = true := by kernel_rfl
def f9T32 : STree := .test f9Q29 f9T30 f9T31
theorem f9C32 : checkT Tryd.prog (xWith (xOf symX) f9R) (gxOf symG) (sumsOf sums43) 10000 9 f9A f9T32 ((((facts0 f9K).yes f9Q0).no f9Q1).no f9Q18) = true := checkT_test f9C30 f9C31
def f9T33 : STree := .test f9Q18 f9T28 f9T32
theorem f9C33 : checkT Tryd.prog (xWith (xOf symX) f9R) (gxOf symG) (sumsOf sums43) 10000 9 f9A f9T33 (((facts0 f9K).yes f9Q0).no f9Q1) = true := checkT_test f9C28 f9C32
def f9T34 : STree := .test f9Q1 f9T17 f9T33
theorem f9C34 : checkT Tryd.prog (xWith (xOf symX) f9R) (gxOf symG) (sumsOf sums43) 10000 9 f9A f9T34 ((facts0 f9K).yes f9Q0) = true := checkT_test f9C17 f9C33
def f9Q35 : Quest := (.le [([], (Int.negSucc (nat_lit 7))), ([(.emod (nat_lit 12) (.var (nat_lit 8)))], (Int.ofNat (nat_lit 1)))])
def f9Q36 : Quest := (.le [([], (Int.negSucc (nat_lit 6))), ([(.emod (nat_lit 12) (.var (nat_lit 8)))], (Int.ofNat (nat_lit 1)))])
def f9Q37 : Quest := (.le [([], (Int.negSucc (nat_lit 5))), ([(.emod (nat_lit 12) (.var (nat_lit 8)))], (Int.ofNat (nat_lit 1)))])
def f9Q38 : Quest := (.le [([(.app (nat_lit 0) (.add (.mul (.rem (.var (nat_lit 0)) (.lit (Int.ofNat (nat_lit 4096)))) (.rem (.var (nat_lit 0)) (.lit (Int.ofNat (nat_lit 4096))))) (.add (.mul (.rem (.var (nat_lit 0)) (.lit (Int.ofNat (nat_lit 4096)))) (.rem (.var (nat_lit 2)) (.lit (Int.ofNat (nat_lit 4096))))) (.add (.mul (.rem (.var (nat_lit 1)) (.lit (Int.ofNat (nat_lit 4096)))) (.rem (.var (nat_lit 1)) (.lit (Int.ofNat (nat_lit 4096))))) (.add (.mul (.rem (.var (nat_lit 1)) (.lit (Int.ofNat (nat_lit 4096)))) (.rem (.var (nat_lit 3)) (.lit (Int.ofNat (nat_lit 4096))))) (.add (.mul (.rem (.var (nat_lit 2)) (.lit (Int.ofNat (nat_lit 4096)))) (.rem (.var (nat_lit 2)) (.lit (Int.ofNat (nat_lit 4096))))) (.mul (.rem (.var (nat_lit 3)) (.lit (Int.ofNat (nat_lit 4096)))) (.rem (.var (nat_lit 3)) (.lit (Int.ofNat (nat_lit 4096)))))))))) (.add (.mul (.rem (.var (nat_lit 0)) (.lit (Int.ofNat (nat_lit 4096)))) (.rem (.var (nat_lit 1)) (.lit (Int.ofNat (nat_lit 4096))))) (.add (.mul (.rem (.var (nat_lit 1)) (.lit (Int.ofNat (nat_lit 4096)))) (.rem (.var (nat_lit 2)) (.lit (Int.ofNat (nat_lit 4096))))) (.mul (.rem (.var (nat_lit 2)) (.lit (Int.ofNat (nat_lit 4096)))) (.rem (.var (nat_lit 3)) (.lit (Int.ofNat (nat_lit 4096))))))) (.lit (Int.ofNat (nat_lit 0))))], (Int.ofNat (nat_lit 1)))])
def f9T39 : STree := (.test (.le [([], (Int.ofNat (nat_lit 1))), ([(.app (nat_lit 0) (.add (.mul (.rem (.var (nat_lit 0)) (.lit (Int.ofNat (nat_lit 4096)))) (.rem (.var (nat_lit 0)) (.lit (Int.ofNat (nat_lit 4096))))) (.add (.mul (.rem (.var (nat_lit 0)) (.lit (Int.ofNat (nat_lit 4096)))) (.rem (.var (nat_lit 2)) (.lit (Int.ofNat (nat_lit 4096))))) (.add (.mul (.rem (.var (nat_lit 1)) (.lit (Int.ofNat (nat_lit 4096)))) (.rem (.var (nat_lit 1)) (.lit (Int.ofNat (nat_lit 4096))))) (.add (.mul (.rem (.var (nat_lit 1)) (.lit (Int.ofNat (nat_lit 4096)))) (.rem (.var (nat_lit 3)) (.lit (Int.ofNat (nat_lit 4096))))) (.add (.mul (.rem (.var (nat_lit 2)) (.lit (Int.ofNat (nat_lit 4096)))) (.rem (.var (nat_lit 2)) (.lit (Int.ofNat (nat_lit 4096))))) (.mul (.rem (.var (nat_lit 3)) (.lit (Int.ofNat (nat_lit 4096)))) (.rem (.var (nat_lit 3)) (.lit (Int.ofNat (nat_lit 4096)))))))))) (.add (.mul (.rem (.var (nat_lit 0)) (.lit (Int.ofNat (nat_lit 4096)))) (.rem (.var (nat_lit 1)) (.lit (Int.ofNat (nat_lit 4096))))) (.add (.mul (.rem (.var (nat_lit 1)) (.lit (Int.ofNat (nat_lit 4096)))) (.rem (.var (nat_lit 2)) (.lit (Int.ofNat (nat_lit 4096))))) (.mul (.rem (.var (nat_lit 2)) (.lit (Int.ofNat (nat_lit 4096)))) (.rem (.var (nat_lit 3)) (.lit (Int.ofNat (nat_lit 4096))))))) (.lit (Int.ofNat (nat_lit 0))))], (Int.ofNat (nat_lit 1)))])
  (.leaf (.bool false))
  (.test (.eq [([(.rem (.var (nat_lit 0)) (.lit (Int.ofNat (nat_lit 4096))))], (Int.ofNat (nat_lit 1)))])
  (.test (.eq [([(.rem (.var (nat_lit 1)) (.lit (Int.ofNat (nat_lit 4096))))], (Int.ofNat (nat_lit 1)))])
  (.test (.eq [([(.rem (.var (nat_lit 2)) (.lit (Int.ofNat (nat_lit 4096))))], (Int.ofNat (nat_lit 1)))])
  (.test (.eq [([(.rem (.var (nat_lit 3)) (.lit (Int.ofNat (nat_lit 4096))))], (Int.ofNat (nat_lit 1)))])
  (.leaf (.bool true))
  (.leaf (.bool false)))
  (.leaf (.bool false)))
  (.leaf (.bool false)))
  (.leaf (.bool false))))
theorem f9C39 : checkT Tryd.prog (xWith (xOf symX) f9R) (gxOf symG) (sumsOf sums43) 10000 9 f9A f9T39 ((((((facts0 f9K).no f9Q0).yes f9Q35).yes f9Q36).yes f9Q37).yes f9Q38) = true := by kernel_rfl
def f9T40 : STree := (.test (.eq [([(.rem (.var (nat_lit 0)) (.lit (Int.ofNat (nat_lit 4096))))], (Int.ofNat (nat_lit 1)))])
  (.test (.eq [([(.rem (.var (nat_lit 1)) (.lit (Int.ofNat (nat_lit 4096))))], (Int.ofNat (nat_lit 1)))])
  (.test (.eq [([(.rem (.var (nat_lit 2)) (.lit (Int.ofNat (nat_lit 4096))))], (Int.ofNat (nat_lit 1)))])
  (.test (.eq [([(.rem (.var (nat_lit 3)) (.lit (Int.ofNat (nat_lit 4096))))], (Int.ofNat (nat_lit 1)))])
  (.leaf (.bool true))
  (.leaf (.bool true)))
  (.leaf (.bool true)))
  (.leaf (.bool true)))
  (.leaf (.bool true)))
theorem f9C40 : checkT Tryd.prog (xWith (xOf symX) f9R) (gxOf symG) (sumsOf sums43) 10000 9 f9A f9T40 ((((((facts0 f9K).no f9Q0).yes f9Q35).yes f9Q36).yes f9Q37).no f9Q38) = true := by kernel_rfl
def f9T41 : STree := .test f9Q38 f9T39 f9T40
theorem f9C41 : checkT Tryd.prog (xWith (xOf symX) f9R) (gxOf symG) (sumsOf sums43) 10000 9 f9A f9T41 (((((facts0 f9K).no f9Q0).yes f9Q35).yes f9Q36).yes f9Q37) = true := checkT_test f9C39 f9C40
def f9Q42 : Quest := (.le [([(.app (nat_lit 0) (.add (.mul (.rem (.var (nat_lit 0)) (.lit (Int.ofNat (nat_lit 4096)))) (.rem (.var (nat_lit 0)) (.lit (Int.ofNat (nat_lit 4096))))) (.add (.mul (.rem (.var (nat_lit 0)) (.lit (Int.ofNat (nat_lit 4096)))) (.rem (.var (nat_lit 2)) (.lit (Int.ofNat (nat_lit 4096))))) (.add (.mul (.rem (.var (nat_lit 1)) (.lit (Int.ofNat (nat_lit 4096)))) (.rem (.var (nat_lit 1)) (.lit (Int.ofNat (nat_lit 4096))))) (.add (.mul (.rem (.var (nat_lit 1)) (.lit (Int.ofNat (nat_lit 4096)))) (.rem (.var (nat_lit 3)) (.lit (Int.ofNat (nat_lit 4096))))) (.add (.mul (.rem (.var (nat_lit 2)) (.lit (Int.ofNat (nat_lit 4096)))) (.rem (.var (nat_lit 2)) (.lit (Int.ofNat (nat_lit 4096))))) (.mul (.rem (.var (nat_lit 3)) (.lit (Int.ofNat (nat_lit 4096)))) (.rem (.var (nat_lit 3)) (.lit (Int.ofNat (nat_lit 4096)))))))))) (.add (.mul (.rem (.var (nat_lit 0)) (.lit (Int.ofNat (nat_lit 4096)))) (.rem (.var (nat_lit 1)) (.lit (Int.ofNat (nat_lit 4096))))) (.add (.mul (.rem (.var (nat_lit 1)) (.lit (Int.ofNat (nat_lit 4096)))) (.rem (.var (nat_lit 2)) (.lit (Int.ofNat (nat_lit 4096))))) (.mul (.rem (.var (nat_lit 2)) (.lit (Int.ofNat (nat_lit 4096)))) (.rem (.var (nat_lit 3)) (.lit (Int.ofNat (nat_lit 4096))))))) (.lit (Int.ofNat (nat_lit 0))))], (Int.ofNat (nat_lit 1)))])
def f9T43 : STree := (.test (.le [([], (Int.ofNat (nat_lit 1))), ([(.app (nat_lit 0) (.add (.mul (.rem (.var (nat_lit 0)) (.lit (Int.ofNat (nat_lit 4096)))) (.rem (.var (nat_lit 0)) (.lit (Int.ofNat (nat_lit 4096))))) (.add (.mul (.rem (.var (nat_lit 0)) (.lit (Int.ofNat (nat_lit 4096)))) (.rem (.var (nat_lit 2)) (.lit (Int.ofNat (nat_lit 4096))))) (.add (.mul (.rem (.var (nat_lit 1)) (.lit (Int.ofNat (nat_lit 4096)))) (.rem (.var (nat_lit 1)) (.lit (Int.ofNat (nat_lit 4096))))) (.add (.mul (.rem (.var (nat_lit 1)) (.lit (Int.ofNat (nat_lit 4096)))) (.rem (.var (nat_lit 3)) (.lit (Int.ofNat (nat_lit 4096))))) (.add (.mul (.rem (.var (nat_lit 2)) (.lit (Int.ofNat (nat_lit 4096)))) (.rem (.var (nat_lit 2)) (.lit (Int.ofNat (nat_lit 4096))))) (.mul (.rem (.var (nat_lit 3)) (.lit (Int.ofNat (nat_lit 4096)))) (.rem (.var (nat_lit 3)) (.lit (Int.ofNat (nat_lit 4096)))))))))) (.add (.mul (.rem (.var (nat_lit 0)) (.lit (Int.ofNat (nat_lit 4096)))) (.rem (.var (nat_lit 1)) (.lit (Int.ofNat (nat_lit 4096))))) (.add (.mul (.rem (.var (nat_lit 1)) (.lit (Int.ofNat (nat_lit 4096)))) (.rem (.var (nat_lit 2)) (.lit (Int.ofNat (nat_lit 4096))))) (.mul (.rem (.var (nat_lit 2)) (.lit (Int.ofNat (nat_lit 4096)))) (.rem (.var (nat_lit 3)) (.lit (Int.ofNat (nat_lit 4096))))))) (.lit (Int.ofNat (nat_lit 0))))], (Int.ofNat (nat_lit 1)))])
  (.leaf (.bool false))
  (.test (.eq [([(.rem (.var (nat_lit 0)) (.lit (Int.ofNat (nat_lit 4096))))], (Int.ofNat (nat_lit 1)))])
  (.test (.eq [([(.rem (.var (nat_lit 1)) (.lit (Int.ofNat (nat_lit 4096))))], (Int.ofNat (nat_lit 1)))])
  (.test (.eq [([(.rem (.var (nat_lit 2)) (.lit (Int.ofNat (nat_lit 4096))))], (Int.ofNat (nat_lit 1)))])
  (.test (.eq [([(.rem (.var (nat_lit 3)) (.lit (Int.ofNat (nat_lit 4096))))], (Int.ofNat (nat_lit 1)))])
  (.leaf (.bool true))
  (.leaf (.bool false)))
  (.leaf (.bool false)))
  (.leaf (.bool false)))
  (.leaf (.bool false))))
theorem f9C43 : checkT Tryd.prog (xWith (xOf symX) f9R) (gxOf symG) (sumsOf sums43) 10000 9 f9A f9T43 ((((((facts0 f9K).no f9Q0).yes f9Q35).yes f9Q36).no f9Q37).yes f9Q42) = true := by kernel_rfl
def f9T44 : STree := (.test (.eq [([(.rem (.var (nat_lit 0)) (.lit (Int.ofNat (nat_lit 4096))))], (Int.ofNat (nat_lit 1)))])
  (.test (.eq [([(.rem (.var (nat_lit 1)) (.lit (Int.ofNat (nat_lit 4096))))], (Int.ofNat (nat_lit 1)))])
  (.test (.eq [([(.rem (.var (nat_lit 2)) (.lit (Int.ofNat (nat_lit 4096))))], (Int.ofNat (nat_lit 1)))])
  (.test (.eq [([(.rem (.var (nat_lit 3)) (.lit (Int.ofNat (nat_lit 4096))))], (Int.ofNat (nat_lit 1)))])
  (.leaf (.bool true))
  (.leaf (.bool true)))
  (.leaf (.bool true)))
  (.leaf (.bool true)))
  (.leaf (.bool true)))
theorem f9C44 : checkT Tryd.prog (xWith (xOf symX) f9R) (gxOf symG) (sumsOf sums43) 10000 9 f9A f9T44 ((((((facts0 f9K).no f9Q0).yes f9Q35).yes f9Q36).no f9Q37).no f9Q42) = true := by kernel_rfl
def f9T45 : STree := .test f9Q42 f9T43 f9T44
theorem f9C45 : checkT Tryd.prog (xWith (xOf symX) f9R) (gxOf symG) (sumsOf sums43) 10000 9 f9A f9T45 (((((facts0 f9K).no f9Q0).yes f9Q35).yes f9Q36).no f9Q37) = true := checkT_test f9C43 f9C44
def f9T46 : STree := .test f9Q37 f9T41 f9T45
theorem f9C46 : checkT Tryd.prog (xWith (xOf symX) f9R) (gxOf symG) (sumsOf sums43) 10000 9 f9A f9T46 ((((facts0 f9K).no f9Q0).yes f9Q35).yes f9Q36) = true := checkT_test f9C41 f9C45
def f9Q47 : Quest := (.le [([(.app (nat_lit 0) (.add (.mul (.rem (.var (nat_lit 0)) (.lit (Int.ofNat (nat_lit 4096)))) (.rem (.var (nat_lit 0)) (.lit (Int.ofNat (nat_lit 4096))))) (.add (.mul (.rem (.var (nat_lit 0)) (.lit (Int.ofNat (nat_lit 4096)))) (.rem (.var (nat_lit 2)) (.lit (Int.ofNat (nat_lit 4096))))) (.add (.mul (.rem (.var (nat_lit 1)) (.lit (Int.ofNat (nat_lit 4096)))) (.rem (.var (nat_lit 1)) (.lit (Int.ofNat (nat_lit 4096))))) (.add (.mul (.rem (.var (nat_lit 1)) (.lit (Int.ofNat (nat_lit 4096)))) (.rem (.var (nat_lit 3)) (.lit (Int.ofNat (nat_lit 4096))))) (.add (.mul (.rem (.var (nat_lit 2)) (.lit (Int.ofNat (nat_lit 4096)))) (.rem (.var (nat_lit 2)) (.lit (Int.ofNat (nat_lit 4096))))) (.mul (.rem (.var (nat_lit 3)) (.lit (Int.ofNat (nat_lit 4096)))) (.rem (.var (nat_lit 3)) (.lit (Int.ofNat (nat_lit 4096)))))))))) (.add (.mul (.rem (.var (nat_lit 0)) (.lit (Int.ofNat (nat_lit 4096)))) (.rem (.var (nat_lit 1)) (.lit (Int.ofNat (nat_lit 4096))))) (.add (.mul (.rem (.var (nat_lit 1)) (.lit (Int.ofNat (nat_lit 4096)))) (.rem (.var (nat_lit 2)) (.lit (Int.ofNat (nat_lit 4096))))) (.mul (.rem (.var (nat_lit 2)) (.lit (Int.ofNat (nat_lit 4096)))) (.rem (.var (nat_lit 3)) (.lit (Int.ofNat (nat_lit 4096))))))) (.lit (Int.ofNat (nat_lit 0))))], (Int.ofNat (nat_lit 1)))])
def f9T48 : STree := (.test (.le [([], (Int.ofNat (nat_lit 1))), ([(.app (nat_lit 0) (.add (.mul (.rem (.var (nat_lit 0)) (.lit (Int.ofNat (nat_lit 4096)))) (.rem (.var (nat_lit 0)) (.lit (Int.ofNat (nat_lit 4096))))) (.add (.mul (.rem (.var (nat_lit 0)) (.lit (Int.ofNat (nat_lit 4096)))) (.rem (.var (nat_lit 2)) (.lit (Int.ofNat (nat_lit 4096))))) (.add (.mul (.rem (.var (nat_lit 1)) (.lit (Int.ofNat (nat_lit 4096)))) (.rem (.var (nat_lit 1)) (.lit (Int.ofNat (nat_lit 4096))))) (.add (.mul (.rem (.var (nat_lit 1)) (.lit (Int.ofNat (nat_lit 4096)))) (.rem (.var (nat_lit 3)) (.lit (Int.ofNat (nat_lit 4096))))) (.add (.mul (.rem (.var (nat_lit 2)) (.lit (Int.ofNat (nat_lit 4096)))) (.rem (.var (nat_lit 2)) (.lit (Int.ofNat (nat_lit 4096))))) (.mul (.rem (.var (nat_lit 3)) (.lit (Int.ofNat (nat_lit 4096)))) (.rem (.var (nat_lit 3)) (.lit (Int.ofNat (nat_lit 4096)))))))))) (.add (.mul (.rem (.var (nat_lit 0)) (.lit (Int.ofNat (nat_lit 4096)))) (.rem (.var (nat_lit 1)) (.lit (Int.ofNat (nat_lit 4096))))) (.add (.mul (.rem (.var (nat_lit 1)) (.lit (Int.ofNat (nat_lit 4096)))) (.rem (.var (nat_lit 2)) (.lit (Int.ofNat (nat_lit 4096))))) (.mul (.rem (.var (nat_lit 2)) (.lit (Int.ofNat (nat_lit 4096)))) (.rem (.var (nat_lit 3)) (.lit (Int.ofNat (nat_lit 4096))))))) (.lit (Int.ofNat (nat_lit 0))))], (Int.ofNat (nat_lit 1)))])
  (.leaf (.bool false))
  (.test (.eq [([(.rem (.var (nat_lit 0)) (.lit (Int.ofNat (nat_lit 4096))))], (Int.ofNat (nat_lit 1)))])
  (.test (.eq [([(.rem (.var (nat_lit 1)) (.lit (Int.ofNat (nat_lit 4096))))], (Int.ofNat (nat_lit 1)))])
  (.test (.eq [([(.rem (.var (nat_lit 2)) (.lit (Int.ofNat (nat_lit 4096))))], (Int.ofNat (nat_lit 1)))])
  (.test (.eq [([(.rem (.var (nat_lit 3)) (.lit (Int.ofNat (nat_lit 4096))))], (Int.ofNat (nat_lit 1)))])
  (.leaf (.bool true))
  (.leaf (.bool false)))
  (.leaf (.bool false)))
  (.leaf (.bool false)))
  (.leaf (.bool false))))
theorem f9C48 : checkT Tryd.prog (xWith (xOf symX) f9R) (gxOf symG) (sumsOf sums43) 10000 9 f9A f9T48 (((((facts0 f9K).no f9Q0).yes f9Q35).no f9Q36).yes f9Q47) = true := by kernel_rfl
def f9T49 : STree := (.test (.eq [([(.rem (.var (nat_lit 0)) (.lit (Int.ofNat (nat_lit 4096))))], (Int.ofNat (nat_lit 1)))])
  (.test (.eq [([(.rem (.var (nat_lit 1)) (.lit (Int.ofNat (nat_lit 4096))))], (Int.ofNat (nat_lit 1)))])
  (.test (.eq [([(.rem (.var (nat_lit 2)) (.lit (Int.ofNat (nat_lit 4096))))], (Int.ofNat (nat_lit 1)))])
  (.test (.eq [([(.rem (.var (nat_lit 3)) (.lit (Int.ofNat (nat_lit 4096))))], (Int.ofNat (nat_lit 1)))])
  (.leaf (.bool true))
  (.leaf (.bool true)))
  (.leaf (.bool true)))
  (.leaf (.bool true)))
  (.leaf (.bool true)))
theorem f9C49 : checkT Tryd.prog (xWith (xOf symX) f9R) (gxOf symG) (sumsOf sums43) 10000 9 f9A f9T49 (((((facts0 f9K).no f9Q0).yes f9Q35).no f9Q36).no f9Q47) = true := by kernel_rfl
def f9T50 : STree := .test f9Q47 f9T48 f9T49
theorem f9C50 : checkT Tryd.prog (xWith (xOf symX) f9R) (gxOf symG) (sumsOf sums43) 10000 9 f9A f9T50 ((((facts0 f9K).no f9Q0).yes f9Q35).no f9Q36) = true := checkT_test f9C48 f9C49
def f9T51 : STree := .test f9Q36 f9T46 f9T50
theorem f9C51 : checkT Tryd.prog (xWith (xOf symX) f9R) (gxOf symG) (sumsOf sums43) 10000 9 f9A f9T51 (((facts0 f9K).no f9Q0).yes f9Q35) = true := checkT_test f9C46 f9C50
def f9Q52 : Quest := (.le [([], (Int.negSucc (nat_lit 9))), ([(.emod (nat_lit 12) (.var (nat_lit 8)))], (Int.ofNat (nat_lit 1)))])
def f9Q53 : Quest := (.le [([], (Int.negSucc (nat_lit 8))), ([(.emod (nat_lit 12) (.var (nat_lit 8)))], (Int.ofNat (nat_lit 1)))])
def f9Q54 : Quest := (.le [([(.app (nat_lit 0) (.add (.mul (.rem (.var (nat_lit 0)) (.lit (Int.ofNat (nat_lit 4096)))) (.rem (.var (nat_lit 0)) (.lit (Int.ofNat (nat_lit 4096))))) (.add (.mul (.rem (.var (nat_lit 0)) (.lit (Int.ofNat (nat_lit 4096)))) (.rem (.var (nat_lit 2)) (.lit (Int.ofNat (nat_lit 4096))))) (.add (.mul (.rem (.var (nat_lit 1)) (.lit (Int.ofNat (nat_lit 4096)))) (.rem (.var (nat_lit 1)) (.lit (Int.ofNat (nat_lit 4096))))) (.add (.mul (.rem (.var (nat_lit 1)) (.lit (Int.ofNat (nat_lit 4096)))) (.rem (.var (nat_lit 3)) (.lit (Int.ofNat (nat_lit 4096))))) (.add (.mul (.rem (.var (nat_lit 2)) (.lit (Int.ofNat (nat_lit 4096)))) (.rem (.var (nat_lit 2)) (.lit (Int.ofNat (nat_lit 4096))))) (.mul (.rem (.var (nat_lit 3)) (.lit (Int.ofNat (nat_lit 4096)))) (.rem (.var (nat_lit 3)) (.lit (Int.ofNat (nat_lit 4096)))))))))) (.add (.mul (.rem (.var (nat_lit 0)) (.lit (Int.ofNat (nat_lit 4096)))) (.rem (.var (nat_lit 1)) (.lit (Int.ofNat (nat_lit 4096))))) (.add (.mul (.rem (.var (nat_lit 1)) (.lit (Int.ofNat (nat_lit 4096)))) (.rem (.var (nat_lit 2)) (.lit (Int.ofNat (nat_lit 4096))))) (.mul (.rem (.var (nat_lit 2)) (.lit (Int.ofNat (nat_lit 4096)))) (.rem (.var (nat_lit 3)) (.lit (Int.ofNat (nat_lit 4096))))))) (.lit (Int.ofNat (nat_lit 0))))], (Int.ofNat (nat_lit 1)))])
def f9T55 : STree := (.test (.le [([], (Int.ofNat (nat_lit 1))), ([(.app (nat_lit 0) (.add (.mul (.rem (.var (nat_lit 0)) (.lit (Int.ofNat (nat_lit 4096)))) (.rem (.var (nat_lit 0)) (.lit (Int.ofNat (nat_lit 4096))))) (.add (.mul (.rem (.var (nat_lit 0)) (.lit (Int.ofNat (nat_lit 4096)))) (.rem (.var (nat_lit 2)) (.lit (Int.ofNat (nat_lit 4096))))) (.add (.mul (.rem (.var (nat_lit 1)) (.lit (Int.ofNat (nat_lit 4096)))) (.rem (.var (nat_lit 1)) (.lit (Int.ofNat (nat_lit 4096))))) (.add (.mul (.rem (.var (nat_lit 1)) (.lit (Int.ofNat (nat_lit 4096)))) (.rem (.var (nat_lit 3)) (.lit (Int.ofNat (nat_lit 4096))))) (.add (.mul (.rem (.var (nat_lit 2)) (.lit (Int.ofNat (nat_lit 4096)))) (.rem (.var (nat_lit 2)) (.lit (Int.ofNat (nat_lit 4096))))) (.mul (.rem (.var (nat_lit 3)) (.lit (Int.ofNat (nat_lit 4096)))) (.rem (.var (nat_lit 3)) (.lit (Int.ofNat (nat_lit 4096)))))))))) (.add (.mul (.rem (.var (nat_lit 0)) (.lit (Int.ofNat (nat_lit 4096)))) (.rem (.var (nat_lit 1)) (.lit (Int.ofNat (nat_lit 4096))))) (.add (.mul (.rem (.var (nat_lit 1)) (.lit (Int.ofNat (nat_lit 4096)))) (.rem (.var (nat_lit 2)) (.lit (Int.ofNat (nat_lit 4096))))) (.mul (.rem (.var (nat_lit 2)) (.lit (Int.ofNat (nat_lit 4096)))) (.rem (.var (nat_lit 3)) (.lit (Int.ofNat (nat_lit 4096))))))) (.lit (Int.ofNat (nat_lit 0))))], (Int.ofNat (nat_lit 1)))])
  (.leaf (.bool false))
  (.test (.eq [([(.rem (.var (nat_lit 0)) (.lit (Int.ofNat (nat_lit 4096))))], (Int.ofNat (nat_lit 1)))])
  (.test (.eq [([(.rem (.var (nat_lit 1)) (.lit (Int.ofNat (nat_lit 4096))))], (Int.ofNat (nat_lit 1)))])
  (.test (.eq [([(.rem (.var (nat_lit 2)) (.lit (Int.ofNat (nat_lit 4096))))], (Int.ofNat (nat_lit 1)))])
  (.test (.eq [([(.rem (.var (nat_lit 3)) (.lit (Int.ofNat (nat_lit 4096))))], (Int.ofNat (nat_lit 1)))])
  (.leaf (.bool true))
  (.leaf (.bool false)))
  (.leaf (.bool false)))
  (.leaf (.bool false)))
  (.leaf (.bool false))))
theorem f9C55 : checkT Tryd.prog (xWith (xOf symX) f9R) (gxOf symG) (sumsOf sums43) 10000 9 f9A f9T55 ((((((facts0 f9K).no f9Q0).no f9Q35).yes f9Q52).yes f9Q53).yes f9Q54) = true := by kernel_rfl
def f9T56 : STree := (.test (.eq [([(.rem (.var (nat_lit 0)) (.lit (Int.ofNat (nat_lit 4096))))], (Int.ofNat (nat_lit 1)))])
  (.test (.eq [([(.rem (.var (nat_lit 1)) (.lit (Int.ofNat (nat_lit 4096))))], (Int.ofNat (nat_lit 1)))])
  (.test (.eq [([(.rem (.var (nat_lit 2)) (.lit (Int.ofNat (nat_lit 4096))))], (Int.ofNat (nat_lit 1)))])
  (.test (.eq [([(.rem (.var (nat_lit 3)) (.lit (Int.ofNat (nat_lit 4096))))], (Int.ofNat (nat_lit 1)))])
  (.leaf (.bool true))
  (.leaf (.bool true)))
  (.leaf (.bool true)))
  (.leaf (.bool true)))
  (.leaf (.bool true)))
theorem f9C56 : checkT Tryd.prog (xWith (xOf symX) f9R) (gxOf symG) (sumsOf sums43) 10000 9 f9A f9T56 ((((((facts0 f9K).no f9Q0).no f9Q35).yes f9Q52).yes f9Q53).no f9Q54) = true := by kernel_rfl
def f9T57 : STree := .test f9Q54 f9T55 f9T56
theorem f9C57 : checkT Tryd.prog (xWith (xOf symX) f9R) (gxOf symG) (sumsOf sums43) 10000 9 f9A f9T57 (((((facts0 f9K).no f9Q0).no f9Q35).yes f9Q52).yes f9Q53) = true := checkT_test f9C55 f9C56
def f9Q58 : Quest := (.le [([(.app (nat_lit 0) (.add (.mul (.rem (.var (nat_lit 0)) (.lit (Int.ofNat (nat_lit 4096)))) (.rem (.var (nat_lit 0)) (.lit (Int.ofNat (nat_lit 4096))))) (.add (.mul (.rem (.var (nat_lit 0)) (.lit (Int.ofNat (nat_lit 4096)))) (.rem (.var (nat_lit 2)) (.lit (Int.ofNat (nat_lit 4096))))) (.add (.mul (.rem (.var (nat_lit 1)) (.lit (Int.ofNat (nat_lit 4096)))) (.rem (.var (nat_lit 1)) (.lit (Int.ofNat (nat_lit 4096))))) (.add (.mul (.rem (.var (nat_lit 1)) (.lit (Int.ofNat (nat_lit 4096)))) (.rem (.var (nat_lit 3)) (.lit (Int.ofNat (nat_lit 4096))))) (.add (.mul (.rem (.var (nat_lit 2)) (.lit (Int.ofNat (nat_lit 4096)))) (.rem (.var (nat_lit 2)) (.lit (Int.ofNat (nat_lit 4096))))) (.mul (.rem (.var (nat_lit 3)) (.lit (Int.ofNat (nat_lit 4096)))) (.rem (.var (nat_lit 3)) (.lit (Int.ofNat (nat_lit 4096)))))))))) (.add (.mul (.rem (.var (nat_lit 0)) (.lit (Int.ofNat (nat_lit 4096)))) (.rem (.var (nat_lit 1)) (.lit (Int.ofNat (nat_lit 4096))))) (.add (.mul (.rem (.var (nat_lit 1)) (.lit (Int.ofNat (nat_lit 4096)))) (.rem (.var (nat_lit 2)) (.lit (Int.ofNat (nat_lit 4096))))) (.mul (.rem (.var (nat_lit 2)) (.lit (Int.ofNat (nat_lit 4096)))) (.rem (.var (nat_lit 3)) (.lit (Int.ofNat (nat_lit 4096))))))) (.lit (Int.ofNat (nat_lit 0))))], (Int.ofNat (nat_lit 1)))])
def f9T59 : STree := (.test (.le [([], (Int.ofNat (nat_lit 1))), ([(.app (nat_lit 0) (.add (.mul (.rem (.var (nat_lit 0)) (.lit (Int.ofNat (nat_lit 4096)))) (.rem (.var (nat_lit 0)) (.lit (Int.ofNat (nat_lit 4096))))) (.add (.mul (.rem (.var (nat_lit 0)) (.lit (Int.ofNat (nat_lit 4096)))) (.rem (.var (nat_lit 2)) (.lit (Int.ofNat (nat_lit 4096))))) (.add (.mul (.rem (.var (nat_lit 1)) (.lit (Int.ofNat (nat_lit 4096)))) (.rem (.var (nat_lit 1)) (.lit (Int.ofNat (nat_lit 4096))))) (.add (.mul (.rem (.var (nat_lit 1)) (.lit (Int.ofNat (nat_lit 4096)))) (.rem (.var (nat_lit 3)) (.lit (Int.ofNat (nat_lit 4096))))) (.add (.mul (.rem (.var (nat_lit 2)) (.lit (Int.ofNat (nat_lit 4096)))) (.rem (.var (nat_lit 2)) (.lit (Int.ofNat (nat_lit 4096))))) (.mul (.rem (.var (nat_lit 3)) (.lit (Int.ofNat (nat_lit 4096)))) (.rem (.var (nat_lit 3)) (.lit (Int.ofNat (nat_lit 4096)))))))))) (.add (.mul (.rem (.var (nat_lit 0)) (.lit (Int.ofNat (nat_lit 4096)))) (.rem (.var (nat_lit 1)) (.lit (Int.ofNat (nat_lit 4096))))) (.add (.mul (.rem (.var (nat_lit 1)) (.lit (Int.ofNat (nat_lit 4096)))) (.rem (.var (nat_lit 2)) (.lit (Int.ofNat (nat_lit 4096))))) (.mul (.rem (.var (nat_lit 2)) (.lit (Int.ofNat (nat_lit 4096)))) (.rem (.var (nat_lit 3)) (.lit (Int.ofNat (nat_lit 4096))))))) (.lit (Int.ofNat (nat_lit 0))))], (Int.ofNat (nat_lit 1)))])
  (.leaf (.bool false))
  (.test (.eq [([(.rem (.var (nat_lit 0)) (.lit (Int.ofNat (nat_lit 4096))))], (Int.ofNat (nat_lit 1)))])
  (.test (.eq [([(.rem (.var (nat_lit 1)) (.lit (Int.ofNat (nat_lit 4096))))], (Int.ofNat (nat_lit 1)))])
  (.test (.eq [([(.rem (.var (nat_lit 2)) (.lit (Int.ofNat (nat_lit 4096))))], (Int.ofNat (nat_lit 1)))])
  (.test (.eq [([(.rem (.var (nat_lit 3)) (.lit (Int.ofNat (nat_lit 4096))))], (Int.ofNat (nat_lit 1)))])
  (.leaf (.bool true))
  (.leaf (.bool false)))
  (.leaf (.bool false)))
  (.leaf (.bool false)))
  (.leaf (.bool false))))
theorem f9C59 : checkT Tryd.prog (xWith (xOf symX) f9R) (gxOf symG) (sumsOf sums43) 10000 9 f9A f9T59 ((((((facts0 f9K).no f9Q0).no f9Q35).yes f9Q52).no f9Q53).yes f9Q58) = true := by kernel_rfl
def f9T60 : STree := (.test (.eq [([(.rem (.var (nat_lit 0)) (.lit (Int.ofNat (nat_lit 4096))))], (Int.ofNat (nat_lit 1)))])
  (.test (.eq [([(.rem (.var (nat_lit 1)) (.lit (Int.ofNat (nat_lit 4096))))], (Int.ofNat (nat_lit 1)))])
  (.test (.eq [([(.rem (.var (nat_lit 2)) (.lit (Int.ofNat (nat_lit 4096))))], (Int.ofNat (nat_lit 1)))])
  (.test (.eq [([(.rem (.var (nat_lit 3)) (.lit (Int.ofNat (nat_lit 4096))))], (Int.ofNat (nat_lit 1)))])
  (.leaf (.bool true))
  (.leaf (.bool true)))
  (.leaf (.bool true)))
  (.leaf (.bool true)))
  (.leaf (.bool true)))
theorem f9C60 : checkT Tryd.prog (xWith (xOf symX) f9R) (gxOf symG) (sumsOf sums43) 10000 9 f9A f9T60 ((((((facts0 f9K).no f9Q0).no f9Q35).yes f9Q52).no f9Q53).no f9Q58) = true := by kernel_rfl
def f9T61 : STree := .test f9Q58 f9T59 f9T60
theorem f9C61 : checkT Tryd.prog (xWith (xOf symX) f9R) (gxOf symG) (sumsOf sums43) 10000 9 f9A f9T61 (((((facts0 f9K).no f9Q0).no f9Q35).yes f9Q52).no f9Q53) = true := checkT_test f9C59 f9C60
def f9T62 : STree := .test f9Q53 f9T57 f9T61
theorem f9C62 : checkT Tryd.prog (xWith (xOf symX) f9R) (gxOf symG) (sumsOf sums43) 10000 9 f9A f9T62 ((((facts0 f9K).no f9Q0).no f9Q35).yes f9Q52) = true := checkT_test f9C57 f9C61
def f9Q63 : Quest := (.le [([(.app (nat_lit 0) (.add (.mul (.rem (.var (nat_lit 0)) (.lit (Int.ofNat (nat_lit 4096)))) (.rem (.var (nat_lit 0)) (.lit (Int.ofNat (nat_lit 4096))))) (.add (.mul (.rem (.var (nat_lit 0)) (.lit (Int.ofNat (nat_lit 4096)))) (.rem (.var (nat_lit 2)) (.lit (Int.ofNat (nat_lit 4096))))) (.add (.mul (.rem (.var (nat_lit 1)) (.lit (Int.ofNat (nat_lit 4096)))) (.rem (.var (nat_lit 1)) (.lit (Int.ofNat (nat_lit 4096))))) (.add (.mul (.rem (.var (nat_lit 1)) (.lit (Int.ofNat (nat_lit 4096)))) (.rem (.var (nat_lit 3)) (.lit (Int.ofNat (nat_lit 4096))))) (.add (.mul (.rem (.var (nat_lit 2)) (.lit (Int.ofNat (nat_lit 4096)))) (.rem (.var (nat_lit 2)) (.lit (Int.ofNat (nat_lit 4096))))) (.mul (.rem (.var (nat_lit 3)) (.lit (Int.ofNat (nat_lit 4096)))) (.rem (.var (nat_lit 3)) (.lit (Int.ofNat (nat_lit 4096)))))))))) (.add (.mul (.rem (.var (nat_lit 0)) (.lit (Int.ofNat (nat_lit 4096)))) (.rem (.var (nat_lit 1)) (.lit (Int.ofNat (nat_lit 4096))))) (.add (.mul (.rem (.var (nat_lit 1)) (.lit (Int.ofNat (nat_lit 4096)))) (.rem (.var (nat_lit 2)) (.lit (Int.ofNat (nat_lit 4096))))) (.mul (.rem (.var (nat_lit 2)) (.lit (Int.ofNat (nat_lit 4096)))) (.rem (.var (nat_lit 3)) (.lit (Int.ofNat (nat_lit 4096))))))) (.lit (Int.ofNat (nat_lit 0))))], (Int.ofNat (nat_lit 1)))])
def f9T64 : STree := (.test (.le [([], (Int.ofNat (nat_lit 1))), ([(.app (nat_lit 0) (.add (.mul (.rem (.var (nat_lit 0)) (.lit (Int.ofNat (nat_lit 4096)))) (.rem (.var (nat_lit 0)) (.lit (Int.ofNat (nat_lit 4096))))) (.add (.mul (.rem (.var (nat_lit 0)) (.lit (Int.ofNat (nat_lit 4096)))) (.rem (.var (nat_lit 2)) (.lit (Int.ofNat (nat_lit 4096))))) (.add (.mul (.rem (.var (nat_lit 1)) (.lit (Int.ofNat (nat_lit 4096)))) (.rem (.var (nat_lit 1)) (.lit (Int.ofNat (nat_lit 4096))))) (.add (.mul (.rem (.var (nat_lit 1)) (.lit (Int.ofNat (nat_lit 4096)))) (.rem (.var (nat_lit 3)) (.lit (Int.ofNat (nat_lit 4096))))) (.add (.mul (.rem (.var (nat_lit 2)) (.lit (Int.ofNat (nat_lit 4096)))) (.rem (.var (nat_lit 2)) (.lit (Int.ofNat (nat_lit 4096))))) (.mul (.rem (.var (nat_lit 3)) (.lit (Int.ofNat (nat_lit 4096)))) (.rem (.var (nat_lit 3)) (.lit (Int.ofNat (nat_lit 4096)))))))))) (.add (.mul (.rem (.var (nat_lit 0)) (.lit (Int.ofNat (nat_lit 4096)))) (.rem (.var (nat_lit 1)) (.lit (Int.ofNat (nat_lit 4096))))) (.add (.mul (.rem (.var (nat_lit 1)) (.lit (Int.ofNat (nat_lit 4096)))) (.rem (.var (nat_lit 2)) (.lit (Int.ofNat (nat_lit 4096))))) (.mul (.rem (.var (nat_lit 2)) (.lit (Int.ofNat (nat_lit 4096)))) (.rem (.var (nat_lit 3)) (.lit (Int.ofNat (nat_lit 4096))))))) (.lit (Int.ofNat (nat_lit 0))))], (Int.ofNat (nat_lit 1)))])
  (.leaf (.bool false))
  (.test (.eq [([(.rem (.var (nat_lit 0)) (.lit (Int.ofNat (nat_lit 4096))))], (Int.ofNat (nat_lit 1)))])
  (.test (.eq [([(.rem (.var (nat_lit 1)) (.lit (Int.ofNat (nat_lit 4096))))], (Int.ofNat (nat_lit 1)))])
  (.test (.eq [([(.rem (.var (nat_lit 2)) (.lit (Int.ofNat (nat_lit 4096))))], (Int.ofNat (nat_lit 1)))])
  (.test (.eq [([(.rem (.var (nat_lit 3)) (.lit (Int.ofNat (nat_lit 4096))))], (Int.ofNat (nat_lit 1)))])
  (.leaf (.bool true))
  (.leaf (.bool false)))
  (.leaf (.bool false)))
  (.leaf (.bool false)))
  (.leaf (.bool false))))
theorem f9C64 : checkT Tryd.prog (xWith (xOf symX) f9R) (gxOf symG) (sumsOf sums43) 10000 9 f9A f9T64 (((((facts0 f9K).no f9Q0).no f9Q35).no f9Q52).yes f9Q63) = true := by kernel_rfl
def f9T65 : STree := (.test (.eq [([(.rem (.var (nat_lit 0)) (.lit (Int.ofNat (nat_lit 4096))))], (Int.ofNat (nat_lit 1)))])
  (.test (.eq [([(.rem (.var (nat_lit 1)) (.lit (Int.ofNat (nat_lit 4096))))], (Int.ofNat (nat_lit 1)))])
  (.test (.eq [([(.rem (.var (nat_lit 2)) (.lit (Int.ofNat (nat_lit 4096))))], (Int.ofNat (nat_lit 1)))])
  (.test (.eq [([(.rem (.var (nat_lit 3)) (.lit (Int.ofNat (nat_lit 4096))))], (Int.ofNat (nat_lit 1)))])
  (.leaf (.bool true))
  (.leaf (.bool true)))
  (.leaf (.bool true)))
  (.leaf (.bool true)))
  (.leaf (.bool true)))
theorem f9C65 : checkT Tryd.prog (xWith (xOf symX) f9R) (gxOf symG) (sumsOf sums43) 10000 9 f9A f9T65 (((((facts0 f9K).no f9Q0).no f9Q35).no f9Q52).no f9Q63) = true := by kernel_rfl
def f9T66 : STree := .test f9Q63 f9T64 f9T65
theorem f9C66 : checkT Tryd.prog (xWith (xOf symX) f9R) (gxOf symG) (sumsOf sums43) 10000 9 f9A f9T66 ((((facts0 f9K).no f9Q0).no f9Q35).no f9Q52) = true := checkT_test f9C64 f9C65
def f9T67 : STree := .test f9Q52 f9T62 f9T66
theorem f9C67 : checkT Tryd.prog (xWith (xOf symX) f9R) (gxOf symG) (sumsOf sums43) 10000 9 f9A f9T67 (((facts0 f9K).no f9Q0).no f9Q35) = true := checkT_test f9C62 f9C66
def f9T68 : STree := .test f9Q35 f9T51 f9T67
theorem f9C68 : checkT Tryd.prog (xWith (xOf symX) f9R) (gxOf symG) (sumsOf sums43) 10000 9 f9A f9T68 ((facts0 f9K).no f9Q0) = true := checkT_test f9C51 f9C67
def f9T69 : STree := .test f9Q0 f9T34 f9T68
theorem f9C69 : checkT Tryd.prog (xWith (xOf symX) f9R) (gxOf symG) (sumsOf sums43) 10000 9 f9A f9T69 (facts0 f9K) = true := checkT_test f9C34 f9C68
def f9M : Summ := ⟨f9A, f9K, f9T69, f9R, []⟩
theorem f9Ok : SumOk Tryd.prog (xOf symX) (gxOf symG) 9 f9M := sumOk_of symMixed symClosed sums43Ok f9C69
theorem f9_true (D : Den) (hf : D.env.f = stdF) : f9M.tree.tru D := by
  simp only [f9M, f9Q0,f9Q1,f9Q2,f9Q3,f9Q4,f9T5,f9T6,f9T7,f9Q8,f9T9,f9T10,f9T11,f9T12,f9Q13,f9T14,f9T15,f9T16,f9T17,f9Q18,f9Q19,f9Q20,f9T21,f9T22,f9T23,f9Q24,f9T25,f9T26,f9T27,f9T28,f9Q29,f9T30,f9T31,f9T32,f9T33,f9T34,f9Q35,f9Q36,f9Q37,f9Q38,f9T39,f9T40,f9T41,f9Q42,f9T43,f9T44,f9T45,f9T46,f9Q47,f9T48,f9T49,f9T50,f9T51,f9Q52,f9Q53,f9Q54,f9T55,f9T56,f9T57,f9Q58,f9T59,f9T60,f9T61,f9T62,f9Q63,f9T64,f9T65,f9T66,f9T67,f9T68,f9T69, tru_le, tru_eq, tru_t, tru_f, Poly.ev, Mono.ev, E.ev, hf, stdF]
  generalize (D.env.v 0).tmod (Int.ofNat 4096) = p
  generalize (D.env.v 1).tmod (Int.ofNat 4096) = q
  generalize (D.env.v 2).tmod (Int.ofNat 4096) = r
  generalize (D.env.v 3).tmod (Int.ofNat 4096) = s
  simp only [one_lit, neg_lit, Int.one_mul, Int.mul_one, Int.add_zero, implies_true, and_true, true_and]
  have h0 := ssign_cyc p q r s
  rw [show p*p + q*q + r*r + s*s + p*r + q*s = p * p + (p * r + (q * q + (q * s + (r * r + s * s)))) by omega, show p*q + q*r + r*s = p * q + (q * r + r * s) by omega] at h0
  generalize ssign (p * p + (p * r + (q * q + (q * s + (r * r + s * s))))) (p * q + (q * r + r * s)) = t at *
  repeat' first | refine And.intro ?_ ?_ | intro _
  all_goals omega
theorem f9Law : SumOk Tryd.prog (xOf symX) (gxOf symG) 9 ⟨f9A, f9K, .leaf (.bool true), f9R, []⟩ := Exch.ok f9Ok (Exch.tru (m := f9M) (by kernel_rfl) fun D hf _ => f9_true D hf)
end Go.Proofs.YtjghifocfjbmcabDoor
