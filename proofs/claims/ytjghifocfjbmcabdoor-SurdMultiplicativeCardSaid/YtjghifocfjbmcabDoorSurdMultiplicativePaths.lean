/- The paths of SurdMultiplicative, each checked by the kernel. -/
import Derived.Test.YtjghifocfjbmcabDoorSums
import Derived.KernelRfl
namespace Go.Proofs.YtjghifocfjbmcabDoor
open Go.Sym

def f6A : List SV := [(.agg [(.int .i64 [([(.var (nat_lit 0))], (Int.ofNat (nat_lit 1)))]), (.int .i64 [([(.var (nat_lit 1))], (Int.ofNat (nat_lit 1)))])]), (.agg [(.int .i64 [([(.var (nat_lit 2))], (Int.ofNat (nat_lit 1)))]), (.int .i64 [([(.var (nat_lit 3))], (Int.ofNat (nat_lit 1)))])])]
def f6K : List Iv := [ivT .i64, ivT .i64, ivT .i64, ivT .i64]
def f6R : List (List SV) := []
def f6Q0 : Quest := (.le [([(.app (nat_lit 0) (.add (.mul (.rem (.rem (.var (nat_lit 0)) (.lit (Int.ofNat (nat_lit 1048576)))) (.lit (Int.ofNat (nat_lit 1000)))) (.rem (.rem (.var (nat_lit 2)) (.lit (Int.ofNat (nat_lit 1048576)))) (.lit (Int.ofNat (nat_lit 1000))))) (.mul (.lit (Int.ofNat (nat_lit 3))) (.mul (.rem (.rem (.var (nat_lit 1)) (.lit (Int.ofNat (nat_lit 1048576)))) (.lit (Int.ofNat (nat_lit 1000)))) (.rem (.rem (.var (nat_lit 3)) (.lit (Int.ofNat (nat_lit 1048576)))) (.lit (Int.ofNat (nat_lit 1000))))))) (.add (.mul (.rem (.rem (.var (nat_lit 0)) (.lit (Int.ofNat (nat_lit 1048576)))) (.lit (Int.ofNat (nat_lit 1000)))) (.rem (.rem (.var (nat_lit 3)) (.lit (Int.ofNat (nat_lit 1048576)))) (.lit (Int.ofNat (nat_lit 1000))))) (.mul (.rem (.rem (.var (nat_lit 1)) (.lit (Int.ofNat (nat_lit 1048576)))) (.lit (Int.ofNat (nat_lit 1000)))) (.rem (.rem (.var (nat_lit 2)) (.lit (Int.ofNat (nat_lit 1048576)))) (.lit (Int.ofNat (nat_lit 1000)))))) (.lit (Int.ofNat (nat_lit 0))))], (Int.ofNat (nat_lit 1)))])
def f6Q1 : Quest := (.le [([], (Int.ofNat (nat_lit 1))), ([(.app (nat_lit 0) (.add (.mul (.rem (.rem (.var (nat_lit 0)) (.lit (Int.ofNat (nat_lit 1048576)))) (.lit (Int.ofNat (nat_lit 1000)))) (.rem (.rem (.var (nat_lit 2)) (.lit (Int.ofNat (nat_lit 1048576)))) (.lit (Int.ofNat (nat_lit 1000))))) (.mul (.lit (Int.ofNat (nat_lit 3))) (.mul (.rem (.rem (.var (nat_lit 1)) (.lit (Int.ofNat (nat_lit 1048576)))) (.lit (Int.ofNat (nat_lit 1000)))) (.rem (.rem (.var (nat_lit 3)) (.lit (Int.ofNat (nat_lit 1048576)))) (.lit (Int.ofNat (nat_lit 1000))))))) (.add (.mul (.rem (.rem (.var (nat_lit 0)) (.lit (Int.ofNat (nat_lit 1048576)))) (.lit (Int.ofNat (nat_lit 1000)))) (.rem (.rem (.var (nat_lit 3)) (.lit (Int.ofNat (nat_lit 1048576)))) (.lit (Int.ofNat (nat_lit 1000))))) (.mul (.rem (.rem (.var (nat_lit 1)) (.lit (Int.ofNat (nat_lit 1048576)))) (.lit (Int.ofNat (nat_lit 1000)))) (.rem (.rem (.var (nat_lit 2)) (.lit (Int.ofNat (nat_lit 1048576)))) (.lit (Int.ofNat (nat_lit 1000)))))) (.lit (Int.ofNat (nat_lit 0))))], (Int.ofNat (nat_lit 1)))])
def f6T2 : STree := (.test (.le [([(.app (nat_lit 0) (.rem (.rem (.var (nat_lit 0)) (.lit (Int.ofNat (nat_lit 1048576)))) (.lit (Int.ofNat (nat_lit 1000)))) (.rem (.rem (.var (nat_lit 1)) (.lit (Int.ofNat (nat_lit 1048576)))) (.lit (Int.ofNat (nat_lit 1000)))) (.lit (Int.ofNat (nat_lit 0))))], (Int.ofNat (nat_lit 1)))])
  (.test (.le [([], (Int.ofNat (nat_lit 1))), ([(.app (nat_lit 0) (.rem (.rem (.var (nat_lit 0)) (.lit (Int.ofNat (nat_lit 1048576)))) (.lit (Int.ofNat (nat_lit 1000)))) (.rem (.rem (.var (nat_lit 1)) (.lit (Int.ofNat (nat_lit 1048576)))) (.lit (Int.ofNat (nat_lit 1000)))) (.lit (Int.ofNat (nat_lit 0))))], (Int.ofNat (nat_lit 1)))])
  (.test (.le [([(.app (nat_lit 0) (.rem (.rem (.var (nat_lit 2)) (.lit (Int.ofNat (nat_lit 1048576)))) (.lit (Int.ofNat (nat_lit 1000)))) (.rem (.rem (.var (nat_lit 3)) (.lit (Int.ofNat (nat_lit 1048576)))) (.lit (Int.ofNat (nat_lit 1000)))) (.lit (Int.ofNat (nat_lit 0))))], (Int.ofNat (nat_lit 1)))])
  (.leaf (.bool false))
  (.leaf (.bool true)))
  (.leaf (.bool false)))
  (.test (.le [([(.app (nat_lit 0) (.rem (.rem (.var (nat_lit 2)) (.lit (Int.ofNat (nat_lit 1048576)))) (.lit (Int.ofNat (nat_lit 1000)))) (.rem (.rem (.var (nat_lit 3)) (.lit (Int.ofNat (nat_lit 1048576)))) (.lit (Int.ofNat (nat_lit 1000)))) (.lit (Int.ofNat (nat_lit 0))))], (Int.ofNat (nat_lit 1)))])
  (.test (.le [([], (Int.ofNat (nat_lit 1))), ([(.app (nat_lit 0) (.rem (.rem (.var (nat_lit 2)) (.lit (Int.ofNat (nat_lit 1048576)))) (.lit (Int.ofNat (nat_lit 1000)))) (.rem (.rem (.var (nat_lit 3)) (.lit (Int.ofNat (nat_lit 1048576)))) (.lit (Int.ofNat (nat_lit 1000)))) (.lit (Int.ofNat (nat_lit 0))))], (Int.ofNat (nat_lit 1)))])
  (.leaf (.bool true))
  (.leaf (.bool false)))
  (.leaf (.bool false))))
theorem f6C2 : checkT Tryd.prog (xWith (xOf symX) f6R) (gxOf symG) (sumsOf sums10) 10000 6 f6A f6T2 (((facts0 f6K).yes f6Q0).yes f6Q1) = true := by kernel_rfl
def f6T3 : STree := (.test (.le [([(.app (nat_lit 0) (.rem (.rem (.var (nat_lit 0)) (.lit (Int.ofNat (nat_lit 1048576)))) (.lit (Int.ofNat (nat_lit 1000)))) (.rem (.rem (.var (nat_lit 1)) (.lit (Int.ofNat (nat_lit 1048576)))) (.lit (Int.ofNat (nat_lit 1000)))) (.lit (Int.ofNat (nat_lit 0))))], (Int.ofNat (nat_lit 1)))])
  (.test (.le [([], (Int.ofNat (nat_lit 1))), ([(.app (nat_lit 0) (.rem (.rem (.var (nat_lit 0)) (.lit (Int.ofNat (nat_lit 1048576)))) (.lit (Int.ofNat (nat_lit 1000)))) (.rem (.rem (.var (nat_lit 1)) (.lit (Int.ofNat (nat_lit 1048576)))) (.lit (Int.ofNat (nat_lit 1000)))) (.lit (Int.ofNat (nat_lit 0))))], (Int.ofNat (nat_lit 1)))])
  (.test (.le [([(.app (nat_lit 0) (.rem (.rem (.var (nat_lit 2)) (.lit (Int.ofNat (nat_lit 1048576)))) (.lit (Int.ofNat (nat_lit 1000)))) (.rem (.rem (.var (nat_lit 3)) (.lit (Int.ofNat (nat_lit 1048576)))) (.lit (Int.ofNat (nat_lit 1000)))) (.lit (Int.ofNat (nat_lit 0))))], (Int.ofNat (nat_lit 1)))])
  (.test (.le [([], (Int.ofNat (nat_lit 1))), ([(.app (nat_lit 0) (.rem (.rem (.var (nat_lit 2)) (.lit (Int.ofNat (nat_lit 1048576)))) (.lit (Int.ofNat (nat_lit 1000)))) (.rem (.rem (.var (nat_lit 3)) (.lit (Int.ofNat (nat_lit 1048576)))) (.lit (Int.ofNat (nat_lit 1000)))) (.lit (Int.ofNat (nat_lit 0))))], (Int.ofNat (nat_lit 1)))])
  (.leaf (.bool false))
  (.leaf (.bool true)))
  (.leaf (.bool false)))
  (.leaf (.bool true)))
  (.test (.le [([(.app (nat_lit 0) (.rem (.rem (.var (nat_lit 2)) (.lit (Int.ofNat (nat_lit 1048576)))) (.lit (Int.ofNat (nat_lit 1000)))) (.rem (.rem (.var (nat_lit 3)) (.lit (Int.ofNat (nat_lit 1048576)))) (.lit (Int.ofNat (nat_lit 1000)))) (.lit (Int.ofNat (nat_lit 0))))], (Int.ofNat (nat_lit 1)))])
  (.test (.le [([], (Int.ofNat (nat_lit 1))), ([(.app (nat_lit 0) (.rem (.rem (.var (nat_lit 2)) (.lit (Int.ofNat (nat_lit 1048576)))) (.lit (Int.ofNat (nat_lit 1000)))) (.rem (.rem (.var (nat_lit 3)) (.lit (Int.ofNat (nat_lit 1048576)))) (.lit (Int.ofNat (nat_lit 1000)))) (.lit (Int.ofNat (nat_lit 0))))], (Int.ofNat (nat_lit 1)))])
  (.leaf (.bool false))
  (.leaf (.bool true)))
  (.leaf (.bool false))))
theorem f6C3 : checkT Tryd.prog (xWith (xOf symX) f6R) (gxOf symG) (sumsOf sums10) 10000 6 f6A f6T3 (((facts0 f6K).yes f6Q0).no f6Q1) = true := by kernel_rfl
def f6T4 : STree := .test f6Q1 f6T2 f6T3
theorem f6C4 : checkT Tryd.prog (xWith (xOf symX) f6R) (gxOf symG) (sumsOf sums10) 10000 6 f6A f6T4 ((facts0 f6K).yes f6Q0) = true := checkT_test f6C2 f6C3
def f6T5 : STree := (.test (.le [([(.app (nat_lit 0) (.rem (.rem (.var (nat_lit 0)) (.lit (Int.ofNat (nat_lit 1048576)))) (.lit (Int.ofNat (nat_lit 1000)))) (.rem (.rem (.var (nat_lit 1)) (.lit (Int.ofNat (nat_lit 1048576)))) (.lit (Int.ofNat (nat_lit 1000)))) (.lit (Int.ofNat (nat_lit 0))))], (Int.ofNat (nat_lit 1)))])
  (.test (.le [([], (Int.ofNat (nat_lit 1))), ([(.app (nat_lit 0) (.rem (.rem (.var (nat_lit 0)) (.lit (Int.ofNat (nat_lit 1048576)))) (.lit (Int.ofNat (nat_lit 1000)))) (.rem (.rem (.var (nat_lit 1)) (.lit (Int.ofNat (nat_lit 1048576)))) (.lit (Int.ofNat (nat_lit 1000)))) (.lit (Int.ofNat (nat_lit 0))))], (Int.ofNat (nat_lit 1)))])
  (.test (.le [([(.app (nat_lit 0) (.rem (.rem (.var (nat_lit 2)) (.lit (Int.ofNat (nat_lit 1048576)))) (.lit (Int.ofNat (nat_lit 1000)))) (.rem (.rem (.var (nat_lit 3)) (.lit (Int.ofNat (nat_lit 1048576)))) (.lit (Int.ofNat (nat_lit 1000)))) (.lit (Int.ofNat (nat_lit 0))))], (Int.ofNat (nat_lit 1)))])
  (.test (.le [([], (Int.ofNat (nat_lit 1))), ([(.app (nat_lit 0) (.rem (.rem (.var (nat_lit 2)) (.lit (Int.ofNat (nat_lit 1048576)))) (.lit (Int.ofNat (nat_lit 1000)))) (.rem (.rem (.var (nat_lit 3)) (.lit (Int.ofNat (nat_lit 1048576)))) (.lit (Int.ofNat (nat_lit 1000)))) (.lit (Int.ofNat (nat_lit 0))))], (Int.ofNat (nat_lit 1)))])
  (.leaf (.bool true))
  (.leaf (.bool false)))
  (.leaf (.bool false)))
  (.leaf (.bool false)))
  (.test (.le [([(.app (nat_lit 0) (.rem (.rem (.var (nat_lit 2)) (.lit (Int.ofNat (nat_lit 1048576)))) (.lit (Int.ofNat (nat_lit 1000)))) (.rem (.rem (.var (nat_lit 3)) (.lit (Int.ofNat (nat_lit 1048576)))) (.lit (Int.ofNat (nat_lit 1000)))) (.lit (Int.ofNat (nat_lit 0))))], (Int.ofNat (nat_lit 1)))])
  (.leaf (.bool false))
  (.leaf (.bool true))))
theorem f6C5 : checkT Tryd.prog (xWith (xOf symX) f6R) (gxOf symG) (sumsOf sums10) 10000 6 f6A f6T5 ((facts0 f6K).no f6Q0) = true := by kernel_rfl
def f6T6 : STree := .test f6Q0 f6T4 f6T5
theorem f6C6 : checkT Tryd.prog (xWith (xOf symX) f6R) (gxOf symG) (sumsOf sums10) 10000 6 f6A f6T6 (facts0 f6K) = true := checkT_test f6C4 f6C5
def f6M : Summ := ⟨f6A, f6K, f6T6, f6R, []⟩
theorem f6Ok : SumOk Tryd.prog (xOf symX) (gxOf symG) 6 f6M := sumOk_of symMixed symClosed sums10Ok f6C6
theorem f6_exch : Exch f6M ⟨f6A, f6K, .leaf (.bool true), f6R, []⟩ := ⟨⟨rfl, rfl, rfl, rfl⟩, rfl, fun D hf _ => by
  simp only [f6M, f6Q0,f6Q1,f6T2,f6T3,f6T4,f6T5,f6T6, ev_le, ev_eq, ev_bool, Poly.ev, Mono.ev, E.ev, hf, stdF]
  generalize ((D.env.v 0).tmod (Int.ofNat 1048576)).tmod (Int.ofNat 1000) = a
  generalize ((D.env.v 1).tmod (Int.ofNat 1048576)).tmod (Int.ofNat 1000) = b
  generalize ((D.env.v 2).tmod (Int.ofNat 1048576)).tmod (Int.ofNat 1000) = c
  generalize ((D.env.v 3).tmod (Int.ofNat 1048576)).tmod (Int.ofNat 1000) = d
  simp only [three_lit, one_lit, Int.neg_mul, Int.one_mul, Int.mul_one, Int.add_zero]
  have h1 := ssign_mul a b c d
  have l1 := ssign_le a b
  have l2 := ssign_le c d
  have p1 : ∀ x y : Int, (x = 1 → x * y = y) ∧ (x = 0 → x * y = 0) ∧ (x = -1 → x * y = -y) := fun x y => ⟨fun h => by rw [h, Int.one_mul], fun h => by rw [h, Int.zero_mul], fun h => by rw [h]; omega⟩
  have p2 := p1 (ssign a b) (ssign c d)
  generalize ssign (a * c + 3 * (b * d)) (a * d + b * c) = s at *
  generalize ssign a b * ssign c d = t at *
  generalize ssign a b = s1 at *
  generalize ssign c d = s2 at *
  repeat' split
  all_goals first | rfl | (exfalso; omega)⟩
theorem f6Law : SumOk Tryd.prog (xOf symX) (gxOf symG) 6 ⟨f6A, f6K, .leaf (.bool true), f6R, []⟩ := Exch.ok f6Ok f6_exch
end Go.Proofs.YtjghifocfjbmcabDoor
