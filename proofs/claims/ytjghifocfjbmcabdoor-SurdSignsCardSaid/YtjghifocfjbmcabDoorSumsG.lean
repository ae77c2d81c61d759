/- Further summaries of functions that the laws call, each proved by the kernel along its tree of tests. -/
import Derived.Test.YtjghifocfjbmcabDoorSums
import Derived.KernelRfl
namespace Go.Proofs.YtjghifocfjbmcabDoor
open Go.Sym

def f87_cmp1A : List SV := [(.aslice (nat_lit 1000) (nat_lit 1) (nat_lit 1)), (.aslice (nat_lit 1001) (nat_lit 1) (nat_lit 1))]
def f87_cmp1K : List Iv := [ivT .u32, ivT .u32]
def f87_cmp1R : List (List SV) := [[(.int .u32 [([(.var (nat_lit 0))], (Int.ofNat (nat_lit 1)))])], [(.int .u32 [([(.var (nat_lit 1))], (Int.ofNat (nat_lit 1)))])]]
def f87_cmp1T0 : STree := (.test (.le [([], (Int.ofNat (nat_lit 1))), ([(.var (nat_lit 0))], (Int.ofNat (nat_lit 1))), ([(.var (nat_lit 1))], (Int.negSucc (nat_lit 0)))])
  (.leaf (.int .i64 [([], (Int.negSucc (nat_lit 0)))]))
  (.test (.le [([], (Int.ofNat (nat_lit 1))), ([(.var (nat_lit 0))], (Int.negSucc (nat_lit 0))), ([(.var (nat_lit 1))], (Int.ofNat (nat_lit 1)))])
  (.leaf (.int .i64 [([], (Int.ofNat (nat_lit 1)))]))
  (.leaf (.int .i64 []))))
theorem f87_cmp1C0 : checkT Tryd.prog (xWith (xOf symX) f87_cmp1R) (gxOf symG) (sumsOf sums10) 10000 87 f87_cmp1A f87_cmp1T0 (facts0 f87_cmp1K) = true := by kernel_rfl
def f87_cmp1M : Summ := cmp1S
theorem f87_cmp1Ok : SumOk Tryd.prog (xOf symX) (gxOf symG) 87 f87_cmp1M := Exch.ok (sumOk_of (m := ⟨f87_cmp1A, f87_cmp1K, f87_cmp1T0, f87_cmp1R, []⟩) symMixed symClosed sums10Ok f87_cmp1C0) (cmp1S_exch)
def sums87_cmp1 : List (Nat × Summ) := (87, f87_cmp1M) :: sums10
theorem sums87_cmp1Ok : ∀ g, ∀ m ∈ sumsOf sums87_cmp1 g, SumOk Tryd.prog (xOf symX) (gxOf symG) g m := sumsOf_ok f87_cmp1Ok sums10Ok
def f87_cmp2A : List SV := [(.aslice (nat_lit 1000) (nat_lit 2) (nat_lit 2)), (.aslice (nat_lit 1001) (nat_lit 2) (nat_lit 2))]
def f87_cmp2K : List Iv := [ivT .u32, ivT .u32, ivT .u32, ivT .u32]
def f87_cmp2R : List (List SV) := [[(.int .u32 [([(.var (nat_lit 0))], (Int.ofNat (nat_lit 1)))]), (.int .u32 [([(.var (nat_lit 1))], (Int.ofNat (nat_lit 1)))])], [(.int .u32 [([(.var (nat_lit 2))], (Int.ofNat (nat_lit 1)))]), (.int .u32 [([(.var (nat_lit 3))], (Int.ofNat (nat_lit 1)))])]]
def f87_cmp2T0 : STree := (.test (.le [([], (Int.ofNat (nat_lit 1))), ([(.var (nat_lit 1))], (Int.ofNat (nat_lit 1))), ([(.var (nat_lit 3))], (Int.negSucc (nat_lit 0)))])
  (.leaf (.int .i64 [([], (Int.negSucc (nat_lit 0)))]))
  (.test (.le [([], (Int.ofNat (nat_lit 1))), ([(.var (nat_lit 1))], (Int.negSucc (nat_lit 0))), ([(.var (nat_lit 3))], (Int.ofNat (nat_lit 1)))])
  (.leaf (.int .i64 [([], (Int.ofNat (nat_lit 1)))]))
  (.test (.le [([], (Int.ofNat (nat_lit 1))), ([(.var (nat_lit 0))], (Int.ofNat (nat_lit 1))), ([(.var (nat_lit 2))], (Int.negSucc (nat_lit 0)))])
  (.leaf (.int .i64 [([], (Int.negSucc (nat_lit 0)))]))
  (.test (.le [([], (Int.ofNat (nat_lit 1))), ([(.var (nat_lit 0))], (Int.negSucc (nat_lit 0))), ([(.var (nat_lit 2))], (Int.ofNat (nat_lit 1)))])
  (.leaf (.int .i64 [([], (Int.ofNat (nat_lit 1)))]))
  (.leaf (.int .i64 []))))))
theorem f87_cmp2C0 : checkT Tryd.prog (xWith (xOf symX) f87_cmp2R) (gxOf symG) (sumsOf sums87_cmp1) 10000 87 f87_cmp2A f87_cmp2T0 (facts0 f87_cmp2K) = true := by kernel_rfl
def f87_cmp2M : Summ := cmp2S
theorem f87_cmp2Ok : SumOk Tryd.prog (xOf symX) (gxOf symG) 87 f87_cmp2M := Exch.ok (sumOk_of (m := ⟨f87_cmp2A, f87_cmp2K, f87_cmp2T0, f87_cmp2R, []⟩) symMixed symClosed sums87_cmp1Ok f87_cmp2C0) (cmp2S_exch)
def sums87_cmp2 : List (Nat × Summ) := (87, f87_cmp2M) :: sums87_cmp1
theorem sums87_cmp2Ok : ∀ g, ∀ m ∈ sumsOf sums87_cmp2 g, SumOk Tryd.prog (xOf symX) (gxOf symG) g m := sumsOf_ok f87_cmp2Ok sums87_cmp1Ok
def f87_cmp3A : List SV := [(.aslice (nat_lit 1000) (nat_lit 3) (nat_lit 3)), (.aslice (nat_lit 1001) (nat_lit 3) (nat_lit 3))]
def f87_cmp3K : List Iv := [ivT .u32, ivT .u32, ivT .u32, ivT .u32, ivT .u32, ivT .u32]
def f87_cmp3R : List (List SV) := [[(.int .u32 [([(.var (nat_lit 0))], (Int.ofNat (nat_lit 1)))]), (.int .u32 [([(.var (nat_lit 1))], (Int.ofNat (nat_lit 1)))]), (.int .u32 [([(.var (nat_lit 2))], (Int.ofNat (nat_lit 1)))])], [(.int .u32 [([(.var (nat_lit 3))], (Int.ofNat (nat_lit 1)))]), (.int .u32 [([(.var (nat_lit 4))], (Int.ofNat (nat_lit 1)))]), (.int .u32 [([(.var (nat_lit 5))], (Int.ofNat (nat_lit 1)))])]]
def f87_cmp3T0 : STree := (.test (.le [([], (Int.ofNat (nat_lit 1))), ([(.var (nat_lit 2))], (Int.ofNat (nat_lit 1))), ([(.var (nat_lit 5))], (Int.negSucc (nat_lit 0)))])
  (.leaf (.int .i64 [([], (Int.negSucc (nat_lit 0)))]))
  (.test (.le [([], (Int.ofNat (nat_lit 1))), ([(.var (nat_lit 2))], (Int.negSucc (nat_lit 0))), ([(.var (nat_lit 5))], (Int.ofNat (nat_lit 1)))])
  (.leaf (.int .i64 [([], (Int.ofNat (nat_lit 1)))]))
  (.test (.le [([], (Int.ofNat (nat_lit 1))), ([(.var (nat_lit 1))], (Int.ofNat (nat_lit 1))), ([(.var (nat_lit 4))], (Int.negSucc (nat_lit 0)))])
  (.leaf (.int .i64 [([], (Int.negSucc (nat_lit 0)))]))
  (.test (.le [([], (Int.ofNat (nat_lit 1))), ([(.var (nat_lit 1))], (Int.negSucc (nat_lit 0))), ([(.var (nat_lit 4))], (Int.ofNat (nat_lit 1)))])
  (.leaf (.int .i64 [([], (Int.ofNat (nat_lit 1)))]))
  (.test (.le [([], (Int.ofNat (nat_lit 1))), ([(.var (nat_lit 0))], (Int.ofNat (nat_lit 1))), ([(.var (nat_lit 3))], (Int.negSucc (nat_lit 0)))])
  (.leaf (.int .i64 [([], (Int.negSucc (nat_lit 0)))]))
  (.test (.le [([], (Int.ofNat (nat_lit 1))), ([(.var (nat_lit 0))], (Int.negSucc (nat_lit 0))), ([(.var (nat_lit 3))], (Int.ofNat (nat_lit 1)))])
  (.leaf (.int .i64 [([], (Int.ofNat (nat_lit 1)))]))
  (.leaf (.int .i64 []))))))))
theorem f87_cmp3C0 : checkT Tryd.prog (xWith (xOf symX) f87_cmp3R) (gxOf symG) (sumsOf sums87_cmp2) 10000 87 f87_cmp3A f87_cmp3T0 (facts0 f87_cmp3K) = true := by kernel_rfl
def f87_cmp3M : Summ := cmp3S
theorem f87_cmp3Ok : SumOk Tryd.prog (xOf symX) (gxOf symG) 87 f87_cmp3M := Exch.ok (sumOk_of (m := ⟨f87_cmp3A, f87_cmp3K, f87_cmp3T0, f87_cmp3R, []⟩) symMixed symClosed sums87_cmp2Ok f87_cmp3C0) (cmp3S_exch)
def sums87_cmp3 : List (Nat × Summ) := (87, f87_cmp3M) :: sums87_cmp2
theorem sums87_cmp3Ok : ∀ g, ∀ m ∈ sumsOf sums87_cmp3 g, SumOk Tryd.prog (xOf symX) (gxOf symG) g m := sumsOf_ok f87_cmp3Ok sums87_cmp2Ok
def f87_cmp4A : List SV := [(.aslice (nat_lit 1000) (nat_lit 4) (nat_lit 4)), (.aslice (nat_lit 1001) (nat_lit 4) (nat_lit 4))]
def f87_cmp4K : List Iv := [ivT .u32, ivT .u32, ivT .u32, ivT .u32, ivT .u32, ivT .u32, ivT .u32, ivT .u32]
def f87_cmp4R : List (List SV) := [[(.int .u32 [([(.var (nat_lit 0))], (Int.ofNat (nat_lit 1)))]), (.int .u32 [([(.var (nat_lit 1))], (Int.ofNat (nat_lit 1)))]), (.int .u32 [([(.var (nat_lit 2))], (Int.ofNat (nat_lit 1)))]), (.int .u32 [([(.var (nat_lit 3))], (Int.ofNat (nat_lit 1)))])], [(.int .u32 [([(.var (nat_lit 4))], (Int.ofNat (nat_lit 1)))]), (.int .u32 [([(.var (nat_lit 5))], (Int.ofNat (nat_lit 1)))]), (.int .u32 [([(.var (nat_lit 6))], (Int.ofNat (nat_lit 1)))]), (.int .u32 [([(.var (nat_lit 7))], (Int.ofNat (nat_lit 1)))])]]
def f87_cmp4T0 : STree := (.test (.le [([], (Int.ofNat (nat_lit 1))), ([(.var (nat_lit 3))], (Int.ofNat (nat_lit 1))), ([(.var (nat_lit 7))], (Int.negSucc (nat_lit 0)))])
  (.leaf (.int .i64 [([], (Int.negSucc (nat_lit 0)))]))
  (.test (.le [([], (Int.ofNat (nat_lit 1))), ([(.var (nat_lit 3))], (Int.negSucc (nat_lit 0))), ([(.var (nat_lit 7))], (Int.ofNat (nat_lit 1)))])
  (.leaf (.int .i64 [([], (Int.ofNat (nat_lit 1)))]))
  (.test (.le [([], (Int.ofNat (nat_lit 1))), ([(.var (nat_lit 2))], (Int.ofNat (nat_lit 1))), ([(.var (nat_lit 6))], (Int.negSucc (nat_lit 0)))])
  (.leaf (.int .i64 [([], (Int.negSucc (nat_lit 0)))]))
  (.test (.le [([], (Int.ofNat (nat_lit 1))), ([(.var (nat_lit 2))], (Int.negSucc (nat_lit 0))), ([(.var (nat_lit 6))], (Int.ofNat (nat_lit 1)))])
  (.leaf (.int .i64 [([], (Int.ofNat (nat_lit 1)))]))
  (.test (.le [([], (Int.ofNat (nat_lit 1))), ([(.var (nat_lit 1))], (Int.ofNat (nat_lit 1))), ([(.var (nat_lit 5))], (Int.negSucc (nat_lit 0)))])
  (.leaf (.int .i64 [([], (Int.negSucc (nat_lit 0)))]))
  (.test (.le [([], (Int.ofNat (nat_lit 1))), ([(.var (nat_lit 1))], (Int.negSucc (nat_lit 0))), ([(.var (nat_lit 5))], (Int.ofNat (nat_lit 1)))])
  (.leaf (.int .i64 [([], (Int.ofNat (nat_lit 1)))]))
  (.test (.le [([], (Int.ofNat (nat_lit 1))), ([(.var (nat_lit 0))], (Int.ofNat (nat_lit 1))), ([(.var (nat_lit 4))], (Int.negSucc (nat_lit 0)))])
  (.leaf (.int .i64 [([], (Int.negSucc (nat_lit 0)))]))
  (.test (.le [([], (Int.ofNat (nat_lit 1))), ([(.var (nat_lit 0))], (Int.negSucc (nat_lit 0))), ([(.var (nat_lit 4))], (Int.ofNat (nat_lit 1)))])
  (.leaf (.int .i64 [([], (Int.ofNat (nat_lit 1)))]))
  (.leaf (.int .i64 []))))))))))
theorem f87_cmp4C0 : checkT Tryd.prog (xWith (xOf symX) f87_cmp4R) (gxOf symG) (sumsOf sums87_cmp3) 10000 87 f87_cmp4A f87_cmp4T0 (facts0 f87_cmp4K) = true := by kernel_rfl
def f87_cmp4M : Summ := cmp4S
theorem f87_cmp4Ok : SumOk Tryd.prog (xOf symX) (gxOf symG) 87 f87_cmp4M := Exch.ok (sumOk_of (m := ⟨f87_cmp4A, f87_cmp4K, f87_cmp4T0, f87_cmp4R, []⟩) symMixed symClosed sums87_cmp3Ok f87_cmp4C0) (cmp4S_exch)
def sums87_cmp4 : List (Nat × Summ) := (87, f87_cmp4M) :: sums87_cmp3
theorem sums87_cmp4Ok : ∀ g, ∀ m ∈ sumsOf sums87_cmp4 g, SumOk Tryd.prog (xOf symX) (gxOf symG) g m := sumsOf_ok f87_cmp4Ok sums87_cmp3Ok
def f87_cmp5A : List SV := [(.aslice (nat_lit 1000) (nat_lit 5) (nat_lit 5)), (.aslice (nat_lit 1001) (nat_lit 5) (nat_lit 5))]
def f87_cmp5K : List Iv := [ivT .u32, ivT .u32, ivT .u32, ivT .u32, ivT .u32, ivT .u32, ivT .u32, ivT .u32, ivT .u32, ivT .u32]
def f87_cmp5R : List (List SV) := [[(.int .u32 [([(.var (nat_lit 0))], (Int.ofNat (nat_lit 1)))]), (.int .u32 [([(.var (nat_lit 1))], (Int.ofNat (nat_lit 1)))]), (.int .u32 [([(.var (nat_lit 2))], (Int.ofNat (nat_lit 1)))]), (.int .u32 [([(.var (nat_lit 3))], (Int.ofNat (nat_lit 1)))]), (.int .u32 [([(.var (nat_lit 4))], (Int.ofNat (nat_lit 1)))])], [(.int .u32 [([(.var (nat_lit 5))], (Int.ofNat (nat_lit 1)))]), (.int .u32 [([(.var (nat_lit 6))], (Int.ofNat (nat_lit 1)))]), (.int .u32 [([(.var (nat_lit 7))], (Int.ofNat (nat_lit 1)))]), (.int .u32 [([(.var (nat_lit 8))], (Int.ofNat (nat_lit 1)))]), (.int .u32 [([(.var (nat_lit 9))], (Int.ofNat (nat_lit 1)))])]]
def f87_cmp5T0 : STree := (.test (.le [([], (Int.ofNat (nat_lit 1))), ([(.var (nat_lit 4))], (Int.ofNat (nat_lit 1))), ([(.var (nat_lit 9))], (Int.negSucc (nat_lit 0)))])
  (.leaf (.int .i64 [([], (Int.negSucc (nat_lit 0)))]))
  (.test (.le [([], (Int.ofNat (nat_lit 1))), ([(.var (nat_lit 4))], (Int.negSucc (nat_lit 0))), ([(.var (nat_lit 9))], (Int.ofNat (nat_lit 1)))])
  (.leaf (.int .i64 [([], (Int.ofNat (nat_lit 1)))]))
  (.test (.le [([], (Int.ofNat (nat_lit 1))), ([(.var (nat_lit 3))], (Int.ofNat (nat_lit 1))), ([(.var (nat_lit 8))], (Int.negSucc (nat_lit 0)))])
  (.leaf (.int .i64 [([], (Int.negSucc (nat_lit 0)))]))
  (.test (.le [([], (Int.ofNat (nat_lit 1))), ([(.var (nat_lit 3))], (Int.negSucc (nat_lit 0))), ([(.var (nat_lit 8))], (Int.ofNat (nat_lit 1)))])
  (.leaf (.int .i64 [([], (Int.ofNat (nat_lit 1)))]))
  (.test (.le [([], (Int.ofNat (nat_lit 1))), ([(.var (nat_lit 2))], (Int.ofNat (nat_lit 1))), ([(.var (nat_lit 7))], (Int.negSucc (nat_lit 0)))])
  (.leaf (.int .i64 [([], (Int.negSucc (nat_lit 0)))]))
  (.test (.le [([], (Int.ofNat (nat_lit 1))), ([(.var (nat_lit 2))], (Int.negSucc (nat_lit 0))), ([(.var (nat_lit 7))], (Int.ofNat (nat_lit 1)))])
  (.leaf (.int .i64 [([], (Int.ofNat (nat_lit 1)))]))
  (.test (.le [([], (Int.ofNat (nat_lit 1))), ([(.var (nat_lit 1))], (Int.ofNat (nat_lit 1))), ([(.var (nat_lit 6))], (Int.negSucc (nat_lit 0)))])
  (.leaf (.int .i64 [([], (Int.negSucc (nat_lit 0)))]))
  (.test (.le [([], (Int.ofNat (nat_lit 1))), ([(.var (nat_lit 1))], (Int.negSucc (nat_lit 0))), ([(.var (nat_lit 6))], (Int.ofNat (nat_lit 1)))])
  (.leaf (.int .i64 [([], (Int.ofNat (nat_lit 1)))]))
  (.test (.le [([], (Int.ofNat (nat_lit 1))), ([(.var (nat_lit 0))], (Int.ofNat (nat_lit 1))), ([(.var (nat_lit 5))], (Int.negSucc (nat_lit 0)))])
  (.leaf (.int .i64 [([], (Int.negSucc (nat_lit 0)))]))
  (.test (.le [([], (Int.ofNat (nat_lit 1))), ([(.var (nat_lit 0))], (Int.negSucc (nat_lit 0))), ([(.var (nat_lit 5))], (Int.ofNat (nat_lit 1)))])
  (.leaf (.int .i64 [([], (Int.ofNat (nat_lit 1)))]))
  (.leaf (.int .i64 []))))))))))))
theorem f87_cmp5C0 : checkT Tryd.prog (xWith (xOf symX) f87_cmp5R) (gxOf symG) (sumsOf sums87_cmp4) 10000 87 f87_cmp5A f87_cmp5T0 (facts0 f87_cmp5K) = true := by kernel_rfl
def f87_cmp5M : Summ := cmp5S
theorem f87_cmp5Ok : SumOk Tryd.prog (xOf symX) (gxOf symG) 87 f87_cmp5M := Exch.ok (sumOk_of (m := ⟨f87_cmp5A, f87_cmp5K, f87_cmp5T0, f87_cmp5R, []⟩) symMixed symClosed sums87_cmp4Ok f87_cmp5C0) (cmp5S_exch)
def sums87_cmp5 : List (Nat × Summ) := (87, f87_cmp5M) :: sums87_cmp4
theorem sums87_cmp5Ok : ∀ g, ∀ m ∈ sumsOf sums87_cmp5 g, SumOk Tryd.prog (xOf symX) (gxOf symG) g m := sumsOf_ok f87_cmp5Ok sums87_cmp4Ok
def f51A : List SV := [(.int .i64 [([(.var (nat_lit 0))], (Int.ofNat (nat_lit 1)))])]
def f51K : List Iv := [ivT .i64]
def f51R : List (List SV) := []
def f51T0 : STree := (.test (.le [([], (Int.ofNat (nat_lit 1))), ([(.var (nat_lit 0))], (Int.ofNat (nat_lit 1)))])
  (.test (.le [([], (Int.negSucc (nat_lit 4294967294))), ([(.var (nat_lit 0))], (Int.negSucc (nat_lit 0)))])
  (.leafM (.agg [(.bool true), (.oslice (nat_lit 6) (nat_lit 1))]) [((nat_lit 6), ⟨[(.int .u32 [([(.var (nat_lit 0))], (Int.negSucc (nat_lit 0)))])], (nat_lit 380932)⟩)])
  (.leafM (.agg [(.bool true), (.oslice (nat_lit 6) (nat_lit 2))]) [((nat_lit 6), ⟨[(.int .u32 [([(.var (nat_lit 0))], (Int.negSucc (nat_lit 0))), ([(.fdiv (.mul (.lit (Int.negSucc (nat_lit 0))) (.var (nat_lit 0))) (.lit (Int.ofNat (nat_lit 4294967296))))], (Int.negSucc (nat_lit 4294967295)))]), (.int .u32 [([(.fdiv (.mul (.lit (Int.negSucc (nat_lit 0))) (.var (nat_lit 0))) (.lit (Int.ofNat (nat_lit 4294967296))))], (Int.ofNat (nat_lit 1)))])], (nat_lit 380932)⟩)]))
  (.test (.le [([], (Int.negSucc (nat_lit 4294967294))), ([(.var (nat_lit 0))], (Int.ofNat (nat_lit 1)))])
  (.test (.eq [([(.var (nat_lit 0))], (Int.ofNat (nat_lit 1)))])
  (.leafM (.agg [(.bool false), (.slice (nat_lit 4) (nat_lit 0) (nat_lit 0) (nat_lit 0) false)]) [((nat_lit 4), ⟨[], (nat_lit 0)⟩)])
  (.leafM (.agg [(.bool false), (.oslice (nat_lit 6) (nat_lit 1))]) [((nat_lit 6), ⟨[(.int .u32 [([(.var (nat_lit 0))], (Int.ofNat (nat_lit 1)))])], (nat_lit 380932)⟩)]))
  (.leafM (.agg [(.bool false), (.oslice (nat_lit 6) (nat_lit 2))]) [((nat_lit 6), ⟨[(.int .u32 [([(.var (nat_lit 0))], (Int.ofNat (nat_lit 1))), ([(.fdiv (.var (nat_lit 0)) (.lit (Int.ofNat (nat_lit 4294967296))))], (Int.negSucc (nat_lit 4294967295)))]), (.int .u32 [([(.fdiv (.var (nat_lit 0)) (.lit (Int.ofNat (nat_lit 4294967296))))], (Int.ofNat (nat_lit 1)))])], (nat_lit 380932)⟩)])))
theorem f51C0 : checkT Tryd.prog (xWith (xOf symX) f51R) (gxOf symG) (sumsOf sums87_cmp5) 10000 51 f51A f51T0 (factsN f51K) = true := by kernel_rfl
def f51M : Summ := ⟨f51A, f51K, f51T0, f51R, []⟩
theorem f51Ok : SumOk Tryd.prog (xOf symX) (gxOf symG) 51 f51M := sumOk_ofN symMixed symClosed sums87_cmp5Ok f51C0
def sums51 : List (Nat × Summ) := (51, f51M) :: sums87_cmp5
theorem sums51Ok : ∀ g, ∀ m ∈ sumsOf sums51 g, SumOk Tryd.prog (xOf symX) (gxOf symG) g m := sumsOf_ok f51Ok sums87_cmp5Ok
def f80_f_x1_f_x1A : List SV := [(.agg [(.bool false), (.aslice (nat_lit 1000) (nat_lit 1) (nat_lit 1))]), (.agg [(.bool false), (.aslice (nat_lit 1001) (nat_lit 1) (nat_lit 1))])]
def f80_f_x1_f_x1K : List Iv := [ivT .u32, ivT .u32]
def f80_f_x1_f_x1R : List (List SV) := [[(.int .u32 [([(.var (nat_lit 0))], (Int.ofNat (nat_lit 1)))])], [(.int .u32 [([(.var (nat_lit 1))], (Int.ofNat (nat_lit 1)))])]]
def f80_f_x1_f_x1T0 : STree := (.test (.eq [([(.var (nat_lit 0))], (Int.ofNat (nat_lit 1)))])
  (.leaf (.agg [(.bool false), (.raw (.slice none 0 0))]))
  (.test (.eq [([(.var (nat_lit 1))], (Int.ofNat (nat_lit 1)))])
  (.leaf (.agg [(.bool false), (.raw (.slice none 0 0))]))
  (.test (.le [([], (Int.negSucc (nat_lit 4294967294))), ([(.var (nat_lit 0)), (.var (nat_lit 1))], (Int.ofNat (nat_lit 1)))])
  (.leafM (.agg [(.bool false), (.oslice (nat_lit 13) (nat_lit 1))]) [((nat_lit 13), ⟨[(.int .u32 [([(.var (nat_lit 0)), (.var (nat_lit 1))], (Int.ofNat (nat_lit 1)))])], (nat_lit 380932)⟩)])
  (.leafM (.agg [(.bool false), (.oslice (nat_lit 13) (nat_lit 2))]) [((nat_lit 13), ⟨[(.int .u32 [([(.fdiv (.mul (.var (nat_lit 0)) (.var (nat_lit 1))) (.lit (Int.ofNat (nat_lit 4294967296))))], (Int.negSucc (nat_lit 4294967295))), ([(.var (nat_lit 0)), (.var (nat_lit 1))], (Int.ofNat (nat_lit 1)))]), (.int .u32 [([(.fdiv (.mul (.var (nat_lit 0)) (.var (nat_lit 1))) (.lit (Int.ofNat (nat_lit 4294967296))))], (Int.ofNat (nat_lit 1)))])], (nat_lit 380932)⟩)]))))
theorem f80_f_x1_f_x1C0 : checkT Tryd.prog (xWith (xOf symX) f80_f_x1_f_x1R) (gxOf symG) (sumsOf sums51) 10000 80 f80_f_x1_f_x1A f80_f_x1_f_x1T0 (factsN f80_f_x1_f_x1K) = true := by kernel_rfl
def f80_f_x1_f_x1M : Summ := ⟨f80_f_x1_f_x1A, f80_f_x1_f_x1K, f80_f_x1_f_x1T0, f80_f_x1_f_x1R, []⟩
theorem f80_f_x1_f_x1Ok : SumOk Tryd.prog (xOf symX) (gxOf symG) 80 f80_f_x1_f_x1M := sumOk_ofN symMixed symClosed sums51Ok f80_f_x1_f_x1C0
def sums80_f_x1_f_x1 : List (Nat × Summ) := (80, f80_f_x1_f_x1M) :: sums51
theorem sums80_f_x1_f_x1Ok : ∀ g, ∀ m ∈ sumsOf sums80_f_x1_f_x1 g, SumOk Tryd.prog (xOf symX) (gxOf symG) g m := sumsOf_ok f80_f_x1_f_x1Ok sums51Ok
def f80_t_x1_t_x1A : List SV := [(.agg [(.bool true), (.aslice (nat_lit 1000) (nat_lit 1) (nat_lit 1))]), (.agg [(.bool true), (.aslice (nat_lit 1001) (nat_lit 1) (nat_lit 1))])]
def f80_t_x1_t_x1K : List Iv := [ivT .u32, ivT .u32]
def f80_t_x1_t_x1R : List (List SV) := [[(.int .u32 [([(.var (nat_lit 0))], (Int.ofNat (nat_lit 1)))])], [(.int .u32 [([(.var (nat_lit 1))], (Int.ofNat (nat_lit 1)))])]]
def f80_t_x1_t_x1T0 : STree := (.test (.eq [([(.var (nat_lit 0))], (Int.ofNat (nat_lit 1)))])
  (.leaf (.agg [(.bool false), (.raw (.slice none 0 0))]))
  (.test (.eq [([(.var (nat_lit 1))], (Int.ofNat (nat_lit 1)))])
  (.leaf (.agg [(.bool false), (.raw (.slice none 0 0))]))
  (.test (.le [([], (Int.negSucc (nat_lit 4294967294))), ([(.var (nat_lit 0)), (.var (nat_lit 1))], (Int.ofNat (nat_lit 1)))])
  (.leafM (.agg [(.bool false), (.oslice (nat_lit 13) (nat_lit 1))]) [((nat_lit 13), ⟨[(.int .u32 [([(.var (nat_lit 0)), (.var (nat_lit 1))], (Int.ofNat (nat_lit 1)))])], (nat_lit 380932)⟩)])
  (.leafM (.agg [(.bool false), (.oslice (nat_lit 13) (nat_lit 2))]) [((nat_lit 13), ⟨[(.int .u32 [([(.fdiv (.mul (.var (nat_lit 0)) (.var (nat_lit 1))) (.lit (Int.ofNat (nat_lit 4294967296))))], (Int.negSucc (nat_lit 4294967295))), ([(.var (nat_lit 0)), (.var (nat_lit 1))], (Int.ofNat (nat_lit 1)))]), (.int .u32 [([(.fdiv (.mul (.var (nat_lit 0)) (.var (nat_lit 1))) (.lit (Int.ofNat (nat_lit 4294967296))))], (Int.ofNat (nat_lit 1)))])], (nat_lit 380932)⟩)]))))
theorem f80_t_x1_t_x1C0 : checkT Tryd.prog (xWith (xOf symX) f80_t_x1_t_x1R) (gxOf symG) (sumsOf sums80_f_x1_f_x1) 10000 80 f80_t_x1_t_x1A f80_t_x1_t_x1T0 (factsN f80_t_x1_t_x1K) = true := by kernel_rfl
def f80_t_x1_t_x1M : Summ := ⟨f80_t_x1_t_x1A, f80_t_x1_t_x1K, f80_t_x1_t_x1T0, f80_t_x1_t_x1R, []⟩
theorem f80_t_x1_t_x1Ok : SumOk Tryd.prog (xOf symX) (gxOf symG) 80 f80_t_x1_t_x1M := sumOk_ofN symMixed symClosed sums80_f_x1_f_x1Ok f80_t_x1_t_x1C0
def sums80_t_x1_t_x1 : List (Nat × Summ) := (80, f80_t_x1_t_x1M) :: sums80_f_x1_f_x1
theorem sums80_t_x1_t_x1Ok : ∀ g, ∀ m ∈ sumsOf sums80_t_x1_t_x1 g, SumOk Tryd.prog (xOf symX) (gxOf symG) g m := sumsOf_ok f80_t_x1_t_x1Ok sums80_f_x1_f_x1Ok
def f80_f_x2_f_x2A : List SV := [(.agg [(.bool false), (.aslice (nat_lit 1000) (nat_lit 2) (nat_lit 2))]), (.agg [(.bool false), (.aslice (nat_lit 1001) (nat_lit 2) (nat_lit 2))])]
def f80_f_x2_f_x2K : List Iv := [ivT .u32, ivT .u32, ivT .u32, ivT .u32]
def f80_f_x2_f_x2R : List (List SV) := [[(.int .u32 [([(.var (nat_lit 0))], (Int.ofNat (nat_lit 1)))]), (.int .u32 [([(.var (nat_lit 1))], (Int.ofNat (nat_lit 1)))])], [(.int .u32 [([(.var (nat_lit 2))], (Int.ofNat (nat_lit 1)))]), (.int .u32 [([(.var (nat_lit 3))], (Int.ofNat (nat_lit 1)))])]]
def f80_f_x2_f_x2T0 : STree := (.test (.eq [([(.var (nat_lit 1))], (Int.ofNat (nat_lit 1)))])
  (.leaf (.agg [(.bool false), (.raw (.slice none 0 0))]))
  (.test (.eq [([(.var (nat_lit 3))], (Int.ofNat (nat_lit 1)))])
  (.leaf (.agg [(.bool false), (.raw (.slice none 0 0))]))
  (.test (.le [([], (Int.negSucc (nat_lit 79228162514264337593543950334))), ([(.var (nat_lit 0)), (.var (nat_lit 2))], (Int.ofNat (nat_lit 1))), ([(.var (nat_lit 0)), (.var (nat_lit 3))], (Int.ofNat (nat_lit 4294967296))), ([(.var (nat_lit 1)), (.var (nat_lit 2))], (Int.ofNat (nat_lit 4294967296))), ([(.var (nat_lit 1)), (.var (nat_lit 3))], (Int.ofNat (nat_lit 18446744073709551616)))])
  (.leafM (.agg [(.bool false), (.oslice (nat_lit 13) (nat_lit 3))]) [((nat_lit 13), ⟨[(.int .u32 [([(.fdiv (.mul (.var (nat_lit 0)) (.var (nat_lit 2))) (.lit (Int.ofNat (nat_lit 4294967296))))], (Int.negSucc (nat_lit 4294967295))), ([(.var (nat_lit 0)), (.var (nat_lit 2))], (Int.ofNat (nat_lit 1)))]), (.int .u32 [([(.fdiv (.add (.mul (.var (nat_lit 0)) (.var (nat_lit 2))) (.add (.mul (.lit (Int.ofNat (nat_lit 4294967296))) (.mul (.var (nat_lit 0)) (.var (nat_lit 3)))) (.mul (.lit (Int.ofNat (nat_lit 4294967296))) (.mul (.var (nat_lit 1)) (.var (nat_lit 2)))))) (.lit (Int.ofNat (nat_lit 18446744073709551616))))], (Int.negSucc (nat_lit 4294967295))), ([(.fdiv (.mul (.var (nat_lit 0)) (.var (nat_lit 2))) (.lit (Int.ofNat (nat_lit 4294967296))))], (Int.ofNat (nat_lit 1))), ([(.var (nat_lit 0)), (.var (nat_lit 3))], (Int.ofNat (nat_lit 1))), ([(.var (nat_lit 1)), (.var (nat_lit 2))], (Int.ofNat (nat_lit 1)))]), (.int .u32 [([(.fdiv (.add (.mul (.var (nat_lit 0)) (.var (nat_lit 2))) (.add (.mul (.lit (Int.ofNat (nat_lit 4294967296))) (.mul (.var (nat_lit 0)) (.var (nat_lit 3)))) (.mul (.lit (Int.ofNat (nat_lit 4294967296))) (.mul (.var (nat_lit 1)) (.var (nat_lit 2)))))) (.lit (Int.ofNat (nat_lit 18446744073709551616))))], (Int.ofNat (nat_lit 1))), ([(.var (nat_lit 1)), (.var (nat_lit 3))], (Int.ofNat (nat_lit 1)))])], (nat_lit 380932)⟩)])
  (.leafM (.agg [(.bool false), (.oslice (nat_lit 13) (nat_lit 4))]) [((nat_lit 13), ⟨[(.int .u32 [([(.fdiv (.mul (.var (nat_lit 0)) (.var (nat_lit 2))) (.lit (Int.ofNat (nat_lit 4294967296))))], (Int.negSucc (nat_lit 4294967295))), ([(.var (nat_lit 0)), (.var (nat_lit 2))], (Int.ofNat (nat_lit 1)))]), (.int .u32 [([(.fdiv (.add (.mul (.var (nat_lit 0)) (.var (nat_lit 2))) (.add (.mul (.lit (Int.ofNat (nat_lit 4294967296))) (.mul (.var (nat_lit 0)) (.var (nat_lit 3)))) (.mul (.lit (Int.ofNat (nat_lit 4294967296))) (.mul (.var (nat_lit 1)) (.var (nat_lit 2)))))) (.lit (Int.ofNat (nat_lit 18446744073709551616))))], (Int.negSucc (nat_lit 4294967295))), ([(.fdiv (.mul (.var (nat_lit 0)) (.var (nat_lit 2))) (.lit (Int.ofNat (nat_lit 4294967296))))], (Int.ofNat (nat_lit 1))), ([(.var (nat_lit 0)), (.var (nat_lit 3))], (Int.ofNat (nat_lit 1))), ([(.var (nat_lit 1)), (.var (nat_lit 2))], (Int.ofNat (nat_lit 1)))]), (.int .u32 [([(.fdiv (.add (.mul (.var (nat_lit 0)) (.var (nat_lit 2))) (.add (.mul (.lit (Int.ofNat (nat_lit 4294967296))) (.mul (.var (nat_lit 0)) (.var (nat_lit 3)))) (.add (.mul (.lit (Int.ofNat (nat_lit 4294967296))) (.mul (.var (nat_lit 1)) (.var (nat_lit 2)))) (.mul (.lit (Int.ofNat (nat_lit 18446744073709551616))) (.mul (.var (nat_lit 1)) (.var (nat_lit 3))))))) (.lit (Int.ofNat (nat_lit 79228162514264337593543950336))))], (Int.negSucc (nat_lit 4294967295))), ([(.fdiv (.add (.mul (.var (nat_lit 0)) (.var (nat_lit 2))) (.add (.mul (.lit (Int.ofNat (nat_lit 4294967296))) (.mul (.var (nat_lit 0)) (.var (nat_lit 3)))) (.mul (.lit (Int.ofNat (nat_lit 4294967296))) (.mul (.var (nat_lit 1)) (.var (nat_lit 2)))))) (.lit (Int.ofNat (nat_lit 18446744073709551616))))], (Int.ofNat (nat_lit 1))), ([(.var (nat_lit 1)), (.var (nat_lit 3))], (Int.ofNat (nat_lit 1)))]), (.int .u32 [([(.fdiv (.add (.mul (.var (nat_lit 0)) (.var (nat_lit 2))) (.add (.mul (.lit (Int.ofNat (nat_lit 4294967296))) (.mul (.var (nat_lit 0)) (.var (nat_lit 3)))) (.add (.mul (.lit (Int.ofNat (nat_lit 4294967296))) (.mul (.var (nat_lit 1)) (.var (nat_lit 2)))) (.mul (.lit (Int.ofNat (nat_lit 18446744073709551616))) (.mul (.var (nat_lit 1)) (.var (nat_lit 3))))))) (.lit (Int.ofNat (nat_lit 79228162514264337593543950336))))], (Int.ofNat (nat_lit 1)))])], (nat_lit 380932)⟩)]))))
theorem f80_f_x2_f_x2C0 : checkT Tryd.prog (xWith (xOf symX) f80_f_x2_f_x2R) (gxOf symG) (sumsOf sums80_t_x1_t_x1) 10000 80 f80_f_x2_f_x2A f80_f_x2_f_x2T0 (factsN f80_f_x2_f_x2K) = true := by kernel_rfl
def f80_f_x2_f_x2M : Summ := ⟨f80_f_x2_f_x2A, f80_f_x2_f_x2K, f80_f_x2_f_x2T0, f80_f_x2_f_x2R, []⟩
theorem f80_f_x2_f_x2Ok : SumOk Tryd.prog (xOf symX) (gxOf symG) 80 f80_f_x2_f_x2M := sumOk_ofN symMixed symClosed sums80_t_x1_t_x1Ok f80_f_x2_f_x2C0
def sums80_f_x2_f_x2 : List (Nat × Summ) := (80, f80_f_x2_f_x2M) :: sums80_t_x1_t_x1
theorem sums80_f_x2_f_x2Ok : ∀ g, ∀ m ∈ sumsOf sums80_f_x2_f_x2 g, SumOk Tryd.prog (xOf symX) (gxOf symG) g m := sumsOf_ok f80_f_x2_f_x2Ok sums80_t_x1_t_x1Ok
def f80_t_x2_t_x2A : List SV := [(.agg [(.bool true), (.aslice (nat_lit 1000) (nat_lit 2) (nat_lit 2))]), (.agg [(.bool true), (.aslice (nat_lit 1001) (nat_lit 2) (nat_lit 2))])]
def f80_t_x2_t_x2K : List Iv := [ivT .u32, ivT .u32, ivT .u32, ivT .u32]
def f80_t_x2_t_x2R : List (List SV) := [[(.int .u32 [([(.var (nat_lit 0))], (Int.ofNat (nat_lit 1)))]), (.int .u32 [([(.var (nat_lit 1))], (Int.ofNat (nat_lit 1)))])], [(.int .u32 [([(.var (nat_lit 2))], (Int.ofNat (nat_lit 1)))]), (.int .u32 [([(.var (nat_lit 3))], (Int.ofNat (nat_lit 1)))])]]
def f80_t_x2_t_x2T0 : STree := (.test (.eq [([(.var (nat_lit 1))], (Int.ofNat (nat_lit 1)))])
  (.leaf (.agg [(.bool false), (.raw (.slice none 0 0))]))
  (.test (.eq [([(.var (nat_lit 3))], (Int.ofNat (nat_lit 1)))])
  (.leaf (.agg [(.bool false), (.raw (.slice none 0 0))]))
  (.test (.le [([], (Int.negSucc (nat_lit 79228162514264337593543950334))), ([(.var (nat_lit 0)), (.var (nat_lit 2))], (Int.ofNat (nat_lit 1))), ([(.var (nat_lit 0)), (.var (nat_lit 3))], (Int.ofNat (nat_lit 4294967296))), ([(.var (nat_lit 1)), (.var (nat_lit 2))], (Int.ofNat (nat_lit 4294967296))), ([(.var (nat_lit 1)), (.var (nat_lit 3))], (Int.ofNat (nat_lit 18446744073709551616)))])
  (.leafM (.agg [(.bool false), (.oslice (nat_lit 13) (nat_lit 3))]) [((nat_lit 13), ⟨[(.int .u32 [([(.fdiv (.mul (.var (nat_lit 0)) (.var (nat_lit 2))) (.lit (Int.ofNat (nat_lit 4294967296))))], (Int.negSucc (nat_lit 4294967295))), ([(.var (nat_lit 0)), (.var (nat_lit 2))], (Int.ofNat (nat_lit 1)))]), (.int .u32 [([(.fdiv (.add (.mul (.var (nat_lit 0)) (.var (nat_lit 2))) (.add (.mul (.lit (Int.ofNat (nat_lit 4294967296))) (.mul (.var (nat_lit 0)) (.var (nat_lit 3)))) (.mul (.lit (Int.ofNat (nat_lit 4294967296))) (.mul (.var (nat_lit 1)) (.var (nat_lit 2)))))) (.lit (Int.ofNat (nat_lit 18446744073709551616))))], (Int.negSucc (nat_lit 4294967295))), ([(.fdiv (.mul (.var (nat_lit 0)) (.var (nat_lit 2))) (.lit (Int.ofNat (nat_lit 4294967296))))], (Int.ofNat (nat_lit 1))), ([(.var (nat_lit 0)), (.var (nat_lit 3))], (Int.ofNat (nat_lit 1))), ([(.var (nat_lit 1)), (.var (nat_lit 2))], (Int.ofNat (nat_lit 1)))]), (.int .u32 [([(.fdiv (.add (.mul (.var (nat_lit 0)) (.var (nat_lit 2))) (.add (.mul (.lit (Int.ofNat (nat_lit 4294967296))) (.mul (.var (nat_lit 0)) (.var (nat_lit 3)))) (.mul (.lit (Int.ofNat (nat_lit 4294967296))) (.mul (.var (nat_lit 1)) (.var (nat_lit 2)))))) (.lit (Int.ofNat (nat_lit 18446744073709551616))))], (Int.ofNat (nat_lit 1))), ([(.var (nat_lit 1)), (.var (nat_lit 3))], (Int.ofNat (nat_lit 1)))])], (nat_lit 380932)⟩)])
  (.leafM (.agg [(.bool false), (.oslice (nat_lit 13) (nat_lit 4))]) [((nat_lit 13), ⟨[(.int .u32 [([(.fdiv (.mul (.var (nat_lit 0)) (.var (nat_lit 2))) (.lit (Int.ofNat (nat_lit 4294967296))))], (Int.negSucc (nat_lit 4294967295))), ([(.var (nat_lit 0)), (.var (nat_lit 2))], (Int.ofNat (nat_lit 1)))]), (.int .u32 [([(.fdiv (.add (.mul (.var (nat_lit 0)) (.var (nat_lit 2))) (.add (.mul (.lit (Int.ofNat (nat_lit 4294967296))) (.mul (.var (nat_lit 0)) (.var (nat_lit 3)))) (.mul (.lit (Int.ofNat (nat_lit 4294967296))) (.mul (.var (nat_lit 1)) (.var (nat_lit 2)))))) (.lit (Int.ofNat (nat_lit 18446744073709551616))))], (Int.negSucc (nat_lit 4294967295))), ([(.fdiv (.mul (.var (nat_lit 0)) (.var (nat_lit 2))) (.lit (Int.ofNat (nat_lit 4294967296))))], (Int.ofNat (nat_lit 1))), ([(.var (nat_lit 0)), (.var (nat_lit 3))], (Int.ofNat (nat_lit 1))), ([(.var (nat_lit 1)), (.var (nat_lit 2))], (Int.ofNat (nat_lit 1)))]), (.int .u32 [([(.fdiv (.add (.mul (.var (nat_lit 0)) (.var (nat_lit 2))) (.add (.mul (.lit (Int.ofNat (nat_lit 4294967296))) (.mul (.var (nat_lit 0)) (.var (nat_lit 3)))) (.add (.mul (.lit (Int.ofNat (nat_lit 4294967296))) (.mul (.var (nat_lit 1)) (.var (nat_lit 2)))) (.mul (.lit (Int.ofNat (nat_lit 18446744073709551616))) (.mul (.var (nat_lit 1)) (.var (nat_lit 3))))))) (.lit (Int.ofNat (nat_lit 79228162514264337593543950336))))], (Int.negSucc (nat_lit 4294967295))), ([(.fdiv (.add (.mul (.var (nat_lit 0)) (.var (nat_lit 2))) (.add (.mul (.lit (Int.ofNat (nat_lit 4294967296))) (.mul (.var (nat_lit 0)) (.var (nat_lit 3)))) (.mul (.lit (Int.ofNat (nat_lit 4294967296))) (.mul (.var (nat_lit 1)) (.var (nat_lit 2)))))) (.lit (Int.ofNat (nat_lit 18446744073709551616))))], (Int.ofNat (nat_lit 1))), ([(.var (nat_lit 1)), (.var (nat_lit 3))], (Int.ofNat (nat_lit 1)))]), (.int .u32 [([(.fdiv (.add (.mul (.var (nat_lit 0)) (.var (nat_lit 2))) (.add (.mul (.lit (Int.ofNat (nat_lit 4294967296))) (.mul (.var (nat_lit 0)) (.var (nat_lit 3)))) (.add (.mul (.lit (Int.ofNat (nat_lit 4294967296))) (.mul (.var (nat_lit 1)) (.var (nat_lit 2)))) (.mul (.lit (Int.ofNat (nat_lit 18446744073709551616))) (.mul (.var (nat_lit 1)) (.var (nat_lit 3))))))) (.lit (Int.ofNat (nat_lit 79228162514264337593543950336))))], (Int.ofNat (nat_lit 1)))])], (nat_lit 380932)⟩)]))))
theorem f80_t_x2_t_x2C0 : checkT Tryd.prog (xWith (xOf symX) f80_t_x2_t_x2R) (gxOf symG) (sumsOf sums80_f_x2_f_x2) 10000 80 f80_t_x2_t_x2A f80_t_x2_t_x2T0 (factsN f80_t_x2_t_x2K) = true := by kernel_rfl
def f80_t_x2_t_x2M : Summ := ⟨f80_t_x2_t_x2A, f80_t_x2_t_x2K, f80_t_x2_t_x2T0, f80_t_x2_t_x2R, []⟩
theorem f80_t_x2_t_x2Ok : SumOk Tryd.prog (xOf symX) (gxOf symG) 80 f80_t_x2_t_x2M := sumOk_ofN symMixed symClosed sums80_f_x2_f_x2Ok f80_t_x2_t_x2C0
def sums80_t_x2_t_x2 : List (Nat × Summ) := (80, f80_t_x2_t_x2M) :: sums80_f_x2_f_x2
theorem sums80_t_x2_t_x2Ok : ∀ g, ∀ m ∈ sumsOf sums80_t_x2_t_x2 g, SumOk Tryd.prog (xOf symX) (gxOf symG) g m := sumsOf_ok f80_t_x2_t_x2Ok sums80_f_x2_f_x2Ok
def f80_f_x1_f_x2A : List SV := [(.agg [(.bool false), (.aslice (nat_lit 1000) (nat_lit 1) (nat_lit 1))]), (.agg [(.bool false), (.aslice (nat_lit 1001) (nat_lit 2) (nat_lit 2))])]
def f80_f_x1_f_x2K : List Iv := [ivT .u32, ivT .u32, ivT .u32]
def f80_f_x1_f_x2R : List (List SV) := [[(.int .u32 [([(.var (nat_lit 0))], (Int.ofNat (nat_lit 1)))])], [(.int .u32 [([(.var (nat_lit 1))], (Int.ofNat (nat_lit 1)))]), (.int .u32 [([(.var (nat_lit 2))], (Int.ofNat (nat_lit 1)))])]]
def f80_f_x1_f_x2T0 : STree := (.test (.eq [([(.var (nat_lit 0))], (Int.ofNat (nat_lit 1)))])
  (.leaf (.agg [(.bool false), (.raw (.slice none 0 0))]))
  (.test (.eq [([(.var (nat_lit 2))], (Int.ofNat (nat_lit 1)))])
  (.leaf (.agg [(.bool false), (.raw (.slice none 0 0))]))
  (.test (.le [([], (Int.negSucc (nat_lit 18446744073709551614))), ([(.var (nat_lit 0)), (.var (nat_lit 1))], (Int.ofNat (nat_lit 1))), ([(.var (nat_lit 0)), (.var (nat_lit 2))], (Int.ofNat (nat_lit 4294967296)))])
  (.leafM (.agg [(.bool false), (.oslice (nat_lit 13) (nat_lit 2))]) [((nat_lit 13), ⟨[(.int .u32 [([(.fdiv (.mul (.var (nat_lit 0)) (.var (nat_lit 1))) (.lit (Int.ofNat (nat_lit 4294967296))))], (Int.negSucc (nat_lit 4294967295))), ([(.var (nat_lit 0)), (.var (nat_lit 1))], (Int.ofNat (nat_lit 1)))]), (.int .u32 [([(.fdiv (.mul (.var (nat_lit 0)) (.var (nat_lit 1))) (.lit (Int.ofNat (nat_lit 4294967296))))], (Int.ofNat (nat_lit 1))), ([(.var (nat_lit 0)), (.var (nat_lit 2))], (Int.ofNat (nat_lit 1)))])], (nat_lit 380932)⟩)])
  (.leafM (.agg [(.bool false), (.oslice (nat_lit 13) (nat_lit 3))]) [((nat_lit 13), ⟨[(.int .u32 [([(.fdiv (.mul (.var (nat_lit 0)) (.var (nat_lit 1))) (.lit (Int.ofNat (nat_lit 4294967296))))], (Int.negSucc (nat_lit 4294967295))), ([(.var (nat_lit 0)), (.var (nat_lit 1))], (Int.ofNat (nat_lit 1)))]), (.int .u32 [([(.fdiv (.add (.mul (.var (nat_lit 0)) (.var (nat_lit 1))) (.mul (.lit (Int.ofNat (nat_lit 4294967296))) (.mul (.var (nat_lit 0)) (.var (nat_lit 2))))) (.lit (Int.ofNat (nat_lit 18446744073709551616))))], (Int.negSucc (nat_lit 4294967295))), ([(.fdiv (.mul (.var (nat_lit 0)) (.var (nat_lit 1))) (.lit (Int.ofNat (nat_lit 4294967296))))], (Int.ofNat (nat_lit 1))), ([(.var (nat_lit 0)), (.var (nat_lit 2))], (Int.ofNat (nat_lit 1)))]), (.int .u32 [([(.fdiv (.add (.mul (.var (nat_lit 0)) (.var (nat_lit 1))) (.mul (.lit (Int.ofNat (nat_lit 4294967296))) (.mul (.var (nat_lit 0)) (.var (nat_lit 2))))) (.lit (Int.ofNat (nat_lit 18446744073709551616))))], (Int.ofNat (nat_lit 1)))])], (nat_lit 380932)⟩)]))))
theorem f80_f_x1_f_x2C0 : checkT Tryd.prog (xWith (xOf symX) f80_f_x1_f_x2R) (gxOf symG) (sumsOf sums80_t_x2_t_x2) 10000 80 f80_f_x1_f_x2A f80_f_x1_f_x2T0 (factsN f80_f_x1_f_x2K) = true := by kernel_rfl
def f80_f_x1_f_x2M : Summ := ⟨f80_f_x1_f_x2A, f80_f_x1_f_x2K, f80_f_x1_f_x2T0, f80_f_x1_f_x2R, []⟩
theorem f80_f_x1_f_x2Ok : SumOk Tryd.prog (xOf symX) (gxOf symG) 80 f80_f_x1_f_x2M := sumOk_ofN symMixed symClosed sums80_t_x2_t_x2Ok f80_f_x1_f_x2C0
def sums80_f_x1_f_x2 : List (Nat × Summ) := (80, f80_f_x1_f_x2M) :: sums80_t_x2_t_x2
theorem sums80_f_x1_f_x2Ok : ∀ g, ∀ m ∈ sumsOf sums80_f_x1_f_x2 g, SumOk Tryd.prog (xOf symX) (gxOf symG) g m := sumsOf_ok f80_f_x1_f_x2Ok sums80_t_x2_t_x2Ok
def f80_f_x1_f_x3A : List SV := [(.agg [(.bool false), (.aslice (nat_lit 1000) (nat_lit 1) (nat_lit 1))]), (.agg [(.bool false), (.aslice (nat_lit 1001) (nat_lit 3) (nat_lit 3))])]
def f80_f_x1_f_x3K : List Iv := [ivT .u32, ivT .u32, ivT .u32, ivT .u32]
def f80_f_x1_f_x3R : List (List SV) := [[(.int .u32 [([(.var (nat_lit 0))], (Int.ofNat (nat_lit 1)))])], [(.int .u32 [([(.var (nat_lit 1))], (Int.ofNat (nat_lit 1)))]), (.int .u32 [([(.var (nat_lit 2))], (Int.ofNat (nat_lit 1)))]), (.int .u32 [([(.var (nat_lit 3))], (Int.ofNat (nat_lit 1)))])]]
def f80_f_x1_f_x3T0 : STree := (.test (.eq [([(.var (nat_lit 0))], (Int.ofNat (nat_lit 1)))])
  (.leaf (.agg [(.bool false), (.raw (.slice none 0 0))]))
  (.test (.eq [([(.var (nat_lit 3))], (Int.ofNat (nat_lit 1)))])
  (.leaf (.agg [(.bool false), (.raw (.slice none 0 0))]))
  (.test (.le [([], (Int.negSucc (nat_lit 79228162514264337593543950334))), ([(.var (nat_lit 0)), (.var (nat_lit 1))], (Int.ofNat (nat_lit 1))), ([(.var (nat_lit 0)), (.var (nat_lit 2))], (Int.ofNat (nat_lit 4294967296))), ([(.var (nat_lit 0)), (.var (nat_lit 3))], (Int.ofNat (nat_lit 18446744073709551616)))])
  (.leafM (.agg [(.bool false), (.oslice (nat_lit 13) (nat_lit 3))]) [((nat_lit 13), ⟨[(.int .u32 [([(.fdiv (.mul (.var (nat_lit 0)) (.var (nat_lit 1))) (.lit (Int.ofNat (nat_lit 4294967296))))], (Int.negSucc (nat_lit 4294967295))), ([(.var (nat_lit 0)), (.var (nat_lit 1))], (Int.ofNat (nat_lit 1)))]), (.int .u32 [([(.fdiv (.add (.mul (.var (nat_lit 0)) (.var (nat_lit 1))) (.mul (.lit (Int.ofNat (nat_lit 4294967296))) (.mul (.var (nat_lit 0)) (.var (nat_lit 2))))) (.lit (Int.ofNat (nat_lit 18446744073709551616))))], (Int.negSucc (nat_lit 4294967295))), ([(.fdiv (.mul (.var (nat_lit 0)) (.var (nat_lit 1))) (.lit (Int.ofNat (nat_lit 4294967296))))], (Int.ofNat (nat_lit 1))), ([(.var (nat_lit 0)), (.var (nat_lit 2))], (Int.ofNat (nat_lit 1)))]), (.int .u32 [([(.fdiv (.add (.mul (.var (nat_lit 0)) (.var (nat_lit 1))) (.mul (.lit (Int.ofNat (nat_lit 4294967296))) (.mul (.var (nat_lit 0)) (.var (nat_lit 2))))) (.lit (Int.ofNat (nat_lit 18446744073709551616))))], (Int.ofNat (nat_lit 1))), ([(.var (nat_lit 0)), (.var (nat_lit 3))], (Int.ofNat (nat_lit 1)))])], (nat_lit 380932)⟩)])
  (.leafM (.agg [(.bool false), (.oslice (nat_lit 13) (nat_lit 4))]) [((nat_lit 13), ⟨[(.int .u32 [([(.fdiv (.mul (.var (nat_lit 0)) (.var (nat_lit 1))) (.lit (Int.ofNat (nat_lit 4294967296))))], (Int.negSucc (nat_lit 4294967295))), ([(.var (nat_lit 0)), (.var (nat_lit 1))], (Int.ofNat (nat_lit 1)))]), (.int .u32 [([(.fdiv (.add (.mul (.var (nat_lit 0)) (.var (nat_lit 1))) (.mul (.lit (Int.ofNat (nat_lit 4294967296))) (.mul (.var (nat_lit 0)) (.var (nat_lit 2))))) (.lit (Int.ofNat (nat_lit 18446744073709551616))))], (Int.negSucc (nat_lit 4294967295))), ([(.fdiv (.mul (.var (nat_lit 0)) (.var (nat_lit 1))) (.lit (Int.ofNat (nat_lit 4294967296))))], (Int.ofNat (nat_lit 1))), ([(.var (nat_lit 0)), (.var (nat_lit 2))], (Int.ofNat (nat_lit 1)))]), (.int .u32 [([(.fdiv (.add (.mul (.var (nat_lit 0)) (.var (nat_lit 1))) (.add (.mul (.lit (Int.ofNat (nat_lit 4294967296))) (.mul (.var (nat_lit 0)) (.var (nat_lit 2)))) (.mul (.lit (Int.ofNat (nat_lit 18446744073709551616))) (.mul (.var (nat_lit 0)) (.var (nat_lit 3)))))) (.lit (Int.ofNat (nat_lit 79228162514264337593543950336))))], (Int.negSucc (nat_lit 4294967295))), ([(.fdiv (.add (.mul (.var (nat_lit 0)) (.var (nat_lit 1))) (.mul (.lit (Int.ofNat (nat_lit 4294967296))) (.mul (.var (nat_lit 0)) (.var (nat_lit 2))))) (.lit (Int.ofNat (nat_lit 18446744073709551616))))], (Int.ofNat (nat_lit 1))), ([(.var (nat_lit 0)), (.var (nat_lit 3))], (Int.ofNat (nat_lit 1)))]), (.int .u32 [([(.fdiv (.add (.mul (.var (nat_lit 0)) (.var (nat_lit 1))) (.add (.mul (.lit (Int.ofNat (nat_lit 4294967296))) (.mul (.var (nat_lit 0)) (.var (nat_lit 2)))) (.mul (.lit (Int.ofNat (nat_lit 18446744073709551616))) (.mul (.var (nat_lit 0)) (.var (nat_lit 3)))))) (.lit (Int.ofNat (nat_lit 79228162514264337593543950336))))], (Int.ofNat (nat_lit 1)))])], (nat_lit 380932)⟩)]))))
theorem f80_f_x1_f_x3C0 : checkT Tryd.prog (xWith (xOf symX) f80_f_x1_f_x3R) (gxOf symG) (sumsOf sums80_f_x1_f_x2) 10000 80 f80_f_x1_f_x3A f80_f_x1_f_x3T0 (factsN f80_f_x1_f_x3K) = true := by kernel_rfl
def f80_f_x1_f_x3M : Summ := ⟨f80_f_x1_f_x3A, f80_f_x1_f_x3K, f80_f_x1_f_x3T0, f80_f_x1_f_x3R, []⟩
theorem f80_f_x1_f_x3Ok : SumOk Tryd.prog (xOf symX) (gxOf symG) 80 f80_f_x1_f_x3M := sumOk_ofN symMixed symClosed sums80_f_x1_f_x2Ok f80_f_x1_f_x3C0
def sums80_f_x1_f_x3 : List (Nat × Summ) := (80, f80_f_x1_f_x3M) :: sums80_f_x1_f_x2
theorem sums80_f_x1_f_x3Ok : ∀ g, ∀ m ∈ sumsOf sums80_f_x1_f_x3 g, SumOk Tryd.prog (xOf symX) (gxOf symG) g m := sumsOf_ok f80_f_x1_f_x3Ok sums80_f_x1_f_x2Ok
def f80_f_x1_f_x4A : List SV := [(.agg [(.bool false), (.aslice (nat_lit 1000) (nat_lit 1) (nat_lit 1))]), (.agg [(.bool false), (.aslice (nat_lit 1001) (nat_lit 4) (nat_lit 4))])]
def f80_f_x1_f_x4K : List Iv := [ivT .u32, ivT .u32, ivT .u32, ivT .u32, ivT .u32]
def f80_f_x1_f_x4R : List (List SV) := [[(.int .u32 [([(.var (nat_lit 0))], (Int.ofNat (nat_lit 1)))])], [(.int .u32 [([(.var (nat_lit 1))], (Int.ofNat (nat_lit 1)))]), (.int .u32 [([(.var (nat_lit 2))], (Int.ofNat (nat_lit 1)))]), (.int .u32 [([(.var (nat_lit 3))], (Int.ofNat (nat_lit 1)))]), (.int .u32 [([(.var (nat_lit 4))], (Int.ofNat (nat_lit 1)))])]]
def f80_f_x1_f_x4T0 : STree := (.test (.eq [([(.var (nat_lit 0))], (Int.ofNat (nat_lit 1)))])
  (.leaf (.agg [(.bool false), (.raw (.slice none 0 0))]))
  (.test (.eq [([(.var (nat_lit 4))], (Int.ofNat (nat_lit 1)))])
  (.leaf (.agg [(.bool false), (.raw (.slice none 0 0))]))
  (.test (.le [([], (Int.negSucc (nat_lit 340282366920938463463374607431768211454))), ([(.var (nat_lit 0)), (.var (nat_lit 1))], (Int.ofNat (nat_lit 1))), ([(.var (nat_lit 0)), (.var (nat_lit 2))], (Int.ofNat (nat_lit 4294967296))), ([(.var (nat_lit 0)), (.var (nat_lit 3))], (Int.ofNat (nat_lit 18446744073709551616))), ([(.var (nat_lit 0)), (.var (nat_lit 4))], (Int.ofNat (nat_lit 79228162514264337593543950336)))])
  (.leafM (.agg [(.bool false), (.oslice (nat_lit 13) (nat_lit 4))]) [((nat_lit 13), ⟨[(.int .u32 [([(.fdiv (.mul (.var (nat_lit 0)) (.var (nat_lit 1))) (.lit (Int.ofNat (nat_lit 4294967296))))], (Int.negSucc (nat_lit 4294967295))), ([(.var (nat_lit 0)), (.var (nat_lit 1))], (Int.ofNat (nat_lit 1)))]), (.int .u32 [([(.fdiv (.add (.mul (.var (nat_lit 0)) (.var (nat_lit 1))) (.mul (.lit (Int.ofNat (nat_lit 4294967296))) (.mul (.var (nat_lit 0)) (.var (nat_lit 2))))) (.lit (Int.ofNat (nat_lit 18446744073709551616))))], (Int.negSucc (nat_lit 4294967295))), ([(.fdiv (.mul (.var (nat_lit 0)) (.var (nat_lit 1))) (.lit (Int.ofNat (nat_lit 4294967296))))], (Int.ofNat (nat_lit 1))), ([(.var (nat_lit 0)), (.var (nat_lit 2))], (Int.ofNat (nat_lit 1)))]), (.int .u32 [([(.fdiv (.add (.mul (.var (nat_lit 0)) (.var (nat_lit 1))) (.add (.mul (.lit (Int.ofNat (nat_lit 4294967296))) (.mul (.var (nat_lit 0)) (.var (nat_lit 2)))) (.mul (.lit (Int.ofNat (nat_lit 18446744073709551616))) (.mul (.var (nat_lit 0)) (.var (nat_lit 3)))))) (.lit (Int.ofNat (nat_lit 79228162514264337593543950336))))], (Int.negSucc (nat_lit 4294967295))), ([(.fdiv (.add (.mul (.var (nat_lit 0)) (.var (nat_lit 1))) (.mul (.lit (Int.ofNat (nat_lit 4294967296))) (.mul (.var (nat_lit 0)) (.var (nat_lit 2))))) (.lit (Int.ofNat (nat_lit 18446744073709551616))))], (Int.ofNat (nat_lit 1))), ([(.var (nat_lit 0)), (.var (nat_lit 3))], (Int.ofNat (nat_lit 1)))]), (.int .u32 [([(.fdiv (.add (.mul (.var (nat_lit 0)) (.var (nat_lit 1))) (.add (.mul (.lit (Int.ofNat (nat_lit 4294967296))) (.mul (.var (nat_lit 0)) (.var (nat_lit 2)))) (.mul (.lit (Int.ofNat (nat_lit 18446744073709551616))) (.mul (.var (nat_lit 0)) (.var (nat_lit 3)))))) (.lit (Int.ofNat (nat_lit 79228162514264337593543950336))))], (Int.ofNat (nat_lit 1))), ([(.var (nat_lit 0)), (.var (nat_lit 4))], (Int.ofNat (nat_lit 1)))])], (nat_lit 380932)⟩)])
  (.leafM (.agg [(.bool false), (.oslice (nat_lit 13) (nat_lit 5))]) [((nat_lit 13), ⟨[(.int .u32 [([(.fdiv (.mul (.var (nat_lit 0)) (.var (nat_lit 1))) (.lit (Int.ofNat (nat_lit 4294967296))))], (Int.negSucc (nat_lit 4294967295))), ([(.var (nat_lit 0)), (.var (nat_lit 1))], (Int.ofNat (nat_lit 1)))]), (.int .u32 [([(.fdiv (.add (.mul (.var (nat_lit 0)) (.var (nat_lit 1))) (.mul (.lit (Int.ofNat (nat_lit 4294967296))) (.mul (.var (nat_lit 0)) (.var (nat_lit 2))))) (.lit (Int.ofNat (nat_lit 18446744073709551616))))], (Int.negSucc (nat_lit 4294967295))), ([(.fdiv (.mul (.var (nat_lit 0)) (.var (nat_lit 1))) (.lit (Int.ofNat (nat_lit 4294967296))))], (Int.ofNat (nat_lit 1))), ([(.var (nat_lit 0)), (.var (nat_lit 2))], (Int.ofNat (nat_lit 1)))]), (.int .u32 [([(.fdiv (.add (.mul (.var (nat_lit 0)) (.var (nat_lit 1))) (.add (.mul (.lit (Int.ofNat (nat_lit 4294967296))) (.mul (.var (nat_lit 0)) (.var (nat_lit 2)))) (.mul (.lit (Int.ofNat (nat_lit 18446744073709551616))) (.mul (.var (nat_lit 0)) (.var (nat_lit 3)))))) (.lit (Int.ofNat (nat_lit 79228162514264337593543950336))))], (Int.negSucc (nat_lit 4294967295))), ([(.fdiv (.add (.mul (.var (nat_lit 0)) (.var (nat_lit 1))) (.mul (.lit (Int.ofNat (nat_lit 4294967296))) (.mul (.var (nat_lit 0)) (.var (nat_lit 2))))) (.lit (Int.ofNat (nat_lit 18446744073709551616))))], (Int.ofNat (nat_lit 1))), ([(.var (nat_lit 0)), (.var (nat_lit 3))], (Int.ofNat (nat_lit 1)))]), (.int .u32 [([(.fdiv (.add (.mul (.var (nat_lit 0)) (.var (nat_lit 1))) (.add (.mul (.lit (Int.ofNat (nat_lit 4294967296))) (.mul (.var (nat_lit 0)) (.var (nat_lit 2)))) (.add (.mul (.lit (Int.ofNat (nat_lit 18446744073709551616))) (.mul (.var (nat_lit 0)) (.var (nat_lit 3)))) (.mul (.lit (Int.ofNat (nat_lit 79228162514264337593543950336))) (.mul (.var (nat_lit 0)) (.var (nat_lit 4))))))) (.lit (Int.ofNat (nat_lit 340282366920938463463374607431768211456))))], (Int.negSucc (nat_lit 4294967295))), ([(.fdiv (.add (.mul (.var (nat_lit 0)) (.var (nat_lit 1))) (.add (.mul (.lit (Int.ofNat (nat_lit 4294967296))) (.mul (.var (nat_lit 0)) (.var (nat_lit 2)))) (.mul (.lit (Int.ofNat (nat_lit 18446744073709551616))) (.mul (.var (nat_lit 0)) (.var (nat_lit 3)))))) (.lit (Int.ofNat (nat_lit 79228162514264337593543950336))))], (Int.ofNat (nat_lit 1))), ([(.var (nat_lit 0)), (.var (nat_lit 4))], (Int.ofNat (nat_lit 1)))]), (.int .u32 [([(.fdiv (.add (.mul (.var (nat_lit 0)) (.var (nat_lit 1))) (.add (.mul (.lit (Int.ofNat (nat_lit 4294967296))) (.mul (.var (nat_lit 0)) (.var (nat_lit 2)))) (.add (.mul (.lit (Int.ofNat (nat_lit 18446744073709551616))) (.mul (.var (nat_lit 0)) (.var (nat_lit 3)))) (.mul (.lit (Int.ofNat (nat_lit 79228162514264337593543950336))) (.mul (.var (nat_lit 0)) (.var (nat_lit 4))))))) (.lit (Int.ofNat (nat_lit 340282366920938463463374607431768211456))))], (Int.ofNat (nat_lit 1)))])], (nat_lit 380932)⟩)]))))
theorem f80_f_x1_f_x4C0 : checkT Tryd.prog (xWith (xOf symX) f80_f_x1_f_x4R) (gxOf symG) (sumsOf sums80_f_x1_f_x3) 10000 80 f80_f_x1_f_x4A f80_f_x1_f_x4T0 (factsN f80_f_x1_f_x4K) = true := by kernel_rfl
def f80_f_x1_f_x4M : Summ := ⟨f80_f_x1_f_x4A, f80_f_x1_f_x4K, f80_f_x1_f_x4T0, f80_f_x1_f_x4R, []⟩
theorem f80_f_x1_f_x4Ok : SumOk Tryd.prog (xOf symX) (gxOf symG) 80 f80_f_x1_f_x4M := sumOk_ofN symMixed symClosed sums80_f_x1_f_x3Ok f80_f_x1_f_x4C0
def sums80_f_x1_f_x4 : List (Nat × Summ) := (80, f80_f_x1_f_x4M) :: sums80_f_x1_f_x3
theorem sums80_f_x1_f_x4Ok : ∀ g, ∀ m ∈ sumsOf sums80_f_x1_f_x4 g, SumOk Tryd.prog (xOf symX) (gxOf symG) g m := sumsOf_ok f80_f_x1_f_x4Ok sums80_f_x1_f_x3Ok
def f12_sgnrA : List SV := [(.agg [(.int .i64 [([(.var (nat_lit 0))], (Int.ofNat (nat_lit 1)))]), (.int .i64 [([(.var (nat_lit 1))], (Int.ofNat (nat_lit 1)))])])]
def f12_sgnrK : List Iv := [ivT .i64, ivT .i64]
def f12_sgnrR : List (List SV) := []
def f12_sgnrQ0 : Quest := (.le [([], (Int.ofNat (nat_lit 1))), ([(.var (nat_lit 0))], (Int.ofNat (nat_lit 1)))])
def f12_sgnrQ1 : Quest := (.le [([], (Int.negSucc (nat_lit 4294967294))), ([(.var (nat_lit 0))], (Int.negSucc (nat_lit 0)))])
def f12_sgnrQ2 : Quest := (.le [([], (Int.ofNat (nat_lit 1))), ([(.var (nat_lit 1))], (Int.ofNat (nat_lit 1)))])
def f12_sgnrT3 : STree := (.test (.le [([], (Int.negSucc (nat_lit 4294967294))), ([(.var (nat_lit 1))], (Int.negSucc (nat_lit 0)))])
  (.leaf (.int .i64 [([], (Int.negSucc (nat_lit 0)))]))
  (.leaf (.int .i64 [([], (Int.negSucc (nat_lit 0)))])))
theorem f12_sgnrC3 : checkT Tryd.prog (xWith (xOf symX) f12_sgnrR) (gxOf symG) (sumsOf sums80_f_x1_f_x4) 10000 12 f12_sgnrA f12_sgnrT3 ((((factsN f12_sgnrK).yes f12_sgnrQ0).yes f12_sgnrQ1).yes f12_sgnrQ2) = true := by kernel_rfl
def f12_sgnrQ4 : Quest := (.le [([], (Int.negSucc (nat_lit 4294967294))), ([(.var (nat_lit 1))], (Int.ofNat (nat_lit 1)))])
def f12_sgnrT5 : STree := (.test (.eq [([(.var (nat_lit 1))], (Int.ofNat (nat_lit 1)))])
  (.leaf (.int .i64 [([], (Int.negSucc (nat_lit 0)))]))
  (.test (.le [([], (Int.negSucc (nat_lit 4294967294))), ([(.var (nat_lit 0)), (.var (nat_lit 0))], (Int.ofNat (nat_lit 1)))])
  (.test (.le [([], (Int.negSucc (nat_lit 4294967294))), ([(.var (nat_lit 1)), (.var (nat_lit 1))], (Int.ofNat (nat_lit 1)))])
  (.test (.le [([], (Int.negSucc (nat_lit 4294967294))), ([(.var (nat_lit 1)), (.var (nat_lit 1))], (Int.ofNat (nat_lit 3)))])
  (.test (.le [([], (Int.ofNat (nat_lit 1))), ([(.var (nat_lit 0)), (.var (nat_lit 0))], (Int.ofNat (nat_lit 1))), ([(.var (nat_lit 1)), (.var (nat_lit 1))], (Int.negSucc (nat_lit 2)))])
  (.leaf (.int .i64 [([], (Int.ofNat (nat_lit 1)))]))
  (.test (.le [([], (Int.ofNat (nat_lit 1))), ([(.var (nat_lit 0)), (.var (nat_lit 0))], (Int.negSucc (nat_lit 0))), ([(.var (nat_lit 1)), (.var (nat_lit 1))], (Int.ofNat (nat_lit 3)))])
  (.leaf (.int .i64 [([], (Int.negSucc (nat_lit 0)))]))
  (.leaf (.int .i64 []))))
  (.leaf (.int .i64 [([], (Int.ofNat (nat_lit 1)))])))
  (.test (.le [([], (Int.negSucc (nat_lit 18446744073709551614))), ([(.var (nat_lit 1)), (.var (nat_lit 1))], (Int.ofNat (nat_lit 3)))])
  (.leaf (.int .i64 [([], (Int.ofNat (nat_lit 1)))]))
  (.leaf (.int .i64 [([], (Int.ofNat (nat_lit 1)))]))))
  (.test (.le [([], (Int.negSucc (nat_lit 4294967294))), ([(.var (nat_lit 1)), (.var (nat_lit 1))], (Int.ofNat (nat_lit 1)))])
  (.test (.le [([], (Int.negSucc (nat_lit 4294967294))), ([(.var (nat_lit 1)), (.var (nat_lit 1))], (Int.ofNat (nat_lit 3)))])
  (.leaf (.int .i64 [([], (Int.negSucc (nat_lit 0)))]))
  (.test (.le [([], (Int.ofNat (nat_lit 1))), ([(.var (nat_lit 0)), (.var (nat_lit 0))], (Int.ofNat (nat_lit 1))), ([(.var (nat_lit 1)), (.var (nat_lit 1))], (Int.negSucc (nat_lit 2)))])
  (.leaf (.int .i64 [([], (Int.ofNat (nat_lit 1)))]))
  (.test (.le [([], (Int.ofNat (nat_lit 1))), ([(.var (nat_lit 0)), (.var (nat_lit 0))], (Int.negSucc (nat_lit 0))), ([(.var (nat_lit 1)), (.var (nat_lit 1))], (Int.ofNat (nat_lit 3)))])
  (.leaf (.int .i64 [([], (Int.negSucc (nat_lit 0)))]))
  (.leaf (.int .i64 [])))))
  (.test (.le [([], (Int.negSucc (nat_lit 18446744073709551614))), ([(.var (nat_lit 1)), (.var (nat_lit 1))], (Int.ofNat (nat_lit 3)))])
  (.test (.le [([], (Int.ofNat (nat_lit 1))), ([(.var (nat_lit 0)), (.var (nat_lit 0))], (Int.ofNat (nat_lit 1))), ([(.var (nat_lit 1)), (.var (nat_lit 1))], (Int.negSucc (nat_lit 2)))])
  (.leaf (.int .i64 [([], (Int.ofNat (nat_lit 1)))]))
  (.test (.le [([], (Int.ofNat (nat_lit 1))), ([(.var (nat_lit 0)), (.var (nat_lit 0))], (Int.negSucc (nat_lit 0))), ([(.var (nat_lit 1)), (.var (nat_lit 1))], (Int.ofNat (nat_lit 3)))])
  (.leaf (.int .i64 [([], (Int.negSucc (nat_lit 0)))]))
  (.leaf (.int .i64 []))))
  (.leaf (.int .i64 [([], (Int.ofNat (nat_lit 1)))]))))))
theorem f12_sgnrC5 : checkT Tryd.prog (xWith (xOf symX) f12_sgnrR) (gxOf symG) (sumsOf sums80_f_x1_f_x4) 10000 12 f12_sgnrA f12_sgnrT5 (((((factsN f12_sgnrK).yes f12_sgnrQ0).yes f12_sgnrQ1).no f12_sgnrQ2).yes f12_sgnrQ4) = true := by kernel_rfl
def f12_sgnrT6 : STree := (.test (.le [([], (Int.negSucc (nat_lit 4294967294))), ([(.var (nat_lit 0)), (.var (nat_lit 0))], (Int.ofNat (nat_lit 1)))])
  (.test (.le [([], (Int.negSucc (nat_lit 79228162514264337593543950334))), ([(.var (nat_lit 1)), (.var (nat_lit 1))], (Int.ofNat (nat_lit 1)))])
  (.test (.le [([], (Int.negSucc (nat_lit 18446744073709551614))), ([(.var (nat_lit 1)), (.var (nat_lit 1))], (Int.ofNat (nat_lit 1)))])
  (.leaf (.int .i64 [([], (Int.negSucc (nat_lit 0)))]))
  (.test (.le [([], (Int.negSucc (nat_lit 79228162514264337593543950334))), ([(.var (nat_lit 1)), (.var (nat_lit 1))], (Int.ofNat (nat_lit 3)))])
  (.leaf (.int .i64 [([], (Int.ofNat (nat_lit 1)))]))
  (.leaf (.int .i64 [([], (Int.ofNat (nat_lit 1)))]))))
  (.leaf (.int .i64 [([], (Int.ofNat (nat_lit 1)))])))
  (.test (.le [([], (Int.negSucc (nat_lit 79228162514264337593543950334))), ([(.var (nat_lit 1)), (.var (nat_lit 1))], (Int.ofNat (nat_lit 1)))])
  (.test (.le [([], (Int.negSucc (nat_lit 18446744073709551614))), ([(.var (nat_lit 1)), (.var (nat_lit 1))], (Int.ofNat (nat_lit 1)))])
  (.leaf (.int .i64 [([], (Int.negSucc (nat_lit 0)))]))
  (.test (.le [([], (Int.negSucc (nat_lit 79228162514264337593543950334))), ([(.var (nat_lit 1)), (.var (nat_lit 1))], (Int.ofNat (nat_lit 3)))])
  (.leaf (.int .i64 [([], (Int.ofNat (nat_lit 1)))]))
  (.leaf (.int .i64 [([], (Int.ofNat (nat_lit 1)))]))))
  (.leaf (.int .i64 [([], (Int.ofNat (nat_lit 1)))]))))
theorem f12_sgnrC6 : checkT Tryd.prog (xWith (xOf symX) f12_sgnrR) (gxOf symG) (sumsOf sums80_f_x1_f_x4) 10000 12 f12_sgnrA f12_sgnrT6 (((((factsN f12_sgnrK).yes f12_sgnrQ0).yes f12_sgnrQ1).no f12_sgnrQ2).no f12_sgnrQ4) = true := by kernel_rfl
def f12_sgnrT7 : STree := .test f12_sgnrQ4 f12_sgnrT5 f12_sgnrT6
theorem f12_sgnrC7 : checkT Tryd.prog (xWith (xOf symX) f12_sgnrR) (gxOf symG) (sumsOf sums80_f_x1_f_x4) 10000 12 f12_sgnrA f12_sgnrT7 ((((factsN f12_sgnrK).yes f12_sgnrQ0).yes f12_sgnrQ1).no f12_sgnrQ2) = true := checkT_test f12_sgnrC5 f12_sgnrC6
def f12_sgnrT8 : STree := .test f12_sgnrQ2 f12_sgnrT3 f12_sgnrT7
theorem f12_sgnrC8 : checkT Tryd.prog (xWith (xOf symX) f12_sgnrR) (gxOf symG) (sumsOf sums80_f_x1_f_x4) 10000 12 f12_sgnrA f12_sgnrT8 (((factsN f12_sgnrK).yes f12_sgnrQ0).yes f12_sgnrQ1) = true := checkT_test f12_sgnrC3 f12_sgnrC7
def f12_sgnrQ9 : Quest := (.le [([], (Int.ofNat (nat_lit 1))), ([(.var (nat_lit 1))], (Int.ofNat (nat_lit 1)))])
def f12_sgnrT10 : STree := (.test (.le [([], (Int.negSucc (nat_lit 4294967294))), ([(.var (nat_lit 1))], (Int.negSucc (nat_lit 0)))])
  (.leaf (.int .i64 [([], (Int.negSucc (nat_lit 0)))]))
  (.leaf (.int .i64 [([], (Int.negSucc (nat_lit 0)))])))
theorem f12_sgnrC10 : checkT Tryd.prog (xWith (xOf symX) f12_sgnrR) (gxOf symG) (sumsOf sums80_f_x1_f_x4) 10000 12 f12_sgnrA f12_sgnrT10 ((((factsN f12_sgnrK).yes f12_sgnrQ0).no f12_sgnrQ1).yes f12_sgnrQ9) = true := by kernel_rfl
def f12_sgnrQ11 : Quest := (.le [([], (Int.negSucc (nat_lit 4294967294))), ([(.var (nat_lit 1))], (Int.ofNat (nat_lit 1)))])
def f12_sgnrT12 : STree := (.test (.eq [([(.var (nat_lit 1))], (Int.ofNat (nat_lit 1)))])
  (.leaf (.int .i64 [([], (Int.negSucc (nat_lit 0)))]))
  (.test (.le [([], (Int.negSucc (nat_lit 79228162514264337593543950334))), ([(.var (nat_lit 0)), (.var (nat_lit 0))], (Int.ofNat (nat_lit 1)))])
  (.test (.le [([], (Int.negSucc (nat_lit 4294967294))), ([(.var (nat_lit 1)), (.var (nat_lit 1))], (Int.ofNat (nat_lit 1)))])
  (.test (.le [([], (Int.negSucc (nat_lit 4294967294))), ([(.var (nat_lit 1)), (.var (nat_lit 1))], (Int.ofNat (nat_lit 3)))])
  (.test (.le [([], (Int.negSucc (nat_lit 18446744073709551614))), ([(.var (nat_lit 0)), (.var (nat_lit 0))], (Int.ofNat (nat_lit 1)))])
  (.leaf (.int .i64 []))
  (.leaf (.int .i64 [([], (Int.negSucc (nat_lit 0)))])))
  (.test (.le [([], (Int.negSucc (nat_lit 18446744073709551614))), ([(.var (nat_lit 0)), (.var (nat_lit 0))], (Int.ofNat (nat_lit 1)))])
  (.leaf (.int .i64 []))
  (.leaf (.int .i64 [([], (Int.negSucc (nat_lit 0)))]))))
  (.test (.le [([], (Int.negSucc (nat_lit 18446744073709551614))), ([(.var (nat_lit 1)), (.var (nat_lit 1))], (Int.ofNat (nat_lit 3)))])
  (.test (.le [([], (Int.negSucc (nat_lit 18446744073709551614))), ([(.var (nat_lit 0)), (.var (nat_lit 0))], (Int.ofNat (nat_lit 1)))])
  (.leaf (.int .i64 []))
  (.leaf (.int .i64 [([], (Int.negSucc (nat_lit 0)))])))
  (.test (.le [([], (Int.negSucc (nat_lit 18446744073709551614))), ([(.var (nat_lit 0)), (.var (nat_lit 0))], (Int.ofNat (nat_lit 1)))])
  (.leaf (.int .i64 []))
  (.test (.le [([], (Int.ofNat (nat_lit 1))), ([(.var (nat_lit 0)), (.var (nat_lit 0))], (Int.ofNat (nat_lit 1))), ([(.var (nat_lit 1)), (.var (nat_lit 1))], (Int.negSucc (nat_lit 2)))])
  (.leaf (.int .i64 [([], (Int.ofNat (nat_lit 1)))]))
  (.test (.le [([], (Int.ofNat (nat_lit 1))), ([(.var (nat_lit 0)), (.var (nat_lit 0))], (Int.negSucc (nat_lit 0))), ([(.var (nat_lit 1)), (.var (nat_lit 1))], (Int.ofNat (nat_lit 3)))])
  (.leaf (.int .i64 [([], (Int.negSucc (nat_lit 0)))]))
  (.leaf (.int .i64 [])))))))
  (.test (.le [([], (Int.negSucc (nat_lit 4294967294))), ([(.var (nat_lit 1)), (.var (nat_lit 1))], (Int.ofNat (nat_lit 1)))])
  (.test (.le [([], (Int.negSucc (nat_lit 4294967294))), ([(.var (nat_lit 1)), (.var (nat_lit 1))], (Int.ofNat (nat_lit 3)))])
  (.leaf (.int .i64 [([], (Int.negSucc (nat_lit 0)))]))
  (.leaf (.int .i64 [([], (Int.negSucc (nat_lit 0)))])))
  (.test (.le [([], (Int.negSucc (nat_lit 18446744073709551614))), ([(.var (nat_lit 1)), (.var (nat_lit 1))], (Int.ofNat (nat_lit 3)))])
  (.leaf (.int .i64 [([], (Int.negSucc (nat_lit 0)))]))
  (.leaf (.int .i64 [([], (Int.negSucc (nat_lit 0)))]))))))
theorem f12_sgnrC12 : checkT Tryd.prog (xWith (xOf symX) f12_sgnrR) (gxOf symG) (sumsOf sums80_f_x1_f_x4) 10000 12 f12_sgnrA f12_sgnrT12 (((((factsN f12_sgnrK).yes f12_sgnrQ0).no f12_sgnrQ1).no f12_sgnrQ9).yes f12_sgnrQ11) = true := by kernel_rfl
def f12_sgnrQ13 : Quest := (.le [([], (Int.negSucc (nat_lit 79228162514264337593543950334))), ([(.var (nat_lit 0)), (.var (nat_lit 0))], (Int.ofNat (nat_lit 1)))])
def f12_sgnrT14 : STree := (.test (.le [([], (Int.negSucc (nat_lit 79228162514264337593543950334))), ([(.var (nat_lit 1)), (.var (nat_lit 1))], (Int.ofNat (nat_lit 1)))])
  (.test (.le [([], (Int.negSucc (nat_lit 18446744073709551614))), ([(.var (nat_lit 1)), (.var (nat_lit 1))], (Int.ofNat (nat_lit 1)))])
  (.test (.le [([], (Int.negSucc (nat_lit 18446744073709551614))), ([(.var (nat_lit 0)), (.var (nat_lit 0))], (Int.ofNat (nat_lit 1)))])
  (.leaf (.int .i64 []))
  (.leaf (.int .i64 [([], (Int.negSucc (nat_lit 0)))])))
  (.test (.le [([], (Int.negSucc (nat_lit 79228162514264337593543950334))), ([(.var (nat_lit 1)), (.var (nat_lit 1))], (Int.ofNat (nat_lit 3)))])
  (.test (.le [([], (Int.negSucc (nat_lit 18446744073709551614))), ([(.var (nat_lit 0)), (.var (nat_lit 0))], (Int.ofNat (nat_lit 1)))])
  (.leaf (.int .i64 []))
  (.test (.le [([], (Int.ofNat (nat_lit 1))), ([(.var (nat_lit 0)), (.var (nat_lit 0))], (Int.ofNat (nat_lit 1))), ([(.var (nat_lit 1)), (.var (nat_lit 1))], (Int.negSucc (nat_lit 2)))])
  (.leaf (.int .i64 [([], (Int.ofNat (nat_lit 1)))]))
  (.test (.le [([], (Int.ofNat (nat_lit 1))), ([(.var (nat_lit 0)), (.var (nat_lit 0))], (Int.negSucc (nat_lit 0))), ([(.var (nat_lit 1)), (.var (nat_lit 1))], (Int.ofNat (nat_lit 3)))])
  (.leaf (.int .i64 [([], (Int.negSucc (nat_lit 0)))]))
  (.leaf (.int .i64 [])))))
  (.test (.le [([], (Int.negSucc (nat_lit 18446744073709551614))), ([(.var (nat_lit 0)), (.var (nat_lit 0))], (Int.ofNat (nat_lit 1)))])
  (.leaf (.int .i64 []))
  (.leaf (.int .i64 [([], (Int.ofNat (nat_lit 1)))])))))
  (.test (.le [([], (Int.negSucc (nat_lit 18446744073709551614))), ([(.var (nat_lit 0)), (.var (nat_lit 0))], (Int.ofNat (nat_lit 1)))])
  (.leaf (.int .i64 []))
  (.leaf (.int .i64 [([], (Int.ofNat (nat_lit 1)))]))))
theorem f12_sgnrC14 : checkT Tryd.prog (xWith (xOf symX) f12_sgnrR) (gxOf symG) (sumsOf sums80_f_x1_f_x4) 10000 12 f12_sgnrA f12_sgnrT14 ((((((factsN f12_sgnrK).yes f12_sgnrQ0).no f12_sgnrQ1).no f12_sgnrQ9).no f12_sgnrQ11).yes f12_sgnrQ13) = true := by kernel_rfl
def f12_sgnrT15 : STree := (.test (.le [([], (Int.negSucc (nat_lit 79228162514264337593543950334))), ([(.var (nat_lit 1)), (.var (nat_lit 1))], (Int.ofNat (nat_lit 1)))])
  (.test (.le [([], (Int.negSucc (nat_lit 18446744073709551614))), ([(.var (nat_lit 1)), (.var (nat_lit 1))], (Int.ofNat (nat_lit 1)))])
  (.leaf (.int .i64 [([], (Int.negSucc (nat_lit 0)))]))
  (.test (.le [([], (Int.negSucc (nat_lit 79228162514264337593543950334))), ([(.var (nat_lit 1)), (.var (nat_lit 1))], (Int.ofNat (nat_lit 3)))])
  (.leaf (.int .i64 [([], (Int.negSucc (nat_lit 0)))]))
  (.test (.le [([], (Int.ofNat (nat_lit 1))), ([(.var (nat_lit 0)), (.var (nat_lit 0))], (Int.ofNat (nat_lit 1))), ([(.var (nat_lit 1)), (.var (nat_lit 1))], (Int.negSucc (nat_lit 2)))])
  (.leaf (.int .i64 [([], (Int.ofNat (nat_lit 1)))]))
  (.test (.le [([], (Int.ofNat (nat_lit 1))), ([(.var (nat_lit 0)), (.var (nat_lit 0))], (Int.negSucc (nat_lit 0))), ([(.var (nat_lit 1)), (.var (nat_lit 1))], (Int.ofNat (nat_lit 3)))])
  (.leaf (.int .i64 [([], (Int.negSucc (nat_lit 0)))]))
  (.leaf (.int .i64 []))))))
  (.test (.le [([], (Int.ofNat (nat_lit 1))), ([(.var (nat_lit 0)), (.var (nat_lit 0))], (Int.ofNat (nat_lit 1))), ([(.var (nat_lit 1)), (.var (nat_lit 1))], (Int.negSucc (nat_lit 2)))])
  (.leaf (.int .i64 [([], (Int.ofNat (nat_lit 1)))]))
  (.test (.le [([], (Int.ofNat (nat_lit 1))), ([(.var (nat_lit 0)), (.var (nat_lit 0))], (Int.negSucc (nat_lit 0))), ([(.var (nat_lit 1)), (.var (nat_lit 1))], (Int.ofNat (nat_lit 3)))])
  (.leaf (.int .i64 [([], (Int.negSucc (nat_lit 0)))]))
  (.leaf (.int .i64 [])))))
theorem f12_sgnrC15 : checkT Tryd.prog (xWith (xOf symX) f12_sgnrR) (gxOf symG) (sumsOf sums80_f_x1_f_x4) 10000 12 f12_sgnrA f12_sgnrT15 ((((((factsN f12_sgnrK).yes f12_sgnrQ0).no f12_sgnrQ1).no f12_sgnrQ9).no f12_sgnrQ11).no f12_sgnrQ13) = true := by kernel_rfl
def f12_sgnrT16 : STree := .test f12_sgnrQ13 f12_sgnrT14 f12_sgnrT15
theorem f12_sgnrC16 : checkT Tryd.prog (xWith (xOf symX) f12_sgnrR) (gxOf symG) (sumsOf sums80_f_x1_f_x4) 10000 12 f12_sgnrA f12_sgnrT16 (((((factsN f12_sgnrK).yes f12_sgnrQ0).no f12_sgnrQ1).no f12_sgnrQ9).no f12_sgnrQ11) = true := checkT_test f12_sgnrC14 f12_sgnrC15
def f12_sgnrT17 : STree := .test f12_sgnrQ11 f12_sgnrT12 f12_sgnrT16
theorem f12_sgnrC17 : checkT Tryd.prog (xWith (xOf symX) f12_sgnrR) (gxOf symG) (sumsOf sums80_f_x1_f_x4) 10000 12 f12_sgnrA f12_sgnrT17 ((((factsN f12_sgnrK).yes f12_sgnrQ0).no f12_sgnrQ1).no f12_sgnrQ9) = true := checkT_test f12_sgnrC12 f12_sgnrC16
def f12_sgnrT18 : STree := .test f12_sgnrQ9 f12_sgnrT10 f12_sgnrT17
theorem f12_sgnrC18 : checkT Tryd.prog (xWith (xOf symX) f12_sgnrR) (gxOf symG) (sumsOf sums80_f_x1_f_x4) 10000 12 f12_sgnrA f12_sgnrT18 (((factsN f12_sgnrK).yes f12_sgnrQ0).no f12_sgnrQ1) = true := checkT_test f12_sgnrC10 f12_sgnrC17
def f12_sgnrT19 : STree := .test f12_sgnrQ1 f12_sgnrT8 f12_sgnrT18
theorem f12_sgnrC19 : checkT Tryd.prog (xWith (xOf symX) f12_sgnrR) (gxOf symG) (sumsOf sums80_f_x1_f_x4) 10000 12 f12_sgnrA f12_sgnrT19 ((factsN f12_sgnrK).yes f12_sgnrQ0) = true := checkT_test f12_sgnrC8 f12_sgnrC18
def f12_sgnrQ20 : Quest := (.le [([], (Int.negSucc (nat_lit 4294967294))), ([(.var (nat_lit 0))], (Int.ofNat (nat_lit 1)))])
def f12_sgnrQ21 : Quest := (.eq [([(.var (nat_lit 0))], (Int.ofNat (nat_lit 1)))])
def f12_sgnrT22 : STree := (.test (.le [([], (Int.ofNat (nat_lit 1))), ([(.var (nat_lit 1))], (Int.ofNat (nat_lit 1)))])
  (.test (.le [([], (Int.negSucc (nat_lit 4294967294))), ([(.var (nat_lit 1))], (Int.negSucc (nat_lit 0)))])
  (.leaf (.int .i64 [([], (Int.negSucc (nat_lit 0)))]))
  (.leaf (.int .i64 [([], (Int.negSucc (nat_lit 0)))])))
  (.test (.le [([], (Int.negSucc (nat_lit 4294967294))), ([(.var (nat_lit 1))], (Int.ofNat (nat_lit 1)))])
  (.test (.eq [([(.var (nat_lit 1))], (Int.ofNat (nat_lit 1)))])
  (.leaf (.int .i64 []))
  (.leaf (.int .i64 [([], (Int.ofNat (nat_lit 1)))])))
  (.leaf (.int .i64 [([], (Int.ofNat (nat_lit 1)))]))))
theorem f12_sgnrC22 : checkT Tryd.prog (xWith (xOf symX) f12_sgnrR) (gxOf symG) (sumsOf sums80_f_x1_f_x4) 10000 12 f12_sgnrA f12_sgnrT22 ((((factsN f12_sgnrK).no f12_sgnrQ0).yes f12_sgnrQ20).yes f12_sgnrQ21) = true := by kernel_rfl
def f12_sgnrQ23 : Quest := (.le [([], (Int.ofNat (nat_lit 1))), ([(.var (nat_lit 1))], (Int.ofNat (nat_lit 1)))])
def f12_sgnrQ24 : Quest := (.le [([], (Int.negSucc (nat_lit 4294967294))), ([(.var (nat_lit 1))], (Int.negSucc (nat_lit 0)))])
def f12_sgnrT25 : STree := (.test (.le [([], (Int.negSucc (nat_lit 4294967294))), ([(.var (nat_lit 0)), (.var (nat_lit 0))], (Int.ofNat (nat_lit 1)))])
  (.test (.le [([], (Int.negSucc (nat_lit 4294967294))), ([(.var (nat_lit 1)), (.var (nat_lit 1))], (Int.ofNat (nat_lit 1)))])
  (.test (.le [([], (Int.negSucc (nat_lit 4294967294))), ([(.var (nat_lit 1)), (.var (nat_lit 1))], (Int.ofNat (nat_lit 3)))])
  (.test (.le [([], (Int.ofNat (nat_lit 1))), ([(.var (nat_lit 0)), (.var (nat_lit 0))], (Int.ofNat (nat_lit 1))), ([(.var (nat_lit 1)), (.var (nat_lit 1))], (Int.negSucc (nat_lit 2)))])
  (.leaf (.int .i64 [([], (Int.negSucc (nat_lit 0)))]))
  (.test (.le [([], (Int.ofNat (nat_lit 1))), ([(.var (nat_lit 0)), (.var (nat_lit 0))], (Int.negSucc (nat_lit 0))), ([(.var (nat_lit 1)), (.var (nat_lit 1))], (Int.ofNat (nat_lit 3)))])
  (.leaf (.int .i64 [([], (Int.ofNat (nat_lit 1)))]))
  (.leaf (.int .i64 []))))
  (.leaf (.int .i64 [([], (Int.negSucc (nat_lit 0)))])))
  (.test (.le [([], (Int.negSucc (nat_lit 18446744073709551614))), ([(.var (nat_lit 1)), (.var (nat_lit 1))], (Int.ofNat (nat_lit 3)))])
  (.leaf (.int .i64 [([], (Int.negSucc (nat_lit 0)))]))
  (.leaf (.int .i64 [([], (Int.negSucc (nat_lit 0)))]))))
  (.test (.le [([], (Int.negSucc (nat_lit 4294967294))), ([(.var (nat_lit 1)), (.var (nat_lit 1))], (Int.ofNat (nat_lit 1)))])
  (.test (.le [([], (Int.negSucc (nat_lit 4294967294))), ([(.var (nat_lit 1)), (.var (nat_lit 1))], (Int.ofNat (nat_lit 3)))])
  (.leaf (.int .i64 [([], (Int.ofNat (nat_lit 1)))]))
  (.test (.le [([], (Int.ofNat (nat_lit 1))), ([(.var (nat_lit 0)), (.var (nat_lit 0))], (Int.ofNat (nat_lit 1))), ([(.var (nat_lit 1)), (.var (nat_lit 1))], (Int.negSucc (nat_lit 2)))])
  (.leaf (.int .i64 [([], (Int.negSucc (nat_lit 0)))]))
  (.test (.le [([], (Int.ofNat (nat_lit 1))), ([(.var (nat_lit 0)), (.var (nat_lit 0))], (Int.negSucc (nat_lit 0))), ([(.var (nat_lit 1)), (.var (nat_lit 1))], (Int.ofNat (nat_lit 3)))])
  (.leaf (.int .i64 [([], (Int.ofNat (nat_lit 1)))]))
  (.leaf (.int .i64 [])))))
  (.test (.le [([], (Int.negSucc (nat_lit 18446744073709551614))), ([(.var (nat_lit 1)), (.var (nat_lit 1))], (Int.ofNat (nat_lit 3)))])
  (.test (.le [([], (Int.ofNat (nat_lit 1))), ([(.var (nat_lit 0)), (.var (nat_lit 0))], (Int.ofNat (nat_lit 1))), ([(.var (nat_lit 1)), (.var (nat_lit 1))], (Int.negSucc (nat_lit 2)))])
  (.leaf (.int .i64 [([], (Int.negSucc (nat_lit 0)))]))
  (.test (.le [([], (Int.ofNat (nat_lit 1))), ([(.var (nat_lit 0)), (.var (nat_lit 0))], (Int.negSucc (nat_lit 0))), ([(.var (nat_lit 1)), (.var (nat_lit 1))], (Int.ofNat (nat_lit 3)))])
  (.leaf (.int .i64 [([], (Int.ofNat (nat_lit 1)))]))
  (.leaf (.int .i64 []))))
  (.leaf (.int .i64 [([], (Int.negSucc (nat_lit 0)))])))))
theorem f12_sgnrC25 : checkT Tryd.prog (xWith (xOf symX) f12_sgnrR) (gxOf symG) (sumsOf sums80_f_x1_f_x4) 10000 12 f12_sgnrA f12_sgnrT25 ((((((factsN f12_sgnrK).no f12_sgnrQ0).yes f12_sgnrQ20).no f12_sgnrQ21).yes f12_sgnrQ23).yes f12_sgnrQ24) = true := by kernel_rfl
def f12_sgnrT26 : STree := (.test (.le [([], (Int.negSucc (nat_lit 4294967294))), ([(.var (nat_lit 0)), (.var (nat_lit 0))], (Int.ofNat (nat_lit 1)))])
  (.test (.le [([], (Int.negSucc (nat_lit 79228162514264337593543950334))), ([(.var (nat_lit 1)), (.var (nat_lit 1))], (Int.ofNat (nat_lit 1)))])
  (.test (.le [([], (Int.negSucc (nat_lit 18446744073709551614))), ([(.var (nat_lit 1)), (.var (nat_lit 1))], (Int.ofNat (nat_lit 1)))])
  (.leaf (.int .i64 [([], (Int.ofNat (nat_lit 1)))]))
  (.test (.le [([], (Int.negSucc (nat_lit 79228162514264337593543950334))), ([(.var (nat_lit 1)), (.var (nat_lit 1))], (Int.ofNat (nat_lit 3)))])
  (.leaf (.int .i64 [([], (Int.negSucc (nat_lit 0)))]))
  (.leaf (.int .i64 [([], (Int.negSucc (nat_lit 0)))]))))
  (.leaf (.int .i64 [([], (Int.negSucc (nat_lit 0)))])))
  (.test (.le [([], (Int.negSucc (nat_lit 79228162514264337593543950334))), ([(.var (nat_lit 1)), (.var (nat_lit 1))], (Int.ofNat (nat_lit 1)))])
  (.test (.le [([], (Int.negSucc (nat_lit 18446744073709551614))), ([(.var (nat_lit 1)), (.var (nat_lit 1))], (Int.ofNat (nat_lit 1)))])
  (.leaf (.int .i64 [([], (Int.ofNat (nat_lit 1)))]))
  (.test (.le [([], (Int.negSucc (nat_lit 79228162514264337593543950334))), ([(.var (nat_lit 1)), (.var (nat_lit 1))], (Int.ofNat (nat_lit 3)))])
  (.leaf (.int .i64 [([], (Int.negSucc (nat_lit 0)))]))
  (.leaf (.int .i64 [([], (Int.negSucc (nat_lit 0)))]))))
  (.leaf (.int .i64 [([], (Int.negSucc (nat_lit 0)))]))))
theorem f12_sgnrC26 : checkT Tryd.prog (xWith (xOf symX) f12_sgnrR) (gxOf symG) (sumsOf sums80_f_x1_f_x4) 10000 12 f12_sgnrA f12_sgnrT26 ((((((factsN f12_sgnrK).no f12_sgnrQ0).yes f12_sgnrQ20).no f12_sgnrQ21).yes f12_sgnrQ23).no f12_sgnrQ24) = true := by kernel_rfl
def f12_sgnrT27 : STree := .test f12_sgnrQ24 f12_sgnrT25 f12_sgnrT26
theorem f12_sgnrC27 : checkT Tryd.prog (xWith (xOf symX) f12_sgnrR) (gxOf symG) (sumsOf sums80_f_x1_f_x4) 10000 12 f12_sgnrA f12_sgnrT27 (((((factsN f12_sgnrK).no f12_sgnrQ0).yes f12_sgnrQ20).no f12_sgnrQ21).yes f12_sgnrQ23) = true := checkT_test f12_sgnrC25 f12_sgnrC26
def f12_sgnrT28 : STree := (.test (.le [([], (Int.negSucc (nat_lit 4294967294))), ([(.var (nat_lit 1))], (Int.ofNat (nat_lit 1)))])
  (.test (.eq [([(.var (nat_lit 1))], (Int.ofNat (nat_lit 1)))])
  (.leaf (.int .i64 [([], (Int.ofNat (nat_lit 1)))]))
  (.leaf (.int .i64 [([], (Int.ofNat (nat_lit 1)))])))
  (.leaf (.int .i64 [([], (Int.ofNat (nat_lit 1)))])))
theorem f12_sgnrC28 : checkT Tryd.prog (xWith (xOf symX) f12_sgnrR) (gxOf symG) (sumsOf sums80_f_x1_f_x4) 10000 12 f12_sgnrA f12_sgnrT28 (((((factsN f12_sgnrK).no f12_sgnrQ0).yes f12_sgnrQ20).no f12_sgnrQ21).no f12_sgnrQ23) = true := by kernel_rfl
def f12_sgnrT29 : STree := .test f12_sgnrQ23 f12_sgnrT27 f12_sgnrT28
theorem f12_sgnrC29 : checkT Tryd.prog (xWith (xOf symX) f12_sgnrR) (gxOf symG) (sumsOf sums80_f_x1_f_x4) 10000 12 f12_sgnrA f12_sgnrT29 ((((factsN f12_sgnrK).no f12_sgnrQ0).yes f12_sgnrQ20).no f12_sgnrQ21) = true := checkT_test f12_sgnrC27 f12_sgnrC28
def f12_sgnrT30 : STree := .test f12_sgnrQ21 f12_sgnrT22 f12_sgnrT29
theorem f12_sgnrC30 : checkT Tryd.prog (xWith (xOf symX) f12_sgnrR) (gxOf symG) (sumsOf sums80_f_x1_f_x4) 10000 12 f12_sgnrA f12_sgnrT30 (((factsN f12_sgnrK).no f12_sgnrQ0).yes f12_sgnrQ20) = true := checkT_test f12_sgnrC22 f12_sgnrC29
def f12_sgnrQ31 : Quest := (.le [([], (Int.ofNat (nat_lit 1))), ([(.var (nat_lit 1))], (Int.ofNat (nat_lit 1)))])
def f12_sgnrQ32 : Quest := (.le [([], (Int.negSucc (nat_lit 4294967294))), ([(.var (nat_lit 1))], (Int.negSucc (nat_lit 0)))])
def f12_sgnrT33 : STree := (.test (.le [([], (Int.negSucc (nat_lit 79228162514264337593543950334))), ([(.var (nat_lit 0)), (.var (nat_lit 0))], (Int.ofNat (nat_lit 1)))])
  (.test (.le [([], (Int.negSucc (nat_lit 4294967294))), ([(.var (nat_lit 1)), (.var (nat_lit 1))], (Int.ofNat (nat_lit 1)))])
  (.test (.le [([], (Int.negSucc (nat_lit 4294967294))), ([(.var (nat_lit 1)), (.var (nat_lit 1))], (Int.ofNat (nat_lit 3)))])
  (.test (.le [([], (Int.negSucc (nat_lit 18446744073709551614))), ([(.var (nat_lit 0)), (.var (nat_lit 0))], (Int.ofNat (nat_lit 1)))])
  (.leaf (.int .i64 []))
  (.leaf (.int .i64 [([], (Int.ofNat (nat_lit 1)))])))
  (.test (.le [([], (Int.negSucc (nat_lit 18446744073709551614))), ([(.var (nat_lit 0)), (.var (nat_lit 0))], (Int.ofNat (nat_lit 1)))])
  (.leaf (.int .i64 []))
  (.leaf (.int .i64 [([], (Int.ofNat (nat_lit 1)))]))))
  (.test (.le [([], (Int.negSucc (nat_lit 18446744073709551614))), ([(.var (nat_lit 1)), (.var (nat_lit 1))], (Int.ofNat (nat_lit 3)))])
  (.test (.le [([], (Int.negSucc (nat_lit 18446744073709551614))), ([(.var (nat_lit 0)), (.var (nat_lit 0))], (Int.ofNat (nat_lit 1)))])
  (.leaf (.int .i64 []))
  (.leaf (.int .i64 [([], (Int.ofNat (nat_lit 1)))])))
  (.test (.le [([], (Int.negSucc (nat_lit 18446744073709551614))), ([(.var (nat_lit 0)), (.var (nat_lit 0))], (Int.ofNat (nat_lit 1)))])
  (.leaf (.int .i64 []))
  (.test (.le [([], (Int.ofNat (nat_lit 1))), ([(.var (nat_lit 0)), (.var (nat_lit 0))], (Int.ofNat (nat_lit 1))), ([(.var (nat_lit 1)), (.var (nat_lit 1))], (Int.negSucc (nat_lit 2)))])
  (.leaf (.int .i64 [([], (Int.negSucc (nat_lit 0)))]))
  (.test (.le [([], (Int.ofNat (nat_lit 1))), ([(.var (nat_lit 0)), (.var (nat_lit 0))], (Int.negSucc (nat_lit 0))), ([(.var (nat_lit 1)), (.var (nat_lit 1))], (Int.ofNat (nat_lit 3)))])
  (.leaf (.int .i64 [([], (Int.ofNat (nat_lit 1)))]))
  (.leaf (.int .i64 [])))))))
  (.test (.le [([], (Int.negSucc (nat_lit 4294967294))), ([(.var (nat_lit 1)), (.var (nat_lit 1))], (Int.ofNat (nat_lit 1)))])
  (.test (.le [([], (Int.negSucc (nat_lit 4294967294))), ([(.var (nat_lit 1)), (.var (nat_lit 1))], (Int.ofNat (nat_lit 3)))])
  (.leaf (.int .i64 [([], (Int.ofNat (nat_lit 1)))]))
  (.leaf (.int .i64 [([], (Int.ofNat (nat_lit 1)))])))
  (.test (.le [([], (Int.negSucc (nat_lit 18446744073709551614))), ([(.var (nat_lit 1)), (.var (nat_lit 1))], (Int.ofNat (nat_lit 3)))])
  (.leaf (.int .i64 [([], (Int.ofNat (nat_lit 1)))]))
  (.leaf (.int .i64 [([], (Int.ofNat (nat_lit 1)))])))))
theorem f12_sgnrC33 : checkT Tryd.prog (xWith (xOf symX) f12_sgnrR) (gxOf symG) (sumsOf sums80_f_x1_f_x4) 10000 12 f12_sgnrA f12_sgnrT33 (((((factsN f12_sgnrK).no f12_sgnrQ0).no f12_sgnrQ20).yes f12_sgnrQ31).yes f12_sgnrQ32) = true := by kernel_rfl
def f12_sgnrQ34 : Quest := (.le [([], (Int.negSucc (nat_lit 79228162514264337593543950334))), ([(.var (nat_lit 0)), (.var (nat_lit 0))], (Int.ofNat (nat_lit 1)))])
def f12_sgnrT35 : STree := (.test (.le [([], (Int.negSucc (nat_lit 79228162514264337593543950334))), ([(.var (nat_lit 1)), (.var (nat_lit 1))], (Int.ofNat (nat_lit 1)))])
  (.test (.le [([], (Int.negSucc (nat_lit 18446744073709551614))), ([(.var (nat_lit 1)), (.var (nat_lit 1))], (Int.ofNat (nat_lit 1)))])
  (.test (.le [([], (Int.negSucc (nat_lit 18446744073709551614))), ([(.var (nat_lit 0)), (.var (nat_lit 0))], (Int.ofNat (nat_lit 1)))])
  (.leaf (.int .i64 []))
  (.leaf (.int .i64 [([], (Int.ofNat (nat_lit 1)))])))
  (.test (.le [([], (Int.negSucc (nat_lit 79228162514264337593543950334))), ([(.var (nat_lit 1)), (.var (nat_lit 1))], (Int.ofNat (nat_lit 3)))])
  (.test (.le [([], (Int.negSucc (nat_lit 18446744073709551614))), ([(.var (nat_lit 0)), (.var (nat_lit 0))], (Int.ofNat (nat_lit 1)))])
  (.leaf (.int .i64 []))
  (.test (.le [([], (Int.ofNat (nat_lit 1))), ([(.var (nat_lit 0)), (.var (nat_lit 0))], (Int.ofNat (nat_lit 1))), ([(.var (nat_lit 1)), (.var (nat_lit 1))], (Int.negSucc (nat_lit 2)))])
  (.leaf (.int .i64 [([], (Int.negSucc (nat_lit 0)))]))
  (.test (.le [([], (Int.ofNat (nat_lit 1))), ([(.var (nat_lit 0)), (.var (nat_lit 0))], (Int.negSucc (nat_lit 0))), ([(.var (nat_lit 1)), (.var (nat_lit 1))], (Int.ofNat (nat_lit 3)))])
  (.leaf (.int .i64 [([], (Int.ofNat (nat_lit 1)))]))
  (.leaf (.int .i64 [])))))
  (.test (.le [([], (Int.negSucc (nat_lit 18446744073709551614))), ([(.var (nat_lit 0)), (.var (nat_lit 0))], (Int.ofNat (nat_lit 1)))])
  (.leaf (.int .i64 []))
  (.leaf (.int .i64 [([], (Int.negSucc (nat_lit 0)))])))))
  (.test (.le [([], (Int.negSucc (nat_lit 18446744073709551614))), ([(.var (nat_lit 0)), (.var (nat_lit 0))], (Int.ofNat (nat_lit 1)))])
  (.leaf (.int .i64 []))
  (.leaf (.int .i64 [([], (Int.negSucc (nat_lit 0)))]))))
theorem f12_sgnrC35 : checkT Tryd.prog (xWith (xOf symX) f12_sgnrR) (gxOf symG) (sumsOf sums80_f_x1_f_x4) 10000 12 f12_sgnrA f12_sgnrT35 ((((((factsN f12_sgnrK).no f12_sgnrQ0).no f12_sgnrQ20).yes f12_sgnrQ31).no f12_sgnrQ32).yes f12_sgnrQ34) = true := by kernel_rfl
def f12_sgnrT36 : STree := (.test (.le [([], (Int.negSucc (nat_lit 79228162514264337593543950334))), ([(.var (nat_lit 1)), (.var (nat_lit 1))], (Int.ofNat (nat_lit 1)))])
  (.test (.le [([], (Int.negSucc (nat_lit 18446744073709551614))), ([(.var (nat_lit 1)), (.var (nat_lit 1))], (Int.ofNat (nat_lit 1)))])
  (.leaf (.int .i64 [([], (Int.ofNat (nat_lit 1)))]))
  (.test (.le [([], (Int.negSucc (nat_lit 79228162514264337593543950334))), ([(.var (nat_lit 1)), (.var (nat_lit 1))], (Int.ofNat (nat_lit 3)))])
  (.leaf (.int .i64 [([], (Int.ofNat (nat_lit 1)))]))
  (.test (.le [([], (Int.ofNat (nat_lit 1))), ([(.var (nat_lit 0)), (.var (nat_lit 0))], (Int.ofNat (nat_lit 1))), ([(.var (nat_lit 1)), (.var (nat_lit 1))], (Int.negSucc (nat_lit 2)))])
  (.leaf (.int .i64 [([], (Int.negSucc (nat_lit 0)))]))
  (.test (.le [([], (Int.ofNat (nat_lit 1))), ([(.var (nat_lit 0)), (.var (nat_lit 0))], (Int.negSucc (nat_lit 0))), ([(.var (nat_lit 1)), (.var (nat_lit 1))], (Int.ofNat (nat_lit 3)))])
  (.leaf (.int .i64 [([], (Int.ofNat (nat_lit 1)))]))
  (.leaf (.int .i64 []))))))
  (.test (.le [([], (Int.ofNat (nat_lit 1))), ([(.var (nat_lit 0)), (.var (nat_lit 0))], (Int.ofNat (nat_lit 1))), ([(.var (nat_lit 1)), (.var (nat_lit 1))], (Int.negSucc (nat_lit 2)))])
  (.leaf (.int .i64 [([], (Int.negSucc (nat_lit 0)))]))
  (.test (.le [([], (Int.ofNat (nat_lit 1))), ([(.var (nat_lit 0)), (.var (nat_lit 0))], (Int.negSucc (nat_lit 0))), ([(.var (nat_lit 1)), (.var (nat_lit 1))], (Int.ofNat (nat_lit 3)))])
  (.leaf (.int .i64 [([], (Int.ofNat (nat_lit 1)))]))
  (.leaf (.int .i64 [])))))
theorem f12_sgnrC36 : checkT Tryd.prog (xWith (xOf symX) f12_sgnrR) (gxOf symG) (sumsOf sums80_f_x1_f_x4) 10000 12 f12_sgnrA f12_sgnrT36 ((((((factsN f12_sgnrK).no f12_sgnrQ0).no f12_sgnrQ20).yes f12_sgnrQ31).no f12_sgnrQ32).no f12_sgnrQ34) = true := by kernel_rfl
def f12_sgnrT37 : STree := .test f12_sgnrQ34 f12_sgnrT35 f12_sgnrT36
theorem f12_sgnrC37 : checkT Tryd.prog (xWith (xOf symX) f12_sgnrR) (gxOf symG) (sumsOf sums80_f_x1_f_x4) 10000 12 f12_sgnrA f12_sgnrT37 (((((factsN f12_sgnrK).no f12_sgnrQ0).no f12_sgnrQ20).yes f12_sgnrQ31).no f12_sgnrQ32) = true := checkT_test f12_sgnrC35 f12_sgnrC36
def f12_sgnrT38 : STree := .test f12_sgnrQ32 f12_sgnrT33 f12_sgnrT37
theorem f12_sgnrC38 : checkT Tryd.prog (xWith (xOf symX) f12_sgnrR) (gxOf symG) (sumsOf sums80_f_x1_f_x4) 10000 12 f12_sgnrA f12_sgnrT38 ((((factsN f12_sgnrK).no f12_sgnrQ0).no f12_sgnrQ20).yes f12_sgnrQ31) = true := checkT_test f12_sgnrC33 f12_sgnrC37
def f12_sgnrT39 : STree := (.test (.le [([], (Int.negSucc (nat_lit 4294967294))), ([(.var (nat_lit 1))], (Int.ofNat (nat_lit 1)))])
  (.test (.eq [([(.var (nat_lit 1))], (Int.ofNat (nat_lit 1)))])
  (.leaf (.int .i64 [([], (Int.ofNat (nat_lit 1)))]))
  (.leaf (.int .i64 [([], (Int.ofNat (nat_lit 1)))])))
  (.leaf (.int .i64 [([], (Int.ofNat (nat_lit 1)))])))
theorem f12_sgnrC39 : checkT Tryd.prog (xWith (xOf symX) f12_sgnrR) (gxOf symG) (sumsOf sums80_f_x1_f_x4) 10000 12 f12_sgnrA f12_sgnrT39 ((((factsN f12_sgnrK).no f12_sgnrQ0).no f12_sgnrQ20).no f12_sgnrQ31) = true := by kernel_rfl
def f12_sgnrT40 : STree := .test f12_sgnrQ31 f12_sgnrT38 f12_sgnrT39
theorem f12_sgnrC40 : checkT Tryd.prog (xWith (xOf symX) f12_sgnrR) (gxOf symG) (sumsOf sums80_f_x1_f_x4) 10000 12 f12_sgnrA f12_sgnrT40 (((factsN f12_sgnrK).no f12_sgnrQ0).no f12_sgnrQ20) = true := checkT_test f12_sgnrC38 f12_sgnrC39
def f12_sgnrT41 : STree := .test f12_sgnrQ20 f12_sgnrT30 f12_sgnrT40
theorem f12_sgnrC41 : checkT Tryd.prog (xWith (xOf symX) f12_sgnrR) (gxOf symG) (sumsOf sums80_f_x1_f_x4) 10000 12 f12_sgnrA f12_sgnrT41 ((factsN f12_sgnrK).no f12_sgnrQ0) = true := checkT_test f12_sgnrC30 f12_sgnrC40
def f12_sgnrT42 : STree := .test f12_sgnrQ0 f12_sgnrT19 f12_sgnrT41
theorem f12_sgnrC42 : checkT Tryd.prog (xWith (xOf symX) f12_sgnrR) (gxOf symG) (sumsOf sums80_f_x1_f_x4) 10000 12 f12_sgnrA f12_sgnrT42 (factsN f12_sgnrK) = true := checkT_test f12_sgnrC19 f12_sgnrC41
def f12_sgnrM : Summ := sgnrS
theorem f12_sgnrOk : SumOk Tryd.prog (xOf symX) (gxOf symG) 12 f12_sgnrM := Exch.ok (sumOk_ofN (m := ⟨f12_sgnrA, f12_sgnrK, f12_sgnrT42, f12_sgnrR, []⟩) symMixed symClosed sums80_f_x1_f_x4Ok f12_sgnrC42) (sgnrS_exch)
def sums12_sgnr : List (Nat × Summ) := (12, f12_sgnrM) :: sums80_f_x1_f_x4
theorem sums12_sgnrOk : ∀ g, ∀ m ∈ sumsOf sums12_sgnr g, SumOk Tryd.prog (xOf symX) (gxOf symG) g m := sumsOf_ok f12_sgnrOk sums80_f_x1_f_x4Ok
end Go.Proofs.YtjghifocfjbmcabDoor
