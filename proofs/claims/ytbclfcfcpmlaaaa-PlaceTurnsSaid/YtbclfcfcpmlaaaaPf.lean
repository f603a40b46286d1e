/- The walks of racelaw4.first, PlacePoints and PlaceHashes. -/
import Derived.Test.YtbclfcfcpmlaaaaPb
import Derived.Test.YtbclfcfcpmlaaaaPh
namespace Go.Proofs.Ytbclfcfcpmlaaaa
open Go.RowKit Fl

set_option maxHeartbeats 400000 in
theorem check_nil (w : World) : Calls Try.prog 21 #[.slice none 0 0] w fun e w' => e = .returned (.int .i64 8) ∧ w = w' := by
  go_enter Try.func21, Try.ntmps21
  go_wp2
  go_ret
  exact ⟨rfl, rfl⟩

theorem hash_empty : hashI { data := #[] } = 17280346270528514342 := by decide +kernel
theorem pv1 : pointV 4607182418800017408 = 4607182418800017408 := by decide +kernel
theorem pe1 : pointE 4607182418800017408 = 0 := by decide +kernel
theorem mv1 : midV 0 4607182418800017408 = 4602678819172646912 := by decide +kernel
theorem me1 : midE 0 4607182418800017408 = 0 := by decide +kernel
theorem ofk : (FloatKind.f64.format.order (ofB { data := #[107] }) 4602678819172646912 == some Ordering.lt) = true := by decide +kernel
theorem ofa : (FloatKind.f64.format.order (ofB { data := #[97] }) 4602678819172646912 == some Ordering.gt) = true := by decide +kernel

set_option maxHeartbeats 1000000 in
theorem first_any (w : World) : Calls Try.prog 11 #[] w fun e w' => e = .returned (.bool true) ∧ w = w' := by
  have k1 := fun W => pv1 ▸ pe1 ▸ point 4607182418800017408 W (by omega)
  have k2 := fun W => mv1 ▸ me1 ▸ mid 0 4607182418800017408 W (by omega) (by omega)
  have k3 := fun W => hash_empty ▸ hash { data := #[] } W (by decide)
  have k4 := ofk
  have k5 := ofa
  have K1 := Lib.hid k1; have K2 := Lib.hid k2; have K3 := Lib.hid k3
  clear k1 k2 k3
  go_enter Try.func11, Try.ntmps11
  go_wp2_with (first
    | ((with_reducible refine (K1.out _).mono ?_); rintro e w' ⟨rfl, rfl⟩)
    | ((with_reducible refine (K2.out _).mono ?_); rintro e w' ⟨rfl, rfl⟩)
    | ((with_reducible refine (K3.out _).mono ?_); rintro e w' ⟨rfl, rfl⟩)
    | ((with_reducible refine (rbits _ _ _).mono ?_); rintro e w' ⟨rfl, rfl⟩)
    | ((with_reducible refine (check_nil _).mono ?_); rintro e w' ⟨rfl, rfl⟩)
    | ((with_reducible refine (of_any _ _ (by decide)).mono ?_); rintro e w' ⟨rfl, rfl⟩))
  go_ret
  exact ⟨rfl, rfl⟩

set_option maxHeartbeats 1000000 in
theorem points_walk (a b : Nat) (w : World) (ha : a < 18446744073709551616) (hb : b < 18446744073709551616) :
    Calls Try.prog 4 #[.float .f64 a, .float .f64 b] w fun e w' => e = .returned (.bool true) ∧ Below w.heap.size w w' := by
  go_enter Try.func4, Try.ntmps4
  go_wp2_with (first
    | ((with_reducible refine (first_any _).mono ?_); rintro e w' ⟨rfl, rfl⟩)
    | ((with_reducible refine (point _ _ ha).mono ?_); rintro e w' ⟨rfl, rfl⟩)
    | ((with_reducible refine (rpoint _ _ ha).mono ?_); rintro e w' ⟨rfl, rfl⟩)
    | ((with_reducible refine (mid _ _ _ ha hb).mono ?_); rintro e w' ⟨rfl, rfl⟩)
    | ((with_reducible refine (rmid _ _ _ ha hb).mono ?_); rintro e w' ⟨rfl, rfl⟩)
    | ((with_reducible refine (rbits _ _ _).mono ?_); rintro e w' ⟨rfl, rfl⟩))
  go_ret
  exact ⟨rfl, Below.refl _ _⟩

end Go.Proofs.Ytbclfcfcpmlaaaa
