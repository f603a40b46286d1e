/- Plain facts: the middle of two points: its steps are valid operations; no program in sight. -/
import Derived.Test.YtipacjbegfingaaFlc
namespace Go.Proofs.Ytipacjbegfingaa.Fl
open Ieee

def okD : Datum → Bool | .nan .. => false | _ => true
def notnan (x : Nat) : Prop := x % 9223372036854775808 ≤ 9218868437227405312

theorem read_ok {x : Nat} (h : notnan x) : okD (double.read x) = true := by
  rw [read_word]
  unfold notnan at h
  split
  · rfl
  · split
    · rfl
    · omega

theorem word_ok (s : Bool) (r : Nat) (h : r ≤ 9218868437227405312) : notnan (double.word s r) := by
  have hs : double.signWeight = 9223372036854775808 := by decide
  unfold notnan Format.word
  rw [hs]
  split <;> omega

theorem nearest_ok (s : Bool) (m : Nat) (p : Int) : notnan (double.nearest s m p) := by
  have hi : double.infRung = 9218868437227405312 := by decide
  unfold Format.nearest
  dsimp only
  rw [hi]
  split
  · exact word_ok _ _ (by omega)
  · exact word_ok _ _ (Nat.min_le_right ..)

theorem write_ok {d : Datum} (h : okD d = true) : notnan (double.write d) := by
  have hi : double.infRung = 9218868437227405312 := by decide
  cases d with
  | number s m p => exact nearest_ok s m p
  | infinity s => show notnan (double.word s double.infRung); rw [hi]; exact word_ok _ _ (by omega)
  | nan => cases h

theorem pt_num {x : Nat} (h : x < 9218868437227405312) : double.read x = .number false (mg x) (-1074 + (st x : Int)) := by
  rw [read_word]
  have a : x % 9223372036854775808 = x := Nat.mod_eq_of_lt (by omega)
  have b : x / 9223372036854775808 = 0 := by omega
  rw [a, b, if_pos h]; rfl

theorem sum_some (s : Bool) (m : Nat) (p : Int) {d : Datum} (h : okD d = true) : ∃ r, (Datum.number s m p).sum d = some r ∧ okD r = true := by
  cases d with
  | number => exact ⟨_, rfl, rfl⟩
  | infinity => exact ⟨_, rfl, rfl⟩
  | nan => cases h

def subB (a b : Nat) : Nat := (floatBits .sub .f64 a b).getD 0
def halfB (a : Nat) : Nat := (floatBits .quo .f64 a 4611686018427387904).getD 0
def addB (a b : Nat) : Nat := (floatBits .add .f64 a b).getD 0
def midB (lo hi : Nat) : Nat := addB lo (halfB (subB hi lo))

theorem sub_some {lo hi : Nat} (hl : lo < 9218868437227405312) (hh : hi < 9218868437227405312) : floatBits .sub .f64 hi lo = some (subB hi lo) ∧ notnan (subB hi lo) := by
  have e : floatBits .sub .f64 hi lo = ((double.read hi).sum (double.read lo).opposite).map double.write := rfl
  unfold subB
  rw [e, pt_num hl, pt_num hh]
  obtain ⟨r, hr, ho⟩ := sum_some false (mg hi) (-1074 + (st hi : Int)) (d := (Datum.number false (mg lo) (-1074 + (st lo : Int))).opposite) rfl
  rw [hr]
  exact ⟨rfl, write_ok ho⟩

theorem half_some {d : Nat} (h : notnan d) : floatBits .quo .f64 d 4611686018427387904 = some (halfB d) ∧ notnan (halfB d) := by
  have e : floatBits .quo .f64 d 4611686018427387904 = ((double.read d).quotient 54 (double.read 4611686018427387904)).map double.write := rfl
  have two : double.read 4611686018427387904 = .number false 4503599627370496 (-51) := by decide
  unfold halfB
  rw [e, two]
  have ho := read_ok h
  have key : ∃ r, (double.read d).quotient 54 (.number false 4503599627370496 (-51)) = some r ∧ okD r = true := by
    cases hd : double.read d with
    | number s m p => exact ⟨_, rfl, rfl⟩
    | infinity s => exact ⟨_, rfl, rfl⟩
    | nan => rw [hd] at ho; cases ho
  obtain ⟨r, hr, hk⟩ := key
  rw [hr]
  exact ⟨rfl, write_ok hk⟩

theorem add_some {lo d : Nat} (hl : lo < 9218868437227405312) (h : notnan d) : floatBits .add .f64 lo d = some (addB lo d) ∧ notnan (addB lo d) := by
  have e : floatBits .add .f64 lo d = ((double.read lo).sum (double.read d)).map double.write := rfl
  unfold addB
  rw [e, pt_num hl]
  obtain ⟨r, hr, ho⟩ := sum_some false (mg lo) (-1074 + (st lo : Int)) (read_ok h)
  rw [hr]
  exact ⟨rfl, write_ok ho⟩

theorem pt_lt {a : Nat} (h : ptB a = true) : a < 9218868437227405312 := by
  unfold ptB at h; have := of_decide_eq_true h; omega

theorem mid_steps {lo hi : Nat} (hl : ptB lo = true) (hh : ptB hi = true) :
    floatBits .sub .f64 hi lo = some (subB hi lo) ∧ floatBits .quo .f64 (subB hi lo) 4611686018427387904 = some (halfB (subB hi lo)) ∧
    floatBits .add .f64 lo (halfB (subB hi lo)) = some (midB lo hi) := by
  obtain ⟨a1, a2⟩ := sub_some (pt_lt hl) (pt_lt hh)
  obtain ⟨b1, b2⟩ := half_some a2
  exact ⟨a1, b1, (add_some (pt_lt hl) b2).1⟩

/-- what Point tells -/
def pointV (a : Nat) : Nat := if ptB a then a else 0
def pointE (a : Nat) : Int := if ptB a || decide (a = 9223372036854775808) then 0 else 1
/-- what Mid tells -/
def inB (lo hi x : Nat) : Bool := flt lo x && flt x hi
def midV (lo hi : Nat) : Nat := if ptB lo && ptB hi && flt lo hi && inB lo hi (midB lo hi) then midB lo hi else 0
def midE (lo hi : Nat) : Int := if ptB lo && ptB hi && flt lo hi then (if inB lo hi (midB lo hi) then 0 else 24) else 1
end Go.Proofs.Ytipacjbegfingaa.Fl
