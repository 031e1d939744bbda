-- made by a program of this repo (wip/patch_print.py); not trusted: Lean checks it
import Derived.Test.YtgpgoffnfdjhcaaPBlockWantsx0
import Derived.Test.YtgpgoffnfdjhcaaPBlockWantsx1
import Derived.Test.YtgpgoffnfdjhcaaPBlockWantsx2
import Derived.Test.YtgpgoffnfdjhcaaPBlockWantsx3
namespace Go.Proofs.Ytgpgoffnfdjhcaa.PBlockWants
open Go.RowKit Go.Proofs.YtgpgoffnfdjhcaaW.PrintWords Go.Proofs.YtgpgoffnfdjhcaaW.PrintLast Go.Proofs.YtgpgoffnfdjhcaaW.PrintMore
attribute [local go_sem] max2_int min2_int max_two min_two max_three min_three max_four min_four   -- for this text's walks alone
set_option linter.unusedVariables false
set_option linter.unusedSimpArgs false

/-! ### kotatsulaw05_BlockWants: function 4 -/
def kotatsulaw05_BlockWants.j0 : Nat → Bool → Option (Bool)
  | 0, _ => none
  | k + 1, x8 => some x8
def kotatsulaw05_BlockWants.f (k : Nat) (l0 : List (S48)) (a1 : Int) (a2 : Int) (a3 : Int) : Option (Bool) := (kotatsulaw05_awake.f k).bind fun t163 => (if t163 = true then ((kotatsulaw05_made.f k (⟨#[97]⟩ : ByteArray) 0 l0 a1).bind fun t164 => ((block_Want.f k t164).bind fun bt167 => ((some (([] : List (S43)) : List (S43))).bind fun y169 => (if y169.length + t164.length < 4398046511104 then ((some (y169 ++ t164 : List (S43))).bind fun y172 => (if 0 ≤ bt167.2 then (if (bt167.2 : Int).toNat ≤ 281474976710656 then ((some (([(⟨bt167.1, (List.replicate (bt167.2 : Int).toNat 0)⟩ : S43)] : List (S43)) : List (S43))).bind fun y178 => (if y172.length + y178.length < 4398046511104 then ((some (y172 ++ y178 : List (S43))).bind fun y181 => ((some (([] : List (S43)) : List (S43))).bind fun y184 => (if y184.length + t164.length < 4398046511104 then ((some (y184 ++ t164 : List (S43))).bind fun y187 => (if 0 ≤ a3 then (if (a3 : Int).toNat ≤ 281474976710656 then ((some (([(⟨a2, (List.replicate (a3 : Int).toNat 0)⟩ : S43)] : List (S43)) : List (S43))).bind fun y193 => (if y187.length + y193.length < 4398046511104 then ((some (y187 ++ y193 : List (S43))).bind fun y196 => ((block_Right.f k y181).bind fun t199 => (if t199 = true then ((block_Right.f k y196).bind fun t200 => (if a2 = bt167.1 then (if (t200 == ((wrap64 (a3)) == bt167.2)) = true then ((kotatsulaw05_own.f k y181).bind fun t201 => ((kotatsuref05_Right.f k t201).bind fun t204 => (if t204 = true then ((kotatsulaw05_own.f k y196).bind fun t205 => ((kotatsuref05_Right.f k t205).bind fun t208 => ((block_Right.f k y196).bind fun t209 => (kotatsulaw05_BlockWants.j0 k (t208 == t209))))) else (kotatsulaw05_BlockWants.j0 k false)))) else (kotatsulaw05_BlockWants.j0 k false)) else (if (t200 == false) = true then ((kotatsulaw05_own.f k y181).bind fun t210 => ((kotatsuref05_Right.f k t210).bind fun t213 => (if t213 = true then ((kotatsulaw05_own.f k y196).bind fun t214 => ((kotatsuref05_Right.f k t214).bind fun t217 => ((block_Right.f k y196).bind fun t218 => (kotatsulaw05_BlockWants.j0 k (t217 == t218))))) else (kotatsulaw05_BlockWants.j0 k false)))) else (kotatsulaw05_BlockWants.j0 k false)))) else (kotatsulaw05_BlockWants.j0 k false)))) else (none))) else (none)) else (none))) else (none)))) else (none))) else (none)) else (none))) else (none))))) else (some false))
theorem kotatsulaw05_BlockWants.mono_l : ∀ k, (∀ y0, LeO (kotatsulaw05_BlockWants.j0 k y0) (kotatsulaw05_BlockWants.j0 (k + 1) y0))
  | 0 => fun _ r h => by simp [kotatsulaw05_BlockWants.j0] at h
  | k + 1 => by
    have ih0 := kotatsulaw05_BlockWants.mono_l k
    · intro y0
      unfold kotatsulaw05_BlockWants.j0
      repeat' first
      | (with_reducible exact ih0 _)
      | (with_reducible exact block_Right.mono _ _)
      | (with_reducible exact block_Want.mono _ _)
      | (with_reducible exact kotatsulaw05_awake.mono _)
      | (with_reducible exact kotatsulaw05_made.mono _ _ _ _ _)
      | (with_reducible exact kotatsulaw05_own.mono _ _)
      | (with_reducible exact kotatsuref05_Right.mono _ _)
      | (with_reducible exact LeO.refl _)
      | (with_reducible exact LeO.none _)
      | (with_reducible refine LeO.ite ?_ ?_)
      | (with_reducible refine LeO.bind ?_ (fun _ => ?_))
      | exact ih0 _
      | exact block_Right.mono _ _
      | exact block_Want.mono _ _
      | exact kotatsulaw05_awake.mono _
      | exact kotatsulaw05_made.mono _ _ _ _ _
      | exact kotatsulaw05_own.mono _ _
      | exact kotatsuref05_Right.mono _ _
      | exact LeO.none _
      | refine LeO.ite ?_ ?_
      | refine LeO.bind ?_ (fun _ => ?_)
theorem kotatsulaw05_BlockWants.mono : ∀ a0 a1 a2 a3 k, LeO (kotatsulaw05_BlockWants.f k a0 a1 a2 a3) (kotatsulaw05_BlockWants.f (k + 1) a0 a1 a2 a3) := by
  intro a0 a1 a2 a3 k
  have ih0 := kotatsulaw05_BlockWants.mono_l k
  unfold kotatsulaw05_BlockWants.f
  repeat' first
      | (with_reducible exact ih0 _)
      | (with_reducible exact block_Right.mono _ _)
      | (with_reducible exact block_Want.mono _ _)
      | (with_reducible exact kotatsulaw05_awake.mono _)
      | (with_reducible exact kotatsulaw05_made.mono _ _ _ _ _)
      | (with_reducible exact kotatsulaw05_own.mono _ _)
      | (with_reducible exact kotatsuref05_Right.mono _ _)
      | (with_reducible exact LeO.refl _)
      | (with_reducible exact LeO.none _)
      | (with_reducible refine LeO.ite ?_ ?_)
      | (with_reducible refine LeO.bind ?_ (fun _ => ?_))
      | exact ih0 _
      | exact block_Right.mono _ _
      | exact block_Want.mono _ _
      | exact kotatsulaw05_awake.mono _
      | exact kotatsulaw05_made.mono _ _ _ _ _
      | exact kotatsulaw05_own.mono _ _
      | exact kotatsuref05_Right.mono _ _
      | exact LeO.none _
      | refine LeO.ite ?_ ?_
      | refine LeO.bind ?_ (fun _ => ?_)
def kotatsulaw05_BlockWants.T5 : Bool × List (List Nat × List Nat) := (true, [([], []), ([], []), ([0, 1], [0, 1]), ([], []), ([], []), ([4, 4], [4]), ([3, 5], [3, 5]), ([6], [6]), ([2, 7, 2], [2, 7]), ([8, 8, 0, 1, 2, 3, 4, 5, 6, 7, 8], [8])])
def kotatsulaw05_BlockWants.B5 : List Nat := [0, 0, 3, 0, 0, 16, 56, 120, 255, 511]
theorem kotatsulaw05_BlockWants.tab5 : rtab .any (opsOf Try.f4 5) = kotatsulaw05_BlockWants.T5 := by kernel_rfl
theorem kotatsulaw05_BlockWants.bits5 : waitsOk kotatsulaw05_BlockWants.T5.2 kotatsulaw05_BlockWants.B5 = true := by kernel_rfl
def kotatsulaw05_BlockWants.T6 : Bool × List (List Nat × List Nat) := (true, [([], []), ([], []), ([0, 1], [0, 1]), ([], []), ([], []), ([4, 4], [4]), ([3, 5], [3, 5]), ([6], [6]), ([2, 7, 2], [2, 7]), ([8, 8, 0, 1, 2, 3, 4, 5, 6, 7, 8], [8])])
def kotatsulaw05_BlockWants.B6 : List Nat := [0, 0, 3, 0, 0, 16, 56, 120, 255, 511]
theorem kotatsulaw05_BlockWants.tab6 : rtab .any (opsOf Try.f4 6) = kotatsulaw05_BlockWants.T6 := by kernel_rfl
theorem kotatsulaw05_BlockWants.bits6 : waitsOk kotatsulaw05_BlockWants.T6.2 kotatsulaw05_BlockWants.B6 = true := by kernel_rfl
set_option maxHeartbeats 8000000 in
set_option maxRecDepth 100000 in
theorem kotatsulaw05_BlockWants.calls (k : Nat) (A0 : Option Addr) (c0 : Nat) (l0 : List (S48)) (a1 : Int) (a2 : Int) (a3 : Int) (r : Bool) (w : World) (hr0 : Kd.C k48 w A0 l0.length l0) (hc0 : l0.length ≤ c0) (h : kotatsulaw05_BlockWants.f k l0 a1 a2 a3 = some r) :
    Calls Try.prog 4 #[.slice A0 l0.length c0, .int .u8 a1, .int .u8 a2, .int .u8 a3] w fun e w' => e = .returned (.bool r) ∧ Below w.heap.size w w' := by
  have hu43 := Try.underlying43
  have HR0 := Aside0.mk hr0
  have HC0 := Aside0.mk hc0
  clear hr0 hc0
  have HB := Aside0.mk (Below.refl w.heap.size w)
  have H : ((kotatsulaw05_awake.f k).bind fun t163 => (if t163 = true then ((kotatsulaw05_made.f k (⟨#[97]⟩ : ByteArray) 0 l0 a1).bind fun t164 => ((block_Want.f k t164).bind fun bt167 => ((some (([] : List (S43)) : List (S43))).bind fun y169 => (if y169.length + t164.length < 4398046511104 then ((some (y169 ++ t164 : List (S43))).bind fun y172 => (if 0 ≤ bt167.2 then (if (bt167.2 : Int).toNat ≤ 281474976710656 then ((some (([(⟨bt167.1, (List.replicate (bt167.2 : Int).toNat 0)⟩ : S43)] : List (S43)) : List (S43))).bind fun y178 => (if y172.length + y178.length < 4398046511104 then ((some (y172 ++ y178 : List (S43))).bind fun y181 => ((some (([] : List (S43)) : List (S43))).bind fun y184 => (if y184.length + t164.length < 4398046511104 then ((some (y184 ++ t164 : List (S43))).bind fun y187 => (if 0 ≤ a3 then (if (a3 : Int).toNat ≤ 281474976710656 then ((some (([(⟨a2, (List.replicate (a3 : Int).toNat 0)⟩ : S43)] : List (S43)) : List (S43))).bind fun y193 => (if y187.length + y193.length < 4398046511104 then ((some (y187 ++ y193 : List (S43))).bind fun y196 => ((block_Right.f k y181).bind fun t199 => (if t199 = true then ((block_Right.f k y196).bind fun t200 => (if a2 = bt167.1 then (if (t200 == ((wrap64 (a3)) == bt167.2)) = true then ((kotatsulaw05_own.f k y181).bind fun t201 => ((kotatsuref05_Right.f k t201).bind fun t204 => (if t204 = true then ((kotatsulaw05_own.f k y196).bind fun t205 => ((kotatsuref05_Right.f k t205).bind fun t208 => ((block_Right.f k y196).bind fun t209 => (kotatsulaw05_BlockWants.j0 k (t208 == t209))))) else (kotatsulaw05_BlockWants.j0 k false)))) else (kotatsulaw05_BlockWants.j0 k false)) else (if (t200 == false) = true then ((kotatsulaw05_own.f k y181).bind fun t210 => ((kotatsuref05_Right.f k t210).bind fun t213 => (if t213 = true then ((kotatsulaw05_own.f k y196).bind fun t214 => ((kotatsuref05_Right.f k t214).bind fun t217 => ((block_Right.f k y196).bind fun t218 => (kotatsulaw05_BlockWants.j0 k (t217 == t218))))) else (kotatsulaw05_BlockWants.j0 k false)))) else (kotatsulaw05_BlockWants.j0 k false)))) else (kotatsulaw05_BlockWants.j0 k false)))) else (none))) else (none)) else (none))) else (none)))) else (none))) else (none)) else (none))) else (none))))) else (some false))) = some r := h
  clear h
  replace H := Option.bind_eq_some_iff.mp H
  obtain ⟨t163, A50, H⟩ := H
  replace H : (if t163 = true then ((kotatsulaw05_made.f k (⟨#[97]⟩ : ByteArray) 0 l0 a1).bind fun t164 => ((block_Want.f k t164).bind fun bt167 => ((some (([] : List (S43)) : List (S43))).bind fun y169 => (if y169.length + t164.length < 4398046511104 then ((some (y169 ++ t164 : List (S43))).bind fun y172 => (if 0 ≤ bt167.2 then (if (bt167.2 : Int).toNat ≤ 281474976710656 then ((some (([(⟨bt167.1, (List.replicate (bt167.2 : Int).toNat 0)⟩ : S43)] : List (S43)) : List (S43))).bind fun y178 => (if y172.length + y178.length < 4398046511104 then ((some (y172 ++ y178 : List (S43))).bind fun y181 => ((some (([] : List (S43)) : List (S43))).bind fun y184 => (if y184.length + t164.length < 4398046511104 then ((some (y184 ++ t164 : List (S43))).bind fun y187 => (if 0 ≤ a3 then (if (a3 : Int).toNat ≤ 281474976710656 then ((some (([(⟨a2, (List.replicate (a3 : Int).toNat 0)⟩ : S43)] : List (S43)) : List (S43))).bind fun y193 => (if y187.length + y193.length < 4398046511104 then ((some (y187 ++ y193 : List (S43))).bind fun y196 => ((block_Right.f k y181).bind fun t199 => (if t199 = true then ((block_Right.f k y196).bind fun t200 => (if a2 = bt167.1 then (if (t200 == ((wrap64 (a3)) == bt167.2)) = true then ((kotatsulaw05_own.f k y181).bind fun t201 => ((kotatsuref05_Right.f k t201).bind fun t204 => (if t204 = true then ((kotatsulaw05_own.f k y196).bind fun t205 => ((kotatsuref05_Right.f k t205).bind fun t208 => ((block_Right.f k y196).bind fun t209 => (kotatsulaw05_BlockWants.j0 k (t208 == t209))))) else (kotatsulaw05_BlockWants.j0 k false)))) else (kotatsulaw05_BlockWants.j0 k false)) else (if (t200 == false) = true then ((kotatsulaw05_own.f k y181).bind fun t210 => ((kotatsuref05_Right.f k t210).bind fun t213 => (if t213 = true then ((kotatsulaw05_own.f k y196).bind fun t214 => ((kotatsuref05_Right.f k t214).bind fun t217 => ((block_Right.f k y196).bind fun t218 => (kotatsulaw05_BlockWants.j0 k (t217 == t218))))) else (kotatsulaw05_BlockWants.j0 k false)))) else (kotatsulaw05_BlockWants.j0 k false)))) else (kotatsulaw05_BlockWants.j0 k false)))) else (none))) else (none)) else (none))) else (none)))) else (none))) else (none)) else (none))) else (none))))) else (some false)) = some r := H
  have A5 := Aside0.mk A50
  clear A50
  by_cases c6 : t163 = true
  · subst c6
    have H1 : ((kotatsulaw05_made.f k (⟨#[97]⟩ : ByteArray) 0 l0 a1).bind fun t164 => ((block_Want.f k t164).bind fun bt167 => ((some (([] : List (S43)) : List (S43))).bind fun y169 => (if y169.length + t164.length < 4398046511104 then ((some (y169 ++ t164 : List (S43))).bind fun y172 => (if 0 ≤ bt167.2 then (if (bt167.2 : Int).toNat ≤ 281474976710656 then ((some (([(⟨bt167.1, (List.replicate (bt167.2 : Int).toNat 0)⟩ : S43)] : List (S43)) : List (S43))).bind fun y178 => (if y172.length + y178.length < 4398046511104 then ((some (y172 ++ y178 : List (S43))).bind fun y181 => ((some (([] : List (S43)) : List (S43))).bind fun y184 => (if y184.length + t164.length < 4398046511104 then ((some (y184 ++ t164 : List (S43))).bind fun y187 => (if 0 ≤ a3 then (if (a3 : Int).toNat ≤ 281474976710656 then ((some (([(⟨a2, (List.replicate (a3 : Int).toNat 0)⟩ : S43)] : List (S43)) : List (S43))).bind fun y193 => (if y187.length + y193.length < 4398046511104 then ((some (y187 ++ y193 : List (S43))).bind fun y196 => ((block_Right.f k y181).bind fun t199 => (if t199 = true then ((block_Right.f k y196).bind fun t200 => (if a2 = bt167.1 then (if (t200 == ((wrap64 (a3)) == bt167.2)) = true then ((kotatsulaw05_own.f k y181).bind fun t201 => ((kotatsuref05_Right.f k t201).bind fun t204 => (if t204 = true then ((kotatsulaw05_own.f k y196).bind fun t205 => ((kotatsuref05_Right.f k t205).bind fun t208 => ((block_Right.f k y196).bind fun t209 => (kotatsulaw05_BlockWants.j0 k (t208 == t209))))) else (kotatsulaw05_BlockWants.j0 k false)))) else (kotatsulaw05_BlockWants.j0 k false)) else (if (t200 == false) = true then ((kotatsulaw05_own.f k y181).bind fun t210 => ((kotatsuref05_Right.f k t210).bind fun t213 => (if t213 = true then ((kotatsulaw05_own.f k y196).bind fun t214 => ((kotatsuref05_Right.f k t214).bind fun t217 => ((block_Right.f k y196).bind fun t218 => (kotatsulaw05_BlockWants.j0 k (t217 == t218))))) else (kotatsulaw05_BlockWants.j0 k false)))) else (kotatsulaw05_BlockWants.j0 k false)))) else (kotatsulaw05_BlockWants.j0 k false)))) else (none))) else (none)) else (none))) else (none)))) else (none))) else (none)) else (none))) else (none))))) = some r := by rw [if_pos rfl] at H; exact H
    clear H
    have H := H1
    clear H1
    replace H := Option.bind_eq_some_iff.mp H
    obtain ⟨t164, A70, H⟩ := H
    replace H : ((block_Want.f k t164).bind fun bt167 => ((some (([] : List (S43)) : List (S43))).bind fun y169 => (if y169.length + t164.length < 4398046511104 then ((some (y169 ++ t164 : List (S43))).bind fun y172 => (if 0 ≤ bt167.2 then (if (bt167.2 : Int).toNat ≤ 281474976710656 then ((some (([(⟨bt167.1, (List.replicate (bt167.2 : Int).toNat 0)⟩ : S43)] : List (S43)) : List (S43))).bind fun y178 => (if y172.length + y178.length < 4398046511104 then ((some (y172 ++ y178 : List (S43))).bind fun y181 => ((some (([] : List (S43)) : List (S43))).bind fun y184 => (if y184.length + t164.length < 4398046511104 then ((some (y184 ++ t164 : List (S43))).bind fun y187 => (if 0 ≤ a3 then (if (a3 : Int).toNat ≤ 281474976710656 then ((some (([(⟨a2, (List.replicate (a3 : Int).toNat 0)⟩ : S43)] : List (S43)) : List (S43))).bind fun y193 => (if y187.length + y193.length < 4398046511104 then ((some (y187 ++ y193 : List (S43))).bind fun y196 => ((block_Right.f k y181).bind fun t199 => (if t199 = true then ((block_Right.f k y196).bind fun t200 => (if a2 = bt167.1 then (if (t200 == ((wrap64 (a3)) == bt167.2)) = true then ((kotatsulaw05_own.f k y181).bind fun t201 => ((kotatsuref05_Right.f k t201).bind fun t204 => (if t204 = true then ((kotatsulaw05_own.f k y196).bind fun t205 => ((kotatsuref05_Right.f k t205).bind fun t208 => ((block_Right.f k y196).bind fun t209 => (kotatsulaw05_BlockWants.j0 k (t208 == t209))))) else (kotatsulaw05_BlockWants.j0 k false)))) else (kotatsulaw05_BlockWants.j0 k false)) else (if (t200 == false) = true then ((kotatsulaw05_own.f k y181).bind fun t210 => ((kotatsuref05_Right.f k t210).bind fun t213 => (if t213 = true then ((kotatsulaw05_own.f k y196).bind fun t214 => ((kotatsuref05_Right.f k t214).bind fun t217 => ((block_Right.f k y196).bind fun t218 => (kotatsulaw05_BlockWants.j0 k (t217 == t218))))) else (kotatsulaw05_BlockWants.j0 k false)))) else (kotatsulaw05_BlockWants.j0 k false)))) else (kotatsulaw05_BlockWants.j0 k false)))) else (none))) else (none)) else (none))) else (none)))) else (none))) else (none)) else (none))) else (none)))) = some r := H
    have A7 := Aside0.mk A70
    clear A70
    replace H := Option.bind_eq_some_iff.mp H
    obtain ⟨⟨t167, t168⟩, A80, H⟩ := H
    replace H : ((some (([] : List (S43)) : List (S43))).bind fun y169 => (if y169.length + t164.length < 4398046511104 then ((some (y169 ++ t164 : List (S43))).bind fun y172 => (if 0 ≤ t168 then (if (t168 : Int).toNat ≤ 281474976710656 then ((some (([(⟨t167, (List.replicate (t168 : Int).toNat 0)⟩ : S43)] : List (S43)) : List (S43))).bind fun y178 => (if y172.length + y178.length < 4398046511104 then ((some (y172 ++ y178 : List (S43))).bind fun y181 => ((some (([] : List (S43)) : List (S43))).bind fun y184 => (if y184.length + t164.length < 4398046511104 then ((some (y184 ++ t164 : List (S43))).bind fun y187 => (if 0 ≤ a3 then (if (a3 : Int).toNat ≤ 281474976710656 then ((some (([(⟨a2, (List.replicate (a3 : Int).toNat 0)⟩ : S43)] : List (S43)) : List (S43))).bind fun y193 => (if y187.length + y193.length < 4398046511104 then ((some (y187 ++ y193 : List (S43))).bind fun y196 => ((block_Right.f k y181).bind fun t199 => (if t199 = true then ((block_Right.f k y196).bind fun t200 => (if a2 = t167 then (if (t200 == ((wrap64 (a3)) == t168)) = true then ((kotatsulaw05_own.f k y181).bind fun t201 => ((kotatsuref05_Right.f k t201).bind fun t204 => (if t204 = true then ((kotatsulaw05_own.f k y196).bind fun t205 => ((kotatsuref05_Right.f k t205).bind fun t208 => ((block_Right.f k y196).bind fun t209 => (kotatsulaw05_BlockWants.j0 k (t208 == t209))))) else (kotatsulaw05_BlockWants.j0 k false)))) else (kotatsulaw05_BlockWants.j0 k false)) else (if (t200 == false) = true then ((kotatsulaw05_own.f k y181).bind fun t210 => ((kotatsuref05_Right.f k t210).bind fun t213 => (if t213 = true then ((kotatsulaw05_own.f k y196).bind fun t214 => ((kotatsuref05_Right.f k t214).bind fun t217 => ((block_Right.f k y196).bind fun t218 => (kotatsulaw05_BlockWants.j0 k (t217 == t218))))) else (kotatsulaw05_BlockWants.j0 k false)))) else (kotatsulaw05_BlockWants.j0 k false)))) else (kotatsulaw05_BlockWants.j0 k false)))) else (none))) else (none)) else (none))) else (none)))) else (none))) else (none)) else (none))) else (none))) = some r := H
    have A8 := Aside0.mk A80
    clear A80
    obtain ⟨y169, hy169⟩ : ∃ y_ : List (S43), y_ = (([] : List (S43))) := ⟨_, rfl⟩
    replace H : (if y169.length + t164.length < 4398046511104 then ((some (y169 ++ t164 : List (S43))).bind fun y172 => (if 0 ≤ t168 then (if (t168 : Int).toNat ≤ 281474976710656 then ((some (([(⟨t167, (List.replicate (t168 : Int).toNat 0)⟩ : S43)] : List (S43)) : List (S43))).bind fun y178 => (if y172.length + y178.length < 4398046511104 then ((some (y172 ++ y178 : List (S43))).bind fun y181 => ((some (([] : List (S43)) : List (S43))).bind fun y184 => (if y184.length + t164.length < 4398046511104 then ((some (y184 ++ t164 : List (S43))).bind fun y187 => (if 0 ≤ a3 then (if (a3 : Int).toNat ≤ 281474976710656 then ((some (([(⟨a2, (List.replicate (a3 : Int).toNat 0)⟩ : S43)] : List (S43)) : List (S43))).bind fun y193 => (if y187.length + y193.length < 4398046511104 then ((some (y187 ++ y193 : List (S43))).bind fun y196 => ((block_Right.f k y181).bind fun t199 => (if t199 = true then ((block_Right.f k y196).bind fun t200 => (if a2 = t167 then (if (t200 == ((wrap64 (a3)) == t168)) = true then ((kotatsulaw05_own.f k y181).bind fun t201 => ((kotatsuref05_Right.f k t201).bind fun t204 => (if t204 = true then ((kotatsulaw05_own.f k y196).bind fun t205 => ((kotatsuref05_Right.f k t205).bind fun t208 => ((block_Right.f k y196).bind fun t209 => (kotatsulaw05_BlockWants.j0 k (t208 == t209))))) else (kotatsulaw05_BlockWants.j0 k false)))) else (kotatsulaw05_BlockWants.j0 k false)) else (if (t200 == false) = true then ((kotatsulaw05_own.f k y181).bind fun t210 => ((kotatsuref05_Right.f k t210).bind fun t213 => (if t213 = true then ((kotatsulaw05_own.f k y196).bind fun t214 => ((kotatsuref05_Right.f k t214).bind fun t217 => ((block_Right.f k y196).bind fun t218 => (kotatsulaw05_BlockWants.j0 k (t217 == t218))))) else (kotatsulaw05_BlockWants.j0 k false)))) else (kotatsulaw05_BlockWants.j0 k false)))) else (kotatsulaw05_BlockWants.j0 k false)))) else (none))) else (none)) else (none))) else (none)))) else (none))) else (none)) else (none))) else (none)) = some r := by first | (rw [hy169]; with_reducible exact H) | (have H2_ := (Option.bind_some _ _).symm.trans H; rw [hy169]; with_reducible exact H2_) | (have H2_ := (Option.bind_some _ _).symm.trans H; with_reducible exact H2_) | with_reducible exact H | (rw [hy169]; exact H) | exact H
    have Ny169 := Aside0.mk hy169
    clear hy169
    by_cases c9 : y169.length + t164.length < 4398046511104
    · rw [if_pos c9] at H
      have LMc9 := Aside0.mk c9
      clear c9
      obtain ⟨y172, hy172⟩ : ∃ y_ : List (S43), y_ = (y169 ++ t164) := ⟨_, rfl⟩
      replace H : (if 0 ≤ t168 then (if (t168 : Int).toNat ≤ 281474976710656 then ((some (([(⟨t167, (List.replicate (t168 : Int).toNat 0)⟩ : S43)] : List (S43)) : List (S43))).bind fun y178 => (if y172.length + y178.length < 4398046511104 then ((some (y172 ++ y178 : List (S43))).bind fun y181 => ((some (([] : List (S43)) : List (S43))).bind fun y184 => (if y184.length + t164.length < 4398046511104 then ((some (y184 ++ t164 : List (S43))).bind fun y187 => (if 0 ≤ a3 then (if (a3 : Int).toNat ≤ 281474976710656 then ((some (([(⟨a2, (List.replicate (a3 : Int).toNat 0)⟩ : S43)] : List (S43)) : List (S43))).bind fun y193 => (if y187.length + y193.length < 4398046511104 then ((some (y187 ++ y193 : List (S43))).bind fun y196 => ((block_Right.f k y181).bind fun t199 => (if t199 = true then ((block_Right.f k y196).bind fun t200 => (if a2 = t167 then (if (t200 == ((wrap64 (a3)) == t168)) = true then ((kotatsulaw05_own.f k y181).bind fun t201 => ((kotatsuref05_Right.f k t201).bind fun t204 => (if t204 = true then ((kotatsulaw05_own.f k y196).bind fun t205 => ((kotatsuref05_Right.f k t205).bind fun t208 => ((block_Right.f k y196).bind fun t209 => (kotatsulaw05_BlockWants.j0 k (t208 == t209))))) else (kotatsulaw05_BlockWants.j0 k false)))) else (kotatsulaw05_BlockWants.j0 k false)) else (if (t200 == false) = true then ((kotatsulaw05_own.f k y181).bind fun t210 => ((kotatsuref05_Right.f k t210).bind fun t213 => (if t213 = true then ((kotatsulaw05_own.f k y196).bind fun t214 => ((kotatsuref05_Right.f k t214).bind fun t217 => ((block_Right.f k y196).bind fun t218 => (kotatsulaw05_BlockWants.j0 k (t217 == t218))))) else (kotatsulaw05_BlockWants.j0 k false)))) else (kotatsulaw05_BlockWants.j0 k false)))) else (kotatsulaw05_BlockWants.j0 k false)))) else (none))) else (none)) else (none))) else (none)))) else (none))) else (none)) else (none)) = some r := by first | (rw [hy172]; with_reducible exact H) | (have H2_ := (Option.bind_some _ _).symm.trans H; rw [hy172]; with_reducible exact H2_) | (have H2_ := (Option.bind_some _ _).symm.trans H; with_reducible exact H2_) | with_reducible exact H | (rw [hy172]; exact H) | exact H
      have Ny172 := Aside0.mk hy172
      clear hy172
      by_cases c10 : 0 ≤ t168
      · rw [if_pos c10] at H
        have c10b0 := eq_true c10
        have c10b1 : decide (0 ≤ t168) = true := decide_eq_true c10
        clear c10
        by_cases c11 : (t168 : Int).toNat ≤ 281474976710656
        · rw [if_pos c11] at H
          have c11b0 := eq_true c11
          have c11b1 : decide ((t168 : Int).toNat ≤ 281474976710656) = true := decide_eq_true c11
          clear c11
          obtain ⟨y175, hy175⟩ : ∃ y_ : List Int, y_ = (List.replicate (t168 : Int).toNat 0) := ⟨_, rfl⟩
          replace H : ((some (([(⟨t167, y175⟩ : S43)] : List (S43)) : List (S43))).bind fun y178 => (if y172.length + y178.length < 4398046511104 then ((some (y172 ++ y178 : List (S43))).bind fun y181 => ((some (([] : List (S43)) : List (S43))).bind fun y184 => (if y184.length + t164.length < 4398046511104 then ((some (y184 ++ t164 : List (S43))).bind fun y187 => (if 0 ≤ a3 then (if (a3 : Int).toNat ≤ 281474976710656 then ((some (([(⟨a2, (List.replicate (a3 : Int).toNat 0)⟩ : S43)] : List (S43)) : List (S43))).bind fun y193 => (if y187.length + y193.length < 4398046511104 then ((some (y187 ++ y193 : List (S43))).bind fun y196 => ((block_Right.f k y181).bind fun t199 => (if t199 = true then ((block_Right.f k y196).bind fun t200 => (if a2 = t167 then (if (t200 == ((wrap64 (a3)) == t168)) = true then ((kotatsulaw05_own.f k y181).bind fun t201 => ((kotatsuref05_Right.f k t201).bind fun t204 => (if t204 = true then ((kotatsulaw05_own.f k y196).bind fun t205 => ((kotatsuref05_Right.f k t205).bind fun t208 => ((block_Right.f k y196).bind fun t209 => (kotatsulaw05_BlockWants.j0 k (t208 == t209))))) else (kotatsulaw05_BlockWants.j0 k false)))) else (kotatsulaw05_BlockWants.j0 k false)) else (if (t200 == false) = true then ((kotatsulaw05_own.f k y181).bind fun t210 => ((kotatsuref05_Right.f k t210).bind fun t213 => (if t213 = true then ((kotatsulaw05_own.f k y196).bind fun t214 => ((kotatsuref05_Right.f k t214).bind fun t217 => ((block_Right.f k y196).bind fun t218 => (kotatsulaw05_BlockWants.j0 k (t217 == t218))))) else (kotatsulaw05_BlockWants.j0 k false)))) else (kotatsulaw05_BlockWants.j0 k false)))) else (kotatsulaw05_BlockWants.j0 k false)))) else (none))) else (none)) else (none))) else (none)))) else (none))) = some r := by first | (rw [hy175]; with_reducible exact H) | (have H2_ := (Option.bind_some _ _).symm.trans H; rw [hy175]; with_reducible exact H2_) | (have H2_ := (Option.bind_some _ _).symm.trans H; with_reducible exact H2_) | with_reducible exact H | (rw [hy175]; exact H) | exact H
          have Ny175 := Aside0.mk hy175
          clear hy175
          obtain ⟨y178, hy178⟩ : ∃ y_ : List (S43), y_ = (([(⟨t167, y175⟩ : S43)] : List (S43))) := ⟨_, rfl⟩
          replace H : (if y172.length + y178.length < 4398046511104 then ((some (y172 ++ y178 : List (S43))).bind fun y181 => ((some (([] : List (S43)) : List (S43))).bind fun y184 => (if y184.length + t164.length < 4398046511104 then ((some (y184 ++ t164 : List (S43))).bind fun y187 => (if 0 ≤ a3 then (if (a3 : Int).toNat ≤ 281474976710656 then ((some (([(⟨a2, (List.replicate (a3 : Int).toNat 0)⟩ : S43)] : List (S43)) : List (S43))).bind fun y193 => (if y187.length + y193.length < 4398046511104 then ((some (y187 ++ y193 : List (S43))).bind fun y196 => ((block_Right.f k y181).bind fun t199 => (if t199 = true then ((block_Right.f k y196).bind fun t200 => (if a2 = t167 then (if (t200 == ((wrap64 (a3)) == t168)) = true then ((kotatsulaw05_own.f k y181).bind fun t201 => ((kotatsuref05_Right.f k t201).bind fun t204 => (if t204 = true then ((kotatsulaw05_own.f k y196).bind fun t205 => ((kotatsuref05_Right.f k t205).bind fun t208 => ((block_Right.f k y196).bind fun t209 => (kotatsulaw05_BlockWants.j0 k (t208 == t209))))) else (kotatsulaw05_BlockWants.j0 k false)))) else (kotatsulaw05_BlockWants.j0 k false)) else (if (t200 == false) = true then ((kotatsulaw05_own.f k y181).bind fun t210 => ((kotatsuref05_Right.f k t210).bind fun t213 => (if t213 = true then ((kotatsulaw05_own.f k y196).bind fun t214 => ((kotatsuref05_Right.f k t214).bind fun t217 => ((block_Right.f k y196).bind fun t218 => (kotatsulaw05_BlockWants.j0 k (t217 == t218))))) else (kotatsulaw05_BlockWants.j0 k false)))) else (kotatsulaw05_BlockWants.j0 k false)))) else (kotatsulaw05_BlockWants.j0 k false)))) else (none))) else (none)) else (none))) else (none)))) else (none)) = some r := by first | (rw [hy178]; with_reducible exact H) | (have H2_ := (Option.bind_some _ _).symm.trans H; rw [hy178]; with_reducible exact H2_) | (have H2_ := (Option.bind_some _ _).symm.trans H; with_reducible exact H2_) | with_reducible exact H | (rw [hy178]; exact H) | exact H
          have Ny178 := Aside0.mk hy178
          clear hy178
          by_cases c12 : y172.length + y178.length < 4398046511104
          · rw [if_pos c12] at H
            have LMc12 := Aside0.mk c12
            clear c12
            obtain ⟨y181, hy181⟩ : ∃ y_ : List (S43), y_ = (y172 ++ y178) := ⟨_, rfl⟩
            replace H : ((some (([] : List (S43)) : List (S43))).bind fun y184 => (if y184.length + t164.length < 4398046511104 then ((some (y184 ++ t164 : List (S43))).bind fun y187 => (if 0 ≤ a3 then (if (a3 : Int).toNat ≤ 281474976710656 then ((some (([(⟨a2, (List.replicate (a3 : Int).toNat 0)⟩ : S43)] : List (S43)) : List (S43))).bind fun y193 => (if y187.length + y193.length < 4398046511104 then ((some (y187 ++ y193 : List (S43))).bind fun y196 => ((block_Right.f k y181).bind fun t199 => (if t199 = true then ((block_Right.f k y196).bind fun t200 => (if a2 = t167 then (if (t200 == ((wrap64 (a3)) == t168)) = true then ((kotatsulaw05_own.f k y181).bind fun t201 => ((kotatsuref05_Right.f k t201).bind fun t204 => (if t204 = true then ((kotatsulaw05_own.f k y196).bind fun t205 => ((kotatsuref05_Right.f k t205).bind fun t208 => ((block_Right.f k y196).bind fun t209 => (kotatsulaw05_BlockWants.j0 k (t208 == t209))))) else (kotatsulaw05_BlockWants.j0 k false)))) else (kotatsulaw05_BlockWants.j0 k false)) else (if (t200 == false) = true then ((kotatsulaw05_own.f k y181).bind fun t210 => ((kotatsuref05_Right.f k t210).bind fun t213 => (if t213 = true then ((kotatsulaw05_own.f k y196).bind fun t214 => ((kotatsuref05_Right.f k t214).bind fun t217 => ((block_Right.f k y196).bind fun t218 => (kotatsulaw05_BlockWants.j0 k (t217 == t218))))) else (kotatsulaw05_BlockWants.j0 k false)))) else (kotatsulaw05_BlockWants.j0 k false)))) else (kotatsulaw05_BlockWants.j0 k false)))) else (none))) else (none)) else (none))) else (none))) = some r := by first | (rw [hy181]; with_reducible exact H) | (have H2_ := (Option.bind_some _ _).symm.trans H; rw [hy181]; with_reducible exact H2_) | (have H2_ := (Option.bind_some _ _).symm.trans H; with_reducible exact H2_) | with_reducible exact H | (rw [hy181]; exact H) | exact H
            have Ny181 := Aside0.mk hy181
            clear hy181
            obtain ⟨y184, hy184⟩ : ∃ y_ : List (S43), y_ = (([] : List (S43))) := ⟨_, rfl⟩
            replace H : (if y184.length + t164.length < 4398046511104 then ((some (y184 ++ t164 : List (S43))).bind fun y187 => (if 0 ≤ a3 then (if (a3 : Int).toNat ≤ 281474976710656 then ((some (([(⟨a2, (List.replicate (a3 : Int).toNat 0)⟩ : S43)] : List (S43)) : List (S43))).bind fun y193 => (if y187.length + y193.length < 4398046511104 then ((some (y187 ++ y193 : List (S43))).bind fun y196 => ((block_Right.f k y181).bind fun t199 => (if t199 = true then ((block_Right.f k y196).bind fun t200 => (if a2 = t167 then (if (t200 == ((wrap64 (a3)) == t168)) = true then ((kotatsulaw05_own.f k y181).bind fun t201 => ((kotatsuref05_Right.f k t201).bind fun t204 => (if t204 = true then ((kotatsulaw05_own.f k y196).bind fun t205 => ((kotatsuref05_Right.f k t205).bind fun t208 => ((block_Right.f k y196).bind fun t209 => (kotatsulaw05_BlockWants.j0 k (t208 == t209))))) else (kotatsulaw05_BlockWants.j0 k false)))) else (kotatsulaw05_BlockWants.j0 k false)) else (if (t200 == false) = true then ((kotatsulaw05_own.f k y181).bind fun t210 => ((kotatsuref05_Right.f k t210).bind fun t213 => (if t213 = true then ((kotatsulaw05_own.f k y196).bind fun t214 => ((kotatsuref05_Right.f k t214).bind fun t217 => ((block_Right.f k y196).bind fun t218 => (kotatsulaw05_BlockWants.j0 k (t217 == t218))))) else (kotatsulaw05_BlockWants.j0 k false)))) else (kotatsulaw05_BlockWants.j0 k false)))) else (kotatsulaw05_BlockWants.j0 k false)))) else (none))) else (none)) else (none))) else (none)) = some r := by first | (rw [hy184]; with_reducible exact H) | (have H2_ := (Option.bind_some _ _).symm.trans H; rw [hy184]; with_reducible exact H2_) | (have H2_ := (Option.bind_some _ _).symm.trans H; with_reducible exact H2_) | with_reducible exact H | (rw [hy184]; exact H) | exact H
            have Ny184 := Aside0.mk hy184
            clear hy184
            by_cases c13 : y184.length + t164.length < 4398046511104
            · rw [if_pos c13] at H
              have LMc13 := Aside0.mk c13
              clear c13
              obtain ⟨y187, hy187⟩ : ∃ y_ : List (S43), y_ = (y184 ++ t164) := ⟨_, rfl⟩
              replace H : (if 0 ≤ a3 then (if (a3 : Int).toNat ≤ 281474976710656 then ((some (([(⟨a2, (List.replicate (a3 : Int).toNat 0)⟩ : S43)] : List (S43)) : List (S43))).bind fun y193 => (if y187.length + y193.length < 4398046511104 then ((some (y187 ++ y193 : List (S43))).bind fun y196 => ((block_Right.f k y181).bind fun t199 => (if t199 = true then ((block_Right.f k y196).bind fun t200 => (if a2 = t167 then (if (t200 == ((wrap64 (a3)) == t168)) = true then ((kotatsulaw05_own.f k y181).bind fun t201 => ((kotatsuref05_Right.f k t201).bind fun t204 => (if t204 = true then ((kotatsulaw05_own.f k y196).bind fun t205 => ((kotatsuref05_Right.f k t205).bind fun t208 => ((block_Right.f k y196).bind fun t209 => (kotatsulaw05_BlockWants.j0 k (t208 == t209))))) else (kotatsulaw05_BlockWants.j0 k false)))) else (kotatsulaw05_BlockWants.j0 k false)) else (if (t200 == false) = true then ((kotatsulaw05_own.f k y181).bind fun t210 => ((kotatsuref05_Right.f k t210).bind fun t213 => (if t213 = true then ((kotatsulaw05_own.f k y196).bind fun t214 => ((kotatsuref05_Right.f k t214).bind fun t217 => ((block_Right.f k y196).bind fun t218 => (kotatsulaw05_BlockWants.j0 k (t217 == t218))))) else (kotatsulaw05_BlockWants.j0 k false)))) else (kotatsulaw05_BlockWants.j0 k false)))) else (kotatsulaw05_BlockWants.j0 k false)))) else (none))) else (none)) else (none)) = some r := by first | (rw [hy187]; with_reducible exact H) | (have H2_ := (Option.bind_some _ _).symm.trans H; rw [hy187]; with_reducible exact H2_) | (have H2_ := (Option.bind_some _ _).symm.trans H; with_reducible exact H2_) | with_reducible exact H | (rw [hy187]; exact H) | exact H
              have Ny187 := Aside0.mk hy187
              clear hy187
              by_cases c14 : 0 ≤ a3
              · rw [if_pos c14] at H
                have c14b0 : decide (0 ≤ a3) = true := decide_eq_true c14
                clear c14
                by_cases c15 : (a3 : Int).toNat ≤ 281474976710656
                · rw [if_pos c15] at H
                  have c15b0 := eq_true c15
                  have c15b1 : decide ((a3 : Int).toNat ≤ 281474976710656) = true := decide_eq_true c15
                  clear c15
                  obtain ⟨y190, hy190⟩ : ∃ y_ : List Int, y_ = (List.replicate (a3 : Int).toNat 0) := ⟨_, rfl⟩
                  replace H : ((some (([(⟨a2, y190⟩ : S43)] : List (S43)) : List (S43))).bind fun y193 => (if y187.length + y193.length < 4398046511104 then ((some (y187 ++ y193 : List (S43))).bind fun y196 => ((block_Right.f k y181).bind fun t199 => (if t199 = true then ((block_Right.f k y196).bind fun t200 => (if a2 = t167 then (if (t200 == ((wrap64 (a3)) == t168)) = true then ((kotatsulaw05_own.f k y181).bind fun t201 => ((kotatsuref05_Right.f k t201).bind fun t204 => (if t204 = true then ((kotatsulaw05_own.f k y196).bind fun t205 => ((kotatsuref05_Right.f k t205).bind fun t208 => ((block_Right.f k y196).bind fun t209 => (kotatsulaw05_BlockWants.j0 k (t208 == t209))))) else (kotatsulaw05_BlockWants.j0 k false)))) else (kotatsulaw05_BlockWants.j0 k false)) else (if (t200 == false) = true then ((kotatsulaw05_own.f k y181).bind fun t210 => ((kotatsuref05_Right.f k t210).bind fun t213 => (if t213 = true then ((kotatsulaw05_own.f k y196).bind fun t214 => ((kotatsuref05_Right.f k t214).bind fun t217 => ((block_Right.f k y196).bind fun t218 => (kotatsulaw05_BlockWants.j0 k (t217 == t218))))) else (kotatsulaw05_BlockWants.j0 k false)))) else (kotatsulaw05_BlockWants.j0 k false)))) else (kotatsulaw05_BlockWants.j0 k false)))) else (none))) = some r := by first | (rw [hy190]; with_reducible exact H) | (have H2_ := (Option.bind_some _ _).symm.trans H; rw [hy190]; with_reducible exact H2_) | (have H2_ := (Option.bind_some _ _).symm.trans H; with_reducible exact H2_) | with_reducible exact H | (rw [hy190]; exact H) | exact H
                  have Ny190 := Aside0.mk hy190
                  clear hy190
                  obtain ⟨y193, hy193⟩ : ∃ y_ : List (S43), y_ = (([(⟨a2, y190⟩ : S43)] : List (S43))) := ⟨_, rfl⟩
                  replace H : (if y187.length + y193.length < 4398046511104 then ((some (y187 ++ y193 : List (S43))).bind fun y196 => ((block_Right.f k y181).bind fun t199 => (if t199 = true then ((block_Right.f k y196).bind fun t200 => (if a2 = t167 then (if (t200 == ((wrap64 (a3)) == t168)) = true then ((kotatsulaw05_own.f k y181).bind fun t201 => ((kotatsuref05_Right.f k t201).bind fun t204 => (if t204 = true then ((kotatsulaw05_own.f k y196).bind fun t205 => ((kotatsuref05_Right.f k t205).bind fun t208 => ((block_Right.f k y196).bind fun t209 => (kotatsulaw05_BlockWants.j0 k (t208 == t209))))) else (kotatsulaw05_BlockWants.j0 k false)))) else (kotatsulaw05_BlockWants.j0 k false)) else (if (t200 == false) = true then ((kotatsulaw05_own.f k y181).bind fun t210 => ((kotatsuref05_Right.f k t210).bind fun t213 => (if t213 = true then ((kotatsulaw05_own.f k y196).bind fun t214 => ((kotatsuref05_Right.f k t214).bind fun t217 => ((block_Right.f k y196).bind fun t218 => (kotatsulaw05_BlockWants.j0 k (t217 == t218))))) else (kotatsulaw05_BlockWants.j0 k false)))) else (kotatsulaw05_BlockWants.j0 k false)))) else (kotatsulaw05_BlockWants.j0 k false)))) else (none)) = some r := by first | (rw [hy193]; with_reducible exact H) | (have H2_ := (Option.bind_some _ _).symm.trans H; rw [hy193]; with_reducible exact H2_) | (have H2_ := (Option.bind_some _ _).symm.trans H; with_reducible exact H2_) | with_reducible exact H | (rw [hy193]; exact H) | exact H
                  have Ny193 := Aside0.mk hy193
                  clear hy193
                  by_cases c16 : y187.length + y193.length < 4398046511104
                  · rw [if_pos c16] at H
                    have LMc16 := Aside0.mk c16
                    clear c16
                    obtain ⟨y196, hy196⟩ : ∃ y_ : List (S43), y_ = (y187 ++ y193) := ⟨_, rfl⟩
                    replace H : ((block_Right.f k y181).bind fun t199 => (if t199 = true then ((block_Right.f k y196).bind fun t200 => (if a2 = t167 then (if (t200 == ((wrap64 (a3)) == t168)) = true then ((kotatsulaw05_own.f k y181).bind fun t201 => ((kotatsuref05_Right.f k t201).bind fun t204 => (if t204 = true then ((kotatsulaw05_own.f k y196).bind fun t205 => ((kotatsuref05_Right.f k t205).bind fun t208 => ((block_Right.f k y196).bind fun t209 => (kotatsulaw05_BlockWants.j0 k (t208 == t209))))) else (kotatsulaw05_BlockWants.j0 k false)))) else (kotatsulaw05_BlockWants.j0 k false)) else (if (t200 == false) = true then ((kotatsulaw05_own.f k y181).bind fun t210 => ((kotatsuref05_Right.f k t210).bind fun t213 => (if t213 = true then ((kotatsulaw05_own.f k y196).bind fun t214 => ((kotatsuref05_Right.f k t214).bind fun t217 => ((block_Right.f k y196).bind fun t218 => (kotatsulaw05_BlockWants.j0 k (t217 == t218))))) else (kotatsulaw05_BlockWants.j0 k false)))) else (kotatsulaw05_BlockWants.j0 k false)))) else (kotatsulaw05_BlockWants.j0 k false))) = some r := by first | (rw [hy196]; with_reducible exact H) | (have H2_ := (Option.bind_some _ _).symm.trans H; rw [hy196]; with_reducible exact H2_) | (have H2_ := (Option.bind_some _ _).symm.trans H; with_reducible exact H2_) | with_reducible exact H | (rw [hy196]; exact H) | exact H
                    have Ny196 := Aside0.mk hy196
                    clear hy196
                    have HC17 := Aside0.mk H
                    clear H
                    go_enter Try.func4, Try.ntmps4
                    try go_wp2_with (first | ((with_reducible refine gate_callee (f := 8) rfl ?_); refine goesL_ (some 14) rfl rfl Try.func8 (by kernel_rfl) rfl #[] rfl (by (try simp only [List.map_toArray, List.map_cons, List.map_nil]); first | done | rfl | (simp only [List.length_drop, List.length_take]; rfl)) ?_; (with_reducible refine (kotatsulaw05_awake.calls k  true _ A5.out).mono ?_); rintro e w18 ⟨rfl, hb⟩; refine ⟨_, rfl, ?_⟩; have n0_ := Aside0.mk (below_step (by repeat (first | (with_reducible first | exact HB.out | apply below_alloc | apply pw_below_drewN | apply below_drew1) | exact HB.out)) hb); clear HB; have HB := n0_; clear n0_; (try clear hb); (try clear hb2); (try clear hk); (try clear hi)) | ((with_reducible refine gate_callee (f := 19) rfl ?_); refine goesL_ (some 18) rfl rfl Try.func19 (by kernel_rfl) rfl #[.string (⟨#[97]⟩ : ByteArray), .int .u8 0, .slice A0 l0.length c0, .int .u8 a1] rfl (by (try simp only [List.map_toArray, List.map_cons, List.map_nil]); first | done | rfl | (simp only [List.length_drop, List.length_take]; rfl)) ?_; (with_reducible refine (kotatsulaw05_made.calls k (⟨#[97]⟩ : ByteArray) 0 _ _ l0 a1 t164 _ ?side1 ?side2 A7.out).mono ?_); (case side1 => repeat (first | exact (Kd.C_below HR0.out HB.out) | (with_reducible refine Kd.C_alloc ?_ _) | (with_reducible refine Kd.C_drewN ?_ _) | (with_reducible refine Kd.C_drew ?_))); (case side2 => exact HC0.out); rintro e w19 ⟨v165, rfl, ho0, hb⟩; refine ⟨_, rfl, ?_⟩; have n0_ := Aside0.mk (Kd.N_lower (Kd.N_mono (ok' := fun k_ => True) ho0 (fun k_ hk_ => trivial)) (below_size (by repeat (first | (with_reducible first | exact HB.out | apply below_alloc | apply pw_below_drewN | apply below_drew1) | exact HB.out)))); have n1_ := Aside0.mk (below_step (by repeat (first | (with_reducible first | exact HB.out | apply below_alloc | apply pw_below_drewN | apply below_drew1) | exact HB.out)) hb); clear HB; have HO166 := n0_; have HB := n1_; clear n0_ n1_; (try clear hb); (try clear hb2); (try clear hk); (try clear hi); (try clear ho0); obtain ⟨Ao20, co20, eo20⟩ := Kd.N_slice HO166.out; subst eo20) | ((with_reducible refine gate_callee (f := 20) rfl ?_); refine goesL_ (some 21) rfl rfl Try.func20 (by kernel_rfl) rfl #[.slice Ao20 t164.length co20] rfl (by (try simp only [List.map_toArray, List.map_cons, List.map_nil]); first | done | rfl | (simp only [List.length_drop, List.length_take]; rfl)) ?_; (with_reducible refine (block_Want.calls k _ _ t164 t167 t168 _ ?side1 ?side2 A8.out).mono ?_); (case side1 => repeat (first | exact (Kd.N_reads' HO166.out).2.2 | (with_reducible refine Kd.C_alloc ?_ _) | (with_reducible refine Kd.C_drewN ?_ _) | (with_reducible refine Kd.C_drew ?_))); (case side2 => exact (Kd.N_reads' HO166.out).2.1); rintro e w21 ⟨rfl, hb⟩; refine ⟨_, rfl, ?_⟩; have n0_ := Aside0.mk (Kd.N_below (by (with_reducible repeat (first | apply Kd.N_alloc | apply Kd.N_drewN | apply Kd.N_drew)); exact HO166.out) hb); have n1_ := Aside0.mk (below_step (by repeat (first | (with_reducible first | exact HB.out | apply below_alloc | apply pw_below_drewN | apply below_drew1) | exact HB.out)) hb); clear HO166; clear HB; have HO166 := n0_; have HB := n1_; clear n0_ n1_; (try clear hb); (try clear hb2); (try clear hk); (try clear hi)))
                    have n0_ := Aside0.mk (Kd.N_drew HO166.out)
                    have n1_ := Aside0.mk (below_drew1 HB.out)
                    clear HO166
                    clear HB
                    have HO166 := n0_
                    have HB := n1_
                    clear n0_ n1_
                    refine start_ (n := 10) (S := fun w' => True) (ds := []) #[false, false, false, false, false, false, false, false, false, false] (by kernel_rfl) rfl rfl trivial (fun hHeld => ?_); refine with_tabW kotatsulaw05_BlockWants.tab5 kotatsulaw05_BlockWants.bits5 (fun HT_ HW_ => ?_)
                    generalize w21.drew = w22 at HO166 HB hHeld ⊢
                    refine pure_ (i := 1) (N := some 25) (v := ?_) (a' := ?_) #[false, true, false, false, false, false, false, false, false, false] rfl rfl (any_of HT_.out (by kernel_rfl)) (fun _ _ _ h => h) (Or.inl ⟨by rfl, ?_⟩) ?_ ?_
                    rotate_left
                    · intro w'
                      go_simp
                      with_reducible rfl
                    rotate_left
                    · simp only [Act.put, List.setIfInBounds_toArray, List.set_cons_zero, List.set_cons_succ, i64_w, i32_w]
                      rfl
                    refine pure_ (i := 3) (N := some 27) (v := ?_) (a' := ?_) #[false, true, false, true, false, false, false, false, false, false] rfl rfl (any_of HT_.out (by kernel_rfl)) (fun _ _ _ h => h) (Or.inl ⟨by rfl, ?_⟩) ?_ ?_
                    rotate_left
                    · intro w'
                      go_simp
                      with_reducible rfl
                    rotate_left
                    · simp only [Act.put, List.setIfInBounds_toArray, List.set_cons_zero, List.set_cons_succ, i64_w, i32_w]
                      rfl
                    refine pure_ (i := 4) (N := some 28) (v := ?_) (a' := ?_) #[false, true, false, true, true, false, false, false, false, false] rfl rfl (any_of HT_.out (by kernel_rfl)) (fun _ _ _ h => h) (Or.inl ⟨by rfl, ?_⟩) ?_ ?_
                    rotate_left
                    · intro w'
                      go_simp
                      with_reducible rfl
                    rotate_left
                    · simp only [Act.put, List.setIfInBounds_toArray, List.set_cons_zero, List.set_cons_succ, i64_w, i32_w]
                      rfl
                    refine join_ (σ := Value × Value × Value × Value) 2 #[true, true, true, true, true, true, true, true, false, false] (fun s_ => [(24, s_.1), (26, s_.2.1), (29, s_.2.2.1), (31, s_.2.2.2), (30, .agg #[.int .u8 t167, s_.2.2.1])]) (fun s_ w' => (Kd.N k43 43 w' w.heap.size (fun k_ => some k_ ≠ (s_.2.1 : Value).ownBlock ∧ some k_ ≠ (s_.2.2.2 : Value).ownBlock) (.slice Ao20 t164.length co20) t164) ∧ (Kd.N k43 43 w' w.heap.size (fun k_ => some k_ ≠ (s_.2.2.2 : Value).ownBlock) s_.2.1 y172) ∧ (Kd.N k43 43 w' w.heap.size (fun k_ => some k_ ≠ (.slice Ao20 t164.length co20 : Value).ownBlock ∧ some k_ ≠ (s_.2.1 : Value).ownBlock) s_.2.2.2 y178) ∧ (Below w.heap.size w w')) ?_ ?_
                    rotate_left
                    · intro hJ0_2_5_7
                      refine join_ (σ := Value × Value × Value) 3 #[true, true, true, true, true, true, true, false, false, false] (fun s_ => [(24, s_.1), (26, s_.2.1), (29, s_.2.2), (30, .agg #[.int .u8 t167, s_.2.2])]) (fun s_ w' => (Kd.N k43 43 w' w.heap.size (fun k_ => some k_ ≠ (s_.2.1 : Value).ownBlock ∧ some k_ ≠ (s_.2.2 : Value).ownBlock) (.slice Ao20 t164.length co20) t164) ∧ (Kd.N k43 43 w' w.heap.size (fun k_ => some k_ ≠ (s_.2.2 : Value).ownBlock) s_.2.1 y172) ∧ (Kd.R (Kd.int .u8) 5 w' w.heap.size (fun _ => True) s_.2.2 y175) ∧ (Below w.heap.size w w')) ?_ ?_
                      rotate_left
                      · intro hJ0_2_5
                        refine join_ (σ := Value × Value × Value) 3 #[true, true, false, true, true, true, true, true, false, false] (fun s_ => [(24, s_.1), (29, s_.2.1), (31, s_.2.2), (30, .agg #[.int .u8 t167, s_.2.1])]) (fun s_ w' => (Kd.N k43 43 w' w.heap.size (fun k_ => some k_ ≠ (s_.1 : Value).ownBlock ∧ some k_ ≠ (s_.2.2 : Value).ownBlock) (.slice Ao20 t164.length co20) t164) ∧ (Kd.N k43 43 w' w.heap.size (fun k_ => some k_ ≠ (.slice Ao20 t164.length co20 : Value).ownBlock ∧ some k_ ≠ (s_.2.2 : Value).ownBlock) s_.1 y169) ∧ (Kd.N k43 43 w' w.heap.size (fun k_ => some k_ ≠ (.slice Ao20 t164.length co20 : Value).ownBlock ∧ some k_ ≠ (s_.1 : Value).ownBlock) s_.2.2 y178) ∧ (Below w.heap.size w w')) ?_ ?_
                        rotate_left
                        · intro hJ0_5_7
                          refine join_ (σ := Value × Value) 5 #[true, true, true, true, true, false, false, false, false, false] (fun s_ => [(24, s_.1), (26, s_.2)]) (fun s_ w' => (Kd.N k43 43 w' w.heap.size (fun k_ => some k_ ≠ (s_.2 : Value).ownBlock) (.slice Ao20 t164.length co20) t164) ∧ (Kd.N k43 43 w' w.heap.size (fun _ => True) s_.2 y172) ∧ (Below w.heap.size w w')) ?_ ?_
                          rotate_left
                          · intro hJ0_2
                            refine join_ (σ := Value × Value) 4 #[true, true, false, true, true, true, true, false, false, false] (fun s_ => [(24, s_.1), (29, s_.2), (30, .agg #[.int .u8 t167, s_.2])]) (fun s_ w' => (Kd.N k43 43 w' w.heap.size (fun k_ => some k_ ≠ (s_.1 : Value).ownBlock ∧ some k_ ≠ (s_.2 : Value).ownBlock) (.slice Ao20 t164.length co20) t164) ∧ (Kd.N k43 43 w' w.heap.size (fun k_ => some k_ ≠ (.slice Ao20 t164.length co20 : Value).ownBlock ∧ some k_ ≠ (s_.2 : Value).ownBlock) s_.1 y169) ∧ (Kd.R (Kd.int .u8) 5 w' w.heap.size (fun _ => True) s_.2 y175) ∧ (Below w.heap.size w w')) ?_ ?_
                            rotate_left
                            · intro hJ0_5
                              refine join_ (σ := Value × Value) 4 #[false, true, false, true, true, true, true, true, false, false] (fun s_ => [(29, s_.1), (31, s_.2), (30, .agg #[.int .u8 t167, s_.1])]) (fun s_ w' => (Kd.N k43 43 w' w.heap.size (fun k_ => some k_ ≠ (s_.2 : Value).ownBlock) (.slice Ao20 t164.length co20) t164) ∧ (Kd.N k43 43 w' w.heap.size (fun k_ => some k_ ≠ (.slice Ao20 t164.length co20 : Value).ownBlock) s_.2 y178) ∧ (Below w.heap.size w w')) ?_ ?_
                              rotate_left
                              · intro hJ5_7
                                refine join_ (σ := Value) 6 #[true, true, false, true, true, false, false, false, false, false] (fun s_ => [(24, s_)]) (fun s_ w' => (Kd.N k43 43 w' w.heap.size (fun k_ => some k_ ≠ (s_ : Value).ownBlock) (.slice Ao20 t164.length co20) t164) ∧ (Kd.N k43 43 w' w.heap.size (fun k_ => some k_ ≠ (.slice Ao20 t164.length co20 : Value).ownBlock) s_ y169) ∧ (Below w.heap.size w w')) ?_ ?_
                                rotate_left
                                · intro hJ0
                                  refine join_ (σ := Value) 5 #[false, true, false, true, true, true, true, false, false, false] (fun s_ => [(29, s_), (30, .agg #[.int .u8 t167, s_])]) (fun s_ w' => (Kd.N k43 43 w' w.heap.size (fun k_ => some k_ ≠ (s_ : Value).ownBlock) (.slice Ao20 t164.length co20) t164) ∧ (Kd.R (Kd.int .u8) 5 w' w.heap.size (fun _ => True) s_ y175) ∧ (Below w.heap.size w w')) ?_ ?_
                                  rotate_left
                                  · intro hJ5
                                    refine two_ (i := 0) (j := 5) (Ni := some 24) (Nj := some 29) #[true, true, false, true, true, false, false, false, false, false] #[false, true, false, true, true, true, false, false, false, false] rfl rfl rfl rfl (two_of HT_.out (by kernel_rfl)) (by decide) (by decide) (fun K hK => ?_) (fun K hK => ?_)
                                    · skip
                                      refine Kd.N_lit_step k43 _ 43 ?hg (N' := 24) ?hd (xs := ([] : List (S43))) (inner := []) (ok := (fun k_ => some k_ ≠ (.slice Ao20 t164.length co20 : Value).ownBlock)) (okp := (fun k_ => some k_ ≠ (.slice Ao20 t164.length co20 : Value).ownBlock)) ?hr ?hp (fun _ hk => hk) ((show ∀ k_, w22.heap.size ≤ k_ → (fun k_ => some k_ ≠ (.slice Ao20 t164.length co20 : Value).ownBlock) k_ from fun k_ hk => Kd.fresh' (Kd.N_lt (by (with_reducible repeat (first | apply Kd.N_alloc | apply Kd.N_drewN | apply Kd.N_drew)); exact HO166.out)) k_ hk) _ (Nat.le_refl _)) (Below.refl _ _) (Nat.le_refl _) (by simp) ?_; (case hd => rfl); (case hg => rfl); (case hr => first | (go_simp; done) | (go_simp; rfl)); (case hp => exact (Reps.none _ _))
                                      intro v170 w23 ho24 hb hg_ hnew_
                                      clear hg_ hnew_
                                      (first | rw [← Ny169.out] at ho24 | (simp only [Int.reduceToNat] at ho24; rw [← Ny169.out] at ho24))
                                      have n0_ := Aside0.mk (Kd.N_elder' (by (with_reducible repeat (first | apply Kd.N_alloc | apply Kd.N_drewN | apply Kd.N_drew)); exact HO166.out) (Kd.N_base ho24) hb)
                                      have n1_ := Aside0.mk (Kd.N_lower ho24 (below_size (by repeat (first | (with_reducible first | exact HB.out | apply below_alloc | apply pw_below_drewN | apply below_drew1) | exact HB.out))))
                                      have n2_ := Aside0.mk (below_step (by repeat (first | (with_reducible first | exact HB.out | apply below_alloc | apply pw_below_drewN | apply below_drew1) | exact HB.out)) hb)
                                      clear HO166
                                      clear HB
                                      have HO166 := n0_
                                      have HO171 := n1_
                                      have HB := n2_
                                      clear n0_ n1_ n2_
                                      clear hb ho24
                                      refine hK.out _ _ trivial (fun hHeld => ?_)
                                      clear hK K
                                      refine norm_ (a' := ?_) ?_ ?_
                                      rotate_left
                                      · show Act.put _ (some 24) _ = _
                                        simp only [Act.put, List.setIfInBounds_toArray, List.set_cons_zero, List.set_cons_succ, i64_w, i32_w]
                                        rfl
                                      exact norm_ (by first | (simp only [putAll, Act.put, List.setIfInBounds_toArray, List.set_cons_zero, List.set_cons_succ]; done) | (simp only [putAll, Act.put, List.setIfInBounds_toArray, List.set_cons_zero, List.set_cons_succ]; rfl)) (hJ0 (v170) _ ⟨(by (with_reducible repeat (first | apply Kd.N_alloc | apply Kd.N_drewN | apply Kd.N_drew)); exact Kd.N_mono HO166.out (fun _ hk => hk.2)), (by (with_reducible repeat (first | apply Kd.N_alloc | apply Kd.N_drewN | apply Kd.N_drew)); exact HO171.out), (by repeat (first | (with_reducible first | exact HB.out | apply below_alloc | apply pw_below_drewN | apply below_drew1) | exact HB.out))⟩)
                                    · skip
                                      refine Kd.R_make_step (Kd.int .u8) _ 5 (by rfl) (N := 29) rfl 22 _ _ rfl t168 rfl rfl Try.underlying22 (.int .u8 0) 1 info5 rfl (by decide) (by omega) 0 (ok := fun _ => True) (okp := fun _ => True) rfl (fun _ hk => hk) trivial (of_decide_eq_true (by first | (with_reducible assumption) | assumption)) (Nat.le_trans (Nat.mul_le_mul_right _ (of_decide_eq_true (by first | (with_reducible assumption) | assumption) : t168.toNat ≤ 281474976710656)) (by omega)) (Below.refl _ _) (Nat.le_refl _) ?_
                                      intro v176 w23 ho24 hb hg_ hnew_
                                      clear hg_ hnew_
                                      (first | rw [← Ny175.out] at ho24 | (simp only [Int.reduceToNat] at ho24; rw [← Ny175.out] at ho24))
                                      have n0_ := Aside0.mk (Kd.N_elder' (by (with_reducible repeat (first | apply Kd.N_alloc | apply Kd.N_drewN | apply Kd.N_drew)); exact HO166.out) (Kd.R_base ho24) hb)
                                      have n1_ := Aside0.mk (Kd.R_lower ho24 (below_size (by repeat (first | (with_reducible first | exact HB.out | apply below_alloc | apply pw_below_drewN | apply below_drew1) | exact HB.out))))
                                      have n2_ := Aside0.mk (below_step (by repeat (first | (with_reducible first | exact HB.out | apply below_alloc | apply pw_below_drewN | apply below_drew1) | exact HB.out)) hb)
                                      clear HO166
                                      clear HB
                                      have HO166 := n0_
                                      have HO177 := n1_
                                      have HB := n2_
                                      clear n0_ n1_ n2_
                                      clear hb ho24
                                      obtain ⟨Ao25, co25, eo25⟩ := Kd.R_slice HO177.out
                                      (first | subst eo25 | (injection eo25 with f1_ f2_ f3_; have f4_ := f1_.symm; have f5_ := f3_.symm; clear f1_ f2_ f3_; subst f4_; subst f5_))
                                      refine hK.out _ _ trivial (fun hHeld => ?_)
                                      clear hK K
                                      refine norm_ (a' := ?_) ?_ ?_
                                      rotate_left
                                      · show Act.put _ (some 29) _ = _
                                        simp only [Act.put, List.setIfInBounds_toArray, List.set_cons_zero, List.set_cons_succ, i64_w, i32_w]
                                        rfl
                                      refine pure_ (i := 6) (N := some 30) (v := ?_) (a' := ?_) #[false, true, false, true, true, true, true, false, false, false] rfl rfl (any_of HT_.out (by kernel_rfl)) (fun _ _ _ h => h) (Or.inl ⟨by rfl, ?_⟩) ?_ ?_
                                      rotate_left
                                      · intro w'
                                        go_simp
                                        with_reducible rfl
                                      rotate_left
                                      · simp only [Act.put, List.setIfInBounds_toArray, List.set_cons_zero, List.set_cons_succ, i64_w, i32_w]
                                        rfl
                                      exact norm_ (by first | (simp only [putAll, Act.put, List.setIfInBounds_toArray, List.set_cons_zero, List.set_cons_succ]; done) | (simp only [putAll, Act.put, List.setIfInBounds_toArray, List.set_cons_zero, List.set_cons_succ]; rfl)) (hJ5 (.slice Ao25 y175.length co25) _ ⟨(by (with_reducible repeat (first | apply Kd.N_alloc | apply Kd.N_drewN | apply Kd.N_drew)); exact Kd.N_mono HO166.out (fun _ hk => hk.2)), (by (with_reducible repeat (first | apply Kd.R_alloc | apply Kd.R_drewN | apply Kd.R_drew)); exact HO177.out), (by repeat (first | (with_reducible first | exact HB.out | apply below_alloc | apply pw_below_drewN | apply below_drew1) | exact HB.out))⟩)
                                  · skip
                                    rintro v176 w26 ⟨h0_, h1_, h2_⟩
                                    have n0_ : Aside0 (Kd.N k43 43 w26 w.heap.size (fun k_ => some k_ ≠ (v176 : Value).ownBlock) (.slice Ao20 t164.length co20) t164) := ⟨h0_⟩
                                    have n1_ : Aside0 (Kd.R (Kd.int .u8) 5 w26 w.heap.size (fun _ => True) v176 y175) := ⟨h1_⟩
                                    have n2_ : Aside0 (Below w.heap.size w w26) := ⟨h2_⟩
                                    clear HO166
                                    clear HB
                                    clear h0_ h1_ h2_
                                    have HO166 := n0_
                                    have HO177 := n1_
                                    have HB := n2_
                                    clear n0_ n1_ n2_
                                    have hHeld := trivial
                                    obtain ⟨Ao27, co27, eo27⟩ := Kd.R_slice HO177.out
                                    (first | subst eo27 | (injection eo27 with f1_ f2_ f3_; have f4_ := f1_.symm; have f5_ := f3_.symm; clear f1_ f2_ f3_; subst f4_; subst f5_))
                                    refine norm_ (a' := ?_) ?_ ?_
                                    rotate_left
                                    · simp only [putAll, Act.put, List.setIfInBounds_toArray, List.set_cons_zero, List.set_cons_succ]
                                      rfl
                                    refine two_ (i := 0) (j := 7) (Ni := some 24) (Nj := some 31) #[true, true, false, true, true, true, true, false, false, false] #[false, true, false, true, true, true, true, true, false, false] rfl rfl rfl rfl (two_of HT_.out (by kernel_rfl)) (by decide) (by decide) (fun K hK => ?_) (fun K hK => ?_)
                                    · skip
                                      refine Kd.N_lit_step k43 _ 43 ?hg (N' := 24) ?hd (xs := ([] : List (S43))) (inner := []) (ok := (fun k_ => some k_ ≠ (.slice Ao20 t164.length co20 : Value).ownBlock ∧ some k_ ≠ (.slice Ao27 y175.length co27 : Value).ownBlock)) (okp := (fun k_ => some k_ ≠ (.slice Ao20 t164.length co20 : Value).ownBlock ∧ some k_ ≠ (.slice Ao27 y175.length co27 : Value).ownBlock)) ?hr ?hp (fun _ hk => hk) ((show ∀ k_, w26.heap.size ≤ k_ → (fun k_ => some k_ ≠ (.slice Ao20 t164.length co20 : Value).ownBlock ∧ some k_ ≠ (.slice Ao27 y175.length co27 : Value).ownBlock) k_ from fun k_ hk => ⟨Kd.fresh' (Kd.N_lt (by (with_reducible repeat (first | apply Kd.N_alloc | apply Kd.N_drewN | apply Kd.N_drew)); exact HO166.out)) k_ hk, Kd.fresh' (Kd.R_lt (by (with_reducible repeat (first | apply Kd.R_alloc | apply Kd.R_drewN | apply Kd.R_drew)); exact HO177.out)) k_ hk⟩) _ (Nat.le_refl _)) (Below.refl _ _) (Nat.le_refl _) (by simp) ?_; (case hd => rfl); (case hg => rfl); (case hr => first | (go_simp; done) | (go_simp; rfl)); (case hp => exact (Reps.none _ _))
                                      intro v170 w28 ho29 hb hg_ hnew_
                                      clear hg_ hnew_
                                      (first | rw [← Ny169.out] at ho29 | (simp only [Int.reduceToNat] at ho29; rw [← Ny169.out] at ho29))
                                      have n0_ := Aside0.mk (Kd.N_elder' (by (with_reducible repeat (first | apply Kd.N_alloc | apply Kd.N_drewN | apply Kd.N_drew)); exact HO166.out) (Kd.N_base ho29) hb)
                                      have n1_ := Aside0.mk (Kd.R_below (by (with_reducible repeat (first | apply Kd.R_alloc | apply Kd.R_drewN | apply Kd.R_drew)); exact HO177.out) hb)
                                      have n2_ := Aside0.mk (Kd.N_lower ho29 (below_size (by repeat (first | (with_reducible first | exact HB.out | apply below_alloc | apply pw_below_drewN | apply below_drew1) | exact HB.out))))
                                      have n3_ := Aside0.mk (below_step (by repeat (first | (with_reducible first | exact HB.out | apply below_alloc | apply pw_below_drewN | apply below_drew1) | exact HB.out)) hb)
                                      clear HO166
                                      clear HO177
                                      clear HB
                                      have HO166 := n0_
                                      have HO177 := n1_
                                      have HO171 := n2_
                                      have HB := n3_
                                      clear n0_ n1_ n2_ n3_
                                      clear hb ho29
                                      refine hK.out _ _ trivial (fun hHeld => ?_)
                                      clear hK K
                                      refine norm_ (a' := ?_) ?_ ?_
                                      rotate_left
                                      · show Act.put _ (some 24) _ = _
                                        simp only [Act.put, List.setIfInBounds_toArray, List.set_cons_zero, List.set_cons_succ, i64_w, i32_w]
                                        rfl
                                      exact norm_ (by first | (simp only [putAll, Act.put, List.setIfInBounds_toArray, List.set_cons_zero, List.set_cons_succ]; done) | (simp only [putAll, Act.put, List.setIfInBounds_toArray, List.set_cons_zero, List.set_cons_succ]; rfl)) (hJ0_5 (v170, .slice Ao27 y175.length co27) _ ⟨(by (with_reducible repeat (first | apply Kd.N_alloc | apply Kd.N_drewN | apply Kd.N_drew)); exact Kd.N_mono HO166.out (fun _ hk => ⟨hk.2, hk.1⟩)), (by (with_reducible repeat (first | apply Kd.N_alloc | apply Kd.N_drewN | apply Kd.N_drew)); exact HO171.out), (by (with_reducible repeat (first | apply Kd.R_alloc | apply Kd.R_drewN | apply Kd.R_drew)); exact HO177.out), (by repeat (first | (with_reducible first | exact HB.out | apply below_alloc | apply pw_below_drewN | apply below_drew1) | exact HB.out))⟩)
                                    · skip
                                      refine Kd.N_lit_step k43 _ 43 ?hg (N' := 31) ?hd (xs := ([(⟨t167, y175⟩ : S43)] : List (S43))) (inner := [.int .u8 t167, .slice Ao27 y175.length co27]) (ok := (fun k_ => some k_ ≠ (.slice Ao20 t164.length co20 : Value).ownBlock)) (okp := (fun k_ => some k_ ≠ (.slice Ao20 t164.length co20 : Value).ownBlock)) ?hr ?hp (fun _ hk => hk) ((show ∀ k_, w26.heap.size ≤ k_ → (fun k_ => some k_ ≠ (.slice Ao20 t164.length co20 : Value).ownBlock) k_ from fun k_ hk => Kd.fresh' (Kd.N_lt (by (with_reducible repeat (first | apply Kd.N_alloc | apply Kd.N_drewN | apply Kd.N_drew)); exact HO166.out)) k_ hk) _ (Nat.le_refl _)) (Below.refl _ _) (Nat.le_refl _) (by simp) ?_; (case hd => rfl); (case hg => rfl); (case hr => first | (go_simp; done) | (go_simp; rfl)); (case hp => exact (Reps.c2 (show Kd.FK k43 _ _ (⟨t167, y175⟩ : S43) [.int .u8 t167, .slice Ao27 y175.length co27] from (k43_mkF _ _ (⟨t167, y175⟩ : S43) (Kd.R_reads' (Kd.R_mono (ok' := (fun k_ => some k_ ≠ (.slice Ao20 t164.length co20 : Value).ownBlock)) (Kd.R_apart' (HO177.out) (Kd.N_typed HO166.out) (by decide)) (fun k_ hk => hk.2))).2.1 (Kd.R_F (Kd.R_mono (ok' := (fun k_ => some k_ ≠ (.slice Ao20 t164.length co20 : Value).ownBlock)) (Kd.R_apart' (HO177.out) (Kd.N_typed HO166.out) (by decide)) (fun k_ hk => hk.2))))) (Reps.none _ _)))
                                      intro v179 w28 ho29 hb hg_ hnew_
                                      clear hg_ hnew_
                                      (first | rw [← Ny178.out] at ho29 | (simp only [Int.reduceToNat] at ho29; rw [← Ny178.out] at ho29))
                                      have n0_ := Aside0.mk (Kd.N_elder' (by (with_reducible repeat (first | apply Kd.N_alloc | apply Kd.N_drewN | apply Kd.N_drew)); exact HO166.out) (Kd.N_base ho29) hb)
                                      have n1_ := Aside0.mk (Kd.N_lower ho29 (below_size (by repeat (first | (with_reducible first | exact HB.out | apply below_alloc | apply pw_below_drewN | apply below_drew1) | exact HB.out))))
                                      have n2_ := Aside0.mk (below_step (by repeat (first | (with_reducible first | exact HB.out | apply below_alloc | apply pw_below_drewN | apply below_drew1) | exact HB.out)) hb)
                                      clear HO166
                                      clear HB
                                      clear HO177
                                      have HO166 := n0_
                                      have HO180 := n1_
                                      have HB := n2_
                                      clear n0_ n1_ n2_
                                      clear hb ho29
                                      refine hK.out _ _ trivial (fun hHeld => ?_)
                                      clear hK K
                                      refine norm_ (a' := ?_) ?_ ?_
                                      rotate_left
                                      · show Act.put _ (some 31) _ = _
                                        simp only [Act.put, List.setIfInBounds_toArray, List.set_cons_zero, List.set_cons_succ, i64_w, i32_w]
                                        rfl
                                      exact norm_ (by first | (simp only [putAll, Act.put, List.setIfInBounds_toArray, List.set_cons_zero, List.set_cons_succ]; done) | (simp only [putAll, Act.put, List.setIfInBounds_toArray, List.set_cons_zero, List.set_cons_succ]; rfl)) (hJ5_7 (.slice Ao27 y175.length co27, v179) _ ⟨(by (with_reducible repeat (first | apply Kd.N_alloc | apply Kd.N_drewN | apply Kd.N_drew)); exact Kd.N_mono HO166.out (fun _ hk => hk.2)), (by (with_reducible repeat (first | apply Kd.N_alloc | apply Kd.N_drewN | apply Kd.N_drew)); exact HO180.out), (by repeat (first | (with_reducible first | exact HB.out | apply below_alloc | apply pw_below_drewN | apply below_drew1) | exact HB.out))⟩)
                                · skip
                                  rintro v170 w25 ⟨h0_, h1_, h2_⟩
                                  have n0_ : Aside0 (Kd.N k43 43 w25 w.heap.size (fun k_ => some k_ ≠ (v170 : Value).ownBlock) (.slice Ao20 t164.length co20) t164) := ⟨h0_⟩
                                  have n1_ : Aside0 (Kd.N k43 43 w25 w.heap.size (fun k_ => some k_ ≠ (.slice Ao20 t164.length co20 : Value).ownBlock) v170 y169) := ⟨h1_⟩
                                  have n2_ : Aside0 (Below w.heap.size w w25) := ⟨h2_⟩
                                  clear HO166
                                  clear HB
                                  clear h0_ h1_ h2_
                                  have HO166 := n0_
                                  have HO171 := n1_
                                  have HB := n2_
                                  clear n0_ n1_ n2_
                                  have hHeld := trivial
                                  refine norm_ (a' := ?_) ?_ ?_
                                  rotate_left
                                  · simp only [putAll, Act.put, List.setIfInBounds_toArray, List.set_cons_zero, List.set_cons_succ]
                                    rfl
                                  refine two_ (i := 2) (j := 5) (Ni := some 26) (Nj := some 29) #[true, true, true, true, true, false, false, false, false, false] #[true, true, false, true, true, true, false, false, false, false] rfl rfl rfl rfl (two_of HT_.out (by kernel_rfl)) (by decide) (by decide) (fun K hK => ?_) (fun K hK => ?_)
                                  · skip
                                    refine Kd.N_append_rows_step k43 (w0 := w) w.heap.size (by rfl) (.tmp 24) (.tmp 25) 29 43 (.agg #[(.int .u8 0), (.slice none 0 0)]) 32 rfl Try.underlying29 info43 rfl (by decide) (by omega) v170 y169 t164 _ _ _ (fun _ => True) (fun k_ => ((fun _ => True)) k_ ∧ some k_ ≠ (v170 : Value).ownBlock) rfl rfl ?aO ?aR (fun _ hk => hk) ?aF ?aB ?aS ?aL ?_
                                    (case aR => exact (by skip; exact Kd.N_F (Kd.N_mono (ok' := (fun k_ => ((fun _ => True)) k_ ∧ some k_ ≠ (v170 : Value).ownBlock)) (HO166.out) (fun k_ hk => ⟨trivial, hk⟩))))
                                    (case aB => exact (by repeat (first | (with_reducible first | exact HB.out | apply below_alloc | apply pw_below_drewN | apply below_drew1) | exact HB.out)))
                                    (case aF => exact (fun _ _ => trivial))
                                    (case aO => exact (by (with_reducible repeat (first | apply Kd.N_alloc | apply Kd.N_drewN | apply Kd.N_drew)); exact Kd.N_mono HO171.out (fun _ hk => trivial)))
                                    (case aS => exact (below_size (by repeat (first | (with_reducible first | exact HB.out | apply below_alloc | apply pw_below_drewN | apply below_drew1) | exact HB.out))))
                                    (case aL => have := LMc9.out; omega)
                                    intro v173 w26 ho hb hg hat
                                    rw [← Ny172.out] at ho
                                    have n0_ := Aside0.mk (Kd.N_afterv (ok := (fun _ => True)) (by (with_reducible repeat (first | apply Kd.N_alloc | apply Kd.N_drewN | apply Kd.N_drew)); exact Kd.N_mono HO166.out (fun _ hk => ⟨trivial, hk⟩)) hg hat)
                                    have n1_ := Aside0.mk (hb)
                                    have n2_ := Aside0.mk (ho)
                                    clear HO166
                                    clear HB
                                    clear HO171
                                    have HO166 := n0_
                                    have HB := n1_
                                    have HO174 := n2_
                                    clear n0_ n1_ n2_
                                    clear ho hb hg hat
                                    refine hK.out _ _ trivial (fun hHeld => ?_)
                                    clear hK K
                                    refine norm_ (a' := ?_) ?_ ?_
                                    rotate_left
                                    · show Act.put _ (some 26) _ = _
                                      simp only [Act.put, List.setIfInBounds_toArray, List.set_cons_zero, List.set_cons_succ, i64_w, i32_w]
                                      rfl
                                    exact norm_ (by first | (simp only [putAll, Act.put, List.setIfInBounds_toArray, List.set_cons_zero, List.set_cons_succ]; done) | (simp only [putAll, Act.put, List.setIfInBounds_toArray, List.set_cons_zero, List.set_cons_succ]; rfl)) (hJ0_2 (v170, v173) _ ⟨(by (with_reducible repeat (first | apply Kd.N_alloc | apply Kd.N_drewN | apply Kd.N_drew)); exact Kd.N_mono HO166.out (fun _ hk => hk.2)), (by (with_reducible repeat (first | apply Kd.N_alloc | apply Kd.N_drewN | apply Kd.N_drew)); exact HO174.out), (by repeat (first | (with_reducible first | exact HB.out | apply below_alloc | apply pw_below_drewN | apply below_drew1) | exact HB.out))⟩)
                                  · skip
                                    refine Kd.R_make_step (Kd.int .u8) _ 5 (by rfl) (N := 29) rfl 22 _ _ rfl t168 rfl rfl Try.underlying22 (.int .u8 0) 1 info5 rfl (by decide) (by omega) 0 (ok := fun _ => True) (okp := fun _ => True) rfl (fun _ hk => hk) trivial (of_decide_eq_true (by first | (with_reducible assumption) | assumption)) (Nat.le_trans (Nat.mul_le_mul_right _ (of_decide_eq_true (by first | (with_reducible assumption) | assumption) : t168.toNat ≤ 281474976710656)) (by omega)) (Below.refl _ _) (Nat.le_refl _) ?_
                                    intro v176 w26 ho27 hb hg_ hnew_
                                    clear hg_ hnew_
                                    (first | rw [← Ny175.out] at ho27 | (simp only [Int.reduceToNat] at ho27; rw [← Ny175.out] at ho27))
                                    have n0_ := Aside0.mk (Kd.N_elder' (by (with_reducible repeat (first | apply Kd.N_alloc | apply Kd.N_drewN | apply Kd.N_drew)); exact HO166.out) (Kd.R_base ho27) hb)
                                    have n1_ := Aside0.mk (Kd.N_elder' (by (with_reducible repeat (first | apply Kd.N_alloc | apply Kd.N_drewN | apply Kd.N_drew)); exact HO171.out) (Kd.R_base ho27) hb)
                                    have n2_ := Aside0.mk (Kd.R_lower ho27 (below_size (by repeat (first | (with_reducible first | exact HB.out | apply below_alloc | apply pw_below_drewN | apply below_drew1) | exact HB.out))))
                                    have n3_ := Aside0.mk (below_step (by repeat (first | (with_reducible first | exact HB.out | apply below_alloc | apply pw_below_drewN | apply below_drew1) | exact HB.out)) hb)
                                    clear HO166
                                    clear HO171
                                    clear HB
                                    have HO166 := n0_
                                    have HO171 := n1_
                                    have HO177 := n2_
                                    have HB := n3_
                                    clear n0_ n1_ n2_ n3_
                                    clear hb ho27
                                    obtain ⟨Ao28, co28, eo28⟩ := Kd.R_slice HO177.out
                                    (first | subst eo28 | (injection eo28 with f1_ f2_ f3_; have f4_ := f1_.symm; have f5_ := f3_.symm; clear f1_ f2_ f3_; subst f4_; subst f5_))
                                    refine hK.out _ _ trivial (fun hHeld => ?_)
                                    clear hK K
                                    refine norm_ (a' := ?_) ?_ ?_
                                    rotate_left
                                    · show Act.put _ (some 29) _ = _
                                      simp only [Act.put, List.setIfInBounds_toArray, List.set_cons_zero, List.set_cons_succ, i64_w, i32_w]
                                      rfl
                                    refine pure_ (i := 6) (N := some 30) (v := ?_) (a' := ?_) #[true, true, false, true, true, true, true, false, false, false] rfl rfl (any_of HT_.out (by kernel_rfl)) (fun _ _ _ h => h) (Or.inl ⟨by rfl, ?_⟩) ?_ ?_
                                    rotate_left
                                    · intro w'
                                      go_simp
                                      with_reducible rfl
                                    rotate_left
                                    · simp only [Act.put, List.setIfInBounds_toArray, List.set_cons_zero, List.set_cons_succ, i64_w, i32_w]
                                      rfl
                                    exact norm_ (by first | (simp only [putAll, Act.put, List.setIfInBounds_toArray, List.set_cons_zero, List.set_cons_succ]; done) | (simp only [putAll, Act.put, List.setIfInBounds_toArray, List.set_cons_zero, List.set_cons_succ]; rfl)) (hJ0_5 (v170, .slice Ao28 y175.length co28) _ ⟨(by (with_reducible repeat (first | apply Kd.N_alloc | apply Kd.N_drewN | apply Kd.N_drew)); exact HO166.out), (by (with_reducible repeat (first | apply Kd.N_alloc | apply Kd.N_drewN | apply Kd.N_drew)); exact HO171.out), (by (with_reducible repeat (first | apply Kd.R_alloc | apply Kd.R_drewN | apply Kd.R_drew)); exact HO177.out), (by repeat (first | (with_reducible first | exact HB.out | apply below_alloc | apply pw_below_drewN | apply below_drew1) | exact HB.out))⟩)
                              · skip
                                rintro ⟨v176, v179⟩ w28 ⟨h0_, h1_, h2_⟩
                                have n0_ : Aside0 (Kd.N k43 43 w28 w.heap.size (fun k_ => some k_ ≠ (v179 : Value).ownBlock) (.slice Ao20 t164.length co20) t164) := ⟨h0_⟩
                                have n1_ : Aside0 (Kd.N k43 43 w28 w.heap.size (fun k_ => some k_ ≠ (.slice Ao20 t164.length co20 : Value).ownBlock) v179 y178) := ⟨h1_⟩
                                have n2_ : Aside0 (Below w.heap.size w w28) := ⟨h2_⟩
                                clear HO166
                                clear HB
                                clear h0_ h1_ h2_
                                have HO166 := n0_
                                have HO180 := n1_
                                have HB := n2_
                                clear n0_ n1_ n2_
                                have hHeld := trivial
                                refine norm_ (a' := ?_) ?_ ?_
                                rotate_left
                                · simp only [putAll, Act.put, List.setIfInBounds_toArray, List.set_cons_zero, List.set_cons_succ]
                                  rfl
                                refine one_ (i := 0) (N := some 24) #[true, true, false, true, true, true, true, true, false, false] rfl rfl (one_of HT_.out (by kernel_rfl)) (by decide) (fun K hK => ?_)
                                refine Kd.N_lit_step k43 _ 43 ?hg (N' := 24) ?hd (xs := ([] : List (S43))) (inner := []) (ok := (fun k_ => some k_ ≠ (.slice Ao20 t164.length co20 : Value).ownBlock ∧ some k_ ≠ (v179 : Value).ownBlock)) (okp := (fun k_ => some k_ ≠ (.slice Ao20 t164.length co20 : Value).ownBlock ∧ some k_ ≠ (v179 : Value).ownBlock)) ?hr ?hp (fun _ hk => hk) ((show ∀ k_, w28.heap.size ≤ k_ → (fun k_ => some k_ ≠ (.slice Ao20 t164.length co20 : Value).ownBlock ∧ some k_ ≠ (v179 : Value).ownBlock) k_ from fun k_ hk => ⟨Kd.fresh' (Kd.N_lt (by (with_reducible repeat (first | apply Kd.N_alloc | apply Kd.N_drewN | apply Kd.N_drew)); exact HO166.out)) k_ hk, Kd.fresh' (Kd.N_lt (by (with_reducible repeat (first | apply Kd.N_alloc | apply Kd.N_drewN | apply Kd.N_drew)); exact HO180.out)) k_ hk⟩) _ (Nat.le_refl _)) (Below.refl _ _) (Nat.le_refl _) (by simp) ?_; (case hd => rfl); (case hg => rfl); (case hr => first | (go_simp; done) | (go_simp; rfl)); (case hp => exact (Reps.none _ _))
                                intro v170 w29 ho30 hb hg_ hnew_
                                clear hg_ hnew_
                                (first | rw [← Ny169.out] at ho30 | (simp only [Int.reduceToNat] at ho30; rw [← Ny169.out] at ho30))
                                have n0_ := Aside0.mk (Kd.N_elder' (by (with_reducible repeat (first | apply Kd.N_alloc | apply Kd.N_drewN | apply Kd.N_drew)); exact HO166.out) (Kd.N_base ho30) hb)
                                have n1_ := Aside0.mk (Kd.N_elder' (by (with_reducible repeat (first | apply Kd.N_alloc | apply Kd.N_drewN | apply Kd.N_drew)); exact HO180.out) (Kd.N_base ho30) hb)
                                have n2_ := Aside0.mk (Kd.N_lower ho30 (below_size (by repeat (first | (with_reducible first | exact HB.out | apply below_alloc | apply pw_below_drewN | apply below_drew1) | exact HB.out))))
                                have n3_ := Aside0.mk (below_step (by repeat (first | (with_reducible first | exact HB.out | apply below_alloc | apply pw_below_drewN | apply below_drew1) | exact HB.out)) hb)
                                clear HO166
                                clear HO180
                                clear HB
                                have HO166 := n0_
                                have HO180 := n1_
                                have HO171 := n2_
                                have HB := n3_
                                clear n0_ n1_ n2_ n3_
                                clear hb ho30
                                refine hK.out _ _ trivial (fun hHeld => ?_)
                                clear hK K
                                refine norm_ (a' := ?_) ?_ ?_
                                rotate_left
                                · show Act.put _ (some 24) _ = _
                                  simp only [Act.put, List.setIfInBounds_toArray, List.set_cons_zero, List.set_cons_succ, i64_w, i32_w]
                                  rfl
                                exact norm_ (by first | (simp only [putAll, Act.put, List.setIfInBounds_toArray, List.set_cons_zero, List.set_cons_succ]; done) | (simp only [putAll, Act.put, List.setIfInBounds_toArray, List.set_cons_zero, List.set_cons_succ]; rfl)) (hJ0_5_7 (v170, v176, v179) _ ⟨(by (with_reducible repeat (first | apply Kd.N_alloc | apply Kd.N_drewN | apply Kd.N_drew)); exact Kd.N_mono HO166.out (fun _ hk => ⟨hk.2, hk.1⟩)), (by (with_reducible repeat (first | apply Kd.N_alloc | apply Kd.N_drewN | apply Kd.N_drew)); exact HO171.out), (by (with_reducible repeat (first | apply Kd.N_alloc | apply Kd.N_drewN | apply Kd.N_drew)); exact HO180.out), (by repeat (first | (with_reducible first | exact HB.out | apply below_alloc | apply pw_below_drewN | apply below_drew1) | exact HB.out))⟩)
                            · skip
                              rintro ⟨v170, v176⟩ w28 ⟨h0_, h1_, h2_, h3_⟩
                              have n0_ : Aside0 (Kd.N k43 43 w28 w.heap.size (fun k_ => some k_ ≠ (v170 : Value).ownBlock ∧ some k_ ≠ (v176 : Value).ownBlock) (.slice Ao20 t164.length co20) t164) := ⟨h0_⟩
                              have n1_ : Aside0 (Kd.N k43 43 w28 w.heap.size (fun k_ => some k_ ≠ (.slice Ao20 t164.length co20 : Value).ownBlock ∧ some k_ ≠ (v176 : Value).ownBlock) v170 y169) := ⟨h1_⟩
                              have n2_ : Aside0 (Kd.R (Kd.int .u8) 5 w28 w.heap.size (fun _ => True) v176 y175) := ⟨h2_⟩
                              have n3_ : Aside0 (Below w.heap.size w w28) := ⟨h3_⟩
                              clear HO166
                              clear HB
                              clear h0_ h1_ h2_ h3_
                              have HO166 := n0_
                              have HO171 := n1_
                              have HO177 := n2_
                              have HB := n3_
                              clear n0_ n1_ n2_ n3_
                              have hHeld := trivial
                              obtain ⟨Ao29, co29, eo29⟩ := Kd.R_slice HO177.out
                              (first | subst eo29 | (injection eo29 with f1_ f2_ f3_; have f4_ := f1_.symm; have f5_ := f3_.symm; clear f1_ f2_ f3_; subst f4_; subst f5_))
                              refine norm_ (a' := ?_) ?_ ?_
                              rotate_left
                              · simp only [putAll, Act.put, List.setIfInBounds_toArray, List.set_cons_zero, List.set_cons_succ]
                                rfl
                              refine two_ (i := 2) (j := 7) (Ni := some 26) (Nj := some 31) #[true, true, true, true, true, true, true, false, false, false] #[true, true, false, true, true, true, true, true, false, false] rfl rfl rfl rfl (two_of HT_.out (by kernel_rfl)) (by decide) (by decide) (fun K hK => ?_) (fun K hK => ?_)
                              · skip
                                refine Kd.N_append_rows_step k43 (w0 := w) w.heap.size (by rfl) (.tmp 24) (.tmp 25) 29 43 (.agg #[(.int .u8 0), (.slice none 0 0)]) 32 rfl Try.underlying29 info43 rfl (by decide) (by omega) v170 y169 t164 _ _ _ (fun k_ => some k_ ≠ (.slice Ao29 y175.length co29 : Value).ownBlock) (fun k_ => ((fun k_ => some k_ ≠ (.slice Ao29 y175.length co29 : Value).ownBlock)) k_ ∧ some k_ ≠ (v170 : Value).ownBlock) rfl rfl ?aO ?aR (fun _ hk => hk) ?aF ?aB ?aS ?aL ?_
                                (case aR => exact (by skip; exact Kd.N_F (Kd.N_mono (ok' := (fun k_ => ((fun k_ => some k_ ≠ (.slice Ao29 y175.length co29 : Value).ownBlock)) k_ ∧ some k_ ≠ (v170 : Value).ownBlock)) (HO166.out) (fun k_ hk => ⟨hk.2, hk.1⟩))))
                                (case aB => exact (by repeat (first | (with_reducible first | exact HB.out | apply below_alloc | apply pw_below_drewN | apply below_drew1) | exact HB.out)))
                                (case aF => exact (fun k_ hk => Kd.fresh' (Kd.R_lt (by (with_reducible repeat (first | apply Kd.R_alloc | apply Kd.R_drewN | apply Kd.R_drew)); exact HO177.out)) k_ hk))
                                (case aO => exact (by (with_reducible repeat (first | apply Kd.N_alloc | apply Kd.N_drewN | apply Kd.N_drew)); exact Kd.N_mono HO171.out (fun _ hk => hk.2)))
                                (case aS => exact (below_size (by repeat (first | (with_reducible first | exact HB.out | apply below_alloc | apply pw_below_drewN | apply below_drew1) | exact HB.out))))
                                (case aL => have := LMc9.out; omega)
                                intro v173 w30 ho hb hg hat
                                rw [← Ny172.out] at ho
                                have n0_ := Aside0.mk (Kd.N_afterv (ok := (fun k_ => some k_ ≠ (.slice Ao29 y175.length co29 : Value).ownBlock)) (by (with_reducible repeat (first | apply Kd.N_alloc | apply Kd.N_drewN | apply Kd.N_drew)); exact Kd.N_mono HO166.out (fun _ hk => ⟨hk.2, hk.1⟩)) hg hat)
                                have n1_ := Aside0.mk (Kd.R_over' (by (with_reducible repeat (first | apply Kd.R_alloc | apply Kd.R_drewN | apply Kd.R_drew)); exact HO177.out) (Kd.N_typed (by (with_reducible repeat (first | apply Kd.N_alloc | apply Kd.N_drewN | apply Kd.N_drew)); exact HO171.out)) (by decide) hg)
                                have n2_ := Aside0.mk (hb)
                                have n3_ := Aside0.mk (ho)
                                clear HO166
                                clear HO177
                                clear HB
                                clear HO171
                                have HO166 := n0_
                                have HO177 := n1_
                                have HB := n2_
                                have HO174 := n3_
                                clear n0_ n1_ n2_ n3_
                                clear ho hb hg hat
                                refine hK.out _ _ trivial (fun hHeld => ?_)
                                clear hK K
                                refine norm_ (a' := ?_) ?_ ?_
                                rotate_left
                                · show Act.put _ (some 26) _ = _
                                  simp only [Act.put, List.setIfInBounds_toArray, List.set_cons_zero, List.set_cons_succ, i64_w, i32_w]
                                  rfl
                                exact norm_ (by first | (simp only [putAll, Act.put, List.setIfInBounds_toArray, List.set_cons_zero, List.set_cons_succ]; done) | (simp only [putAll, Act.put, List.setIfInBounds_toArray, List.set_cons_zero, List.set_cons_succ]; rfl)) (hJ0_2_5 (v170, v173, .slice Ao29 y175.length co29) _ ⟨(by (with_reducible repeat (first | apply Kd.N_alloc | apply Kd.N_drewN | apply Kd.N_drew)); exact Kd.N_mono HO166.out (fun _ hk => ⟨hk.2, hk.1⟩)), (by (with_reducible repeat (first | apply Kd.N_alloc | apply Kd.N_drewN | apply Kd.N_drew)); exact HO174.out), (by (with_reducible repeat (first | apply Kd.R_alloc | apply Kd.R_drewN | apply Kd.R_drew)); exact HO177.out), (by repeat (first | (with_reducible first | exact HB.out | apply below_alloc | apply pw_below_drewN | apply below_drew1) | exact HB.out))⟩)
                              · skip
                                refine Kd.N_lit_step k43 _ 43 ?hg (N' := 31) ?hd (xs := ([(⟨t167, y175⟩ : S43)] : List (S43))) (inner := [.int .u8 t167, .slice Ao29 y175.length co29]) (ok := (fun k_ => some k_ ≠ (.slice Ao20 t164.length co20 : Value).ownBlock ∧ some k_ ≠ (v170 : Value).ownBlock)) (okp := (fun k_ => some k_ ≠ (.slice Ao20 t164.length co20 : Value).ownBlock ∧ some k_ ≠ (v170 : Value).ownBlock)) ?hr ?hp (fun _ hk => hk) ((show ∀ k_, w28.heap.size ≤ k_ → (fun k_ => some k_ ≠ (.slice Ao20 t164.length co20 : Value).ownBlock ∧ some k_ ≠ (v170 : Value).ownBlock) k_ from fun k_ hk => ⟨Kd.fresh' (Kd.N_lt (by (with_reducible repeat (first | apply Kd.N_alloc | apply Kd.N_drewN | apply Kd.N_drew)); exact HO166.out)) k_ hk, Kd.fresh' (Kd.N_lt (by (with_reducible repeat (first | apply Kd.N_alloc | apply Kd.N_drewN | apply Kd.N_drew)); exact HO171.out)) k_ hk⟩) _ (Nat.le_refl _)) (Below.refl _ _) (Nat.le_refl _) (by simp) ?_; (case hd => rfl); (case hg => rfl); (case hr => first | (go_simp; done) | (go_simp; rfl)); (case hp => exact (Reps.c2 (show Kd.FK k43 _ _ (⟨t167, y175⟩ : S43) [.int .u8 t167, .slice Ao29 y175.length co29] from (k43_mkF _ _ (⟨t167, y175⟩ : S43) (Kd.R_reads' (Kd.R_mono (ok' := (fun k_ => some k_ ≠ (.slice Ao20 t164.length co20 : Value).ownBlock ∧ some k_ ≠ (v170 : Value).ownBlock)) (Kd.R_apart' (Kd.R_apart' (HO177.out) (Kd.N_typed HO166.out) (by decide)) (Kd.N_typed HO171.out) (by decide)) (fun k_ hk => ⟨hk.1.2, hk.2⟩))).2.1 (Kd.R_F (Kd.R_mono (ok' := (fun k_ => some k_ ≠ (.slice Ao20 t164.length co20 : Value).ownBlock ∧ some k_ ≠ (v170 : Value).ownBlock)) (Kd.R_apart' (Kd.R_apart' (HO177.out) (Kd.N_typed HO166.out) (by decide)) (Kd.N_typed HO171.out) (by decide)) (fun k_ hk => ⟨hk.1.2, hk.2⟩))))) (Reps.none _ _)))
                                intro v179 w30 ho31 hb hg_ hnew_
                                clear hg_ hnew_
                                (first | rw [← Ny178.out] at ho31 | (simp only [Int.reduceToNat] at ho31; rw [← Ny178.out] at ho31))
                                have n0_ := Aside0.mk (Kd.N_elder' (by (with_reducible repeat (first | apply Kd.N_alloc | apply Kd.N_drewN | apply Kd.N_drew)); exact HO166.out) (Kd.N_base ho31) hb)
                                have n1_ := Aside0.mk (Kd.N_elder' (by (with_reducible repeat (first | apply Kd.N_alloc | apply Kd.N_drewN | apply Kd.N_drew)); exact HO171.out) (Kd.N_base ho31) hb)
                                have n2_ := Aside0.mk (Kd.N_lower ho31 (below_size (by repeat (first | (with_reducible first | exact HB.out | apply below_alloc | apply pw_below_drewN | apply below_drew1) | exact HB.out))))
                                have n3_ := Aside0.mk (below_step (by repeat (first | (with_reducible first | exact HB.out | apply below_alloc | apply pw_below_drewN | apply below_drew1) | exact HB.out)) hb)
                                clear HO166
                                clear HO171
                                clear HB
                                clear HO177
                                have HO166 := n0_
                                have HO171 := n1_
                                have HO180 := n2_
                                have HB := n3_
                                clear n0_ n1_ n2_ n3_
                                clear hb ho31
                                refine hK.out _ _ trivial (fun hHeld => ?_)
                                clear hK K
                                refine norm_ (a' := ?_) ?_ ?_
                                rotate_left
                                · show Act.put _ (some 31) _ = _
                                  simp only [Act.put, List.setIfInBounds_toArray, List.set_cons_zero, List.set_cons_succ, i64_w, i32_w]
                                  rfl
                                exact norm_ (by first | (simp only [putAll, Act.put, List.setIfInBounds_toArray, List.set_cons_zero, List.set_cons_succ]; done) | (simp only [putAll, Act.put, List.setIfInBounds_toArray, List.set_cons_zero, List.set_cons_succ]; rfl)) (hJ0_5_7 (v170, .slice Ao29 y175.length co29, v179) _ ⟨(by (with_reducible repeat (first | apply Kd.N_alloc | apply Kd.N_drewN | apply Kd.N_drew)); exact Kd.N_mono HO166.out (fun _ hk => ⟨hk.1.1, hk.2⟩)), (by (with_reducible repeat (first | apply Kd.N_alloc | apply Kd.N_drewN | apply Kd.N_drew)); exact Kd.N_mono HO171.out (fun _ hk => ⟨hk.1.1, hk.2⟩)), (by (with_reducible repeat (first | apply Kd.N_alloc | apply Kd.N_drewN | apply Kd.N_drew)); exact HO180.out), (by repeat (first | (with_reducible first | exact HB.out | apply below_alloc | apply pw_below_drewN | apply below_drew1) | exact HB.out))⟩)
                          · skip
                            rintro ⟨v170, v173⟩ w26 ⟨h0_, h1_, h2_⟩
                            have n0_ : Aside0 (Kd.N k43 43 w26 w.heap.size (fun k_ => some k_ ≠ (v173 : Value).ownBlock) (.slice Ao20 t164.length co20) t164) := ⟨h0_⟩
                            have n1_ : Aside0 (Kd.N k43 43 w26 w.heap.size (fun _ => True) v173 y172) := ⟨h1_⟩
                            have n2_ : Aside0 (Below w.heap.size w w26) := ⟨h2_⟩
                            clear HO166
                            clear HB
                            clear h0_ h1_ h2_
                            have HO166 := n0_
                            have HO174 := n1_
                            have HB := n2_
                            clear n0_ n1_ n2_
                            have hHeld := trivial
                            refine norm_ (a' := ?_) ?_ ?_
                            rotate_left
                            · simp only [putAll, Act.put, List.setIfInBounds_toArray, List.set_cons_zero, List.set_cons_succ]
                              rfl
                            refine one_ (i := 5) (N := some 29) #[true, true, true, true, true, true, false, false, false, false] rfl rfl (one_of HT_.out (by kernel_rfl)) (by decide) (fun K hK => ?_)
                            refine Kd.R_make_step (Kd.int .u8) _ 5 (by rfl) (N := 29) rfl 22 _ _ rfl t168 rfl rfl Try.underlying22 (.int .u8 0) 1 info5 rfl (by decide) (by omega) 0 (ok := fun _ => True) (okp := fun _ => True) rfl (fun _ hk => hk) trivial (of_decide_eq_true (by first | (with_reducible assumption) | assumption)) (Nat.le_trans (Nat.mul_le_mul_right _ (of_decide_eq_true (by first | (with_reducible assumption) | assumption) : t168.toNat ≤ 281474976710656)) (by omega)) (Below.refl _ _) (Nat.le_refl _) ?_
                            intro v176 w27 ho28 hb hg_ hnew_
                            clear hg_ hnew_
                            (first | rw [← Ny175.out] at ho28 | (simp only [Int.reduceToNat] at ho28; rw [← Ny175.out] at ho28))
                            have n0_ := Aside0.mk (Kd.N_elder' (by (with_reducible repeat (first | apply Kd.N_alloc | apply Kd.N_drewN | apply Kd.N_drew)); exact HO166.out) (Kd.R_base ho28) hb)
                            have n1_ := Aside0.mk (Kd.N_elder' (by (with_reducible repeat (first | apply Kd.N_alloc | apply Kd.N_drewN | apply Kd.N_drew)); exact HO174.out) (Kd.R_base ho28) hb)
                            have n2_ := Aside0.mk (Kd.R_lower ho28 (below_size (by repeat (first | (with_reducible first | exact HB.out | apply below_alloc | apply pw_below_drewN | apply below_drew1) | exact HB.out))))
                            have n3_ := Aside0.mk (below_step (by repeat (first | (with_reducible first | exact HB.out | apply below_alloc | apply pw_below_drewN | apply below_drew1) | exact HB.out)) hb)
                            clear HO166
                            clear HO174
                            clear HB
                            have HO166 := n0_
                            have HO174 := n1_
                            have HO177 := n2_
                            have HB := n3_
                            clear n0_ n1_ n2_ n3_
                            clear hb ho28
                            obtain ⟨Ao29, co29, eo29⟩ := Kd.R_slice HO177.out
                            (first | subst eo29 | (injection eo29 with f1_ f2_ f3_; have f4_ := f1_.symm; have f5_ := f3_.symm; clear f1_ f2_ f3_; subst f4_; subst f5_))
                            refine hK.out _ _ trivial (fun hHeld => ?_)
                            clear hK K
                            refine norm_ (a' := ?_) ?_ ?_
                            rotate_left
                            · show Act.put _ (some 29) _ = _
                              simp only [Act.put, List.setIfInBounds_toArray, List.set_cons_zero, List.set_cons_succ, i64_w, i32_w]
                              rfl
                            refine pure_ (i := 6) (N := some 30) (v := ?_) (a' := ?_) #[true, true, true, true, true, true, true, false, false, false] rfl rfl (any_of HT_.out (by kernel_rfl)) (fun _ _ _ h => h) (Or.inl ⟨by rfl, ?_⟩) ?_ ?_
                            rotate_left
                            · intro w'
                              go_simp
                              with_reducible rfl
                            rotate_left
                            · simp only [Act.put, List.setIfInBounds_toArray, List.set_cons_zero, List.set_cons_succ, i64_w, i32_w]
                              rfl
                            exact norm_ (by first | (simp only [putAll, Act.put, List.setIfInBounds_toArray, List.set_cons_zero, List.set_cons_succ]; done) | (simp only [putAll, Act.put, List.setIfInBounds_toArray, List.set_cons_zero, List.set_cons_succ]; rfl)) (hJ0_2_5 (v170, v173, .slice Ao29 y175.length co29) _ ⟨(by (with_reducible repeat (first | apply Kd.N_alloc | apply Kd.N_drewN | apply Kd.N_drew)); exact HO166.out), (by (with_reducible repeat (first | apply Kd.N_alloc | apply Kd.N_drewN | apply Kd.N_drew)); exact Kd.N_mono HO174.out (fun _ hk => hk.2)), (by (with_reducible repeat (first | apply Kd.R_alloc | apply Kd.R_drewN | apply Kd.R_drew)); exact HO177.out), (by repeat (first | (with_reducible first | exact HB.out | apply below_alloc | apply pw_below_drewN | apply below_drew1) | exact HB.out))⟩)
                        · skip
                          rintro ⟨v170, v176, v179⟩ w30 ⟨h0_, h1_, h2_, h3_⟩
                          have n0_ : Aside0 (Kd.N k43 43 w30 w.heap.size (fun k_ => some k_ ≠ (v170 : Value).ownBlock ∧ some k_ ≠ (v179 : Value).ownBlock) (.slice Ao20 t164.length co20) t164) := ⟨h0_⟩
                          have n1_ : Aside0 (Kd.N k43 43 w30 w.heap.size (fun k_ => some k_ ≠ (.slice Ao20 t164.length co20 : Value).ownBlock ∧ some k_ ≠ (v179 : Value).ownBlock) v170 y169) := ⟨h1_⟩
                          have n2_ : Aside0 (Kd.N k43 43 w30 w.heap.size (fun k_ => some k_ ≠ (.slice Ao20 t164.length co20 : Value).ownBlock ∧ some k_ ≠ (v170 : Value).ownBlock) v179 y178) := ⟨h2_⟩
                          have n3_ : Aside0 (Below w.heap.size w w30) := ⟨h3_⟩
                          clear HO166
                          clear HB
                          clear h0_ h1_ h2_ h3_
                          have HO166 := n0_
                          have HO171 := n1_
                          have HO180 := n2_
                          have HB := n3_
                          clear n0_ n1_ n2_ n3_
                          have hHeld := trivial
                          refine norm_ (a' := ?_) ?_ ?_
                          rotate_left
                          · simp only [putAll, Act.put, List.setIfInBounds_toArray, List.set_cons_zero, List.set_cons_succ]
                            rfl
                          refine one_ (i := 2) (N := some 26) #[true, true, true, true, true, true, true, true, false, false] rfl rfl (one_of HT_.out (by kernel_rfl)) (by decide) (fun K hK => ?_)
                          refine Kd.N_append_rows_step k43 (w0 := w) w.heap.size (by rfl) (.tmp 24) (.tmp 25) 29 43 (.agg #[(.int .u8 0), (.slice none 0 0)]) 32 rfl Try.underlying29 info43 rfl (by decide) (by omega) v170 y169 t164 _ _ _ (fun k_ => some k_ ≠ (v179 : Value).ownBlock) (fun k_ => ((fun k_ => some k_ ≠ (v179 : Value).ownBlock)) k_ ∧ some k_ ≠ (v170 : Value).ownBlock) rfl rfl ?aO ?aR (fun _ hk => hk) ?aF ?aB ?aS ?aL ?_
                          (case aR => exact (by skip; exact Kd.N_F (Kd.N_mono (ok' := (fun k_ => ((fun k_ => some k_ ≠ (v179 : Value).ownBlock)) k_ ∧ some k_ ≠ (v170 : Value).ownBlock)) (HO166.out) (fun k_ hk => ⟨hk.2, hk.1⟩))))
                          (case aB => exact (by repeat (first | (with_reducible first | exact HB.out | apply below_alloc | apply pw_below_drewN | apply below_drew1) | exact HB.out)))
                          (case aF => exact (fun k_ hk => Kd.fresh' (Kd.N_lt (by (with_reducible repeat (first | apply Kd.N_alloc | apply Kd.N_drewN | apply Kd.N_drew)); exact HO180.out)) k_ hk))
                          (case aO => exact (by (with_reducible repeat (first | apply Kd.N_alloc | apply Kd.N_drewN | apply Kd.N_drew)); exact Kd.N_mono HO171.out (fun _ hk => hk.2)))
                          (case aS => exact (below_size (by repeat (first | (with_reducible first | exact HB.out | apply below_alloc | apply pw_below_drewN | apply below_drew1) | exact HB.out))))
                          (case aL => have := LMc9.out; omega)
                          intro v173 w31 ho hb hg hat
                          rw [← Ny172.out] at ho
                          have n0_ := Aside0.mk (Kd.N_afterv (ok := (fun k_ => some k_ ≠ (v179 : Value).ownBlock)) (by (with_reducible repeat (first | apply Kd.N_alloc | apply Kd.N_drewN | apply Kd.N_drew)); exact Kd.N_mono HO166.out (fun _ hk => ⟨hk.2, hk.1⟩)) hg hat)
                          have n1_ := Aside0.mk (Kd.N_afterv (ok := (fun k_ => some k_ ≠ (.slice Ao20 t164.length co20 : Value).ownBlock)) (by (with_reducible repeat (first | apply Kd.N_alloc | apply Kd.N_drewN | apply Kd.N_drew)); exact HO180.out) hg hat)
                          have n2_ := Aside0.mk (hb)
                          have n3_ := Aside0.mk (ho)
                          clear HO166
                          clear HO180
                          clear HB
                          clear HO171
                          have HO166 := n0_
                          have HO180 := n1_
                          have HB := n2_
                          have HO174 := n3_
                          clear n0_ n1_ n2_ n3_
                          clear ho hb hg hat
                          refine hK.out _ _ trivial (fun hHeld => ?_)
                          clear hK K
                          refine norm_ (a' := ?_) ?_ ?_
                          rotate_left
                          · show Act.put _ (some 26) _ = _
                            simp only [Act.put, List.setIfInBounds_toArray, List.set_cons_zero, List.set_cons_succ, i64_w, i32_w]
                            rfl
                          exact norm_ (by first | (simp only [putAll, Act.put, List.setIfInBounds_toArray, List.set_cons_zero, List.set_cons_succ]; done) | (simp only [putAll, Act.put, List.setIfInBounds_toArray, List.set_cons_zero, List.set_cons_succ]; rfl)) (hJ0_2_5_7 (v170, v173, v176, v179) _ ⟨(by (with_reducible repeat (first | apply Kd.N_alloc | apply Kd.N_drewN | apply Kd.N_drew)); exact Kd.N_mono HO166.out (fun _ hk => ⟨hk.2, hk.1⟩)), (by (with_reducible repeat (first | apply Kd.N_alloc | apply Kd.N_drewN | apply Kd.N_drew)); exact HO174.out), (by (with_reducible repeat (first | apply Kd.N_alloc | apply Kd.N_drewN | apply Kd.N_drew)); exact HO180.out), (by repeat (first | (with_reducible first | exact HB.out | apply below_alloc | apply pw_below_drewN | apply below_drew1) | exact HB.out))⟩)
                      · skip
                        rintro ⟨v170, v173, v176⟩ w29 ⟨h0_, h1_, h2_, h3_⟩
                        have n0_ : Aside0 (Kd.N k43 43 w29 w.heap.size (fun k_ => some k_ ≠ (v173 : Value).ownBlock ∧ some k_ ≠ (v176 : Value).ownBlock) (.slice Ao20 t164.length co20) t164) := ⟨h0_⟩
                        have n1_ : Aside0 (Kd.N k43 43 w29 w.heap.size (fun k_ => some k_ ≠ (v176 : Value).ownBlock) v173 y172) := ⟨h1_⟩
                        have n2_ : Aside0 (Kd.R (Kd.int .u8) 5 w29 w.heap.size (fun _ => True) v176 y175) := ⟨h2_⟩
                        have n3_ : Aside0 (Below w.heap.size w w29) := ⟨h3_⟩
                        clear HO166
                        clear HB
                        clear h0_ h1_ h2_ h3_
                        have HO166 := n0_
                        have HO174 := n1_
                        have HO177 := n2_
                        have HB := n3_
                        clear n0_ n1_ n2_ n3_
                        have hHeld := trivial
                        obtain ⟨Ao30, co30, eo30⟩ := Kd.R_slice HO177.out
                        (first | subst eo30 | (injection eo30 with f1_ f2_ f3_; have f4_ := f1_.symm; have f5_ := f3_.symm; clear f1_ f2_ f3_; subst f4_; subst f5_))
                        refine norm_ (a' := ?_) ?_ ?_
                        rotate_left
                        · simp only [putAll, Act.put, List.setIfInBounds_toArray, List.set_cons_zero, List.set_cons_succ]
                          rfl
                        refine one_ (i := 7) (N := some 31) #[true, true, true, true, true, true, true, true, false, false] rfl rfl (one_of HT_.out (by kernel_rfl)) (by decide) (fun K hK => ?_)
                        refine Kd.N_lit_step k43 _ 43 ?hg (N' := 31) ?hd (xs := ([(⟨t167, y175⟩ : S43)] : List (S43))) (inner := [.int .u8 t167, .slice Ao30 y175.length co30]) (ok := (fun k_ => some k_ ≠ (.slice Ao20 t164.length co20 : Value).ownBlock ∧ some k_ ≠ (v173 : Value).ownBlock)) (okp := (fun k_ => some k_ ≠ (.slice Ao20 t164.length co20 : Value).ownBlock ∧ some k_ ≠ (v173 : Value).ownBlock)) ?hr ?hp (fun _ hk => hk) ((show ∀ k_, w29.heap.size ≤ k_ → (fun k_ => some k_ ≠ (.slice Ao20 t164.length co20 : Value).ownBlock ∧ some k_ ≠ (v173 : Value).ownBlock) k_ from fun k_ hk => ⟨Kd.fresh' (Kd.N_lt (by (with_reducible repeat (first | apply Kd.N_alloc | apply Kd.N_drewN | apply Kd.N_drew)); exact HO166.out)) k_ hk, Kd.fresh' (Kd.N_lt (by (with_reducible repeat (first | apply Kd.N_alloc | apply Kd.N_drewN | apply Kd.N_drew)); exact HO174.out)) k_ hk⟩) _ (Nat.le_refl _)) (Below.refl _ _) (Nat.le_refl _) (by simp) ?_; (case hd => rfl); (case hg => rfl); (case hr => first | (go_simp; done) | (go_simp; rfl)); (case hp => exact (Reps.c2 (show Kd.FK k43 _ _ (⟨t167, y175⟩ : S43) [.int .u8 t167, .slice Ao30 y175.length co30] from (k43_mkF _ _ (⟨t167, y175⟩ : S43) (Kd.R_reads' (Kd.R_mono (ok' := (fun k_ => some k_ ≠ (.slice Ao20 t164.length co20 : Value).ownBlock ∧ some k_ ≠ (v173 : Value).ownBlock)) (Kd.R_apart' (Kd.R_apart' (HO177.out) (Kd.N_typed HO166.out) (by decide)) (Kd.N_typed HO174.out) (by decide)) (fun k_ hk => ⟨hk.1.2, hk.2⟩))).2.1 (Kd.R_F (Kd.R_mono (ok' := (fun k_ => some k_ ≠ (.slice Ao20 t164.length co20 : Value).ownBlock ∧ some k_ ≠ (v173 : Value).ownBlock)) (Kd.R_apart' (Kd.R_apart' (HO177.out) (Kd.N_typed HO166.out) (by decide)) (Kd.N_typed HO174.out) (by decide)) (fun k_ hk => ⟨hk.1.2, hk.2⟩))))) (Reps.none _ _)))
                        intro v179 w31 ho32 hb hg_ hnew_
                        clear hg_ hnew_
                        (first | rw [← Ny178.out] at ho32 | (simp only [Int.reduceToNat] at ho32; rw [← Ny178.out] at ho32))
                        have n0_ := Aside0.mk (Kd.N_elder' (by (with_reducible repeat (first | apply Kd.N_alloc | apply Kd.N_drewN | apply Kd.N_drew)); exact HO166.out) (Kd.N_base ho32) hb)
                        have n1_ := Aside0.mk (Kd.N_elder' (by (with_reducible repeat (first | apply Kd.N_alloc | apply Kd.N_drewN | apply Kd.N_drew)); exact HO174.out) (Kd.N_base ho32) hb)
                        have n2_ := Aside0.mk (Kd.N_lower ho32 (below_size (by repeat (first | (with_reducible first | exact HB.out | apply below_alloc | apply pw_below_drewN | apply below_drew1) | exact HB.out))))
                        have n3_ := Aside0.mk (below_step (by repeat (first | (with_reducible first | exact HB.out | apply below_alloc | apply pw_below_drewN | apply below_drew1) | exact HB.out)) hb)
                        clear HO166
                        clear HO174
                        clear HB
                        clear HO177
                        have HO166 := n0_
                        have HO174 := n1_
                        have HO180 := n2_
                        have HB := n3_
                        clear n0_ n1_ n2_ n3_
                        clear hb ho32
                        refine hK.out _ _ trivial (fun hHeld => ?_)
                        clear hK K
                        refine norm_ (a' := ?_) ?_ ?_
                        rotate_left
                        · show Act.put _ (some 31) _ = _
                          simp only [Act.put, List.setIfInBounds_toArray, List.set_cons_zero, List.set_cons_succ, i64_w, i32_w]
                          rfl
                        exact norm_ (by first | (simp only [putAll, Act.put, List.setIfInBounds_toArray, List.set_cons_zero, List.set_cons_succ]; done) | (simp only [putAll, Act.put, List.setIfInBounds_toArray, List.set_cons_zero, List.set_cons_succ]; rfl)) (hJ0_2_5_7 (v170, v173, .slice Ao30 y175.length co30, v179) _ ⟨(by (with_reducible repeat (first | apply Kd.N_alloc | apply Kd.N_drewN | apply Kd.N_drew)); exact Kd.N_mono HO166.out (fun _ hk => ⟨hk.1.1, hk.2⟩)), (by (with_reducible repeat (first | apply Kd.N_alloc | apply Kd.N_drewN | apply Kd.N_drew)); exact Kd.N_mono HO174.out (fun _ hk => hk.2)), (by (with_reducible repeat (first | apply Kd.N_alloc | apply Kd.N_drewN | apply Kd.N_drew)); exact HO180.out), (by repeat (first | (with_reducible first | exact HB.out | apply below_alloc | apply pw_below_drewN | apply below_drew1) | exact HB.out))⟩)
                    rintro ⟨v170, v173, v176, v179⟩ w31 ⟨h0_, h1_, h2_, h3_⟩
                    have n0_ : Aside0 (Kd.N k43 43 w31 w.heap.size (fun k_ => some k_ ≠ (v173 : Value).ownBlock ∧ some k_ ≠ (v179 : Value).ownBlock) (.slice Ao20 t164.length co20) t164) := ⟨h0_⟩
                    have n1_ : Aside0 (Kd.N k43 43 w31 w.heap.size (fun k_ => some k_ ≠ (v179 : Value).ownBlock) v173 y172) := ⟨h1_⟩
                    have n2_ : Aside0 (Kd.N k43 43 w31 w.heap.size (fun k_ => some k_ ≠ (.slice Ao20 t164.length co20 : Value).ownBlock ∧ some k_ ≠ (v173 : Value).ownBlock) v179 y178) := ⟨h2_⟩
                    have n3_ : Aside0 (Below w.heap.size w w31) := ⟨h3_⟩
                    clear HO166
                    clear HB
                    clear h0_ h1_ h2_ h3_
                    have HO166 := n0_
                    have HO174 := n1_
                    have HO180 := n2_
                    have HB := n3_
                    clear n0_ n1_ n2_ n3_
                    have hHeld := trivial
                    obtain ⟨Ao33, co33, eo33⟩ := Kd.N_slice HO180.out
                    (first | subst eo33 | (injection eo33 with f1_ f2_ f3_; have f4_ := f1_.symm; have f5_ := f3_.symm; clear f1_ f2_ f3_; subst f4_; subst f5_))
                    refine norm_ (a' := ?_) ?_ ?_
                    rotate_left
                    · simp only [putAll, Act.put, List.setIfInBounds_toArray, List.set_cons_zero, List.set_cons_succ]
                      rfl
                    refine one_ (i := 8) (N := some 32) #[true, true, true, true, true, true, true, true, true, false] rfl rfl (one_of HT_.out (by kernel_rfl)) (by decide) (fun K hK => ?_)
                    refine Kd.N_append_rows_step k43 (w0 := w) w.heap.size (by rfl) (.tmp 26) (.tmp 31) 29 43 (.agg #[(.int .u8 0), (.slice none 0 0)]) 32 rfl Try.underlying29 info43 rfl (by decide) (by omega) v173 y172 y178 _ _ _ (fun _ => True) (fun k_ => ((fun _ => True)) k_ ∧ some k_ ≠ (v173 : Value).ownBlock) rfl rfl ?aO ?aR (fun _ hk => hk) ?aF ?aB ?aS ?aL ?_
                    (case aR => exact (by skip; exact Kd.N_F (Kd.N_mono (ok' := (fun k_ => ((fun _ => True)) k_ ∧ some k_ ≠ (v173 : Value).ownBlock)) (HO180.out) (fun k_ hk => ⟨trivial, hk.2⟩))))
                    (case aB => exact (by repeat (first | (with_reducible first | exact HB.out | apply below_alloc | apply pw_below_drewN | apply below_drew1) | exact HB.out)))
                    (case aF => exact (fun _ _ => trivial))
                    (case aO => exact (by (with_reducible repeat (first | apply Kd.N_alloc | apply Kd.N_drewN | apply Kd.N_drew)); exact Kd.N_mono HO174.out (fun _ hk => trivial)))
                    (case aS => exact (below_size (by repeat (first | (with_reducible first | exact HB.out | apply below_alloc | apply pw_below_drewN | apply below_drew1) | exact HB.out))))
                    (case aL => have := LMc12.out; omega)
                    intro v182 w32 ho hb hg hat
                    rw [← Ny181.out] at ho
                    have n0_ := Aside0.mk (Kd.N_afterv (ok := (fun k_ => some k_ ≠ (.slice Ao33 y178.length co33 : Value).ownBlock)) (by (with_reducible repeat (first | apply Kd.N_alloc | apply Kd.N_drewN | apply Kd.N_drew)); exact Kd.N_mono HO166.out (fun _ hk => ⟨hk.2, hk.1⟩)) hg hat)
                    have n1_ := Aside0.mk (Kd.N_afterv (ok := (fun k_ => some k_ ≠ (.slice Ao20 t164.length co20 : Value).ownBlock)) (by (with_reducible repeat (first | apply Kd.N_alloc | apply Kd.N_drewN | apply Kd.N_drew)); exact HO180.out) hg hat)
                    have n2_ := Aside0.mk (hb)
                    have n3_ := Aside0.mk (ho)
                    clear HO166
                    clear HO180
                    clear HB
                    clear HO174
                    have HO166 := n0_
                    have HO180 := n1_
                    have HB := n2_
                    have HO183 := n3_
                    clear n0_ n1_ n2_ n3_
                    clear ho hb hg hat
                    refine hK.out _ _ trivial (fun hHeld => ?_)
                    clear hK K
                    refine norm_ (a' := ?_) ?_ ?_
                    rotate_left
                    · show Act.put _ (some 32) _ = _
                      simp only [Act.put, List.setIfInBounds_toArray, List.set_cons_zero, List.set_cons_succ, i64_w, i32_w]
                      rfl
                    refine pure_ (i := 9) (N := some 12) (v := ?_) (a' := ?_) #[true, true, true, true, true, true, true, true, true, true] rfl rfl (any_of HT_.out (by kernel_rfl)) (fun _ _ _ h => h) (Or.inl ⟨by rfl, ?_⟩) ?_ ?_
                    rotate_left
                    · intro w'
                      go_simp
                      with_reducible rfl
                    rotate_left
                    · simp only [Act.put, List.setIfInBounds_toArray, List.set_cons_zero, List.set_cons_succ, i64_w, i32_w]
                      rfl
                    refine done_ (done_of HT_.out (by kernel_rfl)) ?_
                    try go_wp2
                    have n0_ := Aside0.mk (Kd.N_drew HO166.out)
                    have n1_ := Aside0.mk (Kd.N_drew HO180.out)
                    have n2_ := Aside0.mk (Kd.N_drew HO183.out)
                    have n3_ := Aside0.mk (below_drew1 HB.out)
                    clear HO166
                    clear HO180
                    clear HO183
                    clear HB
                    have HO166 := n0_
                    have HO180 := n1_
                    have HO183 := n2_
                    have HB := n3_
                    clear n0_ n1_ n2_ n3_
                    refine start_ (n := 10) (S := fun w' => True) (ds := []) #[false, false, false, false, false, false, false, false, false, false] (by kernel_rfl) rfl rfl trivial (fun hHeld => ?_); refine with_tabW kotatsulaw05_BlockWants.tab6 kotatsulaw05_BlockWants.bits6 (fun HT_ HW_ => ?_)
                    generalize w32.drew = w34 at HO166 HO180 HO183 HB hHeld ⊢
                    refine pure_ (i := 1) (N := some 34) (v := ?_) (a' := ?_) #[false, true, false, false, false, false, false, false, false, false] rfl rfl (any_of HT_.out (by kernel_rfl)) (fun _ _ _ h => h) (Or.inl ⟨by rfl, ?_⟩) ?_ ?_
                    rotate_left
                    · intro w'
                      go_simp
                      with_reducible rfl
                    rotate_left
                    · simp only [Act.put, List.setIfInBounds_toArray, List.set_cons_zero, List.set_cons_succ, i64_w, i32_w]
                      rfl
                    refine pure_ (i := 3) (N := some 36) (v := ?_) (a' := ?_) #[false, true, false, true, false, false, false, false, false, false] rfl rfl (any_of HT_.out (by kernel_rfl)) (fun _ _ _ h => h) (Or.inl ⟨by rfl, ?_⟩) ?_ ?_
                    rotate_left
                    · intro w'
                      go_simp
                      with_reducible rfl
                    rotate_left
                    · simp only [Act.put, List.setIfInBounds_toArray, List.set_cons_zero, List.set_cons_succ, i64_w, i32_w]
                      rfl
                    refine pure_ (i := 4) (N := some 37) (v := ?_) (a' := ?_) #[false, true, false, true, true, false, false, false, false, false] rfl rfl (any_of HT_.out (by kernel_rfl)) (fun _ _ _ h => h) (Or.inl ⟨by rfl, ?_⟩) ?_ ?_
                    rotate_left
                    · intro w'
                      go_simp
                      with_reducible rfl
                    rotate_left
                    · simp only [Act.put, List.setIfInBounds_toArray, List.set_cons_zero, List.set_cons_succ, i64_w, i32_w]
                      rfl
                    refine join_ (σ := Value × Value × Value × Value) 2 #[true, true, true, true, true, true, true, true, false, false] (fun s_ => [(33, s_.1), (35, s_.2.1), (38, s_.2.2.1), (40, s_.2.2.2), (39, .agg #[.int .u8 a2, s_.2.2.1])]) (fun s_ w' => (Kd.N k43 43 w' w.heap.size (fun k_ => some k_ ≠ (.slice Ao33 y178.length co33 : Value).ownBlock ∧ some k_ ≠ (v182 : Value).ownBlock ∧ some k_ ≠ (s_.2.1 : Value).ownBlock ∧ some k_ ≠ (s_.2.2.2 : Value).ownBlock) (.slice Ao20 t164.length co20) t164) ∧ (Kd.N k43 43 w' w.heap.size (fun k_ => some k_ ≠ (.slice Ao20 t164.length co20 : Value).ownBlock ∧ some k_ ≠ (v182 : Value).ownBlock ∧ some k_ ≠ (s_.2.1 : Value).ownBlock ∧ some k_ ≠ (s_.2.2.2 : Value).ownBlock) (.slice Ao33 y178.length co33) y178) ∧ (Kd.N k43 43 w' w.heap.size (fun k_ => some k_ ≠ (s_.2.1 : Value).ownBlock ∧ some k_ ≠ (s_.2.2.2 : Value).ownBlock) v182 y181) ∧ (Kd.N k43 43 w' w.heap.size (fun k_ => some k_ ≠ (.slice Ao33 y178.length co33 : Value).ownBlock ∧ some k_ ≠ (v182 : Value).ownBlock ∧ some k_ ≠ (s_.2.2.2 : Value).ownBlock) s_.2.1 y187) ∧ (Kd.N k43 43 w' w.heap.size (fun k_ => some k_ ≠ (.slice Ao20 t164.length co20 : Value).ownBlock ∧ some k_ ≠ (.slice Ao33 y178.length co33 : Value).ownBlock ∧ some k_ ≠ (v182 : Value).ownBlock ∧ some k_ ≠ (s_.2.1 : Value).ownBlock) s_.2.2.2 y193) ∧ (Below w.heap.size w w')) ?_ ?_
                    rotate_left
                    · intro hJ0_2_5_7
                      refine join_ (σ := Value × Value × Value) 3 #[true, true, true, true, true, true, true, false, false, false] (fun s_ => [(33, s_.1), (35, s_.2.1), (38, s_.2.2), (39, .agg #[.int .u8 a2, s_.2.2])]) (fun s_ w' => (Kd.N k43 43 w' w.heap.size (fun k_ => some k_ ≠ (.slice Ao33 y178.length co33 : Value).ownBlock ∧ some k_ ≠ (v182 : Value).ownBlock ∧ some k_ ≠ (s_.2.1 : Value).ownBlock ∧ some k_ ≠ (s_.2.2 : Value).ownBlock) (.slice Ao20 t164.length co20) t164) ∧ (Kd.N k43 43 w' w.heap.size (fun k_ => some k_ ≠ (.slice Ao20 t164.length co20 : Value).ownBlock ∧ some k_ ≠ (v182 : Value).ownBlock ∧ some k_ ≠ (s_.2.1 : Value).ownBlock ∧ some k_ ≠ (s_.2.2 : Value).ownBlock) (.slice Ao33 y178.length co33) y178) ∧ (Kd.N k43 43 w' w.heap.size (fun k_ => some k_ ≠ (s_.2.1 : Value).ownBlock ∧ some k_ ≠ (s_.2.2 : Value).ownBlock) v182 y181) ∧ (Kd.N k43 43 w' w.heap.size (fun k_ => some k_ ≠ (.slice Ao33 y178.length co33 : Value).ownBlock ∧ some k_ ≠ (v182 : Value).ownBlock ∧ some k_ ≠ (s_.2.2 : Value).ownBlock) s_.2.1 y187) ∧ (Kd.R (Kd.int .u8) 5 w' w.heap.size (fun _ => True) s_.2.2 y190) ∧ (Below w.heap.size w w')) ?_ ?_
                      rotate_left
                      · intro hJ0_2_5
                        refine join_ (σ := Value × Value × Value) 3 #[true, true, false, true, true, true, true, true, false, false] (fun s_ => [(33, s_.1), (38, s_.2.1), (40, s_.2.2), (39, .agg #[.int .u8 a2, s_.2.1])]) (fun s_ w' => (Kd.N k43 43 w' w.heap.size (fun k_ => some k_ ≠ (.slice Ao33 y178.length co33 : Value).ownBlock ∧ some k_ ≠ (v182 : Value).ownBlock ∧ some k_ ≠ (s_.1 : Value).ownBlock ∧ some k_ ≠ (s_.2.2 : Value).ownBlock) (.slice Ao20 t164.length co20) t164) ∧ (Kd.N k43 43 w' w.heap.size (fun k_ => some k_ ≠ (.slice Ao20 t164.length co20 : Value).ownBlock ∧ some k_ ≠ (v182 : Value).ownBlock ∧ some k_ ≠ (s_.1 : Value).ownBlock ∧ some k_ ≠ (s_.2.2 : Value).ownBlock) (.slice Ao33 y178.length co33) y178) ∧ (Kd.N k43 43 w' w.heap.size (fun k_ => some k_ ≠ (s_.1 : Value).ownBlock ∧ some k_ ≠ (s_.2.2 : Value).ownBlock) v182 y181) ∧ (Kd.N k43 43 w' w.heap.size (fun k_ => some k_ ≠ (.slice Ao20 t164.length co20 : Value).ownBlock ∧ some k_ ≠ (.slice Ao33 y178.length co33 : Value).ownBlock ∧ some k_ ≠ (v182 : Value).ownBlock ∧ some k_ ≠ (s_.2.2 : Value).ownBlock) s_.1 y184) ∧ (Kd.N k43 43 w' w.heap.size (fun k_ => some k_ ≠ (.slice Ao20 t164.length co20 : Value).ownBlock ∧ some k_ ≠ (.slice Ao33 y178.length co33 : Value).ownBlock ∧ some k_ ≠ (v182 : Value).ownBlock ∧ some k_ ≠ (s_.1 : Value).ownBlock) s_.2.2 y193) ∧ (Below w.heap.size w w')) ?_ ?_
                        rotate_left
                        · intro hJ0_5_7
                          refine join_ (σ := Value × Value) 5 #[true, true, true, true, true, false, false, false, false, false] (fun s_ => [(33, s_.1), (35, s_.2)]) (fun s_ w' => (Kd.N k43 43 w' w.heap.size (fun k_ => some k_ ≠ (.slice Ao33 y178.length co33 : Value).ownBlock ∧ some k_ ≠ (v182 : Value).ownBlock ∧ some k_ ≠ (s_.2 : Value).ownBlock) (.slice Ao20 t164.length co20) t164) ∧ (Kd.N k43 43 w' w.heap.size (fun k_ => some k_ ≠ (.slice Ao20 t164.length co20 : Value).ownBlock ∧ some k_ ≠ (v182 : Value).ownBlock ∧ some k_ ≠ (s_.2 : Value).ownBlock) (.slice Ao33 y178.length co33) y178) ∧ (Kd.N k43 43 w' w.heap.size (fun k_ => some k_ ≠ (s_.2 : Value).ownBlock) v182 y181) ∧ (Kd.N k43 43 w' w.heap.size (fun k_ => some k_ ≠ (.slice Ao33 y178.length co33 : Value).ownBlock ∧ some k_ ≠ (v182 : Value).ownBlock) s_.2 y187) ∧ (Below w.heap.size w w')) ?_ ?_
                          rotate_left
                          · intro hJ0_2
                            refine join_ (σ := Value × Value) 4 #[true, true, false, true, true, true, true, false, false, false] (fun s_ => [(33, s_.1), (38, s_.2), (39, .agg #[.int .u8 a2, s_.2])]) (fun s_ w' => (Kd.N k43 43 w' w.heap.size (fun k_ => some k_ ≠ (.slice Ao33 y178.length co33 : Value).ownBlock ∧ some k_ ≠ (v182 : Value).ownBlock ∧ some k_ ≠ (s_.1 : Value).ownBlock ∧ some k_ ≠ (s_.2 : Value).ownBlock) (.slice Ao20 t164.length co20) t164) ∧ (Kd.N k43 43 w' w.heap.size (fun k_ => some k_ ≠ (.slice Ao20 t164.length co20 : Value).ownBlock ∧ some k_ ≠ (v182 : Value).ownBlock ∧ some k_ ≠ (s_.1 : Value).ownBlock ∧ some k_ ≠ (s_.2 : Value).ownBlock) (.slice Ao33 y178.length co33) y178) ∧ (Kd.N k43 43 w' w.heap.size (fun k_ => some k_ ≠ (s_.1 : Value).ownBlock ∧ some k_ ≠ (s_.2 : Value).ownBlock) v182 y181) ∧ (Kd.N k43 43 w' w.heap.size (fun k_ => some k_ ≠ (.slice Ao20 t164.length co20 : Value).ownBlock ∧ some k_ ≠ (.slice Ao33 y178.length co33 : Value).ownBlock ∧ some k_ ≠ (v182 : Value).ownBlock ∧ some k_ ≠ (s_.2 : Value).ownBlock) s_.1 y184) ∧ (Kd.R (Kd.int .u8) 5 w' w.heap.size (fun _ => True) s_.2 y190) ∧ (Below w.heap.size w w')) ?_ ?_
                            rotate_left
                            · intro hJ0_5
                              refine join_ (σ := Value × Value) 4 #[false, true, false, true, true, true, true, true, false, false] (fun s_ => [(38, s_.1), (40, s_.2), (39, .agg #[.int .u8 a2, s_.1])]) (fun s_ w' => (Kd.N k43 43 w' w.heap.size (fun k_ => some k_ ≠ (.slice Ao33 y178.length co33 : Value).ownBlock ∧ some k_ ≠ (v182 : Value).ownBlock ∧ some k_ ≠ (s_.2 : Value).ownBlock) (.slice Ao20 t164.length co20) t164) ∧ (Kd.N k43 43 w' w.heap.size (fun k_ => some k_ ≠ (.slice Ao20 t164.length co20 : Value).ownBlock ∧ some k_ ≠ (v182 : Value).ownBlock ∧ some k_ ≠ (s_.2 : Value).ownBlock) (.slice Ao33 y178.length co33) y178) ∧ (Kd.N k43 43 w' w.heap.size (fun k_ => some k_ ≠ (s_.2 : Value).ownBlock) v182 y181) ∧ (Kd.N k43 43 w' w.heap.size (fun k_ => some k_ ≠ (.slice Ao20 t164.length co20 : Value).ownBlock ∧ some k_ ≠ (.slice Ao33 y178.length co33 : Value).ownBlock ∧ some k_ ≠ (v182 : Value).ownBlock) s_.2 y193) ∧ (Below w.heap.size w w')) ?_ ?_
                              rotate_left
                              · intro hJ5_7
                                refine join_ (σ := Value) 6 #[true, true, false, true, true, false, false, false, false, false] (fun s_ => [(33, s_)]) (fun s_ w' => (Kd.N k43 43 w' w.heap.size (fun k_ => some k_ ≠ (.slice Ao33 y178.length co33 : Value).ownBlock ∧ some k_ ≠ (v182 : Value).ownBlock ∧ some k_ ≠ (s_ : Value).ownBlock) (.slice Ao20 t164.length co20) t164) ∧ (Kd.N k43 43 w' w.heap.size (fun k_ => some k_ ≠ (.slice Ao20 t164.length co20 : Value).ownBlock ∧ some k_ ≠ (v182 : Value).ownBlock ∧ some k_ ≠ (s_ : Value).ownBlock) (.slice Ao33 y178.length co33) y178) ∧ (Kd.N k43 43 w' w.heap.size (fun k_ => some k_ ≠ (s_ : Value).ownBlock) v182 y181) ∧ (Kd.N k43 43 w' w.heap.size (fun k_ => some k_ ≠ (.slice Ao20 t164.length co20 : Value).ownBlock ∧ some k_ ≠ (.slice Ao33 y178.length co33 : Value).ownBlock ∧ some k_ ≠ (v182 : Value).ownBlock) s_ y184) ∧ (Below w.heap.size w w')) ?_ ?_
                                rotate_left
                                · intro hJ0
                                  refine join_ (σ := Value) 5 #[false, true, false, true, true, true, true, false, false, false] (fun s_ => [(38, s_), (39, .agg #[.int .u8 a2, s_])]) (fun s_ w' => (Kd.N k43 43 w' w.heap.size (fun k_ => some k_ ≠ (.slice Ao33 y178.length co33 : Value).ownBlock ∧ some k_ ≠ (v182 : Value).ownBlock ∧ some k_ ≠ (s_ : Value).ownBlock) (.slice Ao20 t164.length co20) t164) ∧ (Kd.N k43 43 w' w.heap.size (fun k_ => some k_ ≠ (.slice Ao20 t164.length co20 : Value).ownBlock ∧ some k_ ≠ (v182 : Value).ownBlock ∧ some k_ ≠ (s_ : Value).ownBlock) (.slice Ao33 y178.length co33) y178) ∧ (Kd.N k43 43 w' w.heap.size (fun k_ => some k_ ≠ (s_ : Value).ownBlock) v182 y181) ∧ (Kd.R (Kd.int .u8) 5 w' w.heap.size (fun _ => True) s_ y190) ∧ (Below w.heap.size w w')) ?_ ?_
                                  rotate_left
                                  · intro hJ5
                                    refine two_ (i := 0) (j := 5) (Ni := some 33) (Nj := some 38) #[true, true, false, true, true, false, false, false, false, false] #[false, true, false, true, true, true, false, false, false, false] rfl rfl rfl rfl (two_of HT_.out (by kernel_rfl)) (by decide) (by decide) (fun K hK => ?_) (fun K hK => ?_)
                                    · skip
                                      refine Kd.N_lit_step k43 _ 43 ?hg (N' := 33) ?hd (xs := ([] : List (S43))) (inner := []) (ok := (fun k_ => some k_ ≠ (.slice Ao20 t164.length co20 : Value).ownBlock ∧ some k_ ≠ (.slice Ao33 y178.length co33 : Value).ownBlock ∧ some k_ ≠ (v182 : Value).ownBlock)) (okp := (fun k_ => some k_ ≠ (.slice Ao20 t164.length co20 : Value).ownBlock ∧ some k_ ≠ (.slice Ao33 y178.length co33 : Value).ownBlock ∧ some k_ ≠ (v182 : Value).ownBlock)) ?hr ?hp (fun _ hk => hk) ((show ∀ k_, w34.heap.size ≤ k_ → (fun k_ => some k_ ≠ (.slice Ao20 t164.length co20 : Value).ownBlock ∧ some k_ ≠ (.slice Ao33 y178.length co33 : Value).ownBlock ∧ some k_ ≠ (v182 : Value).ownBlock) k_ from fun k_ hk => ⟨Kd.fresh' (Kd.N_lt (by (with_reducible repeat (first | apply Kd.N_alloc | apply Kd.N_drewN | apply Kd.N_drew)); exact HO166.out)) k_ hk, Kd.fresh' (Kd.N_lt (by (with_reducible repeat (first | apply Kd.N_alloc | apply Kd.N_drewN | apply Kd.N_drew)); exact HO180.out)) k_ hk, Kd.fresh' (Kd.N_lt (by (with_reducible repeat (first | apply Kd.N_alloc | apply Kd.N_drewN | apply Kd.N_drew)); exact HO183.out)) k_ hk⟩) _ (Nat.le_refl _)) (Below.refl _ _) (Nat.le_refl _) (by simp) ?_; (case hd => rfl); (case hg => rfl); (case hr => first | (go_simp; done) | (go_simp; rfl)); (case hp => exact (Reps.none _ _))
                                      intro v185 w35 ho36 hb hg_ hnew_
                                      clear hg_ hnew_
                                      (first | rw [← Ny184.out] at ho36 | (simp only [Int.reduceToNat] at ho36; rw [← Ny184.out] at ho36))
                                      have n0_ := Aside0.mk (Kd.N_elder' (by (with_reducible repeat (first | apply Kd.N_alloc | apply Kd.N_drewN | apply Kd.N_drew)); exact HO166.out) (Kd.N_base ho36) hb)
                                      have n1_ := Aside0.mk (Kd.N_elder' (by (with_reducible repeat (first | apply Kd.N_alloc | apply Kd.N_drewN | apply Kd.N_drew)); exact HO180.out) (Kd.N_base ho36) hb)
                                      have n2_ := Aside0.mk (Kd.N_elder' (by (with_reducible repeat (first | apply Kd.N_alloc | apply Kd.N_drewN | apply Kd.N_drew)); exact HO183.out) (Kd.N_base ho36) hb)
                                      have n3_ := Aside0.mk (Kd.N_lower ho36 (below_size (by repeat (first | (with_reducible first | exact HB.out | apply below_alloc | apply pw_below_drewN | apply below_drew1) | exact HB.out))))
                                      have n4_ := Aside0.mk (below_step (by repeat (first | (with_reducible first | exact HB.out | apply below_alloc | apply pw_below_drewN | apply below_drew1) | exact HB.out)) hb)
                                      clear HO166
                                      clear HO180
                                      clear HO183
                                      clear HB
                                      have HO166 := n0_
                                      have HO180 := n1_
                                      have HO183 := n2_
                                      have HO186 := n3_
                                      have HB := n4_
                                      clear n0_ n1_ n2_ n3_ n4_
                                      clear hb ho36
                                      refine hK.out _ _ trivial (fun hHeld => ?_)
                                      clear hK K
                                      refine norm_ (a' := ?_) ?_ ?_
                                      rotate_left
                                      · show Act.put _ (some 33) _ = _
                                        simp only [Act.put, List.setIfInBounds_toArray, List.set_cons_zero, List.set_cons_succ, i64_w, i32_w]
                                        rfl
                                      exact norm_ (by first | (simp only [putAll, Act.put, List.setIfInBounds_toArray, List.set_cons_zero, List.set_cons_succ]; done) | (simp only [putAll, Act.put, List.setIfInBounds_toArray, List.set_cons_zero, List.set_cons_succ]; rfl)) (hJ0 (v185) _ ⟨(by (with_reducible repeat (first | apply Kd.N_alloc | apply Kd.N_drewN | apply Kd.N_drew)); exact Kd.N_mono HO166.out (fun _ hk => ⟨hk.1.1, ⟨hk.1.2, hk.2⟩⟩)), (by (with_reducible repeat (first | apply Kd.N_alloc | apply Kd.N_drewN | apply Kd.N_drew)); exact Kd.N_mono HO180.out (fun _ hk => ⟨hk.1.1, ⟨hk.1.2, hk.2⟩⟩)), (by (with_reducible repeat (first | apply Kd.N_alloc | apply Kd.N_drewN | apply Kd.N_drew)); exact Kd.N_mono HO183.out (fun _ hk => hk.2)), (by (with_reducible repeat (first | apply Kd.N_alloc | apply Kd.N_drewN | apply Kd.N_drew)); exact HO186.out), (by repeat (first | (with_reducible first | exact HB.out | apply below_alloc | apply pw_below_drewN | apply below_drew1) | exact HB.out))⟩)
                                    · skip
                                      refine Go.Proofs.Ytgpgoffnfdjhcaa.H.R_makecap_step _ 5 (by rfl) (N := 38) rfl 22 _ _ rfl .u8 .u8 a3 a3 rfl rfl Try.underlying22 info5 (ok := fun _ => True) (okp := fun _ => True) (fun _ hk => hk) trivial (of_decide_eq_true (by first | (with_reducible assumption) | assumption)) (Int.le_refl _) (Nat.le_trans (Nat.mul_le_mul_right _ (of_decide_eq_true (by first | (with_reducible assumption) | assumption) : (a3 : Int).toNat ≤ 281474976710656)) (by omega)) (Below.refl _ _) (Nat.le_refl _) ?_
                                      intro v191 w35 ho36 hb hg_ hnew_
                                      clear hg_ hnew_
                                      (first | rw [← Ny190.out] at ho36 | (simp only [Int.reduceToNat] at ho36; rw [← Ny190.out] at ho36))
                                      have n0_ := Aside0.mk (Kd.N_elder' (by (with_reducible repeat (first | apply Kd.N_alloc | apply Kd.N_drewN | apply Kd.N_drew)); exact HO166.out) (Kd.R_base ho36) hb)
                                      have n1_ := Aside0.mk (Kd.N_elder' (by (with_reducible repeat (first | apply Kd.N_alloc | apply Kd.N_drewN | apply Kd.N_drew)); exact HO180.out) (Kd.R_base ho36) hb)
                                      have n2_ := Aside0.mk (Kd.N_elder' (by (with_reducible repeat (first | apply Kd.N_alloc | apply Kd.N_drewN | apply Kd.N_drew)); exact HO183.out) (Kd.R_base ho36) hb)
                                      have n3_ := Aside0.mk (Kd.R_lower ho36 (below_size (by repeat (first | (with_reducible first | exact HB.out | apply below_alloc | apply pw_below_drewN | apply below_drew1) | exact HB.out))))
                                      have n4_ := Aside0.mk (below_step (by repeat (first | (with_reducible first | exact HB.out | apply below_alloc | apply pw_below_drewN | apply below_drew1) | exact HB.out)) hb)
                                      clear HO166
                                      clear HO180
                                      clear HO183
                                      clear HB
                                      have HO166 := n0_
                                      have HO180 := n1_
                                      have HO183 := n2_
                                      have HO192 := n3_
                                      have HB := n4_
                                      clear n0_ n1_ n2_ n3_ n4_
                                      clear hb ho36
                                      obtain ⟨Ao37, co37, eo37⟩ := Kd.R_slice HO192.out
                                      (first | subst eo37 | (injection eo37 with f1_ f2_ f3_; have f4_ := f1_.symm; have f5_ := f3_.symm; clear f1_ f2_ f3_; subst f4_; subst f5_))
                                      refine hK.out _ _ trivial (fun hHeld => ?_)
                                      clear hK K
                                      refine norm_ (a' := ?_) ?_ ?_
                                      rotate_left
                                      · show Act.put _ (some 38) _ = _
                                        simp only [Act.put, List.setIfInBounds_toArray, List.set_cons_zero, List.set_cons_succ, i64_w, i32_w]
                                        rfl
                                      refine pure_ (i := 6) (N := some 39) (v := ?_) (a' := ?_) #[false, true, false, true, true, true, true, false, false, false] rfl rfl (any_of HT_.out (by kernel_rfl)) (fun _ _ _ h => h) (Or.inl ⟨by rfl, ?_⟩) ?_ ?_
                                      rotate_left
                                      · intro w'
                                        go_simp
                                        with_reducible rfl
                                      rotate_left
                                      · simp only [Act.put, List.setIfInBounds_toArray, List.set_cons_zero, List.set_cons_succ, i64_w, i32_w]
                                        rfl
                                      exact norm_ (by first | (simp only [putAll, Act.put, List.setIfInBounds_toArray, List.set_cons_zero, List.set_cons_succ]; done) | (simp only [putAll, Act.put, List.setIfInBounds_toArray, List.set_cons_zero, List.set_cons_succ]; rfl)) (hJ5 (.slice Ao37 y190.length co37) _ ⟨(by (with_reducible repeat (first | apply Kd.N_alloc | apply Kd.N_drewN | apply Kd.N_drew)); exact Kd.N_mono HO166.out (fun _ hk => ⟨hk.1.1, ⟨hk.1.2, hk.2⟩⟩)), (by (with_reducible repeat (first | apply Kd.N_alloc | apply Kd.N_drewN | apply Kd.N_drew)); exact Kd.N_mono HO180.out (fun _ hk => ⟨hk.1.1, ⟨hk.1.2, hk.2⟩⟩)), (by (with_reducible repeat (first | apply Kd.N_alloc | apply Kd.N_drewN | apply Kd.N_drew)); exact Kd.N_mono HO183.out (fun _ hk => hk.2)), (by (with_reducible repeat (first | apply Kd.R_alloc | apply Kd.R_drewN | apply Kd.R_drew)); exact HO192.out), (by repeat (first | (with_reducible first | exact HB.out | apply below_alloc | apply pw_below_drewN | apply below_drew1) | exact HB.out))⟩)
                                  · skip
                                    rintro v191 w38 ⟨h0_, h1_, h2_, h3_, h4_⟩
                                    have n0_ : Aside0 (Kd.N k43 43 w38 w.heap.size (fun k_ => some k_ ≠ (.slice Ao33 y178.length co33 : Value).ownBlock ∧ some k_ ≠ (v182 : Value).ownBlock ∧ some k_ ≠ (v191 : Value).ownBlock) (.slice Ao20 t164.length co20) t164) := ⟨h0_⟩
                                    have n1_ : Aside0 (Kd.N k43 43 w38 w.heap.size (fun k_ => some k_ ≠ (.slice Ao20 t164.length co20 : Value).ownBlock ∧ some k_ ≠ (v182 : Value).ownBlock ∧ some k_ ≠ (v191 : Value).ownBlock) (.slice Ao33 y178.length co33) y178) := ⟨h1_⟩
                                    have n2_ : Aside0 (Kd.N k43 43 w38 w.heap.size (fun k_ => some k_ ≠ (v191 : Value).ownBlock) v182 y181) := ⟨h2_⟩
                                    have n3_ : Aside0 (Kd.R (Kd.int .u8) 5 w38 w.heap.size (fun _ => True) v191 y190) := ⟨h3_⟩
                                    have n4_ : Aside0 (Below w.heap.size w w38) := ⟨h4_⟩
                                    clear HO166
                                    clear HO180
                                    clear HO183
                                    clear HB
                                    clear h0_ h1_ h2_ h3_ h4_
                                    have HO166 := n0_
                                    have HO180 := n1_
                                    have HO183 := n2_
                                    have HO192 := n3_
                                    have HB := n4_
                                    clear n0_ n1_ n2_ n3_ n4_
                                    have hHeld := trivial
                                    obtain ⟨Ao39, co39, eo39⟩ := Kd.R_slice HO192.out
                                    (first | subst eo39 | (injection eo39 with f1_ f2_ f3_; have f4_ := f1_.symm; have f5_ := f3_.symm; clear f1_ f2_ f3_; subst f4_; subst f5_))
                                    refine norm_ (a' := ?_) ?_ ?_
                                    rotate_left
                                    · simp only [putAll, Act.put, List.setIfInBounds_toArray, List.set_cons_zero, List.set_cons_succ]
                                      rfl
                                    refine two_ (i := 0) (j := 7) (Ni := some 33) (Nj := some 40) #[true, true, false, true, true, true, true, false, false, false] #[false, true, false, true, true, true, true, true, false, false] rfl rfl rfl rfl (two_of HT_.out (by kernel_rfl)) (by decide) (by decide) (fun K hK => ?_) (fun K hK => ?_)
                                    · skip
                                      refine Kd.N_lit_step k43 _ 43 ?hg (N' := 33) ?hd (xs := ([] : List (S43))) (inner := []) (ok := (fun k_ => some k_ ≠ (.slice Ao20 t164.length co20 : Value).ownBlock ∧ some k_ ≠ (.slice Ao33 y178.length co33 : Value).ownBlock ∧ some k_ ≠ (v182 : Value).ownBlock ∧ some k_ ≠ (.slice Ao39 y190.length co39 : Value).ownBlock)) (okp := (fun k_ => some k_ ≠ (.slice Ao20 t164.length co20 : Value).ownBlock ∧ some k_ ≠ (.slice Ao33 y178.length co33 : Value).ownBlock ∧ some k_ ≠ (v182 : Value).ownBlock ∧ some k_ ≠ (.slice Ao39 y190.length co39 : Value).ownBlock)) ?hr ?hp (fun _ hk => hk) ((show ∀ k_, w38.heap.size ≤ k_ → (fun k_ => some k_ ≠ (.slice Ao20 t164.length co20 : Value).ownBlock ∧ some k_ ≠ (.slice Ao33 y178.length co33 : Value).ownBlock ∧ some k_ ≠ (v182 : Value).ownBlock ∧ some k_ ≠ (.slice Ao39 y190.length co39 : Value).ownBlock) k_ from fun k_ hk => ⟨Kd.fresh' (Kd.N_lt (by (with_reducible repeat (first | apply Kd.N_alloc | apply Kd.N_drewN | apply Kd.N_drew)); exact HO166.out)) k_ hk, Kd.fresh' (Kd.N_lt (by (with_reducible repeat (first | apply Kd.N_alloc | apply Kd.N_drewN | apply Kd.N_drew)); exact HO180.out)) k_ hk, Kd.fresh' (Kd.N_lt (by (with_reducible repeat (first | apply Kd.N_alloc | apply Kd.N_drewN | apply Kd.N_drew)); exact HO183.out)) k_ hk, Kd.fresh' (Kd.R_lt (by (with_reducible repeat (first | apply Kd.R_alloc | apply Kd.R_drewN | apply Kd.R_drew)); exact HO192.out)) k_ hk⟩) _ (Nat.le_refl _)) (Below.refl _ _) (Nat.le_refl _) (by simp) ?_; (case hd => rfl); (case hg => rfl); (case hr => first | (go_simp; done) | (go_simp; rfl)); (case hp => exact (Reps.none _ _))
                                      intro v185 w40 ho41 hb hg_ hnew_
                                      clear hg_ hnew_
                                      (first | rw [← Ny184.out] at ho41 | (simp only [Int.reduceToNat] at ho41; rw [← Ny184.out] at ho41))
                                      have n0_ := Aside0.mk (Kd.N_elder' (by (with_reducible repeat (first | apply Kd.N_alloc | apply Kd.N_drewN | apply Kd.N_drew)); exact HO166.out) (Kd.N_base ho41) hb)
                                      have n1_ := Aside0.mk (Kd.N_elder' (by (with_reducible repeat (first | apply Kd.N_alloc | apply Kd.N_drewN | apply Kd.N_drew)); exact HO180.out) (Kd.N_base ho41) hb)
                                      have n2_ := Aside0.mk (Kd.N_elder' (by (with_reducible repeat (first | apply Kd.N_alloc | apply Kd.N_drewN | apply Kd.N_drew)); exact HO183.out) (Kd.N_base ho41) hb)
                                      have n3_ := Aside0.mk (Kd.R_below (by (with_reducible repeat (first | apply Kd.R_alloc | apply Kd.R_drewN | apply Kd.R_drew)); exact HO192.out) hb)
                                      have n4_ := Aside0.mk (Kd.N_lower ho41 (below_size (by repeat (first | (with_reducible first | exact HB.out | apply below_alloc | apply pw_below_drewN | apply below_drew1) | exact HB.out))))
                                      have n5_ := Aside0.mk (below_step (by repeat (first | (with_reducible first | exact HB.out | apply below_alloc | apply pw_below_drewN | apply below_drew1) | exact HB.out)) hb)
                                      clear HO166
                                      clear HO180
                                      clear HO183
                                      clear HO192
                                      clear HB
                                      have HO166 := n0_
                                      have HO180 := n1_
                                      have HO183 := n2_
                                      have HO192 := n3_
                                      have HO186 := n4_
                                      have HB := n5_
                                      clear n0_ n1_ n2_ n3_ n4_ n5_
                                      clear hb ho41
                                      refine hK.out _ _ trivial (fun hHeld => ?_)
                                      clear hK K
                                      refine norm_ (a' := ?_) ?_ ?_
                                      rotate_left
                                      · show Act.put _ (some 33) _ = _
                                        simp only [Act.put, List.setIfInBounds_toArray, List.set_cons_zero, List.set_cons_succ, i64_w, i32_w]
                                        rfl
                                      exact norm_ (by first | (simp only [putAll, Act.put, List.setIfInBounds_toArray, List.set_cons_zero, List.set_cons_succ]; done) | (simp only [putAll, Act.put, List.setIfInBounds_toArray, List.set_cons_zero, List.set_cons_succ]; rfl)) (hJ0_5 (v185, .slice Ao39 y190.length co39) _ ⟨(by (with_reducible repeat (first | apply Kd.N_alloc | apply Kd.N_drewN | apply Kd.N_drew)); exact Kd.N_mono HO166.out (fun _ hk => ⟨hk.1.1, ⟨hk.1.2.1, ⟨hk.2, hk.1.2.2⟩⟩⟩)), (by (with_reducible repeat (first | apply Kd.N_alloc | apply Kd.N_drewN | apply Kd.N_drew)); exact Kd.N_mono HO180.out (fun _ hk => ⟨hk.1.1, ⟨hk.1.2.1, ⟨hk.2, hk.1.2.2⟩⟩⟩)), (by (with_reducible repeat (first | apply Kd.N_alloc | apply Kd.N_drewN | apply Kd.N_drew)); exact Kd.N_mono HO183.out (fun _ hk => ⟨hk.2, hk.1⟩)), (by (with_reducible repeat (first | apply Kd.N_alloc | apply Kd.N_drewN | apply Kd.N_drew)); exact HO186.out), (by (with_reducible repeat (first | apply Kd.R_alloc | apply Kd.R_drewN | apply Kd.R_drew)); exact HO192.out), (by repeat (first | (with_reducible first | exact HB.out | apply below_alloc | apply pw_below_drewN | apply below_drew1) | exact HB.out))⟩)
                                    · skip
                                      refine Kd.N_lit_step k43 _ 43 ?hg (N' := 40) ?hd (xs := ([(⟨a2, y190⟩ : S43)] : List (S43))) (inner := [.int .u8 a2, .slice Ao39 y190.length co39]) (ok := (fun k_ => some k_ ≠ (.slice Ao20 t164.length co20 : Value).ownBlock ∧ some k_ ≠ (.slice Ao33 y178.length co33 : Value).ownBlock ∧ some k_ ≠ (v182 : Value).ownBlock)) (okp := (fun k_ => some k_ ≠ (.slice Ao20 t164.length co20 : Value).ownBlock ∧ some k_ ≠ (.slice Ao33 y178.length co33 : Value).ownBlock ∧ some k_ ≠ (v182 : Value).ownBlock)) ?hr ?hp (fun _ hk => hk) ((show ∀ k_, w38.heap.size ≤ k_ → (fun k_ => some k_ ≠ (.slice Ao20 t164.length co20 : Value).ownBlock ∧ some k_ ≠ (.slice Ao33 y178.length co33 : Value).ownBlock ∧ some k_ ≠ (v182 : Value).ownBlock) k_ from fun k_ hk => ⟨Kd.fresh' (Kd.N_lt (by (with_reducible repeat (first | apply Kd.N_alloc | apply Kd.N_drewN | apply Kd.N_drew)); exact HO166.out)) k_ hk, Kd.fresh' (Kd.N_lt (by (with_reducible repeat (first | apply Kd.N_alloc | apply Kd.N_drewN | apply Kd.N_drew)); exact HO180.out)) k_ hk, Kd.fresh' (Kd.N_lt (by (with_reducible repeat (first | apply Kd.N_alloc | apply Kd.N_drewN | apply Kd.N_drew)); exact HO183.out)) k_ hk⟩) _ (Nat.le_refl _)) (Below.refl _ _) (Nat.le_refl _) (by simp) ?_; (case hd => rfl); (case hg => rfl); (case hr => first | (go_simp; done) | (go_simp; rfl)); (case hp => exact (Reps.c2 (show Kd.FK k43 _ _ (⟨a2, y190⟩ : S43) [.int .u8 a2, .slice Ao39 y190.length co39] from (k43_mkF _ _ (⟨a2, y190⟩ : S43) (Kd.R_reads' (Kd.R_mono (ok' := (fun k_ => some k_ ≠ (.slice Ao20 t164.length co20 : Value).ownBlock ∧ some k_ ≠ (.slice Ao33 y178.length co33 : Value).ownBlock ∧ some k_ ≠ (v182 : Value).ownBlock)) (Kd.R_apart' (Kd.R_apart' (Kd.R_apart' (HO192.out) (Kd.N_typed HO166.out) (by decide)) (Kd.N_typed HO180.out) (by decide)) (Kd.N_typed HO183.out) (by decide)) (fun k_ hk => ⟨hk.1.1.2, ⟨hk.1.2, hk.2⟩⟩))).2.1 (Kd.R_F (Kd.R_mono (ok' := (fun k_ => some k_ ≠ (.slice Ao20 t164.length co20 : Value).ownBlock ∧ some k_ ≠ (.slice Ao33 y178.length co33 : Value).ownBlock ∧ some k_ ≠ (v182 : Value).ownBlock)) (Kd.R_apart' (Kd.R_apart' (Kd.R_apart' (HO192.out) (Kd.N_typed HO166.out) (by decide)) (Kd.N_typed HO180.out) (by decide)) (Kd.N_typed HO183.out) (by decide)) (fun k_ hk => ⟨hk.1.1.2, ⟨hk.1.2, hk.2⟩⟩))))) (Reps.none _ _)))
                                      intro v194 w40 ho41 hb hg_ hnew_
                                      clear hg_ hnew_
                                      (first | rw [← Ny193.out] at ho41 | (simp only [Int.reduceToNat] at ho41; rw [← Ny193.out] at ho41))
                                      have n0_ := Aside0.mk (Kd.N_elder' (by (with_reducible repeat (first | apply Kd.N_alloc | apply Kd.N_drewN | apply Kd.N_drew)); exact HO166.out) (Kd.N_base ho41) hb)
                                      have n1_ := Aside0.mk (Kd.N_elder' (by (with_reducible repeat (first | apply Kd.N_alloc | apply Kd.N_drewN | apply Kd.N_drew)); exact HO180.out) (Kd.N_base ho41) hb)
                                      have n2_ := Aside0.mk (Kd.N_elder' (by (with_reducible repeat (first | apply Kd.N_alloc | apply Kd.N_drewN | apply Kd.N_drew)); exact HO183.out) (Kd.N_base ho41) hb)
                                      have n3_ := Aside0.mk (Kd.N_lower ho41 (below_size (by repeat (first | (with_reducible first | exact HB.out | apply below_alloc | apply pw_below_drewN | apply below_drew1) | exact HB.out))))
                                      have n4_ := Aside0.mk (below_step (by repeat (first | (with_reducible first | exact HB.out | apply below_alloc | apply pw_below_drewN | apply below_drew1) | exact HB.out)) hb)
                                      clear HO166
                                      clear HO180
                                      clear HO183
                                      clear HB
                                      clear HO192
                                      have HO166 := n0_
                                      have HO180 := n1_
                                      have HO183 := n2_
                                      have HO195 := n3_
                                      have HB := n4_
                                      clear n0_ n1_ n2_ n3_ n4_
                                      clear hb ho41
                                      refine hK.out _ _ trivial (fun hHeld => ?_)
                                      clear hK K
                                      refine norm_ (a' := ?_) ?_ ?_
                                      rotate_left
                                      · show Act.put _ (some 40) _ = _
                                        simp only [Act.put, List.setIfInBounds_toArray, List.set_cons_zero, List.set_cons_succ, i64_w, i32_w]
                                        rfl
                                      exact norm_ (by first | (simp only [putAll, Act.put, List.setIfInBounds_toArray, List.set_cons_zero, List.set_cons_succ]; done) | (simp only [putAll, Act.put, List.setIfInBounds_toArray, List.set_cons_zero, List.set_cons_succ]; rfl)) (hJ5_7 (.slice Ao39 y190.length co39, v194) _ ⟨(by (with_reducible repeat (first | apply Kd.N_alloc | apply Kd.N_drewN | apply Kd.N_drew)); exact Kd.N_mono HO166.out (fun _ hk => ⟨hk.1.1, ⟨hk.1.2.1, hk.2⟩⟩)), (by (with_reducible repeat (first | apply Kd.N_alloc | apply Kd.N_drewN | apply Kd.N_drew)); exact Kd.N_mono HO180.out (fun _ hk => ⟨hk.1.1, ⟨hk.1.2.1, hk.2⟩⟩)), (by (with_reducible repeat (first | apply Kd.N_alloc | apply Kd.N_drewN | apply Kd.N_drew)); exact Kd.N_mono HO183.out (fun _ hk => hk.2)), (by (with_reducible repeat (first | apply Kd.N_alloc | apply Kd.N_drewN | apply Kd.N_drew)); exact HO195.out), (by repeat (first | (with_reducible first | exact HB.out | apply below_alloc | apply pw_below_drewN | apply below_drew1) | exact HB.out))⟩)
                                · skip
                                  rintro v185 w37 ⟨h0_, h1_, h2_, h3_, h4_⟩
                                  have n0_ : Aside0 (Kd.N k43 43 w37 w.heap.size (fun k_ => some k_ ≠ (.slice Ao33 y178.length co33 : Value).ownBlock ∧ some k_ ≠ (v182 : Value).ownBlock ∧ some k_ ≠ (v185 : Value).ownBlock) (.slice Ao20 t164.length co20) t164) := ⟨h0_⟩
                                  have n1_ : Aside0 (Kd.N k43 43 w37 w.heap.size (fun k_ => some k_ ≠ (.slice Ao20 t164.length co20 : Value).ownBlock ∧ some k_ ≠ (v182 : Value).ownBlock ∧ some k_ ≠ (v185 : Value).ownBlock) (.slice Ao33 y178.length co33) y178) := ⟨h1_⟩
                                  have n2_ : Aside0 (Kd.N k43 43 w37 w.heap.size (fun k_ => some k_ ≠ (v185 : Value).ownBlock) v182 y181) := ⟨h2_⟩
                                  have n3_ : Aside0 (Kd.N k43 43 w37 w.heap.size (fun k_ => some k_ ≠ (.slice Ao20 t164.length co20 : Value).ownBlock ∧ some k_ ≠ (.slice Ao33 y178.length co33 : Value).ownBlock ∧ some k_ ≠ (v182 : Value).ownBlock) v185 y184) := ⟨h3_⟩
                                  have n4_ : Aside0 (Below w.heap.size w w37) := ⟨h4_⟩
                                  clear HO166
                                  clear HO180
                                  clear HO183
                                  clear HB
                                  clear h0_ h1_ h2_ h3_ h4_
                                  have HO166 := n0_
                                  have HO180 := n1_
                                  have HO183 := n2_
                                  have HO186 := n3_
                                  have HB := n4_
                                  clear n0_ n1_ n2_ n3_ n4_
                                  have hHeld := trivial
                                  refine norm_ (a' := ?_) ?_ ?_
                                  rotate_left
                                  · simp only [putAll, Act.put, List.setIfInBounds_toArray, List.set_cons_zero, List.set_cons_succ]
                                    rfl
                                  refine two_ (i := 2) (j := 5) (Ni := some 35) (Nj := some 38) #[true, true, true, true, true, false, false, false, false, false] #[true, true, false, true, true, true, false, false, false, false] rfl rfl rfl rfl (two_of HT_.out (by kernel_rfl)) (by decide) (by decide) (fun K hK => ?_) (fun K hK => ?_)
                                  · skip
                                    refine Kd.N_append_rows_step k43 (w0 := w) w.heap.size (by rfl) (.tmp 33) (.tmp 34) 29 43 (.agg #[(.int .u8 0), (.slice none 0 0)]) 32 rfl Try.underlying29 info43 rfl (by decide) (by omega) v185 y184 t164 _ _ _ (fun k_ => some k_ ≠ (.slice Ao33 y178.length co33 : Value).ownBlock ∧ some k_ ≠ (v182 : Value).ownBlock) (fun k_ => ((fun k_ => some k_ ≠ (.slice Ao33 y178.length co33 : Value).ownBlock ∧ some k_ ≠ (v182 : Value).ownBlock)) k_ ∧ some k_ ≠ (v185 : Value).ownBlock) rfl rfl ?aO ?aR (fun _ hk => hk) ?aF ?aB ?aS ?aL ?_
                                    (case aR => exact (by skip; exact Kd.N_F (Kd.N_mono (ok' := (fun k_ => ((fun k_ => some k_ ≠ (.slice Ao33 y178.length co33 : Value).ownBlock ∧ some k_ ≠ (v182 : Value).ownBlock)) k_ ∧ some k_ ≠ (v185 : Value).ownBlock)) (HO166.out) (fun k_ hk => ⟨⟨hk.1, hk.2.1⟩, hk.2.2⟩))))
                                    (case aB => exact (by repeat (first | (with_reducible first | exact HB.out | apply below_alloc | apply pw_below_drewN | apply below_drew1) | exact HB.out)))
                                    (case aF => exact (fun k_ hk => ⟨Kd.fresh' (Kd.N_lt (by (with_reducible repeat (first | apply Kd.N_alloc | apply Kd.N_drewN | apply Kd.N_drew)); exact HO180.out)) k_ hk, Kd.fresh' (Kd.N_lt (by (with_reducible repeat (first | apply Kd.N_alloc | apply Kd.N_drewN | apply Kd.N_drew)); exact HO183.out)) k_ hk⟩))
                                    (case aO => exact (by (with_reducible repeat (first | apply Kd.N_alloc | apply Kd.N_drewN | apply Kd.N_drew)); exact Kd.N_mono HO186.out (fun _ hk => ⟨hk.2.1, hk.2.2⟩)))
                                    (case aS => exact (below_size (by repeat (first | (with_reducible first | exact HB.out | apply below_alloc | apply pw_below_drewN | apply below_drew1) | exact HB.out))))
                                    (case aL => have := LMc13.out; omega)
                                    intro v188 w38 ho hb hg hat
                                    rw [← Ny187.out] at ho
                                    have n0_ := Aside0.mk (Kd.N_afterv (ok := (fun k_ => some k_ ≠ (.slice Ao33 y178.length co33 : Value).ownBlock ∧ some k_ ≠ (v182 : Value).ownBlock)) (by (with_reducible repeat (first | apply Kd.N_alloc | apply Kd.N_drewN | apply Kd.N_drew)); exact Kd.N_mono HO166.out (fun _ hk => ⟨⟨hk.1, hk.2.1⟩, hk.2.2⟩)) hg hat)
                                    have n1_ := Aside0.mk (Kd.N_afterv (ok := (fun k_ => some k_ ≠ (.slice Ao20 t164.length co20 : Value).ownBlock ∧ some k_ ≠ (v182 : Value).ownBlock)) (by (with_reducible repeat (first | apply Kd.N_alloc | apply Kd.N_drewN | apply Kd.N_drew)); exact Kd.N_mono HO180.out (fun _ hk => ⟨⟨hk.1, hk.2.1⟩, hk.2.2⟩)) hg hat)
                                    have n2_ := Aside0.mk (Kd.N_afterv (ok := (fun _ => True)) (by (with_reducible repeat (first | apply Kd.N_alloc | apply Kd.N_drewN | apply Kd.N_drew)); exact Kd.N_mono HO183.out (fun _ hk => ⟨trivial, hk⟩)) hg hat)
                                    have n3_ := Aside0.mk (hb)
                                    have n4_ := Aside0.mk (ho)
                                    clear HO166
                                    clear HO180
                                    clear HO183
                                    clear HB
                                    clear HO186
                                    have HO166 := n0_
                                    have HO180 := n1_
                                    have HO183 := n2_
                                    have HB := n3_
                                    have HO189 := n4_
                                    clear n0_ n1_ n2_ n3_ n4_
                                    clear ho hb hg hat
                                    refine hK.out _ _ trivial (fun hHeld => ?_)
                                    clear hK K
                                    refine norm_ (a' := ?_) ?_ ?_
                                    rotate_left
                                    · show Act.put _ (some 35) _ = _
                                      simp only [Act.put, List.setIfInBounds_toArray, List.set_cons_zero, List.set_cons_succ, i64_w, i32_w]
                                      rfl
                                    exact norm_ (by first | (simp only [putAll, Act.put, List.setIfInBounds_toArray, List.set_cons_zero, List.set_cons_succ]; done) | (simp only [putAll, Act.put, List.setIfInBounds_toArray, List.set_cons_zero, List.set_cons_succ]; rfl)) (hJ0_2 (v185, v188) _ ⟨(by (with_reducible repeat (first | apply Kd.N_alloc | apply Kd.N_drewN | apply Kd.N_drew)); exact Kd.N_mono HO166.out (fun _ hk => ⟨hk.1.1, ⟨hk.1.2, hk.2⟩⟩)), (by (with_reducible repeat (first | apply Kd.N_alloc | apply Kd.N_drewN | apply Kd.N_drew)); exact Kd.N_mono HO180.out (fun _ hk => ⟨hk.1.1, ⟨hk.1.2, hk.2⟩⟩)), (by (with_reducible repeat (first | apply Kd.N_alloc | apply Kd.N_drewN | apply Kd.N_drew)); exact Kd.N_mono HO183.out (fun _ hk => hk.2)), (by (with_reducible repeat (first | apply Kd.N_alloc | apply Kd.N_drewN | apply Kd.N_drew)); exact HO189.out), (by repeat (first | (with_reducible first | exact HB.out | apply below_alloc | apply pw_below_drewN | apply below_drew1) | exact HB.out))⟩)
                                  · skip
                                    refine Go.Proofs.Ytgpgoffnfdjhcaa.H.R_makecap_step _ 5 (by rfl) (N := 38) rfl 22 _ _ rfl .u8 .u8 a3 a3 rfl rfl Try.underlying22 info5 (ok := fun _ => True) (okp := fun _ => True) (fun _ hk => hk) trivial (of_decide_eq_true (by first | (with_reducible assumption) | assumption)) (Int.le_refl _) (Nat.le_trans (Nat.mul_le_mul_right _ (of_decide_eq_true (by first | (with_reducible assumption) | assumption) : (a3 : Int).toNat ≤ 281474976710656)) (by omega)) (Below.refl _ _) (Nat.le_refl _) ?_
                                    intro v191 w38 ho39 hb hg_ hnew_
                                    clear hg_ hnew_
                                    (first | rw [← Ny190.out] at ho39 | (simp only [Int.reduceToNat] at ho39; rw [← Ny190.out] at ho39))
                                    have n0_ := Aside0.mk (Kd.N_elder' (by (with_reducible repeat (first | apply Kd.N_alloc | apply Kd.N_drewN | apply Kd.N_drew)); exact HO166.out) (Kd.R_base ho39) hb)
                                    have n1_ := Aside0.mk (Kd.N_elder' (by (with_reducible repeat (first | apply Kd.N_alloc | apply Kd.N_drewN | apply Kd.N_drew)); exact HO180.out) (Kd.R_base ho39) hb)
                                    have n2_ := Aside0.mk (Kd.N_elder' (by (with_reducible repeat (first | apply Kd.N_alloc | apply Kd.N_drewN | apply Kd.N_drew)); exact HO183.out) (Kd.R_base ho39) hb)
                                    have n3_ := Aside0.mk (Kd.N_elder' (by (with_reducible repeat (first | apply Kd.N_alloc | apply Kd.N_drewN | apply Kd.N_drew)); exact HO186.out) (Kd.R_base ho39) hb)
                                    have n4_ := Aside0.mk (Kd.R_lower ho39 (below_size (by repeat (first | (with_reducible first | exact HB.out | apply below_alloc | apply pw_below_drewN | apply below_drew1) | exact HB.out))))
                                    have n5_ := Aside0.mk (below_step (by repeat (first | (with_reducible first | exact HB.out | apply below_alloc | apply pw_below_drewN | apply below_drew1) | exact HB.out)) hb)
                                    clear HO166
                                    clear HO180
                                    clear HO183
                                    clear HO186
                                    clear HB
                                    have HO166 := n0_
                                    have HO180 := n1_
                                    have HO183 := n2_
                                    have HO186 := n3_
                                    have HO192 := n4_
                                    have HB := n5_
                                    clear n0_ n1_ n2_ n3_ n4_ n5_
                                    clear hb ho39
                                    obtain ⟨Ao40, co40, eo40⟩ := Kd.R_slice HO192.out
                                    (first | subst eo40 | (injection eo40 with f1_ f2_ f3_; have f4_ := f1_.symm; have f5_ := f3_.symm; clear f1_ f2_ f3_; subst f4_; subst f5_))
                                    refine hK.out _ _ trivial (fun hHeld => ?_)
                                    clear hK K
                                    refine norm_ (a' := ?_) ?_ ?_
                                    rotate_left
                                    · show Act.put _ (some 38) _ = _
                                      simp only [Act.put, List.setIfInBounds_toArray, List.set_cons_zero, List.set_cons_succ, i64_w, i32_w]
                                      rfl
                                    refine pure_ (i := 6) (N := some 39) (v := ?_) (a' := ?_) #[true, true, false, true, true, true, true, false, false, false] rfl rfl (any_of HT_.out (by kernel_rfl)) (fun _ _ _ h => h) (Or.inl ⟨by rfl, ?_⟩) ?_ ?_
                                    rotate_left
                                    · intro w'
                                      go_simp
                                      with_reducible rfl
                                    rotate_left
                                    · simp only [Act.put, List.setIfInBounds_toArray, List.set_cons_zero, List.set_cons_succ, i64_w, i32_w]
                                      rfl
                                    exact norm_ (by first | (simp only [putAll, Act.put, List.setIfInBounds_toArray, List.set_cons_zero, List.set_cons_succ]; done) | (simp only [putAll, Act.put, List.setIfInBounds_toArray, List.set_cons_zero, List.set_cons_succ]; rfl)) (hJ0_5 (v185, .slice Ao40 y190.length co40) _ ⟨(by (with_reducible repeat (first | apply Kd.N_alloc | apply Kd.N_drewN | apply Kd.N_drew)); exact Kd.N_mono HO166.out (fun _ hk => ⟨hk.1.1, ⟨hk.1.2.1, ⟨hk.1.2.2, hk.2⟩⟩⟩)), (by (with_reducible repeat (first | apply Kd.N_alloc | apply Kd.N_drewN | apply Kd.N_drew)); exact Kd.N_mono HO180.out (fun _ hk => ⟨hk.1.1, ⟨hk.1.2.1, ⟨hk.1.2.2, hk.2⟩⟩⟩)), (by (with_reducible repeat (first | apply Kd.N_alloc | apply Kd.N_drewN | apply Kd.N_drew)); exact HO183.out), (by (with_reducible repeat (first | apply Kd.N_alloc | apply Kd.N_drewN | apply Kd.N_drew)); exact Kd.N_mono HO186.out (fun _ hk => ⟨hk.1.1, ⟨hk.1.2.1, ⟨hk.1.2.2, hk.2⟩⟩⟩)), (by (with_reducible repeat (first | apply Kd.R_alloc | apply Kd.R_drewN | apply Kd.R_drew)); exact HO192.out), (by repeat (first | (with_reducible first | exact HB.out | apply below_alloc | apply pw_below_drewN | apply below_drew1) | exact HB.out))⟩)
                              · skip
                                rintro ⟨v191, v194⟩ w40 ⟨h0_, h1_, h2_, h3_, h4_⟩
                                have n0_ : Aside0 (Kd.N k43 43 w40 w.heap.size (fun k_ => some k_ ≠ (.slice Ao33 y178.length co33 : Value).ownBlock ∧ some k_ ≠ (v182 : Value).ownBlock ∧ some k_ ≠ (v194 : Value).ownBlock) (.slice Ao20 t164.length co20) t164) := ⟨h0_⟩
                                have n1_ : Aside0 (Kd.N k43 43 w40 w.heap.size (fun k_ => some k_ ≠ (.slice Ao20 t164.length co20 : Value).ownBlock ∧ some k_ ≠ (v182 : Value).ownBlock ∧ some k_ ≠ (v194 : Value).ownBlock) (.slice Ao33 y178.length co33) y178) := ⟨h1_⟩
                                have n2_ : Aside0 (Kd.N k43 43 w40 w.heap.size (fun k_ => some k_ ≠ (v194 : Value).ownBlock) v182 y181) := ⟨h2_⟩
                                have n3_ : Aside0 (Kd.N k43 43 w40 w.heap.size (fun k_ => some k_ ≠ (.slice Ao20 t164.length co20 : Value).ownBlock ∧ some k_ ≠ (.slice Ao33 y178.length co33 : Value).ownBlock ∧ some k_ ≠ (v182 : Value).ownBlock) v194 y193) := ⟨h3_⟩
                                have n4_ : Aside0 (Below w.heap.size w w40) := ⟨h4_⟩
                                clear HO166
                                clear HO180
                                clear HO183
                                clear HB
                                clear h0_ h1_ h2_ h3_ h4_
                                have HO166 := n0_
                                have HO180 := n1_
                                have HO183 := n2_
                                have HO195 := n3_
                                have HB := n4_
                                clear n0_ n1_ n2_ n3_ n4_
                                have hHeld := trivial
                                refine norm_ (a' := ?_) ?_ ?_
                                rotate_left
                                · simp only [putAll, Act.put, List.setIfInBounds_toArray, List.set_cons_zero, List.set_cons_succ]
                                  rfl
                                refine one_ (i := 0) (N := some 33) #[true, true, false, true, true, true, true, true, false, false] rfl rfl (one_of HT_.out (by kernel_rfl)) (by decide) (fun K hK => ?_)
                                refine Kd.N_lit_step k43 _ 43 ?hg (N' := 33) ?hd (xs := ([] : List (S43))) (inner := []) (ok := (fun k_ => some k_ ≠ (.slice Ao20 t164.length co20 : Value).ownBlock ∧ some k_ ≠ (.slice Ao33 y178.length co33 : Value).ownBlock ∧ some k_ ≠ (v182 : Value).ownBlock ∧ some k_ ≠ (v194 : Value).ownBlock)) (okp := (fun k_ => some k_ ≠ (.slice Ao20 t164.length co20 : Value).ownBlock ∧ some k_ ≠ (.slice Ao33 y178.length co33 : Value).ownBlock ∧ some k_ ≠ (v182 : Value).ownBlock ∧ some k_ ≠ (v194 : Value).ownBlock)) ?hr ?hp (fun _ hk => hk) ((show ∀ k_, w40.heap.size ≤ k_ → (fun k_ => some k_ ≠ (.slice Ao20 t164.length co20 : Value).ownBlock ∧ some k_ ≠ (.slice Ao33 y178.length co33 : Value).ownBlock ∧ some k_ ≠ (v182 : Value).ownBlock ∧ some k_ ≠ (v194 : Value).ownBlock) k_ from fun k_ hk => ⟨Kd.fresh' (Kd.N_lt (by (with_reducible repeat (first | apply Kd.N_alloc | apply Kd.N_drewN | apply Kd.N_drew)); exact HO166.out)) k_ hk, Kd.fresh' (Kd.N_lt (by (with_reducible repeat (first | apply Kd.N_alloc | apply Kd.N_drewN | apply Kd.N_drew)); exact HO180.out)) k_ hk, Kd.fresh' (Kd.N_lt (by (with_reducible repeat (first | apply Kd.N_alloc | apply Kd.N_drewN | apply Kd.N_drew)); exact HO183.out)) k_ hk, Kd.fresh' (Kd.N_lt (by (with_reducible repeat (first | apply Kd.N_alloc | apply Kd.N_drewN | apply Kd.N_drew)); exact HO195.out)) k_ hk⟩) _ (Nat.le_refl _)) (Below.refl _ _) (Nat.le_refl _) (by simp) ?_; (case hd => rfl); (case hg => rfl); (case hr => first | (go_simp; done) | (go_simp; rfl)); (case hp => exact (Reps.none _ _))
                                intro v185 w41 ho42 hb hg_ hnew_
                                clear hg_ hnew_
                                (first | rw [← Ny184.out] at ho42 | (simp only [Int.reduceToNat] at ho42; rw [← Ny184.out] at ho42))
                                have n0_ := Aside0.mk (Kd.N_elder' (by (with_reducible repeat (first | apply Kd.N_alloc | apply Kd.N_drewN | apply Kd.N_drew)); exact HO166.out) (Kd.N_base ho42) hb)
                                have n1_ := Aside0.mk (Kd.N_elder' (by (with_reducible repeat (first | apply Kd.N_alloc | apply Kd.N_drewN | apply Kd.N_drew)); exact HO180.out) (Kd.N_base ho42) hb)
                                have n2_ := Aside0.mk (Kd.N_elder' (by (with_reducible repeat (first | apply Kd.N_alloc | apply Kd.N_drewN | apply Kd.N_drew)); exact HO183.out) (Kd.N_base ho42) hb)
                                have n3_ := Aside0.mk (Kd.N_elder' (by (with_reducible repeat (first | apply Kd.N_alloc | apply Kd.N_drewN | apply Kd.N_drew)); exact HO195.out) (Kd.N_base ho42) hb)
                                have n4_ := Aside0.mk (Kd.N_lower ho42 (below_size (by repeat (first | (with_reducible first | exact HB.out | apply below_alloc | apply pw_below_drewN | apply below_drew1) | exact HB.out))))
                                have n5_ := Aside0.mk (below_step (by repeat (first | (with_reducible first | exact HB.out | apply below_alloc | apply pw_below_drewN | apply below_drew1) | exact HB.out)) hb)
                                clear HO166
                                clear HO180
                                clear HO183
                                clear HO195
                                clear HB
                                have HO166 := n0_
                                have HO180 := n1_
                                have HO183 := n2_
                                have HO195 := n3_
                                have HO186 := n4_
                                have HB := n5_
                                clear n0_ n1_ n2_ n3_ n4_ n5_
                                clear hb ho42
                                refine hK.out _ _ trivial (fun hHeld => ?_)
                                clear hK K
                                refine norm_ (a' := ?_) ?_ ?_
                                rotate_left
                                · show Act.put _ (some 33) _ = _
                                  simp only [Act.put, List.setIfInBounds_toArray, List.set_cons_zero, List.set_cons_succ, i64_w, i32_w]
                                  rfl
                                exact norm_ (by first | (simp only [putAll, Act.put, List.setIfInBounds_toArray, List.set_cons_zero, List.set_cons_succ]; done) | (simp only [putAll, Act.put, List.setIfInBounds_toArray, List.set_cons_zero, List.set_cons_succ]; rfl)) (hJ0_5_7 (v185, v191, v194) _ ⟨(by (with_reducible repeat (first | apply Kd.N_alloc | apply Kd.N_drewN | apply Kd.N_drew)); exact Kd.N_mono HO166.out (fun _ hk => ⟨hk.1.1, ⟨hk.1.2.1, ⟨hk.2, hk.1.2.2⟩⟩⟩)), (by (with_reducible repeat (first | apply Kd.N_alloc | apply Kd.N_drewN | apply Kd.N_drew)); exact Kd.N_mono HO180.out (fun _ hk => ⟨hk.1.1, ⟨hk.1.2.1, ⟨hk.2, hk.1.2.2⟩⟩⟩)), (by (with_reducible repeat (first | apply Kd.N_alloc | apply Kd.N_drewN | apply Kd.N_drew)); exact Kd.N_mono HO183.out (fun _ hk => ⟨hk.2, hk.1⟩)), (by (with_reducible repeat (first | apply Kd.N_alloc | apply Kd.N_drewN | apply Kd.N_drew)); exact HO186.out), (by (with_reducible repeat (first | apply Kd.N_alloc | apply Kd.N_drewN | apply Kd.N_drew)); exact Kd.N_mono HO195.out (fun _ hk => ⟨hk.1.1, ⟨hk.1.2.1, ⟨hk.1.2.2, hk.2⟩⟩⟩)), (by repeat (first | (with_reducible first | exact HB.out | apply below_alloc | apply pw_below_drewN | apply below_drew1) | exact HB.out))⟩)
                            · skip
                              rintro ⟨v185, v191⟩ w40 ⟨h0_, h1_, h2_, h3_, h4_, h5_⟩
                              have n0_ : Aside0 (Kd.N k43 43 w40 w.heap.size (fun k_ => some k_ ≠ (.slice Ao33 y178.length co33 : Value).ownBlock ∧ some k_ ≠ (v182 : Value).ownBlock ∧ some k_ ≠ (v185 : Value).ownBlock ∧ some k_ ≠ (v191 : Value).ownBlock) (.slice Ao20 t164.length co20) t164) := ⟨h0_⟩
                              have n1_ : Aside0 (Kd.N k43 43 w40 w.heap.size (fun k_ => some k_ ≠ (.slice Ao20 t164.length co20 : Value).ownBlock ∧ some k_ ≠ (v182 : Value).ownBlock ∧ some k_ ≠ (v185 : Value).ownBlock ∧ some k_ ≠ (v191 : Value).ownBlock) (.slice Ao33 y178.length co33) y178) := ⟨h1_⟩
                              have n2_ : Aside0 (Kd.N k43 43 w40 w.heap.size (fun k_ => some k_ ≠ (v185 : Value).ownBlock ∧ some k_ ≠ (v191 : Value).ownBlock) v182 y181) := ⟨h2_⟩
                              have n3_ : Aside0 (Kd.N k43 43 w40 w.heap.size (fun k_ => some k_ ≠ (.slice Ao20 t164.length co20 : Value).ownBlock ∧ some k_ ≠ (.slice Ao33 y178.length co33 : Value).ownBlock ∧ some k_ ≠ (v182 : Value).ownBlock ∧ some k_ ≠ (v191 : Value).ownBlock) v185 y184) := ⟨h3_⟩
                              have n4_ : Aside0 (Kd.R (Kd.int .u8) 5 w40 w.heap.size (fun _ => True) v191 y190) := ⟨h4_⟩
                              have n5_ : Aside0 (Below w.heap.size w w40) := ⟨h5_⟩
                              clear HO166
                              clear HO180
                              clear HO183
                              clear HB
                              clear h0_ h1_ h2_ h3_ h4_ h5_
                              have HO166 := n0_
                              have HO180 := n1_
                              have HO183 := n2_
                              have HO186 := n3_
                              have HO192 := n4_
                              have HB := n5_
                              clear n0_ n1_ n2_ n3_ n4_ n5_
                              have hHeld := trivial
                              obtain ⟨Ao41, co41, eo41⟩ := Kd.R_slice HO192.out
                              (first | subst eo41 | (injection eo41 with f1_ f2_ f3_; have f4_ := f1_.symm; have f5_ := f3_.symm; clear f1_ f2_ f3_; subst f4_; subst f5_))
                              refine norm_ (a' := ?_) ?_ ?_
                              rotate_left
                              · simp only [putAll, Act.put, List.setIfInBounds_toArray, List.set_cons_zero, List.set_cons_succ]
                                rfl
                              refine two_ (i := 2) (j := 7) (Ni := some 35) (Nj := some 40) #[true, true, true, true, true, true, true, false, false, false] #[true, true, false, true, true, true, true, true, false, false] rfl rfl rfl rfl (two_of HT_.out (by kernel_rfl)) (by decide) (by decide) (fun K hK => ?_) (fun K hK => ?_)
                              · skip
                                refine Kd.N_append_rows_step k43 (w0 := w) w.heap.size (by rfl) (.tmp 33) (.tmp 34) 29 43 (.agg #[(.int .u8 0), (.slice none 0 0)]) 32 rfl Try.underlying29 info43 rfl (by decide) (by omega) v185 y184 t164 _ _ _ (fun k_ => some k_ ≠ (.slice Ao33 y178.length co33 : Value).ownBlock ∧ some k_ ≠ (v182 : Value).ownBlock ∧ some k_ ≠ (.slice Ao41 y190.length co41 : Value).ownBlock) (fun k_ => ((fun k_ => some k_ ≠ (.slice Ao33 y178.length co33 : Value).ownBlock ∧ some k_ ≠ (v182 : Value).ownBlock ∧ some k_ ≠ (.slice Ao41 y190.length co41 : Value).ownBlock)) k_ ∧ some k_ ≠ (v185 : Value).ownBlock) rfl rfl ?aO ?aR (fun _ hk => hk) ?aF ?aB ?aS ?aL ?_
                                (case aR => exact (by skip; exact Kd.N_F (Kd.N_mono (ok' := (fun k_ => ((fun k_ => some k_ ≠ (.slice Ao33 y178.length co33 : Value).ownBlock ∧ some k_ ≠ (v182 : Value).ownBlock ∧ some k_ ≠ (.slice Ao41 y190.length co41 : Value).ownBlock)) k_ ∧ some k_ ≠ (v185 : Value).ownBlock)) (HO166.out) (fun k_ hk => ⟨⟨hk.1, ⟨hk.2.1, hk.2.2.2⟩⟩, hk.2.2.1⟩))))
                                (case aB => exact (by repeat (first | (with_reducible first | exact HB.out | apply below_alloc | apply pw_below_drewN | apply below_drew1) | exact HB.out)))
                                (case aF => exact (fun k_ hk => ⟨Kd.fresh' (Kd.N_lt (by (with_reducible repeat (first | apply Kd.N_alloc | apply Kd.N_drewN | apply Kd.N_drew)); exact HO180.out)) k_ hk, Kd.fresh' (Kd.N_lt (by (with_reducible repeat (first | apply Kd.N_alloc | apply Kd.N_drewN | apply Kd.N_drew)); exact HO183.out)) k_ hk, Kd.fresh' (Kd.R_lt (by (with_reducible repeat (first | apply Kd.R_alloc | apply Kd.R_drewN | apply Kd.R_drew)); exact HO192.out)) k_ hk⟩))
                                (case aO => exact (by (with_reducible repeat (first | apply Kd.N_alloc | apply Kd.N_drewN | apply Kd.N_drew)); exact Kd.N_mono HO186.out (fun _ hk => ⟨hk.2.1, ⟨hk.2.2.1, hk.2.2.2⟩⟩)))
                                (case aS => exact (below_size (by repeat (first | (with_reducible first | exact HB.out | apply below_alloc | apply pw_below_drewN | apply below_drew1) | exact HB.out))))
                                (case aL => have := LMc13.out; omega)
                                intro v188 w42 ho hb hg hat
                                rw [← Ny187.out] at ho
                                have n0_ := Aside0.mk (Kd.N_afterv (ok := (fun k_ => some k_ ≠ (.slice Ao33 y178.length co33 : Value).ownBlock ∧ some k_ ≠ (v182 : Value).ownBlock ∧ some k_ ≠ (.slice Ao41 y190.length co41 : Value).ownBlock)) (by (with_reducible repeat (first | apply Kd.N_alloc | apply Kd.N_drewN | apply Kd.N_drew)); exact Kd.N_mono HO166.out (fun _ hk => ⟨⟨hk.1, ⟨hk.2.1, hk.2.2.2⟩⟩, hk.2.2.1⟩)) hg hat)
                                have n1_ := Aside0.mk (Kd.N_afterv (ok := (fun k_ => some k_ ≠ (.slice Ao20 t164.length co20 : Value).ownBlock ∧ some k_ ≠ (v182 : Value).ownBlock ∧ some k_ ≠ (.slice Ao41 y190.length co41 : Value).ownBlock)) (by (with_reducible repeat (first | apply Kd.N_alloc | apply Kd.N_drewN | apply Kd.N_drew)); exact Kd.N_mono HO180.out (fun _ hk => ⟨⟨hk.1, ⟨hk.2.1, hk.2.2.2⟩⟩, hk.2.2.1⟩)) hg hat)
                                have n2_ := Aside0.mk (Kd.N_afterv (ok := (fun k_ => some k_ ≠ (.slice Ao41 y190.length co41 : Value).ownBlock)) (by (with_reducible repeat (first | apply Kd.N_alloc | apply Kd.N_drewN | apply Kd.N_drew)); exact Kd.N_mono HO183.out (fun _ hk => ⟨hk.2, hk.1⟩)) hg hat)
                                have n3_ := Aside0.mk (Kd.R_over' (by (with_reducible repeat (first | apply Kd.R_alloc | apply Kd.R_drewN | apply Kd.R_drew)); exact HO192.out) (Kd.N_typed (by (with_reducible repeat (first | apply Kd.N_alloc | apply Kd.N_drewN | apply Kd.N_drew)); exact HO186.out)) (by decide) hg)
                                have n4_ := Aside0.mk (hb)
                                have n5_ := Aside0.mk (ho)
                                clear HO166
                                clear HO180
                                clear HO183
                                clear HO192
                                clear HB
                                clear HO186
                                have HO166 := n0_
                                have HO180 := n1_
                                have HO183 := n2_
                                have HO192 := n3_
                                have HB := n4_
                                have HO189 := n5_
                                clear n0_ n1_ n2_ n3_ n4_ n5_
                                clear ho hb hg hat
                                refine hK.out _ _ trivial (fun hHeld => ?_)
                                clear hK K
                                refine norm_ (a' := ?_) ?_ ?_
                                rotate_left
                                · show Act.put _ (some 35) _ = _
                                  simp only [Act.put, List.setIfInBounds_toArray, List.set_cons_zero, List.set_cons_succ, i64_w, i32_w]
                                  rfl
                                exact norm_ (by first | (simp only [putAll, Act.put, List.setIfInBounds_toArray, List.set_cons_zero, List.set_cons_succ]; done) | (simp only [putAll, Act.put, List.setIfInBounds_toArray, List.set_cons_zero, List.set_cons_succ]; rfl)) (hJ0_2_5 (v185, v188, .slice Ao41 y190.length co41) _ ⟨(by (with_reducible repeat (first | apply Kd.N_alloc | apply Kd.N_drewN | apply Kd.N_drew)); exact Kd.N_mono HO166.out (fun _ hk => ⟨hk.1.1, ⟨hk.1.2.1, ⟨hk.2, hk.1.2.2⟩⟩⟩)), (by (with_reducible repeat (first | apply Kd.N_alloc | apply Kd.N_drewN | apply Kd.N_drew)); exact Kd.N_mono HO180.out (fun _ hk => ⟨hk.1.1, ⟨hk.1.2.1, ⟨hk.2, hk.1.2.2⟩⟩⟩)), (by (with_reducible repeat (first | apply Kd.N_alloc | apply Kd.N_drewN | apply Kd.N_drew)); exact Kd.N_mono HO183.out (fun _ hk => ⟨hk.2, hk.1⟩)), (by (with_reducible repeat (first | apply Kd.N_alloc | apply Kd.N_drewN | apply Kd.N_drew)); exact HO189.out), (by (with_reducible repeat (first | apply Kd.R_alloc | apply Kd.R_drewN | apply Kd.R_drew)); exact HO192.out), (by repeat (first | (with_reducible first | exact HB.out | apply below_alloc | apply pw_below_drewN | apply below_drew1) | exact HB.out))⟩)
                              · skip
                                refine Kd.N_lit_step k43 _ 43 ?hg (N' := 40) ?hd (xs := ([(⟨a2, y190⟩ : S43)] : List (S43))) (inner := [.int .u8 a2, .slice Ao41 y190.length co41]) (ok := (fun k_ => some k_ ≠ (.slice Ao20 t164.length co20 : Value).ownBlock ∧ some k_ ≠ (.slice Ao33 y178.length co33 : Value).ownBlock ∧ some k_ ≠ (v182 : Value).ownBlock ∧ some k_ ≠ (v185 : Value).ownBlock)) (okp := (fun k_ => some k_ ≠ (.slice Ao20 t164.length co20 : Value).ownBlock ∧ some k_ ≠ (.slice Ao33 y178.length co33 : Value).ownBlock ∧ some k_ ≠ (v182 : Value).ownBlock ∧ some k_ ≠ (v185 : Value).ownBlock)) ?hr ?hp (fun _ hk => hk) ((show ∀ k_, w40.heap.size ≤ k_ → (fun k_ => some k_ ≠ (.slice Ao20 t164.length co20 : Value).ownBlock ∧ some k_ ≠ (.slice Ao33 y178.length co33 : Value).ownBlock ∧ some k_ ≠ (v182 : Value).ownBlock ∧ some k_ ≠ (v185 : Value).ownBlock) k_ from fun k_ hk => ⟨Kd.fresh' (Kd.N_lt (by (with_reducible repeat (first | apply Kd.N_alloc | apply Kd.N_drewN | apply Kd.N_drew)); exact HO166.out)) k_ hk, Kd.fresh' (Kd.N_lt (by (with_reducible repeat (first | apply Kd.N_alloc | apply Kd.N_drewN | apply Kd.N_drew)); exact HO180.out)) k_ hk, Kd.fresh' (Kd.N_lt (by (with_reducible repeat (first | apply Kd.N_alloc | apply Kd.N_drewN | apply Kd.N_drew)); exact HO183.out)) k_ hk, Kd.fresh' (Kd.N_lt (by (with_reducible repeat (first | apply Kd.N_alloc | apply Kd.N_drewN | apply Kd.N_drew)); exact HO186.out)) k_ hk⟩) _ (Nat.le_refl _)) (Below.refl _ _) (Nat.le_refl _) (by simp) ?_; (case hd => rfl); (case hg => rfl); (case hr => first | (go_simp; done) | (go_simp; rfl)); (case hp => exact (Reps.c2 (show Kd.FK k43 _ _ (⟨a2, y190⟩ : S43) [.int .u8 a2, .slice Ao41 y190.length co41] from (k43_mkF _ _ (⟨a2, y190⟩ : S43) (Kd.R_reads' (Kd.R_mono (ok' := (fun k_ => some k_ ≠ (.slice Ao20 t164.length co20 : Value).ownBlock ∧ some k_ ≠ (.slice Ao33 y178.length co33 : Value).ownBlock ∧ some k_ ≠ (v182 : Value).ownBlock ∧ some k_ ≠ (v185 : Value).ownBlock)) (Kd.R_apart' (Kd.R_apart' (Kd.R_apart' (Kd.R_apart' (HO192.out) (Kd.N_typed HO166.out) (by decide)) (Kd.N_typed HO180.out) (by decide)) (Kd.N_typed HO183.out) (by decide)) (Kd.N_typed HO186.out) (by decide)) (fun k_ hk => ⟨hk.1.1.1.2, ⟨hk.1.1.2, ⟨hk.1.2, hk.2⟩⟩⟩))).2.1 (Kd.R_F (Kd.R_mono (ok' := (fun k_ => some k_ ≠ (.slice Ao20 t164.length co20 : Value).ownBlock ∧ some k_ ≠ (.slice Ao33 y178.length co33 : Value).ownBlock ∧ some k_ ≠ (v182 : Value).ownBlock ∧ some k_ ≠ (v185 : Value).ownBlock)) (Kd.R_apart' (Kd.R_apart' (Kd.R_apart' (Kd.R_apart' (HO192.out) (Kd.N_typed HO166.out) (by decide)) (Kd.N_typed HO180.out) (by decide)) (Kd.N_typed HO183.out) (by decide)) (Kd.N_typed HO186.out) (by decide)) (fun k_ hk => ⟨hk.1.1.1.2, ⟨hk.1.1.2, ⟨hk.1.2, hk.2⟩⟩⟩))))) (Reps.none _ _)))
                                intro v194 w42 ho43 hb hg_ hnew_
                                clear hg_ hnew_
                                (first | rw [← Ny193.out] at ho43 | (simp only [Int.reduceToNat] at ho43; rw [← Ny193.out] at ho43))
                                have n0_ := Aside0.mk (Kd.N_elder' (by (with_reducible repeat (first | apply Kd.N_alloc | apply Kd.N_drewN | apply Kd.N_drew)); exact HO166.out) (Kd.N_base ho43) hb)
                                have n1_ := Aside0.mk (Kd.N_elder' (by (with_reducible repeat (first | apply Kd.N_alloc | apply Kd.N_drewN | apply Kd.N_drew)); exact HO180.out) (Kd.N_base ho43) hb)
                                have n2_ := Aside0.mk (Kd.N_elder' (by (with_reducible repeat (first | apply Kd.N_alloc | apply Kd.N_drewN | apply Kd.N_drew)); exact HO183.out) (Kd.N_base ho43) hb)
                                have n3_ := Aside0.mk (Kd.N_elder' (by (with_reducible repeat (first | apply Kd.N_alloc | apply Kd.N_drewN | apply Kd.N_drew)); exact HO186.out) (Kd.N_base ho43) hb)
                                have n4_ := Aside0.mk (Kd.N_lower ho43 (below_size (by repeat (first | (with_reducible first | exact HB.out | apply below_alloc | apply pw_below_drewN | apply below_drew1) | exact HB.out))))
                                have n5_ := Aside0.mk (below_step (by repeat (first | (with_reducible first | exact HB.out | apply below_alloc | apply pw_below_drewN | apply below_drew1) | exact HB.out)) hb)
                                clear HO166
                                clear HO180
                                clear HO183
                                clear HO186
                                clear HB
                                clear HO192
                                have HO166 := n0_
                                have HO180 := n1_
                                have HO183 := n2_
                                have HO186 := n3_
                                have HO195 := n4_
                                have HB := n5_
                                clear n0_ n1_ n2_ n3_ n4_ n5_
                                clear hb ho43
                                refine hK.out _ _ trivial (fun hHeld => ?_)
                                clear hK K
                                refine norm_ (a' := ?_) ?_ ?_
                                rotate_left
                                · show Act.put _ (some 40) _ = _
                                  simp only [Act.put, List.setIfInBounds_toArray, List.set_cons_zero, List.set_cons_succ, i64_w, i32_w]
                                  rfl
                                exact norm_ (by first | (simp only [putAll, Act.put, List.setIfInBounds_toArray, List.set_cons_zero, List.set_cons_succ]; done) | (simp only [putAll, Act.put, List.setIfInBounds_toArray, List.set_cons_zero, List.set_cons_succ]; rfl)) (hJ0_5_7 (v185, .slice Ao41 y190.length co41, v194) _ ⟨(by (with_reducible repeat (first | apply Kd.N_alloc | apply Kd.N_drewN | apply Kd.N_drew)); exact Kd.N_mono HO166.out (fun _ hk => ⟨hk.1.1, ⟨hk.1.2.1, ⟨hk.1.2.2.1, hk.2⟩⟩⟩)), (by (with_reducible repeat (first | apply Kd.N_alloc | apply Kd.N_drewN | apply Kd.N_drew)); exact Kd.N_mono HO180.out (fun _ hk => ⟨hk.1.1, ⟨hk.1.2.1, ⟨hk.1.2.2.1, hk.2⟩⟩⟩)), (by (with_reducible repeat (first | apply Kd.N_alloc | apply Kd.N_drewN | apply Kd.N_drew)); exact Kd.N_mono HO183.out (fun _ hk => ⟨hk.1.1, hk.2⟩)), (by (with_reducible repeat (first | apply Kd.N_alloc | apply Kd.N_drewN | apply Kd.N_drew)); exact Kd.N_mono HO186.out (fun _ hk => ⟨hk.1.1, ⟨hk.1.2.1, ⟨hk.1.2.2.1, hk.2⟩⟩⟩)), (by (with_reducible repeat (first | apply Kd.N_alloc | apply Kd.N_drewN | apply Kd.N_drew)); exact HO195.out), (by repeat (first | (with_reducible first | exact HB.out | apply below_alloc | apply pw_below_drewN | apply below_drew1) | exact HB.out))⟩)
                          · skip
                            rintro ⟨v185, v188⟩ w38 ⟨h0_, h1_, h2_, h3_, h4_⟩
                            have n0_ : Aside0 (Kd.N k43 43 w38 w.heap.size (fun k_ => some k_ ≠ (.slice Ao33 y178.length co33 : Value).ownBlock ∧ some k_ ≠ (v182 : Value).ownBlock ∧ some k_ ≠ (v188 : Value).ownBlock) (.slice Ao20 t164.length co20) t164) := ⟨h0_⟩
                            have n1_ : Aside0 (Kd.N k43 43 w38 w.heap.size (fun k_ => some k_ ≠ (.slice Ao20 t164.length co20 : Value).ownBlock ∧ some k_ ≠ (v182 : Value).ownBlock ∧ some k_ ≠ (v188 : Value).ownBlock) (.slice Ao33 y178.length co33) y178) := ⟨h1_⟩
                            have n2_ : Aside0 (Kd.N k43 43 w38 w.heap.size (fun k_ => some k_ ≠ (v188 : Value).ownBlock) v182 y181) := ⟨h2_⟩
                            have n3_ : Aside0 (Kd.N k43 43 w38 w.heap.size (fun k_ => some k_ ≠ (.slice Ao33 y178.length co33 : Value).ownBlock ∧ some k_ ≠ (v182 : Value).ownBlock) v188 y187) := ⟨h3_⟩
                            have n4_ : Aside0 (Below w.heap.size w w38) := ⟨h4_⟩
                            clear HO166
                            clear HO180
                            clear HO183
                            clear HB
                            clear h0_ h1_ h2_ h3_ h4_
                            have HO166 := n0_
                            have HO180 := n1_
                            have HO183 := n2_
                            have HO189 := n3_
                            have HB := n4_
                            clear n0_ n1_ n2_ n3_ n4_
                            have hHeld := trivial
                            refine norm_ (a' := ?_) ?_ ?_
                            rotate_left
                            · simp only [putAll, Act.put, List.setIfInBounds_toArray, List.set_cons_zero, List.set_cons_succ]
                              rfl
                            refine one_ (i := 5) (N := some 38) #[true, true, true, true, true, true, false, false, false, false] rfl rfl (one_of HT_.out (by kernel_rfl)) (by decide) (fun K hK => ?_)
                            refine Go.Proofs.Ytgpgoffnfdjhcaa.H.R_makecap_step _ 5 (by rfl) (N := 38) rfl 22 _ _ rfl .u8 .u8 a3 a3 rfl rfl Try.underlying22 info5 (ok := fun _ => True) (okp := fun _ => True) (fun _ hk => hk) trivial (of_decide_eq_true (by first | (with_reducible assumption) | assumption)) (Int.le_refl _) (Nat.le_trans (Nat.mul_le_mul_right _ (of_decide_eq_true (by first | (with_reducible assumption) | assumption) : (a3 : Int).toNat ≤ 281474976710656)) (by omega)) (Below.refl _ _) (Nat.le_refl _) ?_
                            intro v191 w39 ho40 hb hg_ hnew_
                            clear hg_ hnew_
                            (first | rw [← Ny190.out] at ho40 | (simp only [Int.reduceToNat] at ho40; rw [← Ny190.out] at ho40))
                            have n0_ := Aside0.mk (Kd.N_elder' (by (with_reducible repeat (first | apply Kd.N_alloc | apply Kd.N_drewN | apply Kd.N_drew)); exact HO166.out) (Kd.R_base ho40) hb)
                            have n1_ := Aside0.mk (Kd.N_elder' (by (with_reducible repeat (first | apply Kd.N_alloc | apply Kd.N_drewN | apply Kd.N_drew)); exact HO180.out) (Kd.R_base ho40) hb)
                            have n2_ := Aside0.mk (Kd.N_elder' (by (with_reducible repeat (first | apply Kd.N_alloc | apply Kd.N_drewN | apply Kd.N_drew)); exact HO183.out) (Kd.R_base ho40) hb)
                            have n3_ := Aside0.mk (Kd.N_elder' (by (with_reducible repeat (first | apply Kd.N_alloc | apply Kd.N_drewN | apply Kd.N_drew)); exact HO189.out) (Kd.R_base ho40) hb)
                            have n4_ := Aside0.mk (Kd.R_lower ho40 (below_size (by repeat (first | (with_reducible first | exact HB.out | apply below_alloc | apply pw_below_drewN | apply below_drew1) | exact HB.out))))
                            have n5_ := Aside0.mk (below_step (by repeat (first | (with_reducible first | exact HB.out | apply below_alloc | apply pw_below_drewN | apply below_drew1) | exact HB.out)) hb)
                            clear HO166
                            clear HO180
                            clear HO183
                            clear HO189
                            clear HB
                            have HO166 := n0_
                            have HO180 := n1_
                            have HO183 := n2_
                            have HO189 := n3_
                            have HO192 := n4_
                            have HB := n5_
                            clear n0_ n1_ n2_ n3_ n4_ n5_
                            clear hb ho40
                            obtain ⟨Ao41, co41, eo41⟩ := Kd.R_slice HO192.out
                            (first | subst eo41 | (injection eo41 with f1_ f2_ f3_; have f4_ := f1_.symm; have f5_ := f3_.symm; clear f1_ f2_ f3_; subst f4_; subst f5_))
                            refine hK.out _ _ trivial (fun hHeld => ?_)
                            clear hK K
                            refine norm_ (a' := ?_) ?_ ?_
                            rotate_left
                            · show Act.put _ (some 38) _ = _
                              simp only [Act.put, List.setIfInBounds_toArray, List.set_cons_zero, List.set_cons_succ, i64_w, i32_w]
                              rfl
                            refine pure_ (i := 6) (N := some 39) (v := ?_) (a' := ?_) #[true, true, true, true, true, true, true, false, false, false] rfl rfl (any_of HT_.out (by kernel_rfl)) (fun _ _ _ h => h) (Or.inl ⟨by rfl, ?_⟩) ?_ ?_
                            rotate_left
                            · intro w'
                              go_simp
                              with_reducible rfl
                            rotate_left
                            · simp only [Act.put, List.setIfInBounds_toArray, List.set_cons_zero, List.set_cons_succ, i64_w, i32_w]
                              rfl
                            exact norm_ (by first | (simp only [putAll, Act.put, List.setIfInBounds_toArray, List.set_cons_zero, List.set_cons_succ]; done) | (simp only [putAll, Act.put, List.setIfInBounds_toArray, List.set_cons_zero, List.set_cons_succ]; rfl)) (hJ0_2_5 (v185, v188, .slice Ao41 y190.length co41) _ ⟨(by (with_reducible repeat (first | apply Kd.N_alloc | apply Kd.N_drewN | apply Kd.N_drew)); exact Kd.N_mono HO166.out (fun _ hk => ⟨hk.1.1, ⟨hk.1.2.1, ⟨hk.1.2.2, hk.2⟩⟩⟩)), (by (with_reducible repeat (first | apply Kd.N_alloc | apply Kd.N_drewN | apply Kd.N_drew)); exact Kd.N_mono HO180.out (fun _ hk => ⟨hk.1.1, ⟨hk.1.2.1, ⟨hk.1.2.2, hk.2⟩⟩⟩)), (by (with_reducible repeat (first | apply Kd.N_alloc | apply Kd.N_drewN | apply Kd.N_drew)); exact HO183.out), (by (with_reducible repeat (first | apply Kd.N_alloc | apply Kd.N_drewN | apply Kd.N_drew)); exact Kd.N_mono HO189.out (fun _ hk => ⟨hk.1.1, ⟨hk.1.2, hk.2⟩⟩)), (by (with_reducible repeat (first | apply Kd.R_alloc | apply Kd.R_drewN | apply Kd.R_drew)); exact HO192.out), (by repeat (first | (with_reducible first | exact HB.out | apply below_alloc | apply pw_below_drewN | apply below_drew1) | exact HB.out))⟩)
                        · skip
                          rintro ⟨v185, v191, v194⟩ w42 ⟨h0_, h1_, h2_, h3_, h4_, h5_⟩
                          have n0_ : Aside0 (Kd.N k43 43 w42 w.heap.size (fun k_ => some k_ ≠ (.slice Ao33 y178.length co33 : Value).ownBlock ∧ some k_ ≠ (v182 : Value).ownBlock ∧ some k_ ≠ (v185 : Value).ownBlock ∧ some k_ ≠ (v194 : Value).ownBlock) (.slice Ao20 t164.length co20) t164) := ⟨h0_⟩
                          have n1_ : Aside0 (Kd.N k43 43 w42 w.heap.size (fun k_ => some k_ ≠ (.slice Ao20 t164.length co20 : Value).ownBlock ∧ some k_ ≠ (v182 : Value).ownBlock ∧ some k_ ≠ (v185 : Value).ownBlock ∧ some k_ ≠ (v194 : Value).ownBlock) (.slice Ao33 y178.length co33) y178) := ⟨h1_⟩
                          have n2_ : Aside0 (Kd.N k43 43 w42 w.heap.size (fun k_ => some k_ ≠ (v185 : Value).ownBlock ∧ some k_ ≠ (v194 : Value).ownBlock) v182 y181) := ⟨h2_⟩
                          have n3_ : Aside0 (Kd.N k43 43 w42 w.heap.size (fun k_ => some k_ ≠ (.slice Ao20 t164.length co20 : Value).ownBlock ∧ some k_ ≠ (.slice Ao33 y178.length co33 : Value).ownBlock ∧ some k_ ≠ (v182 : Value).ownBlock ∧ some k_ ≠ (v194 : Value).ownBlock) v185 y184) := ⟨h3_⟩
                          have n4_ : Aside0 (Kd.N k43 43 w42 w.heap.size (fun k_ => some k_ ≠ (.slice Ao20 t164.length co20 : Value).ownBlock ∧ some k_ ≠ (.slice Ao33 y178.length co33 : Value).ownBlock ∧ some k_ ≠ (v182 : Value).ownBlock ∧ some k_ ≠ (v185 : Value).ownBlock) v194 y193) := ⟨h4_⟩
                          have n5_ : Aside0 (Below w.heap.size w w42) := ⟨h5_⟩
                          clear HO166
                          clear HO180
                          clear HO183
                          clear HB
                          clear h0_ h1_ h2_ h3_ h4_ h5_
                          have HO166 := n0_
                          have HO180 := n1_
                          have HO183 := n2_
                          have HO186 := n3_
                          have HO195 := n4_
                          have HB := n5_
                          clear n0_ n1_ n2_ n3_ n4_ n5_
                          have hHeld := trivial
                          refine norm_ (a' := ?_) ?_ ?_
                          rotate_left
                          · simp only [putAll, Act.put, List.setIfInBounds_toArray, List.set_cons_zero, List.set_cons_succ]
                            rfl
                          refine one_ (i := 2) (N := some 35) #[true, true, true, true, true, true, true, true, false, false] rfl rfl (one_of HT_.out (by kernel_rfl)) (by decide) (fun K hK => ?_)
                          refine Kd.N_append_rows_step k43 (w0 := w) w.heap.size (by rfl) (.tmp 33) (.tmp 34) 29 43 (.agg #[(.int .u8 0), (.slice none 0 0)]) 32 rfl Try.underlying29 info43 rfl (by decide) (by omega) v185 y184 t164 _ _ _ (fun k_ => some k_ ≠ (.slice Ao33 y178.length co33 : Value).ownBlock ∧ some k_ ≠ (v182 : Value).ownBlock ∧ some k_ ≠ (v194 : Value).ownBlock) (fun k_ => ((fun k_ => some k_ ≠ (.slice Ao33 y178.length co33 : Value).ownBlock ∧ some k_ ≠ (v182 : Value).ownBlock ∧ some k_ ≠ (v194 : Value).ownBlock)) k_ ∧ some k_ ≠ (v185 : Value).ownBlock) rfl rfl ?aO ?aR (fun _ hk => hk) ?aF ?aB ?aS ?aL ?_
                          (case aR => exact (by skip; exact Kd.N_F (Kd.N_mono (ok' := (fun k_ => ((fun k_ => some k_ ≠ (.slice Ao33 y178.length co33 : Value).ownBlock ∧ some k_ ≠ (v182 : Value).ownBlock ∧ some k_ ≠ (v194 : Value).ownBlock)) k_ ∧ some k_ ≠ (v185 : Value).ownBlock)) (HO166.out) (fun k_ hk => ⟨⟨hk.1, ⟨hk.2.1, hk.2.2.2⟩⟩, hk.2.2.1⟩))))
                          (case aB => exact (by repeat (first | (with_reducible first | exact HB.out | apply below_alloc | apply pw_below_drewN | apply below_drew1) | exact HB.out)))
                          (case aF => exact (fun k_ hk => ⟨Kd.fresh' (Kd.N_lt (by (with_reducible repeat (first | apply Kd.N_alloc | apply Kd.N_drewN | apply Kd.N_drew)); exact HO180.out)) k_ hk, Kd.fresh' (Kd.N_lt (by (with_reducible repeat (first | apply Kd.N_alloc | apply Kd.N_drewN | apply Kd.N_drew)); exact HO183.out)) k_ hk, Kd.fresh' (Kd.N_lt (by (with_reducible repeat (first | apply Kd.N_alloc | apply Kd.N_drewN | apply Kd.N_drew)); exact HO195.out)) k_ hk⟩))
                          (case aO => exact (by (with_reducible repeat (first | apply Kd.N_alloc | apply Kd.N_drewN | apply Kd.N_drew)); exact Kd.N_mono HO186.out (fun _ hk => ⟨hk.2.1, ⟨hk.2.2.1, hk.2.2.2⟩⟩)))
                          (case aS => exact (below_size (by repeat (first | (with_reducible first | exact HB.out | apply below_alloc | apply pw_below_drewN | apply below_drew1) | exact HB.out))))
                          (case aL => have := LMc13.out; omega)
                          intro v188 w43 ho hb hg hat
                          rw [← Ny187.out] at ho
                          have n0_ := Aside0.mk (Kd.N_afterv (ok := (fun k_ => some k_ ≠ (.slice Ao33 y178.length co33 : Value).ownBlock ∧ some k_ ≠ (v182 : Value).ownBlock ∧ some k_ ≠ (v194 : Value).ownBlock)) (by (with_reducible repeat (first | apply Kd.N_alloc | apply Kd.N_drewN | apply Kd.N_drew)); exact Kd.N_mono HO166.out (fun _ hk => ⟨⟨hk.1, ⟨hk.2.1, hk.2.2.2⟩⟩, hk.2.2.1⟩)) hg hat)
                          have n1_ := Aside0.mk (Kd.N_afterv (ok := (fun k_ => some k_ ≠ (.slice Ao20 t164.length co20 : Value).ownBlock ∧ some k_ ≠ (v182 : Value).ownBlock ∧ some k_ ≠ (v194 : Value).ownBlock)) (by (with_reducible repeat (first | apply Kd.N_alloc | apply Kd.N_drewN | apply Kd.N_drew)); exact Kd.N_mono HO180.out (fun _ hk => ⟨⟨hk.1, ⟨hk.2.1, hk.2.2.2⟩⟩, hk.2.2.1⟩)) hg hat)
                          have n2_ := Aside0.mk (Kd.N_afterv (ok := (fun k_ => some k_ ≠ (v194 : Value).ownBlock)) (by (with_reducible repeat (first | apply Kd.N_alloc | apply Kd.N_drewN | apply Kd.N_drew)); exact Kd.N_mono HO183.out (fun _ hk => ⟨hk.2, hk.1⟩)) hg hat)
                          have n3_ := Aside0.mk (Kd.N_afterv (ok := (fun k_ => some k_ ≠ (.slice Ao20 t164.length co20 : Value).ownBlock ∧ some k_ ≠ (.slice Ao33 y178.length co33 : Value).ownBlock ∧ some k_ ≠ (v182 : Value).ownBlock)) (by (with_reducible repeat (first | apply Kd.N_alloc | apply Kd.N_drewN | apply Kd.N_drew)); exact Kd.N_mono HO195.out (fun _ hk => ⟨⟨hk.1, ⟨hk.2.1, hk.2.2.1⟩⟩, hk.2.2.2⟩)) hg hat)
                          have n4_ := Aside0.mk (hb)
                          have n5_ := Aside0.mk (ho)
                          clear HO166
                          clear HO180
                          clear HO183
                          clear HO195
                          clear HB
                          clear HO186
                          have HO166 := n0_
                          have HO180 := n1_
                          have HO183 := n2_
                          have HO195 := n3_
                          have HB := n4_
                          have HO189 := n5_
                          clear n0_ n1_ n2_ n3_ n4_ n5_
                          clear ho hb hg hat
                          refine hK.out _ _ trivial (fun hHeld => ?_)
                          clear hK K
                          refine norm_ (a' := ?_) ?_ ?_
                          rotate_left
                          · show Act.put _ (some 35) _ = _
                            simp only [Act.put, List.setIfInBounds_toArray, List.set_cons_zero, List.set_cons_succ, i64_w, i32_w]
                            rfl
                          exact norm_ (by first | (simp only [putAll, Act.put, List.setIfInBounds_toArray, List.set_cons_zero, List.set_cons_succ]; done) | (simp only [putAll, Act.put, List.setIfInBounds_toArray, List.set_cons_zero, List.set_cons_succ]; rfl)) (hJ0_2_5_7 (v185, v188, v191, v194) _ ⟨(by (with_reducible repeat (first | apply Kd.N_alloc | apply Kd.N_drewN | apply Kd.N_drew)); exact Kd.N_mono HO166.out (fun _ hk => ⟨hk.1.1, ⟨hk.1.2.1, ⟨hk.2, hk.1.2.2⟩⟩⟩)), (by (with_reducible repeat (first | apply Kd.N_alloc | apply Kd.N_drewN | apply Kd.N_drew)); exact Kd.N_mono HO180.out (fun _ hk => ⟨hk.1.1, ⟨hk.1.2.1, ⟨hk.2, hk.1.2.2⟩⟩⟩)), (by (with_reducible repeat (first | apply Kd.N_alloc | apply Kd.N_drewN | apply Kd.N_drew)); exact Kd.N_mono HO183.out (fun _ hk => ⟨hk.2, hk.1⟩)), (by (with_reducible repeat (first | apply Kd.N_alloc | apply Kd.N_drewN | apply Kd.N_drew)); exact HO189.out), (by (with_reducible repeat (first | apply Kd.N_alloc | apply Kd.N_drewN | apply Kd.N_drew)); exact Kd.N_mono HO195.out (fun _ hk => ⟨hk.1.1, ⟨hk.1.2.1, ⟨hk.1.2.2, hk.2⟩⟩⟩)), (by repeat (first | (with_reducible first | exact HB.out | apply below_alloc | apply pw_below_drewN | apply below_drew1) | exact HB.out))⟩)
                      · skip
                        rintro ⟨v185, v188, v191⟩ w41 ⟨h0_, h1_, h2_, h3_, h4_, h5_⟩
                        have n0_ : Aside0 (Kd.N k43 43 w41 w.heap.size (fun k_ => some k_ ≠ (.slice Ao33 y178.length co33 : Value).ownBlock ∧ some k_ ≠ (v182 : Value).ownBlock ∧ some k_ ≠ (v188 : Value).ownBlock ∧ some k_ ≠ (v191 : Value).ownBlock) (.slice Ao20 t164.length co20) t164) := ⟨h0_⟩
                        have n1_ : Aside0 (Kd.N k43 43 w41 w.heap.size (fun k_ => some k_ ≠ (.slice Ao20 t164.length co20 : Value).ownBlock ∧ some k_ ≠ (v182 : Value).ownBlock ∧ some k_ ≠ (v188 : Value).ownBlock ∧ some k_ ≠ (v191 : Value).ownBlock) (.slice Ao33 y178.length co33) y178) := ⟨h1_⟩
                        have n2_ : Aside0 (Kd.N k43 43 w41 w.heap.size (fun k_ => some k_ ≠ (v188 : Value).ownBlock ∧ some k_ ≠ (v191 : Value).ownBlock) v182 y181) := ⟨h2_⟩
                        have n3_ : Aside0 (Kd.N k43 43 w41 w.heap.size (fun k_ => some k_ ≠ (.slice Ao33 y178.length co33 : Value).ownBlock ∧ some k_ ≠ (v182 : Value).ownBlock ∧ some k_ ≠ (v191 : Value).ownBlock) v188 y187) := ⟨h3_⟩
                        have n4_ : Aside0 (Kd.R (Kd.int .u8) 5 w41 w.heap.size (fun _ => True) v191 y190) := ⟨h4_⟩
                        have n5_ : Aside0 (Below w.heap.size w w41) := ⟨h5_⟩
                        clear HO166
                        clear HO180
                        clear HO183
                        clear HB
                        clear h0_ h1_ h2_ h3_ h4_ h5_
                        have HO166 := n0_
                        have HO180 := n1_
                        have HO183 := n2_
                        have HO189 := n3_
                        have HO192 := n4_
                        have HB := n5_
                        clear n0_ n1_ n2_ n3_ n4_ n5_
                        have hHeld := trivial
                        obtain ⟨Ao42, co42, eo42⟩ := Kd.R_slice HO192.out
                        (first | subst eo42 | (injection eo42 with f1_ f2_ f3_; have f4_ := f1_.symm; have f5_ := f3_.symm; clear f1_ f2_ f3_; subst f4_; subst f5_))
                        refine norm_ (a' := ?_) ?_ ?_
                        rotate_left
                        · simp only [putAll, Act.put, List.setIfInBounds_toArray, List.set_cons_zero, List.set_cons_succ]
                          rfl
                        refine one_ (i := 7) (N := some 40) #[true, true, true, true, true, true, true, true, false, false] rfl rfl (one_of HT_.out (by kernel_rfl)) (by decide) (fun K hK => ?_)
                        refine Kd.N_lit_step k43 _ 43 ?hg (N' := 40) ?hd (xs := ([(⟨a2, y190⟩ : S43)] : List (S43))) (inner := [.int .u8 a2, .slice Ao42 y190.length co42]) (ok := (fun k_ => some k_ ≠ (.slice Ao20 t164.length co20 : Value).ownBlock ∧ some k_ ≠ (.slice Ao33 y178.length co33 : Value).ownBlock ∧ some k_ ≠ (v182 : Value).ownBlock ∧ some k_ ≠ (v188 : Value).ownBlock)) (okp := (fun k_ => some k_ ≠ (.slice Ao20 t164.length co20 : Value).ownBlock ∧ some k_ ≠ (.slice Ao33 y178.length co33 : Value).ownBlock ∧ some k_ ≠ (v182 : Value).ownBlock ∧ some k_ ≠ (v188 : Value).ownBlock)) ?hr ?hp (fun _ hk => hk) ((show ∀ k_, w41.heap.size ≤ k_ → (fun k_ => some k_ ≠ (.slice Ao20 t164.length co20 : Value).ownBlock ∧ some k_ ≠ (.slice Ao33 y178.length co33 : Value).ownBlock ∧ some k_ ≠ (v182 : Value).ownBlock ∧ some k_ ≠ (v188 : Value).ownBlock) k_ from fun k_ hk => ⟨Kd.fresh' (Kd.N_lt (by (with_reducible repeat (first | apply Kd.N_alloc | apply Kd.N_drewN | apply Kd.N_drew)); exact HO166.out)) k_ hk, Kd.fresh' (Kd.N_lt (by (with_reducible repeat (first | apply Kd.N_alloc | apply Kd.N_drewN | apply Kd.N_drew)); exact HO180.out)) k_ hk, Kd.fresh' (Kd.N_lt (by (with_reducible repeat (first | apply Kd.N_alloc | apply Kd.N_drewN | apply Kd.N_drew)); exact HO183.out)) k_ hk, Kd.fresh' (Kd.N_lt (by (with_reducible repeat (first | apply Kd.N_alloc | apply Kd.N_drewN | apply Kd.N_drew)); exact HO189.out)) k_ hk⟩) _ (Nat.le_refl _)) (Below.refl _ _) (Nat.le_refl _) (by simp) ?_; (case hd => rfl); (case hg => rfl); (case hr => first | (go_simp; done) | (go_simp; rfl)); (case hp => exact (Reps.c2 (show Kd.FK k43 _ _ (⟨a2, y190⟩ : S43) [.int .u8 a2, .slice Ao42 y190.length co42] from (k43_mkF _ _ (⟨a2, y190⟩ : S43) (Kd.R_reads' (Kd.R_mono (ok' := (fun k_ => some k_ ≠ (.slice Ao20 t164.length co20 : Value).ownBlock ∧ some k_ ≠ (.slice Ao33 y178.length co33 : Value).ownBlock ∧ some k_ ≠ (v182 : Value).ownBlock ∧ some k_ ≠ (v188 : Value).ownBlock)) (Kd.R_apart' (Kd.R_apart' (Kd.R_apart' (Kd.R_apart' (HO192.out) (Kd.N_typed HO166.out) (by decide)) (Kd.N_typed HO180.out) (by decide)) (Kd.N_typed HO183.out) (by decide)) (Kd.N_typed HO189.out) (by decide)) (fun k_ hk => ⟨hk.1.1.1.2, ⟨hk.1.1.2, ⟨hk.1.2, hk.2⟩⟩⟩))).2.1 (Kd.R_F (Kd.R_mono (ok' := (fun k_ => some k_ ≠ (.slice Ao20 t164.length co20 : Value).ownBlock ∧ some k_ ≠ (.slice Ao33 y178.length co33 : Value).ownBlock ∧ some k_ ≠ (v182 : Value).ownBlock ∧ some k_ ≠ (v188 : Value).ownBlock)) (Kd.R_apart' (Kd.R_apart' (Kd.R_apart' (Kd.R_apart' (HO192.out) (Kd.N_typed HO166.out) (by decide)) (Kd.N_typed HO180.out) (by decide)) (Kd.N_typed HO183.out) (by decide)) (Kd.N_typed HO189.out) (by decide)) (fun k_ hk => ⟨hk.1.1.1.2, ⟨hk.1.1.2, ⟨hk.1.2, hk.2⟩⟩⟩))))) (Reps.none _ _)))
                        intro v194 w43 ho44 hb hg_ hnew_
                        clear hg_ hnew_
                        (first | rw [← Ny193.out] at ho44 | (simp only [Int.reduceToNat] at ho44; rw [← Ny193.out] at ho44))
                        have n0_ := Aside0.mk (Kd.N_elder' (by (with_reducible repeat (first | apply Kd.N_alloc | apply Kd.N_drewN | apply Kd.N_drew)); exact HO166.out) (Kd.N_base ho44) hb)
                        have n1_ := Aside0.mk (Kd.N_elder' (by (with_reducible repeat (first | apply Kd.N_alloc | apply Kd.N_drewN | apply Kd.N_drew)); exact HO180.out) (Kd.N_base ho44) hb)
                        have n2_ := Aside0.mk (Kd.N_elder' (by (with_reducible repeat (first | apply Kd.N_alloc | apply Kd.N_drewN | apply Kd.N_drew)); exact HO183.out) (Kd.N_base ho44) hb)
                        have n3_ := Aside0.mk (Kd.N_elder' (by (with_reducible repeat (first | apply Kd.N_alloc | apply Kd.N_drewN | apply Kd.N_drew)); exact HO189.out) (Kd.N_base ho44) hb)
                        have n4_ := Aside0.mk (Kd.N_lower ho44 (below_size (by repeat (first | (with_reducible first | exact HB.out | apply below_alloc | apply pw_below_drewN | apply below_drew1) | exact HB.out))))
                        have n5_ := Aside0.mk (below_step (by repeat (first | (with_reducible first | exact HB.out | apply below_alloc | apply pw_below_drewN | apply below_drew1) | exact HB.out)) hb)
                        clear HO166
                        clear HO180
                        clear HO183
                        clear HO189
                        clear HB
                        clear HO192
                        have HO166 := n0_
                        have HO180 := n1_
                        have HO183 := n2_
                        have HO189 := n3_
                        have HO195 := n4_
                        have HB := n5_
                        clear n0_ n1_ n2_ n3_ n4_ n5_
                        clear hb ho44
                        refine hK.out _ _ trivial (fun hHeld => ?_)
                        clear hK K
                        refine norm_ (a' := ?_) ?_ ?_
                        rotate_left
                        · show Act.put _ (some 40) _ = _
                          simp only [Act.put, List.setIfInBounds_toArray, List.set_cons_zero, List.set_cons_succ, i64_w, i32_w]
                          rfl
                        exact norm_ (by first | (simp only [putAll, Act.put, List.setIfInBounds_toArray, List.set_cons_zero, List.set_cons_succ]; done) | (simp only [putAll, Act.put, List.setIfInBounds_toArray, List.set_cons_zero, List.set_cons_succ]; rfl)) (hJ0_2_5_7 (v185, v188, .slice Ao42 y190.length co42, v194) _ ⟨(by (with_reducible repeat (first | apply Kd.N_alloc | apply Kd.N_drewN | apply Kd.N_drew)); exact Kd.N_mono HO166.out (fun _ hk => ⟨hk.1.1, ⟨hk.1.2.1, ⟨hk.1.2.2.1, hk.2⟩⟩⟩)), (by (with_reducible repeat (first | apply Kd.N_alloc | apply Kd.N_drewN | apply Kd.N_drew)); exact Kd.N_mono HO180.out (fun _ hk => ⟨hk.1.1, ⟨hk.1.2.1, ⟨hk.1.2.2.1, hk.2⟩⟩⟩)), (by (with_reducible repeat (first | apply Kd.N_alloc | apply Kd.N_drewN | apply Kd.N_drew)); exact Kd.N_mono HO183.out (fun _ hk => ⟨hk.1.1, hk.2⟩)), (by (with_reducible repeat (first | apply Kd.N_alloc | apply Kd.N_drewN | apply Kd.N_drew)); exact Kd.N_mono HO189.out (fun _ hk => ⟨hk.1.1, ⟨hk.1.2.1, hk.2⟩⟩)), (by (with_reducible repeat (first | apply Kd.N_alloc | apply Kd.N_drewN | apply Kd.N_drew)); exact HO195.out), (by repeat (first | (with_reducible first | exact HB.out | apply below_alloc | apply pw_below_drewN | apply below_drew1) | exact HB.out))⟩)
                    rintro ⟨v185, v188, v191, v194⟩ w43 ⟨h0_, h1_, h2_, h3_, h4_, h5_⟩
                    have n0_ : Aside0 (Kd.N k43 43 w43 w.heap.size (fun k_ => some k_ ≠ (.slice Ao33 y178.length co33 : Value).ownBlock ∧ some k_ ≠ (v182 : Value).ownBlock ∧ some k_ ≠ (v188 : Value).ownBlock ∧ some k_ ≠ (v194 : Value).ownBlock) (.slice Ao20 t164.length co20) t164) := ⟨h0_⟩
                    have n1_ : Aside0 (Kd.N k43 43 w43 w.heap.size (fun k_ => some k_ ≠ (.slice Ao20 t164.length co20 : Value).ownBlock ∧ some k_ ≠ (v182 : Value).ownBlock ∧ some k_ ≠ (v188 : Value).ownBlock ∧ some k_ ≠ (v194 : Value).ownBlock) (.slice Ao33 y178.length co33) y178) := ⟨h1_⟩
                    have n2_ : Aside0 (Kd.N k43 43 w43 w.heap.size (fun k_ => some k_ ≠ (v188 : Value).ownBlock ∧ some k_ ≠ (v194 : Value).ownBlock) v182 y181) := ⟨h2_⟩
                    have n3_ : Aside0 (Kd.N k43 43 w43 w.heap.size (fun k_ => some k_ ≠ (.slice Ao33 y178.length co33 : Value).ownBlock ∧ some k_ ≠ (v182 : Value).ownBlock ∧ some k_ ≠ (v194 : Value).ownBlock) v188 y187) := ⟨h3_⟩
                    have n4_ : Aside0 (Kd.N k43 43 w43 w.heap.size (fun k_ => some k_ ≠ (.slice Ao20 t164.length co20 : Value).ownBlock ∧ some k_ ≠ (.slice Ao33 y178.length co33 : Value).ownBlock ∧ some k_ ≠ (v182 : Value).ownBlock ∧ some k_ ≠ (v188 : Value).ownBlock) v194 y193) := ⟨h4_⟩
                    have n5_ : Aside0 (Below w.heap.size w w43) := ⟨h5_⟩
                    clear HO166
                    clear HO180
                    clear HO183
                    clear HB
                    clear h0_ h1_ h2_ h3_ h4_ h5_
                    have HO166 := n0_
                    have HO180 := n1_
                    have HO183 := n2_
                    have HO189 := n3_
                    have HO195 := n4_
                    have HB := n5_
                    clear n0_ n1_ n2_ n3_ n4_ n5_
                    have hHeld := trivial
                    obtain ⟨Ao45, co45, eo45⟩ := Kd.N_slice HO195.out
                    (first | subst eo45 | (injection eo45 with f1_ f2_ f3_; have f4_ := f1_.symm; have f5_ := f3_.symm; clear f1_ f2_ f3_; subst f4_; subst f5_))
                    refine norm_ (a' := ?_) ?_ ?_
                    rotate_left
                    · simp only [putAll, Act.put, List.setIfInBounds_toArray, List.set_cons_zero, List.set_cons_succ]
                      rfl
                    refine one_ (i := 8) (N := some 41) #[true, true, true, true, true, true, true, true, true, false] rfl rfl (one_of HT_.out (by kernel_rfl)) (by decide) (fun K hK => ?_)
                    refine Kd.N_append_rows_step k43 (w0 := w) w.heap.size (by rfl) (.tmp 35) (.tmp 40) 29 43 (.agg #[(.int .u8 0), (.slice none 0 0)]) 32 rfl Try.underlying29 info43 rfl (by decide) (by omega) v188 y187 y193 _ _ _ (fun k_ => some k_ ≠ (.slice Ao33 y178.length co33 : Value).ownBlock ∧ some k_ ≠ (v182 : Value).ownBlock) (fun k_ => ((fun k_ => some k_ ≠ (.slice Ao33 y178.length co33 : Value).ownBlock ∧ some k_ ≠ (v182 : Value).ownBlock)) k_ ∧ some k_ ≠ (v188 : Value).ownBlock) rfl rfl ?aO ?aR (fun _ hk => hk) ?aF ?aB ?aS ?aL ?_
                    (case aR => exact (by skip; exact Kd.N_F (Kd.N_mono (ok' := (fun k_ => ((fun k_ => some k_ ≠ (.slice Ao33 y178.length co33 : Value).ownBlock ∧ some k_ ≠ (v182 : Value).ownBlock)) k_ ∧ some k_ ≠ (v188 : Value).ownBlock)) (HO195.out) (fun k_ hk => ⟨⟨hk.2.1, hk.2.2.1⟩, hk.2.2.2⟩))))
                    (case aB => exact (by repeat (first | (with_reducible first | exact HB.out | apply below_alloc | apply pw_below_drewN | apply below_drew1) | exact HB.out)))
                    (case aF => exact (fun k_ hk => ⟨Kd.fresh' (Kd.N_lt (by (with_reducible repeat (first | apply Kd.N_alloc | apply Kd.N_drewN | apply Kd.N_drew)); exact HO180.out)) k_ hk, Kd.fresh' (Kd.N_lt (by (with_reducible repeat (first | apply Kd.N_alloc | apply Kd.N_drewN | apply Kd.N_drew)); exact HO183.out)) k_ hk⟩))
                    (case aO => exact (by (with_reducible repeat (first | apply Kd.N_alloc | apply Kd.N_drewN | apply Kd.N_drew)); exact Kd.N_mono HO189.out (fun _ hk => ⟨hk.1, hk.2.1⟩)))
                    (case aS => exact (below_size (by repeat (first | (with_reducible first | exact HB.out | apply below_alloc | apply pw_below_drewN | apply below_drew1) | exact HB.out))))
                    (case aL => have := LMc16.out; omega)
                    intro v197 w44 ho hb hg hat
                    rw [← Ny196.out] at ho
                    have n0_ := Aside0.mk (Kd.N_afterv (ok := (fun k_ => some k_ ≠ (.slice Ao33 y178.length co33 : Value).ownBlock ∧ some k_ ≠ (v182 : Value).ownBlock ∧ some k_ ≠ (.slice Ao45 y193.length co45 : Value).ownBlock)) (by (with_reducible repeat (first | apply Kd.N_alloc | apply Kd.N_drewN | apply Kd.N_drew)); exact Kd.N_mono HO166.out (fun _ hk => ⟨⟨hk.1, ⟨hk.2.1, hk.2.2.2⟩⟩, hk.2.2.1⟩)) hg hat)
                    have n1_ := Aside0.mk (Kd.N_afterv (ok := (fun k_ => some k_ ≠ (.slice Ao20 t164.length co20 : Value).ownBlock ∧ some k_ ≠ (v182 : Value).ownBlock ∧ some k_ ≠ (.slice Ao45 y193.length co45 : Value).ownBlock)) (by (with_reducible repeat (first | apply Kd.N_alloc | apply Kd.N_drewN | apply Kd.N_drew)); exact Kd.N_mono HO180.out (fun _ hk => ⟨⟨hk.1, ⟨hk.2.1, hk.2.2.2⟩⟩, hk.2.2.1⟩)) hg hat)
                    have n2_ := Aside0.mk (Kd.N_afterv (ok := (fun k_ => some k_ ≠ (.slice Ao45 y193.length co45 : Value).ownBlock)) (by (with_reducible repeat (first | apply Kd.N_alloc | apply Kd.N_drewN | apply Kd.N_drew)); exact Kd.N_mono HO183.out (fun _ hk => ⟨hk.2, hk.1⟩)) hg hat)
                    have n3_ := Aside0.mk (Kd.N_afterv (ok := (fun k_ => some k_ ≠ (.slice Ao20 t164.length co20 : Value).ownBlock ∧ some k_ ≠ (.slice Ao33 y178.length co33 : Value).ownBlock ∧ some k_ ≠ (v182 : Value).ownBlock)) (by (with_reducible repeat (first | apply Kd.N_alloc | apply Kd.N_drewN | apply Kd.N_drew)); exact Kd.N_mono HO195.out (fun _ hk => ⟨⟨hk.1, ⟨hk.2.1, hk.2.2.1⟩⟩, hk.2.2.2⟩)) hg hat)
                    have n4_ := Aside0.mk (hb)
                    have n5_ := Aside0.mk (ho)
                    clear HO166
                    clear HO180
                    clear HO183
                    clear HO195
                    clear HB
                    clear HO189
                    have HO166 := n0_
                    have HO180 := n1_
                    have HO183 := n2_
                    have HO195 := n3_
                    have HB := n4_
                    have HO198 := n5_
                    clear n0_ n1_ n2_ n3_ n4_ n5_
                    clear ho hb hg hat
                    refine hK.out _ _ trivial (fun hHeld => ?_)
                    clear hK K
                    refine norm_ (a' := ?_) ?_ ?_
                    rotate_left
                    · show Act.put _ (some 41) _ = _
                      simp only [Act.put, List.setIfInBounds_toArray, List.set_cons_zero, List.set_cons_succ, i64_w, i32_w]
                      rfl
                    refine pure_ (i := 9) (N := some 13) (v := ?_) (a' := ?_) #[true, true, true, true, true, true, true, true, true, true] rfl rfl (any_of HT_.out (by kernel_rfl)) (fun _ _ _ h => h) (Or.inl ⟨by rfl, ?_⟩) ?_ ?_
                    rotate_left
                    · intro w'
                      go_simp
                      with_reducible rfl
                    rotate_left
                    · simp only [Act.put, List.setIfInBounds_toArray, List.set_cons_zero, List.set_cons_succ, i64_w, i32_w]
                      rfl
                    refine done_ (done_of HT_.out (by kernel_rfl)) ?_
                    go_upto_region 7 with (fail)
                    go_cut [8] (fun v8 wc => ∃ (kq : Nat) (x8_16 : Bool), v8 = .bool x8_16 ∧ Aside0 (kotatsulaw05_BlockWants.j0 kq x8_16 = some r) ∧ Aside0 (kq ≤ k) ∧ Aside0 (Below w.heap.size w wc))
                    case first =>
                      have H := HC17.out
                      clear HC17
                      replace H := Option.bind_eq_some_iff.mp H
                      obtain ⟨t199, A460, H⟩ := H
                      replace H : (if t199 = true then ((block_Right.f k y196).bind fun t200 => (if a2 = t167 then (if (t200 == ((wrap64 (a3)) == t168)) = true then ((kotatsulaw05_own.f k y181).bind fun t201 => ((kotatsuref05_Right.f k t201).bind fun t204 => (if t204 = true then ((kotatsulaw05_own.f k y196).bind fun t205 => ((kotatsuref05_Right.f k t205).bind fun t208 => ((block_Right.f k y196).bind fun t209 => (kotatsulaw05_BlockWants.j0 k (t208 == t209))))) else (kotatsulaw05_BlockWants.j0 k false)))) else (kotatsulaw05_BlockWants.j0 k false)) else (if (t200 == false) = true then ((kotatsulaw05_own.f k y181).bind fun t210 => ((kotatsuref05_Right.f k t210).bind fun t213 => (if t213 = true then ((kotatsulaw05_own.f k y196).bind fun t214 => ((kotatsuref05_Right.f k t214).bind fun t217 => ((block_Right.f k y196).bind fun t218 => (kotatsulaw05_BlockWants.j0 k (t217 == t218))))) else (kotatsulaw05_BlockWants.j0 k false)))) else (kotatsulaw05_BlockWants.j0 k false)))) else (kotatsulaw05_BlockWants.j0 k false)) = some r := H
                      have A46 := Aside0.mk A460
                      clear A460
                      by_cases c47 : t199 = true
                      · subst c47
                        have H1 : ((block_Right.f k y196).bind fun t200 => (if a2 = t167 then (if (t200 == ((wrap64 (a3)) == t168)) = true then ((kotatsulaw05_own.f k y181).bind fun t201 => ((kotatsuref05_Right.f k t201).bind fun t204 => (if t204 = true then ((kotatsulaw05_own.f k y196).bind fun t205 => ((kotatsuref05_Right.f k t205).bind fun t208 => ((block_Right.f k y196).bind fun t209 => (kotatsulaw05_BlockWants.j0 k (t208 == t209))))) else (kotatsulaw05_BlockWants.j0 k false)))) else (kotatsulaw05_BlockWants.j0 k false)) else (if (t200 == false) = true then ((kotatsulaw05_own.f k y181).bind fun t210 => ((kotatsuref05_Right.f k t210).bind fun t213 => (if t213 = true then ((kotatsulaw05_own.f k y196).bind fun t214 => ((kotatsuref05_Right.f k t214).bind fun t217 => ((block_Right.f k y196).bind fun t218 => (kotatsulaw05_BlockWants.j0 k (t217 == t218))))) else (kotatsulaw05_BlockWants.j0 k false)))) else (kotatsulaw05_BlockWants.j0 k false)))) = some r := by rw [if_pos rfl] at H; exact H
                        clear H
                        have H := H1
                        clear H1
                        replace H := Option.bind_eq_some_iff.mp H
                        obtain ⟨t200, A480, H⟩ := H
                        replace H : (if a2 = t167 then (if (t200 == ((wrap64 (a3)) == t168)) = true then ((kotatsulaw05_own.f k y181).bind fun t201 => ((kotatsuref05_Right.f k t201).bind fun t204 => (if t204 = true then ((kotatsulaw05_own.f k y196).bind fun t205 => ((kotatsuref05_Right.f k t205).bind fun t208 => ((block_Right.f k y196).bind fun t209 => (kotatsulaw05_BlockWants.j0 k (t208 == t209))))) else (kotatsulaw05_BlockWants.j0 k false)))) else (kotatsulaw05_BlockWants.j0 k false)) else (if (t200 == false) = true then ((kotatsulaw05_own.f k y181).bind fun t210 => ((kotatsuref05_Right.f k t210).bind fun t213 => (if t213 = true then ((kotatsulaw05_own.f k y196).bind fun t214 => ((kotatsuref05_Right.f k t214).bind fun t217 => ((block_Right.f k y196).bind fun t218 => (kotatsulaw05_BlockWants.j0 k (t217 == t218))))) else (kotatsulaw05_BlockWants.j0 k false)))) else (kotatsulaw05_BlockWants.j0 k false))) = some r := H
                        have A48 := Aside0.mk A480
                        clear A480
                        by_cases c49 : a2 = t167
                        · rw [if_pos c49] at H
                          have c49b0 : (a2 == t167) = true := beq_iff_eq.mpr c49
                          have c49b1 : (a2 != t167) = false := bne_eq_false_iff_eq.mpr c49
                          clear c49
                          (first | rw [c49b0] | (simp only [i64_w, i32_w]; rw [c49b0]) | skip)
                          by_cases c50 : (t200 == ((wrap64 (a3)) == t168)) = true
                          · rw [if_pos c50] at H
                            have c50b0 : (t200 == ((wrap64 (a3)) == t168)) = true := c50
                            (try (have c50b1 : decide (t200 = ((wrap64 (a3)) == t168)) = true := by simpa using c50))
                            (try (have c50b2 : (t200 == ((wrap64 (a3)) == t168)) = true := by simpa using c50))
                            clear c50
                            replace H := Option.bind_eq_some_iff.mp H
                            obtain ⟨t201, A510, H⟩ := H
                            replace H : ((kotatsuref05_Right.f k t201).bind fun t204 => (if t204 = true then ((kotatsulaw05_own.f k y196).bind fun t205 => ((kotatsuref05_Right.f k t205).bind fun t208 => ((block_Right.f k y196).bind fun t209 => (kotatsulaw05_BlockWants.j0 k (t208 == t209))))) else (kotatsulaw05_BlockWants.j0 k false))) = some r := H
                            have A51 := Aside0.mk A510
                            clear A510
                            replace H := Option.bind_eq_some_iff.mp H
                            obtain ⟨t204, A520, H⟩ := H
                            replace H : (if t204 = true then ((kotatsulaw05_own.f k y196).bind fun t205 => ((kotatsuref05_Right.f k t205).bind fun t208 => ((block_Right.f k y196).bind fun t209 => (kotatsulaw05_BlockWants.j0 k (t208 == t209))))) else (kotatsulaw05_BlockWants.j0 k false)) = some r := H
                            have A52 := Aside0.mk A520
                            clear A520
                            by_cases c53 : t204 = true
                            · subst c53
                              have H1 : ((kotatsulaw05_own.f k y196).bind fun t205 => ((kotatsuref05_Right.f k t205).bind fun t208 => ((block_Right.f k y196).bind fun t209 => (kotatsulaw05_BlockWants.j0 k (t208 == t209))))) = some r := by rw [if_pos rfl] at H; exact H
                              clear H
                              have H := H1
                              clear H1
                              replace H := Option.bind_eq_some_iff.mp H
                              obtain ⟨t205, A540, H⟩ := H
                              replace H : ((kotatsuref05_Right.f k t205).bind fun t208 => ((block_Right.f k y196).bind fun t209 => (kotatsulaw05_BlockWants.j0 k (t208 == t209)))) = some r := H
                              have A54 := Aside0.mk A540
                              clear A540
                              replace H := Option.bind_eq_some_iff.mp H
                              obtain ⟨t208, A550, H⟩ := H
                              replace H : ((block_Right.f k y196).bind fun t209 => (kotatsulaw05_BlockWants.j0 k (t208 == t209))) = some r := H
                              have A55 := Aside0.mk A550
                              clear A550
                              replace H := Option.bind_eq_some_iff.mp H
                              obtain ⟨t209, A560, H⟩ := H
                              replace H : (kotatsulaw05_BlockWants.j0 k (t208 == t209)) = some r := H
                              have A56 := Aside0.mk A560
                              clear A560
                              have H' := Aside0.mk H
                              clear H
                              obtain ⟨Ao57, co57, eo57⟩ := Kd.N_slice HO183.out
                              subst eo57
                              go_wp2_with (first | ((with_reducible refine gate_callee (f := 17) rfl ?_); refine goesL_ (some 43) rfl rfl Try.func17 (by kernel_rfl) rfl #[.slice Ao57 y181.length co57] rfl (by (try simp only [List.map_toArray, List.map_cons, List.map_nil]); first | done | rfl | (simp only [List.length_drop, List.length_take]; rfl)) ?_; (with_reducible refine (block_Right.calls k (fun k_ => (some k_ ≠ (.slice Ao45 y193.length co45 : Value).ownBlock ∧ some k_ ≠ (v197 : Value).ownBlock)) _ _ y181 true _ ?side1 A46.out).mono ?_); (case side1 => exact Kd.N_V (HO183.out)); rintro e w58 ⟨rfl, hb⟩; refine ⟨_, rfl, ?_⟩; have n0_ := Aside0.mk (Kd.N_below (by (with_reducible repeat (first | apply Kd.N_alloc | apply Kd.N_drewN | apply Kd.N_drew)); exact HO166.out) hb); have n1_ := Aside0.mk (Kd.N_below (by (with_reducible repeat (first | apply Kd.N_alloc | apply Kd.N_drewN | apply Kd.N_drew)); exact HO180.out) hb); have n2_ := Aside0.mk (Kd.N_below (by (with_reducible repeat (first | apply Kd.N_alloc | apply Kd.N_drewN | apply Kd.N_drew)); exact HO183.out) hb); have n3_ := Aside0.mk (Kd.N_below (by (with_reducible repeat (first | apply Kd.N_alloc | apply Kd.N_drewN | apply Kd.N_drew)); exact HO195.out) hb); have n4_ := Aside0.mk (Kd.N_below (by (with_reducible repeat (first | apply Kd.N_alloc | apply Kd.N_drewN | apply Kd.N_drew)); exact HO198.out) hb); have n5_ := Aside0.mk (below_step (by repeat (first | (with_reducible first | exact HB.out | apply below_alloc | apply pw_below_drewN | apply below_drew1) | exact HB.out)) hb); clear HO166; clear HO180; clear HO183; clear HO195; clear HO198; clear HB; have HO166 := n0_; have HO180 := n1_; have HO183 := n2_; have HO195 := n3_; have HO198 := n4_; have HB := n5_; clear n0_ n1_ n2_ n3_ n4_ n5_; (try clear hb); (try clear hb2); (try clear hk); (try clear hi); obtain ⟨Ao59, co59, eo59⟩ := Kd.N_slice HO198.out; subst eo59) | (go_at_call 17; (with_reducible refine (block_Right.calls k (fun k_ => (some k_ ≠ (.slice Ao33 y178.length co33 : Value).ownBlock ∧ some k_ ≠ (.slice Ao57 y181.length co57 : Value).ownBlock)) _ _ y196 t200 _ ?side1 A48.out).mono ?_); (case side1 => exact Kd.N_V (HO198.out)); rintro e w60 ⟨rfl, hb⟩; have n0_ := Aside0.mk (Kd.N_below (by (with_reducible repeat (first | apply Kd.N_alloc | apply Kd.N_drewN | apply Kd.N_drew)); exact HO166.out) hb); have n1_ := Aside0.mk (Kd.N_below (by (with_reducible repeat (first | apply Kd.N_alloc | apply Kd.N_drewN | apply Kd.N_drew)); exact HO180.out) hb); have n2_ := Aside0.mk (Kd.N_below (by (with_reducible repeat (first | apply Kd.N_alloc | apply Kd.N_drewN | apply Kd.N_drew)); exact HO183.out) hb); have n3_ := Aside0.mk (Kd.N_below (by (with_reducible repeat (first | apply Kd.N_alloc | apply Kd.N_drewN | apply Kd.N_drew)); exact HO195.out) hb); have n4_ := Aside0.mk (Kd.N_below (by (with_reducible repeat (first | apply Kd.N_alloc | apply Kd.N_drewN | apply Kd.N_drew)); exact HO198.out) hb); have n5_ := Aside0.mk (below_step (by repeat (first | (with_reducible first | exact HB.out | apply below_alloc | apply pw_below_drewN | apply below_drew1) | exact HB.out)) hb); clear HO166; clear HO180; clear HO183; clear HO195; clear HO198; clear HB; have HO166 := n0_; have HO180 := n1_; have HO183 := n2_; have HO195 := n3_; have HO198 := n4_; have HB := n5_; clear n0_ n1_ n2_ n3_ n4_ n5_; (try clear hb); (try clear hb2); (try clear hk); (try clear hi)) | (go_at_call 12; (with_reducible refine (kotatsulaw05_own.calls k (fun k_ => (some k_ ≠ (.slice Ao45 y193.length co45 : Value).ownBlock ∧ some k_ ≠ (.slice Ao59 y196.length co59 : Value).ownBlock)) _ _ y181 t201 _ ?side1 A51.out).mono ?_); (case side1 => exact Kd.N_V (HO183.out)); rintro e w61 ⟨v202, rfl, ho0, hb⟩; have n0_ := Aside0.mk (Kd.N_elder' (by (with_reducible repeat (first | apply Kd.N_alloc | apply Kd.N_drewN | apply Kd.N_drew)); exact HO166.out) (Kd.N_base ho0) hb); have n1_ := Aside0.mk (Kd.N_elder' (by (with_reducible repeat (first | apply Kd.N_alloc | apply Kd.N_drewN | apply Kd.N_drew)); exact HO180.out) (Kd.N_base ho0) hb); have n2_ := Aside0.mk (Kd.N_elder' (by (with_reducible repeat (first | apply Kd.N_alloc | apply Kd.N_drewN | apply Kd.N_drew)); exact HO183.out) (Kd.N_base ho0) hb); have n3_ := Aside0.mk (Kd.N_elder' (by (with_reducible repeat (first | apply Kd.N_alloc | apply Kd.N_drewN | apply Kd.N_drew)); exact HO195.out) (Kd.N_base ho0) hb); have n4_ := Aside0.mk (Kd.N_elder' (by (with_reducible repeat (first | apply Kd.N_alloc | apply Kd.N_drewN | apply Kd.N_drew)); exact HO198.out) (Kd.N_base ho0) hb); have n5_ := Aside0.mk (Kd.N_lower (Kd.N_mono (ok' := fun k_ => some k_ ≠ (.slice Ao45 y193.length co45 : Value).ownBlock ∧ some k_ ≠ (.slice Ao59 y196.length co59 : Value).ownBlock) ho0 (fun k_ hk_ => ⟨Or.elim hk_ (fun hs_ => hs_.1) (fun hn_ => (Kd.fresh' (Kd.N_lt (by (with_reducible repeat (first | apply Kd.N_alloc | apply Kd.N_drewN | apply Kd.N_drew)); exact HO195.out)) k_ hn_)), Or.elim hk_ (fun hs_ => hs_.2) (fun hn_ => (Kd.fresh' (Kd.N_lt (by (with_reducible repeat (first | apply Kd.N_alloc | apply Kd.N_drewN | apply Kd.N_drew)); exact HO198.out)) k_ hn_))⟩)) (below_size (by repeat (first | (with_reducible first | exact HB.out | apply below_alloc | apply pw_below_drewN | apply below_drew1) | exact HB.out)))); have n6_ := Aside0.mk (below_step (by repeat (first | (with_reducible first | exact HB.out | apply below_alloc | apply pw_below_drewN | apply below_drew1) | exact HB.out)) hb); clear HO166; clear HO180; clear HO183; clear HO195; clear HO198; clear HB; have HO166 := n0_; have HO180 := n1_; have HO183 := n2_; have HO195 := n3_; have HO198 := n4_; have HO203 := n5_; have HB := n6_; clear n0_ n1_ n2_ n3_ n4_ n5_ n6_; (try clear hb); (try clear hb2); (try clear hk); (try clear hi); (try clear ho0); obtain ⟨Ao62, co62, eo62⟩ := Kd.N_slice HO203.out; subst eo62) | (go_at_call 21; (with_reducible refine (kotatsuref05_Right.calls k _ _ t201 true _ ?side1 ?side2 A52.out).mono ?_); (case side1 => repeat (first | exact (Kd.N_reads' HO203.out).2.2 | (with_reducible refine Kd.C_alloc ?_ _) | (with_reducible refine Kd.C_drewN ?_ _) | (with_reducible refine Kd.C_drew ?_))); (case side2 => exact (Kd.N_reads' HO203.out).2.1); rintro e w63 ⟨rfl, hb⟩; have n0_ := Aside0.mk (Kd.N_below (by (with_reducible repeat (first | apply Kd.N_alloc | apply Kd.N_drewN | apply Kd.N_drew)); exact HO166.out) hb); have n1_ := Aside0.mk (Kd.N_below (by (with_reducible repeat (first | apply Kd.N_alloc | apply Kd.N_drewN | apply Kd.N_drew)); exact HO180.out) hb); have n2_ := Aside0.mk (Kd.N_below (by (with_reducible repeat (first | apply Kd.N_alloc | apply Kd.N_drewN | apply Kd.N_drew)); exact HO183.out) hb); have n3_ := Aside0.mk (Kd.N_below (by (with_reducible repeat (first | apply Kd.N_alloc | apply Kd.N_drewN | apply Kd.N_drew)); exact HO195.out) hb); have n4_ := Aside0.mk (Kd.N_below (by (with_reducible repeat (first | apply Kd.N_alloc | apply Kd.N_drewN | apply Kd.N_drew)); exact HO198.out) hb); have n5_ := Aside0.mk (Kd.N_below (by (with_reducible repeat (first | apply Kd.N_alloc | apply Kd.N_drewN | apply Kd.N_drew)); exact HO203.out) hb); have n6_ := Aside0.mk (below_step (by repeat (first | (with_reducible first | exact HB.out | apply below_alloc | apply pw_below_drewN | apply below_drew1) | exact HB.out)) hb); clear HO166; clear HO180; clear HO183; clear HO195; clear HO198; clear HO203; clear HB; have HO166 := n0_; have HO180 := n1_; have HO183 := n2_; have HO195 := n3_; have HO198 := n4_; have HO203 := n5_; have HB := n6_; clear n0_ n1_ n2_ n3_ n4_ n5_ n6_; (try clear hb); (try clear hb2); (try clear hk); (try clear hi)) | (go_at_call 12; (with_reducible refine (kotatsulaw05_own.calls k (fun k_ => ((some k_ ≠ (.slice Ao33 y178.length co33 : Value).ownBlock ∧ some k_ ≠ (.slice Ao57 y181.length co57 : Value).ownBlock) ∧ some k_ ≠ (.slice Ao62 t201.length co62 : Value).ownBlock)) _ _ y196 t205 _ ?side1 A54.out).mono ?_); (case side1 => exact Kd.N_V (HO198.out)); rintro e w64 ⟨v206, rfl, ho0, hb⟩; have n0_ := Aside0.mk (Kd.N_elder' (by (with_reducible repeat (first | apply Kd.N_alloc | apply Kd.N_drewN | apply Kd.N_drew)); exact HO166.out) (Kd.N_base ho0) hb); have n1_ := Aside0.mk (Kd.N_elder' (by (with_reducible repeat (first | apply Kd.N_alloc | apply Kd.N_drewN | apply Kd.N_drew)); exact HO180.out) (Kd.N_base ho0) hb); have n2_ := Aside0.mk (Kd.N_elder' (by (with_reducible repeat (first | apply Kd.N_alloc | apply Kd.N_drewN | apply Kd.N_drew)); exact HO183.out) (Kd.N_base ho0) hb); have n3_ := Aside0.mk (Kd.N_elder' (by (with_reducible repeat (first | apply Kd.N_alloc | apply Kd.N_drewN | apply Kd.N_drew)); exact HO195.out) (Kd.N_base ho0) hb); have n4_ := Aside0.mk (Kd.N_elder' (by (with_reducible repeat (first | apply Kd.N_alloc | apply Kd.N_drewN | apply Kd.N_drew)); exact HO198.out) (Kd.N_base ho0) hb); have n5_ := Aside0.mk (Kd.N_elder' (by (with_reducible repeat (first | apply Kd.N_alloc | apply Kd.N_drewN | apply Kd.N_drew)); exact HO203.out) (Kd.N_base ho0) hb); have n6_ := Aside0.mk (Kd.N_lower (Kd.N_mono (ok' := fun k_ => some k_ ≠ (.slice Ao33 y178.length co33 : Value).ownBlock ∧ some k_ ≠ (.slice Ao57 y181.length co57 : Value).ownBlock ∧ some k_ ≠ (.slice Ao62 t201.length co62 : Value).ownBlock) ho0 (fun k_ hk_ => ⟨Or.elim hk_ (fun hs_ => hs_.1.1) (fun hn_ => (Kd.fresh' (Kd.N_lt (by (with_reducible repeat (first | apply Kd.N_alloc | apply Kd.N_drewN | apply Kd.N_drew)); exact HO180.out)) k_ hn_)), Or.elim hk_ (fun hs_ => hs_.1.2) (fun hn_ => (Kd.fresh' (Kd.N_lt (by (with_reducible repeat (first | apply Kd.N_alloc | apply Kd.N_drewN | apply Kd.N_drew)); exact HO183.out)) k_ hn_)), Or.elim hk_ (fun hs_ => hs_.2) (fun hn_ => (Kd.fresh' (Kd.N_lt (by (with_reducible repeat (first | apply Kd.N_alloc | apply Kd.N_drewN | apply Kd.N_drew)); exact HO203.out)) k_ hn_))⟩)) (below_size (by repeat (first | (with_reducible first | exact HB.out | apply below_alloc | apply pw_below_drewN | apply below_drew1) | exact HB.out)))); have n7_ := Aside0.mk (below_step (by repeat (first | (with_reducible first | exact HB.out | apply below_alloc | apply pw_below_drewN | apply below_drew1) | exact HB.out)) hb); clear HO166; clear HO180; clear HO183; clear HO195; clear HO198; clear HO203; clear HB; have HO166 := n0_; have HO180 := n1_; have HO183 := n2_; have HO195 := n3_; have HO198 := n4_; have HO203 := n5_; have HO207 := n6_; have HB := n7_; clear n0_ n1_ n2_ n3_ n4_ n5_ n6_ n7_; (try clear hb); (try clear hb2); (try clear hk); (try clear hi); (try clear ho0); obtain ⟨Ao65, co65, eo65⟩ := Kd.N_slice HO207.out; subst eo65) | (go_at_call 21; (with_reducible refine (kotatsuref05_Right.calls k _ _ t205 t208 _ ?side1 ?side2 A55.out).mono ?_); (case side1 => repeat (first | exact (Kd.N_reads' HO207.out).2.2 | (with_reducible refine Kd.C_alloc ?_ _) | (with_reducible refine Kd.C_drewN ?_ _) | (with_reducible refine Kd.C_drew ?_))); (case side2 => exact (Kd.N_reads' HO207.out).2.1); rintro e w66 ⟨rfl, hb⟩; have n0_ := Aside0.mk (Kd.N_below (by (with_reducible repeat (first | apply Kd.N_alloc | apply Kd.N_drewN | apply Kd.N_drew)); exact HO166.out) hb); have n1_ := Aside0.mk (Kd.N_below (by (with_reducible repeat (first | apply Kd.N_alloc | apply Kd.N_drewN | apply Kd.N_drew)); exact HO180.out) hb); have n2_ := Aside0.mk (Kd.N_below (by (with_reducible repeat (first | apply Kd.N_alloc | apply Kd.N_drewN | apply Kd.N_drew)); exact HO183.out) hb); have n3_ := Aside0.mk (Kd.N_below (by (with_reducible repeat (first | apply Kd.N_alloc | apply Kd.N_drewN | apply Kd.N_drew)); exact HO195.out) hb); have n4_ := Aside0.mk (Kd.N_below (by (with_reducible repeat (first | apply Kd.N_alloc | apply Kd.N_drewN | apply Kd.N_drew)); exact HO198.out) hb); have n5_ := Aside0.mk (Kd.N_below (by (with_reducible repeat (first | apply Kd.N_alloc | apply Kd.N_drewN | apply Kd.N_drew)); exact HO203.out) hb); have n6_ := Aside0.mk (Kd.N_below (by (with_reducible repeat (first | apply Kd.N_alloc | apply Kd.N_drewN | apply Kd.N_drew)); exact HO207.out) hb); have n7_ := Aside0.mk (below_step (by repeat (first | (with_reducible first | exact HB.out | apply below_alloc | apply pw_below_drewN | apply below_drew1) | exact HB.out)) hb); clear HO166; clear HO180; clear HO183; clear HO195; clear HO198; clear HO203; clear HO207; clear HB; have HO166 := n0_; have HO180 := n1_; have HO183 := n2_; have HO195 := n3_; have HO198 := n4_; have HO203 := n5_; have HO207 := n6_; have HB := n7_; clear n0_ n1_ n2_ n3_ n4_ n5_ n6_ n7_; (try clear hb); (try clear hb2); (try clear hk); (try clear hi)) | (go_at_call 17; (with_reducible refine (block_Right.calls k (fun k_ => (((some k_ ≠ (.slice Ao33 y178.length co33 : Value).ownBlock ∧ some k_ ≠ (.slice Ao57 y181.length co57 : Value).ownBlock) ∧ some k_ ≠ (.slice Ao62 t201.length co62 : Value).ownBlock) ∧ some k_ ≠ (.slice Ao65 t205.length co65 : Value).ownBlock)) _ _ y196 t209 _ ?side1 A56.out).mono ?_); (case side1 => exact Kd.N_V (HO198.out)); rintro e w67 ⟨rfl, hb⟩; have n0_ := Aside0.mk (Kd.N_below (by (with_reducible repeat (first | apply Kd.N_alloc | apply Kd.N_drewN | apply Kd.N_drew)); exact HO166.out) hb); have n1_ := Aside0.mk (Kd.N_below (by (with_reducible repeat (first | apply Kd.N_alloc | apply Kd.N_drewN | apply Kd.N_drew)); exact HO180.out) hb); have n2_ := Aside0.mk (Kd.N_below (by (with_reducible repeat (first | apply Kd.N_alloc | apply Kd.N_drewN | apply Kd.N_drew)); exact HO183.out) hb); have n3_ := Aside0.mk (Kd.N_below (by (with_reducible repeat (first | apply Kd.N_alloc | apply Kd.N_drewN | apply Kd.N_drew)); exact HO195.out) hb); have n4_ := Aside0.mk (Kd.N_below (by (with_reducible repeat (first | apply Kd.N_alloc | apply Kd.N_drewN | apply Kd.N_drew)); exact HO198.out) hb); have n5_ := Aside0.mk (Kd.N_below (by (with_reducible repeat (first | apply Kd.N_alloc | apply Kd.N_drewN | apply Kd.N_drew)); exact HO203.out) hb); have n6_ := Aside0.mk (Kd.N_below (by (with_reducible repeat (first | apply Kd.N_alloc | apply Kd.N_drewN | apply Kd.N_drew)); exact HO207.out) hb); have n7_ := Aside0.mk (below_step (by repeat (first | (with_reducible first | exact HB.out | apply below_alloc | apply pw_below_drewN | apply below_drew1) | exact HB.out)) hb); clear HO166; clear HO180; clear HO183; clear HO195; clear HO198; clear HO203; clear HO207; clear HB; have HO166 := n0_; have HO180 := n1_; have HO183 := n2_; have HO195 := n3_; have HO198 := n4_; have HO203 := n5_; have HO207 := n6_; have HB := n7_; clear n0_ n1_ n2_ n3_ n4_ n5_ n6_ n7_; (try clear hb); (try clear hb2); (try clear hk); (try clear hi)))
                              go_meet
                              case rel => exact ⟨_, ((t208 == t209)), (by first | rfl | (simp; done) | (simp [*]; done)), H', ⟨by first | omega | exact Nat.le_refl _⟩, ⟨by repeat (first | (with_reducible first | exact HB.out | apply below_alloc | apply pw_below_drewN | apply below_drew1) | exact HB.out)⟩⟩
                            · replace c53 := Bool.eq_false_iff.mpr c53
                              subst c53
                              have H1 : (kotatsulaw05_BlockWants.j0 k false) = some r := by rw [if_neg (show ¬ (false = true) by decide)] at H; exact H
                              clear H
                              have H := H1
                              clear H1
                              have H' := Aside0.mk H
                              clear H
                              obtain ⟨Ao68, co68, eo68⟩ := Kd.N_slice HO183.out
                              subst eo68
                              go_wp2_with (first | ((with_reducible refine gate_callee (f := 17) rfl ?_); refine goesL_ (some 43) rfl rfl Try.func17 (by kernel_rfl) rfl #[.slice Ao68 y181.length co68] rfl (by (try simp only [List.map_toArray, List.map_cons, List.map_nil]); first | done | rfl | (simp only [List.length_drop, List.length_take]; rfl)) ?_; (with_reducible refine (block_Right.calls k (fun k_ => (some k_ ≠ (.slice Ao45 y193.length co45 : Value).ownBlock ∧ some k_ ≠ (v197 : Value).ownBlock)) _ _ y181 true _ ?side1 A46.out).mono ?_); (case side1 => exact Kd.N_V (HO183.out)); rintro e w69 ⟨rfl, hb⟩; refine ⟨_, rfl, ?_⟩; have n0_ := Aside0.mk (Kd.N_below (by (with_reducible repeat (first | apply Kd.N_alloc | apply Kd.N_drewN | apply Kd.N_drew)); exact HO166.out) hb); have n1_ := Aside0.mk (Kd.N_below (by (with_reducible repeat (first | apply Kd.N_alloc | apply Kd.N_drewN | apply Kd.N_drew)); exact HO180.out) hb); have n2_ := Aside0.mk (Kd.N_below (by (with_reducible repeat (first | apply Kd.N_alloc | apply Kd.N_drewN | apply Kd.N_drew)); exact HO183.out) hb); have n3_ := Aside0.mk (Kd.N_below (by (with_reducible repeat (first | apply Kd.N_alloc | apply Kd.N_drewN | apply Kd.N_drew)); exact HO195.out) hb); have n4_ := Aside0.mk (Kd.N_below (by (with_reducible repeat (first | apply Kd.N_alloc | apply Kd.N_drewN | apply Kd.N_drew)); exact HO198.out) hb); have n5_ := Aside0.mk (below_step (by repeat (first | (with_reducible first | exact HB.out | apply below_alloc | apply pw_below_drewN | apply below_drew1) | exact HB.out)) hb); clear HO166; clear HO180; clear HO183; clear HO195; clear HO198; clear HB; have HO166 := n0_; have HO180 := n1_; have HO183 := n2_; have HO195 := n3_; have HO198 := n4_; have HB := n5_; clear n0_ n1_ n2_ n3_ n4_ n5_; (try clear hb); (try clear hb2); (try clear hk); (try clear hi); obtain ⟨Ao70, co70, eo70⟩ := Kd.N_slice HO198.out; subst eo70) | (go_at_call 17; (with_reducible refine (block_Right.calls k (fun k_ => (some k_ ≠ (.slice Ao33 y178.length co33 : Value).ownBlock ∧ some k_ ≠ (.slice Ao68 y181.length co68 : Value).ownBlock)) _ _ y196 t200 _ ?side1 A48.out).mono ?_); (case side1 => exact Kd.N_V (HO198.out)); rintro e w71 ⟨rfl, hb⟩; have n0_ := Aside0.mk (Kd.N_below (by (with_reducible repeat (first | apply Kd.N_alloc | apply Kd.N_drewN | apply Kd.N_drew)); exact HO166.out) hb); have n1_ := Aside0.mk (Kd.N_below (by (with_reducible repeat (first | apply Kd.N_alloc | apply Kd.N_drewN | apply Kd.N_drew)); exact HO180.out) hb); have n2_ := Aside0.mk (Kd.N_below (by (with_reducible repeat (first | apply Kd.N_alloc | apply Kd.N_drewN | apply Kd.N_drew)); exact HO183.out) hb); have n3_ := Aside0.mk (Kd.N_below (by (with_reducible repeat (first | apply Kd.N_alloc | apply Kd.N_drewN | apply Kd.N_drew)); exact HO195.out) hb); have n4_ := Aside0.mk (Kd.N_below (by (with_reducible repeat (first | apply Kd.N_alloc | apply Kd.N_drewN | apply Kd.N_drew)); exact HO198.out) hb); have n5_ := Aside0.mk (below_step (by repeat (first | (with_reducible first | exact HB.out | apply below_alloc | apply pw_below_drewN | apply below_drew1) | exact HB.out)) hb); clear HO166; clear HO180; clear HO183; clear HO195; clear HO198; clear HB; have HO166 := n0_; have HO180 := n1_; have HO183 := n2_; have HO195 := n3_; have HO198 := n4_; have HB := n5_; clear n0_ n1_ n2_ n3_ n4_ n5_; (try clear hb); (try clear hb2); (try clear hk); (try clear hi)) | (go_at_call 12; (with_reducible refine (kotatsulaw05_own.calls k (fun k_ => (some k_ ≠ (.slice Ao45 y193.length co45 : Value).ownBlock ∧ some k_ ≠ (.slice Ao70 y196.length co70 : Value).ownBlock)) _ _ y181 t201 _ ?side1 A51.out).mono ?_); (case side1 => exact Kd.N_V (HO183.out)); rintro e w72 ⟨v202, rfl, ho0, hb⟩; have n0_ := Aside0.mk (Kd.N_elder' (by (with_reducible repeat (first | apply Kd.N_alloc | apply Kd.N_drewN | apply Kd.N_drew)); exact HO166.out) (Kd.N_base ho0) hb); have n1_ := Aside0.mk (Kd.N_elder' (by (with_reducible repeat (first | apply Kd.N_alloc | apply Kd.N_drewN | apply Kd.N_drew)); exact HO180.out) (Kd.N_base ho0) hb); have n2_ := Aside0.mk (Kd.N_elder' (by (with_reducible repeat (first | apply Kd.N_alloc | apply Kd.N_drewN | apply Kd.N_drew)); exact HO183.out) (Kd.N_base ho0) hb); have n3_ := Aside0.mk (Kd.N_elder' (by (with_reducible repeat (first | apply Kd.N_alloc | apply Kd.N_drewN | apply Kd.N_drew)); exact HO195.out) (Kd.N_base ho0) hb); have n4_ := Aside0.mk (Kd.N_elder' (by (with_reducible repeat (first | apply Kd.N_alloc | apply Kd.N_drewN | apply Kd.N_drew)); exact HO198.out) (Kd.N_base ho0) hb); have n5_ := Aside0.mk (Kd.N_lower (Kd.N_mono (ok' := fun k_ => some k_ ≠ (.slice Ao45 y193.length co45 : Value).ownBlock ∧ some k_ ≠ (.slice Ao70 y196.length co70 : Value).ownBlock) ho0 (fun k_ hk_ => ⟨Or.elim hk_ (fun hs_ => hs_.1) (fun hn_ => (Kd.fresh' (Kd.N_lt (by (with_reducible repeat (first | apply Kd.N_alloc | apply Kd.N_drewN | apply Kd.N_drew)); exact HO195.out)) k_ hn_)), Or.elim hk_ (fun hs_ => hs_.2) (fun hn_ => (Kd.fresh' (Kd.N_lt (by (with_reducible repeat (first | apply Kd.N_alloc | apply Kd.N_drewN | apply Kd.N_drew)); exact HO198.out)) k_ hn_))⟩)) (below_size (by repeat (first | (with_reducible first | exact HB.out | apply below_alloc | apply pw_below_drewN | apply below_drew1) | exact HB.out)))); have n6_ := Aside0.mk (below_step (by repeat (first | (with_reducible first | exact HB.out | apply below_alloc | apply pw_below_drewN | apply below_drew1) | exact HB.out)) hb); clear HO166; clear HO180; clear HO183; clear HO195; clear HO198; clear HB; have HO166 := n0_; have HO180 := n1_; have HO183 := n2_; have HO195 := n3_; have HO198 := n4_; have HO203 := n5_; have HB := n6_; clear n0_ n1_ n2_ n3_ n4_ n5_ n6_; (try clear hb); (try clear hb2); (try clear hk); (try clear hi); (try clear ho0); obtain ⟨Ao73, co73, eo73⟩ := Kd.N_slice HO203.out; subst eo73) | (go_at_call 21; (with_reducible refine (kotatsuref05_Right.calls k _ _ t201 false _ ?side1 ?side2 A52.out).mono ?_); (case side1 => repeat (first | exact (Kd.N_reads' HO203.out).2.2 | (with_reducible refine Kd.C_alloc ?_ _) | (with_reducible refine Kd.C_drewN ?_ _) | (with_reducible refine Kd.C_drew ?_))); (case side2 => exact (Kd.N_reads' HO203.out).2.1); rintro e w74 ⟨rfl, hb⟩; have n0_ := Aside0.mk (Kd.N_below (by (with_reducible repeat (first | apply Kd.N_alloc | apply Kd.N_drewN | apply Kd.N_drew)); exact HO166.out) hb); have n1_ := Aside0.mk (Kd.N_below (by (with_reducible repeat (first | apply Kd.N_alloc | apply Kd.N_drewN | apply Kd.N_drew)); exact HO180.out) hb); have n2_ := Aside0.mk (Kd.N_below (by (with_reducible repeat (first | apply Kd.N_alloc | apply Kd.N_drewN | apply Kd.N_drew)); exact HO183.out) hb); have n3_ := Aside0.mk (Kd.N_below (by (with_reducible repeat (first | apply Kd.N_alloc | apply Kd.N_drewN | apply Kd.N_drew)); exact HO195.out) hb); have n4_ := Aside0.mk (Kd.N_below (by (with_reducible repeat (first | apply Kd.N_alloc | apply Kd.N_drewN | apply Kd.N_drew)); exact HO198.out) hb); have n5_ := Aside0.mk (Kd.N_below (by (with_reducible repeat (first | apply Kd.N_alloc | apply Kd.N_drewN | apply Kd.N_drew)); exact HO203.out) hb); have n6_ := Aside0.mk (below_step (by repeat (first | (with_reducible first | exact HB.out | apply below_alloc | apply pw_below_drewN | apply below_drew1) | exact HB.out)) hb); clear HO166; clear HO180; clear HO183; clear HO195; clear HO198; clear HO203; clear HB; have HO166 := n0_; have HO180 := n1_; have HO183 := n2_; have HO195 := n3_; have HO198 := n4_; have HO203 := n5_; have HB := n6_; clear n0_ n1_ n2_ n3_ n4_ n5_ n6_; (try clear hb); (try clear hb2); (try clear hk); (try clear hi)))
                              go_meet
                              case rel => exact ⟨_, (false), (by first | rfl | (simp; done) | (simp [*]; done)), H', ⟨by first | omega | exact Nat.le_refl _⟩, ⟨by repeat (first | (with_reducible first | exact HB.out | apply below_alloc | apply pw_below_drewN | apply below_drew1) | exact HB.out)⟩⟩
                          · rw [if_neg c50] at H
                            have c50b0 : (t200 == ((wrap64 (a3)) == t168)) = false := by simpa using c50
                            (try (have c50b1 : decide (t200 = ((wrap64 (a3)) == t168)) = false := by simpa using c50))
                            (try (have c50b2 : (t200 == ((wrap64 (a3)) == t168)) = false := by simpa using c50))
                            (try (have c50b3 : ¬ (t200 = ((wrap64 (a3)) == t168)) := by simpa using c50))
                            clear c50
                            have H' := Aside0.mk H
                            clear H
                            obtain ⟨Ao75, co75, eo75⟩ := Kd.N_slice HO183.out
                            subst eo75
                            go_wp2_with (first | ((with_reducible refine gate_callee (f := 17) rfl ?_); refine goesL_ (some 43) rfl rfl Try.func17 (by kernel_rfl) rfl #[.slice Ao75 y181.length co75] rfl (by (try simp only [List.map_toArray, List.map_cons, List.map_nil]); first | done | rfl | (simp only [List.length_drop, List.length_take]; rfl)) ?_; (with_reducible refine (block_Right.calls k (fun k_ => (some k_ ≠ (.slice Ao45 y193.length co45 : Value).ownBlock ∧ some k_ ≠ (v197 : Value).ownBlock)) _ _ y181 true _ ?side1 A46.out).mono ?_); (case side1 => exact Kd.N_V (HO183.out)); rintro e w76 ⟨rfl, hb⟩; refine ⟨_, rfl, ?_⟩; have n0_ := Aside0.mk (Kd.N_below (by (with_reducible repeat (first | apply Kd.N_alloc | apply Kd.N_drewN | apply Kd.N_drew)); exact HO166.out) hb); have n1_ := Aside0.mk (Kd.N_below (by (with_reducible repeat (first | apply Kd.N_alloc | apply Kd.N_drewN | apply Kd.N_drew)); exact HO180.out) hb); have n2_ := Aside0.mk (Kd.N_below (by (with_reducible repeat (first | apply Kd.N_alloc | apply Kd.N_drewN | apply Kd.N_drew)); exact HO183.out) hb); have n3_ := Aside0.mk (Kd.N_below (by (with_reducible repeat (first | apply Kd.N_alloc | apply Kd.N_drewN | apply Kd.N_drew)); exact HO195.out) hb); have n4_ := Aside0.mk (Kd.N_below (by (with_reducible repeat (first | apply Kd.N_alloc | apply Kd.N_drewN | apply Kd.N_drew)); exact HO198.out) hb); have n5_ := Aside0.mk (below_step (by repeat (first | (with_reducible first | exact HB.out | apply below_alloc | apply pw_below_drewN | apply below_drew1) | exact HB.out)) hb); clear HO166; clear HO180; clear HO183; clear HO195; clear HO198; clear HB; have HO166 := n0_; have HO180 := n1_; have HO183 := n2_; have HO195 := n3_; have HO198 := n4_; have HB := n5_; clear n0_ n1_ n2_ n3_ n4_ n5_; (try clear hb); (try clear hb2); (try clear hk); (try clear hi); obtain ⟨Ao77, co77, eo77⟩ := Kd.N_slice HO198.out; subst eo77) | (go_at_call 17; (with_reducible refine (block_Right.calls k (fun k_ => (some k_ ≠ (.slice Ao33 y178.length co33 : Value).ownBlock ∧ some k_ ≠ (.slice Ao75 y181.length co75 : Value).ownBlock)) _ _ y196 t200 _ ?side1 A48.out).mono ?_); (case side1 => exact Kd.N_V (HO198.out)); rintro e w78 ⟨rfl, hb⟩; have n0_ := Aside0.mk (Kd.N_below (by (with_reducible repeat (first | apply Kd.N_alloc | apply Kd.N_drewN | apply Kd.N_drew)); exact HO166.out) hb); have n1_ := Aside0.mk (Kd.N_below (by (with_reducible repeat (first | apply Kd.N_alloc | apply Kd.N_drewN | apply Kd.N_drew)); exact HO180.out) hb); have n2_ := Aside0.mk (Kd.N_below (by (with_reducible repeat (first | apply Kd.N_alloc | apply Kd.N_drewN | apply Kd.N_drew)); exact HO183.out) hb); have n3_ := Aside0.mk (Kd.N_below (by (with_reducible repeat (first | apply Kd.N_alloc | apply Kd.N_drewN | apply Kd.N_drew)); exact HO195.out) hb); have n4_ := Aside0.mk (Kd.N_below (by (with_reducible repeat (first | apply Kd.N_alloc | apply Kd.N_drewN | apply Kd.N_drew)); exact HO198.out) hb); have n5_ := Aside0.mk (below_step (by repeat (first | (with_reducible first | exact HB.out | apply below_alloc | apply pw_below_drewN | apply below_drew1) | exact HB.out)) hb); clear HO166; clear HO180; clear HO183; clear HO195; clear HO198; clear HB; have HO166 := n0_; have HO180 := n1_; have HO183 := n2_; have HO195 := n3_; have HO198 := n4_; have HB := n5_; clear n0_ n1_ n2_ n3_ n4_ n5_; (try clear hb); (try clear hb2); (try clear hk); (try clear hi)))
                            go_meet
                            case rel => exact ⟨_, (false), (by first | rfl | (simp; done) | (simp [*]; done)), H', ⟨by first | omega | exact Nat.le_refl _⟩, ⟨by repeat (first | (with_reducible first | exact HB.out | apply below_alloc | apply pw_below_drewN | apply below_drew1) | exact HB.out)⟩⟩
                        · rw [if_neg c49] at H
                          have c49b0 : (a2 == t167) = false := beq_eq_false_iff_ne.mpr c49
                          have c49b1 : (a2 != t167) = true := bne_iff_ne.mpr c49
                          (first | rw [c49b0] | (simp only [i64_w, i32_w]; rw [c49b0]) | skip)
                          by_cases c79 : (t200 == false) = true
                          · rw [if_pos c79] at H
                            have c79b0 : (t200 == false) = true := c79
                            (try (have c79b1 : decide (t200 = false) = true := by simpa using c79))
                            (try (have c79b2 : (t200 == false) = true := by simpa using c79))
                            clear c79
                            replace H := Option.bind_eq_some_iff.mp H
                            obtain ⟨t210, A800, H⟩ := H
                            replace H : ((kotatsuref05_Right.f k t210).bind fun t213 => (if t213 = true then ((kotatsulaw05_own.f k y196).bind fun t214 => ((kotatsuref05_Right.f k t214).bind fun t217 => ((block_Right.f k y196).bind fun t218 => (kotatsulaw05_BlockWants.j0 k (t217 == t218))))) else (kotatsulaw05_BlockWants.j0 k false))) = some r := H
                            have A80 := Aside0.mk A800
                            clear A800
                            replace H := Option.bind_eq_some_iff.mp H
                            obtain ⟨t213, A810, H⟩ := H
                            replace H : (if t213 = true then ((kotatsulaw05_own.f k y196).bind fun t214 => ((kotatsuref05_Right.f k t214).bind fun t217 => ((block_Right.f k y196).bind fun t218 => (kotatsulaw05_BlockWants.j0 k (t217 == t218))))) else (kotatsulaw05_BlockWants.j0 k false)) = some r := H
                            have A81 := Aside0.mk A810
                            clear A810
                            by_cases c82 : t213 = true
                            · subst c82
                              have H1 : ((kotatsulaw05_own.f k y196).bind fun t214 => ((kotatsuref05_Right.f k t214).bind fun t217 => ((block_Right.f k y196).bind fun t218 => (kotatsulaw05_BlockWants.j0 k (t217 == t218))))) = some r := by rw [if_pos rfl] at H; exact H
                              clear H
                              have H := H1
                              clear H1
                              replace H := Option.bind_eq_some_iff.mp H
                              obtain ⟨t214, A830, H⟩ := H
                              replace H : ((kotatsuref05_Right.f k t214).bind fun t217 => ((block_Right.f k y196).bind fun t218 => (kotatsulaw05_BlockWants.j0 k (t217 == t218)))) = some r := H
                              have A83 := Aside0.mk A830
                              clear A830
                              replace H := Option.bind_eq_some_iff.mp H
                              obtain ⟨t217, A840, H⟩ := H
                              replace H : ((block_Right.f k y196).bind fun t218 => (kotatsulaw05_BlockWants.j0 k (t217 == t218))) = some r := H
                              have A84 := Aside0.mk A840
                              clear A840
                              replace H := Option.bind_eq_some_iff.mp H
                              obtain ⟨t218, A850, H⟩ := H
                              replace H : (kotatsulaw05_BlockWants.j0 k (t217 == t218)) = some r := H
                              have A85 := Aside0.mk A850
                              clear A850
                              have H' := Aside0.mk H
                              clear H
                              obtain ⟨Ao86, co86, eo86⟩ := Kd.N_slice HO183.out
                              subst eo86
                              go_wp2_with (first | ((with_reducible refine gate_callee (f := 17) rfl ?_); refine goesL_ (some 43) rfl rfl Try.func17 (by kernel_rfl) rfl #[.slice Ao86 y181.length co86] rfl (by (try simp only [List.map_toArray, List.map_cons, List.map_nil]); first | done | rfl | (simp only [List.length_drop, List.length_take]; rfl)) ?_; (with_reducible refine (block_Right.calls k (fun k_ => (some k_ ≠ (.slice Ao45 y193.length co45 : Value).ownBlock ∧ some k_ ≠ (v197 : Value).ownBlock)) _ _ y181 true _ ?side1 A46.out).mono ?_); (case side1 => exact Kd.N_V (HO183.out)); rintro e w87 ⟨rfl, hb⟩; refine ⟨_, rfl, ?_⟩; have n0_ := Aside0.mk (Kd.N_below (by (with_reducible repeat (first | apply Kd.N_alloc | apply Kd.N_drewN | apply Kd.N_drew)); exact HO166.out) hb); have n1_ := Aside0.mk (Kd.N_below (by (with_reducible repeat (first | apply Kd.N_alloc | apply Kd.N_drewN | apply Kd.N_drew)); exact HO180.out) hb); have n2_ := Aside0.mk (Kd.N_below (by (with_reducible repeat (first | apply Kd.N_alloc | apply Kd.N_drewN | apply Kd.N_drew)); exact HO183.out) hb); have n3_ := Aside0.mk (Kd.N_below (by (with_reducible repeat (first | apply Kd.N_alloc | apply Kd.N_drewN | apply Kd.N_drew)); exact HO195.out) hb); have n4_ := Aside0.mk (Kd.N_below (by (with_reducible repeat (first | apply Kd.N_alloc | apply Kd.N_drewN | apply Kd.N_drew)); exact HO198.out) hb); have n5_ := Aside0.mk (below_step (by repeat (first | (with_reducible first | exact HB.out | apply below_alloc | apply pw_below_drewN | apply below_drew1) | exact HB.out)) hb); clear HO166; clear HO180; clear HO183; clear HO195; clear HO198; clear HB; have HO166 := n0_; have HO180 := n1_; have HO183 := n2_; have HO195 := n3_; have HO198 := n4_; have HB := n5_; clear n0_ n1_ n2_ n3_ n4_ n5_; (try clear hb); (try clear hb2); (try clear hk); (try clear hi); obtain ⟨Ao88, co88, eo88⟩ := Kd.N_slice HO198.out; subst eo88) | (go_at_call 17; (with_reducible refine (block_Right.calls k (fun k_ => (some k_ ≠ (.slice Ao33 y178.length co33 : Value).ownBlock ∧ some k_ ≠ (.slice Ao86 y181.length co86 : Value).ownBlock)) _ _ y196 t200 _ ?side1 A48.out).mono ?_); (case side1 => exact Kd.N_V (HO198.out)); rintro e w89 ⟨rfl, hb⟩; have n0_ := Aside0.mk (Kd.N_below (by (with_reducible repeat (first | apply Kd.N_alloc | apply Kd.N_drewN | apply Kd.N_drew)); exact HO166.out) hb); have n1_ := Aside0.mk (Kd.N_below (by (with_reducible repeat (first | apply Kd.N_alloc | apply Kd.N_drewN | apply Kd.N_drew)); exact HO180.out) hb); have n2_ := Aside0.mk (Kd.N_below (by (with_reducible repeat (first | apply Kd.N_alloc | apply Kd.N_drewN | apply Kd.N_drew)); exact HO183.out) hb); have n3_ := Aside0.mk (Kd.N_below (by (with_reducible repeat (first | apply Kd.N_alloc | apply Kd.N_drewN | apply Kd.N_drew)); exact HO195.out) hb); have n4_ := Aside0.mk (Kd.N_below (by (with_reducible repeat (first | apply Kd.N_alloc | apply Kd.N_drewN | apply Kd.N_drew)); exact HO198.out) hb); have n5_ := Aside0.mk (below_step (by repeat (first | (with_reducible first | exact HB.out | apply below_alloc | apply pw_below_drewN | apply below_drew1) | exact HB.out)) hb); clear HO166; clear HO180; clear HO183; clear HO195; clear HO198; clear HB; have HO166 := n0_; have HO180 := n1_; have HO183 := n2_; have HO195 := n3_; have HO198 := n4_; have HB := n5_; clear n0_ n1_ n2_ n3_ n4_ n5_; (try clear hb); (try clear hb2); (try clear hk); (try clear hi)) | (go_at_call 12; (with_reducible refine (kotatsulaw05_own.calls k (fun k_ => (some k_ ≠ (.slice Ao45 y193.length co45 : Value).ownBlock ∧ some k_ ≠ (.slice Ao88 y196.length co88 : Value).ownBlock)) _ _ y181 t210 _ ?side1 A80.out).mono ?_); (case side1 => exact Kd.N_V (HO183.out)); rintro e w90 ⟨v211, rfl, ho0, hb⟩; have n0_ := Aside0.mk (Kd.N_elder' (by (with_reducible repeat (first | apply Kd.N_alloc | apply Kd.N_drewN | apply Kd.N_drew)); exact HO166.out) (Kd.N_base ho0) hb); have n1_ := Aside0.mk (Kd.N_elder' (by (with_reducible repeat (first | apply Kd.N_alloc | apply Kd.N_drewN | apply Kd.N_drew)); exact HO180.out) (Kd.N_base ho0) hb); have n2_ := Aside0.mk (Kd.N_elder' (by (with_reducible repeat (first | apply Kd.N_alloc | apply Kd.N_drewN | apply Kd.N_drew)); exact HO183.out) (Kd.N_base ho0) hb); have n3_ := Aside0.mk (Kd.N_elder' (by (with_reducible repeat (first | apply Kd.N_alloc | apply Kd.N_drewN | apply Kd.N_drew)); exact HO195.out) (Kd.N_base ho0) hb); have n4_ := Aside0.mk (Kd.N_elder' (by (with_reducible repeat (first | apply Kd.N_alloc | apply Kd.N_drewN | apply Kd.N_drew)); exact HO198.out) (Kd.N_base ho0) hb); have n5_ := Aside0.mk (Kd.N_lower (Kd.N_mono (ok' := fun k_ => some k_ ≠ (.slice Ao45 y193.length co45 : Value).ownBlock ∧ some k_ ≠ (.slice Ao88 y196.length co88 : Value).ownBlock) ho0 (fun k_ hk_ => ⟨Or.elim hk_ (fun hs_ => hs_.1) (fun hn_ => (Kd.fresh' (Kd.N_lt (by (with_reducible repeat (first | apply Kd.N_alloc | apply Kd.N_drewN | apply Kd.N_drew)); exact HO195.out)) k_ hn_)), Or.elim hk_ (fun hs_ => hs_.2) (fun hn_ => (Kd.fresh' (Kd.N_lt (by (with_reducible repeat (first | apply Kd.N_alloc | apply Kd.N_drewN | apply Kd.N_drew)); exact HO198.out)) k_ hn_))⟩)) (below_size (by repeat (first | (with_reducible first | exact HB.out | apply below_alloc | apply pw_below_drewN | apply below_drew1) | exact HB.out)))); have n6_ := Aside0.mk (below_step (by repeat (first | (with_reducible first | exact HB.out | apply below_alloc | apply pw_below_drewN | apply below_drew1) | exact HB.out)) hb); clear HO166; clear HO180; clear HO183; clear HO195; clear HO198; clear HB; have HO166 := n0_; have HO180 := n1_; have HO183 := n2_; have HO195 := n3_; have HO198 := n4_; have HO212 := n5_; have HB := n6_; clear n0_ n1_ n2_ n3_ n4_ n5_ n6_; (try clear hb); (try clear hb2); (try clear hk); (try clear hi); (try clear ho0); obtain ⟨Ao91, co91, eo91⟩ := Kd.N_slice HO212.out; subst eo91) | (go_at_call 21; (with_reducible refine (kotatsuref05_Right.calls k _ _ t210 true _ ?side1 ?side2 A81.out).mono ?_); (case side1 => repeat (first | exact (Kd.N_reads' HO212.out).2.2 | (with_reducible refine Kd.C_alloc ?_ _) | (with_reducible refine Kd.C_drewN ?_ _) | (with_reducible refine Kd.C_drew ?_))); (case side2 => exact (Kd.N_reads' HO212.out).2.1); rintro e w92 ⟨rfl, hb⟩; have n0_ := Aside0.mk (Kd.N_below (by (with_reducible repeat (first | apply Kd.N_alloc | apply Kd.N_drewN | apply Kd.N_drew)); exact HO166.out) hb); have n1_ := Aside0.mk (Kd.N_below (by (with_reducible repeat (first | apply Kd.N_alloc | apply Kd.N_drewN | apply Kd.N_drew)); exact HO180.out) hb); have n2_ := Aside0.mk (Kd.N_below (by (with_reducible repeat (first | apply Kd.N_alloc | apply Kd.N_drewN | apply Kd.N_drew)); exact HO183.out) hb); have n3_ := Aside0.mk (Kd.N_below (by (with_reducible repeat (first | apply Kd.N_alloc | apply Kd.N_drewN | apply Kd.N_drew)); exact HO195.out) hb); have n4_ := Aside0.mk (Kd.N_below (by (with_reducible repeat (first | apply Kd.N_alloc | apply Kd.N_drewN | apply Kd.N_drew)); exact HO198.out) hb); have n5_ := Aside0.mk (Kd.N_below (by (with_reducible repeat (first | apply Kd.N_alloc | apply Kd.N_drewN | apply Kd.N_drew)); exact HO212.out) hb); have n6_ := Aside0.mk (below_step (by repeat (first | (with_reducible first | exact HB.out | apply below_alloc | apply pw_below_drewN | apply below_drew1) | exact HB.out)) hb); clear HO166; clear HO180; clear HO183; clear HO195; clear HO198; clear HO212; clear HB; have HO166 := n0_; have HO180 := n1_; have HO183 := n2_; have HO195 := n3_; have HO198 := n4_; have HO212 := n5_; have HB := n6_; clear n0_ n1_ n2_ n3_ n4_ n5_ n6_; (try clear hb); (try clear hb2); (try clear hk); (try clear hi)) | (go_at_call 12; (with_reducible refine (kotatsulaw05_own.calls k (fun k_ => ((some k_ ≠ (.slice Ao33 y178.length co33 : Value).ownBlock ∧ some k_ ≠ (.slice Ao86 y181.length co86 : Value).ownBlock) ∧ some k_ ≠ (.slice Ao91 t210.length co91 : Value).ownBlock)) _ _ y196 t214 _ ?side1 A83.out).mono ?_); (case side1 => exact Kd.N_V (HO198.out)); rintro e w93 ⟨v215, rfl, ho0, hb⟩; have n0_ := Aside0.mk (Kd.N_elder' (by (with_reducible repeat (first | apply Kd.N_alloc | apply Kd.N_drewN | apply Kd.N_drew)); exact HO166.out) (Kd.N_base ho0) hb); have n1_ := Aside0.mk (Kd.N_elder' (by (with_reducible repeat (first | apply Kd.N_alloc | apply Kd.N_drewN | apply Kd.N_drew)); exact HO180.out) (Kd.N_base ho0) hb); have n2_ := Aside0.mk (Kd.N_elder' (by (with_reducible repeat (first | apply Kd.N_alloc | apply Kd.N_drewN | apply Kd.N_drew)); exact HO183.out) (Kd.N_base ho0) hb); have n3_ := Aside0.mk (Kd.N_elder' (by (with_reducible repeat (first | apply Kd.N_alloc | apply Kd.N_drewN | apply Kd.N_drew)); exact HO195.out) (Kd.N_base ho0) hb); have n4_ := Aside0.mk (Kd.N_elder' (by (with_reducible repeat (first | apply Kd.N_alloc | apply Kd.N_drewN | apply Kd.N_drew)); exact HO198.out) (Kd.N_base ho0) hb); have n5_ := Aside0.mk (Kd.N_elder' (by (with_reducible repeat (first | apply Kd.N_alloc | apply Kd.N_drewN | apply Kd.N_drew)); exact HO212.out) (Kd.N_base ho0) hb); have n6_ := Aside0.mk (Kd.N_lower (Kd.N_mono (ok' := fun k_ => some k_ ≠ (.slice Ao33 y178.length co33 : Value).ownBlock ∧ some k_ ≠ (.slice Ao86 y181.length co86 : Value).ownBlock ∧ some k_ ≠ (.slice Ao91 t210.length co91 : Value).ownBlock) ho0 (fun k_ hk_ => ⟨Or.elim hk_ (fun hs_ => hs_.1.1) (fun hn_ => (Kd.fresh' (Kd.N_lt (by (with_reducible repeat (first | apply Kd.N_alloc | apply Kd.N_drewN | apply Kd.N_drew)); exact HO180.out)) k_ hn_)), Or.elim hk_ (fun hs_ => hs_.1.2) (fun hn_ => (Kd.fresh' (Kd.N_lt (by (with_reducible repeat (first | apply Kd.N_alloc | apply Kd.N_drewN | apply Kd.N_drew)); exact HO183.out)) k_ hn_)), Or.elim hk_ (fun hs_ => hs_.2) (fun hn_ => (Kd.fresh' (Kd.N_lt (by (with_reducible repeat (first | apply Kd.N_alloc | apply Kd.N_drewN | apply Kd.N_drew)); exact HO212.out)) k_ hn_))⟩)) (below_size (by repeat (first | (with_reducible first | exact HB.out | apply below_alloc | apply pw_below_drewN | apply below_drew1) | exact HB.out)))); have n7_ := Aside0.mk (below_step (by repeat (first | (with_reducible first | exact HB.out | apply below_alloc | apply pw_below_drewN | apply below_drew1) | exact HB.out)) hb); clear HO166; clear HO180; clear HO183; clear HO195; clear HO198; clear HO212; clear HB; have HO166 := n0_; have HO180 := n1_; have HO183 := n2_; have HO195 := n3_; have HO198 := n4_; have HO212 := n5_; have HO216 := n6_; have HB := n7_; clear n0_ n1_ n2_ n3_ n4_ n5_ n6_ n7_; (try clear hb); (try clear hb2); (try clear hk); (try clear hi); (try clear ho0); obtain ⟨Ao94, co94, eo94⟩ := Kd.N_slice HO216.out; subst eo94) | (go_at_call 21; (with_reducible refine (kotatsuref05_Right.calls k _ _ t214 t217 _ ?side1 ?side2 A84.out).mono ?_); (case side1 => repeat (first | exact (Kd.N_reads' HO216.out).2.2 | (with_reducible refine Kd.C_alloc ?_ _) | (with_reducible refine Kd.C_drewN ?_ _) | (with_reducible refine Kd.C_drew ?_))); (case side2 => exact (Kd.N_reads' HO216.out).2.1); rintro e w95 ⟨rfl, hb⟩; have n0_ := Aside0.mk (Kd.N_below (by (with_reducible repeat (first | apply Kd.N_alloc | apply Kd.N_drewN | apply Kd.N_drew)); exact HO166.out) hb); have n1_ := Aside0.mk (Kd.N_below (by (with_reducible repeat (first | apply Kd.N_alloc | apply Kd.N_drewN | apply Kd.N_drew)); exact HO180.out) hb); have n2_ := Aside0.mk (Kd.N_below (by (with_reducible repeat (first | apply Kd.N_alloc | apply Kd.N_drewN | apply Kd.N_drew)); exact HO183.out) hb); have n3_ := Aside0.mk (Kd.N_below (by (with_reducible repeat (first | apply Kd.N_alloc | apply Kd.N_drewN | apply Kd.N_drew)); exact HO195.out) hb); have n4_ := Aside0.mk (Kd.N_below (by (with_reducible repeat (first | apply Kd.N_alloc | apply Kd.N_drewN | apply Kd.N_drew)); exact HO198.out) hb); have n5_ := Aside0.mk (Kd.N_below (by (with_reducible repeat (first | apply Kd.N_alloc | apply Kd.N_drewN | apply Kd.N_drew)); exact HO212.out) hb); have n6_ := Aside0.mk (Kd.N_below (by (with_reducible repeat (first | apply Kd.N_alloc | apply Kd.N_drewN | apply Kd.N_drew)); exact HO216.out) hb); have n7_ := Aside0.mk (below_step (by repeat (first | (with_reducible first | exact HB.out | apply below_alloc | apply pw_below_drewN | apply below_drew1) | exact HB.out)) hb); clear HO166; clear HO180; clear HO183; clear HO195; clear HO198; clear HO212; clear HO216; clear HB; have HO166 := n0_; have HO180 := n1_; have HO183 := n2_; have HO195 := n3_; have HO198 := n4_; have HO212 := n5_; have HO216 := n6_; have HB := n7_; clear n0_ n1_ n2_ n3_ n4_ n5_ n6_ n7_; (try clear hb); (try clear hb2); (try clear hk); (try clear hi)) | (go_at_call 17; (with_reducible refine (block_Right.calls k (fun k_ => (((some k_ ≠ (.slice Ao33 y178.length co33 : Value).ownBlock ∧ some k_ ≠ (.slice Ao86 y181.length co86 : Value).ownBlock) ∧ some k_ ≠ (.slice Ao91 t210.length co91 : Value).ownBlock) ∧ some k_ ≠ (.slice Ao94 t214.length co94 : Value).ownBlock)) _ _ y196 t218 _ ?side1 A85.out).mono ?_); (case side1 => exact Kd.N_V (HO198.out)); rintro e w96 ⟨rfl, hb⟩; have n0_ := Aside0.mk (Kd.N_below (by (with_reducible repeat (first | apply Kd.N_alloc | apply Kd.N_drewN | apply Kd.N_drew)); exact HO166.out) hb); have n1_ := Aside0.mk (Kd.N_below (by (with_reducible repeat (first | apply Kd.N_alloc | apply Kd.N_drewN | apply Kd.N_drew)); exact HO180.out) hb); have n2_ := Aside0.mk (Kd.N_below (by (with_reducible repeat (first | apply Kd.N_alloc | apply Kd.N_drewN | apply Kd.N_drew)); exact HO183.out) hb); have n3_ := Aside0.mk (Kd.N_below (by (with_reducible repeat (first | apply Kd.N_alloc | apply Kd.N_drewN | apply Kd.N_drew)); exact HO195.out) hb); have n4_ := Aside0.mk (Kd.N_below (by (with_reducible repeat (first | apply Kd.N_alloc | apply Kd.N_drewN | apply Kd.N_drew)); exact HO198.out) hb); have n5_ := Aside0.mk (Kd.N_below (by (with_reducible repeat (first | apply Kd.N_alloc | apply Kd.N_drewN | apply Kd.N_drew)); exact HO212.out) hb); have n6_ := Aside0.mk (Kd.N_below (by (with_reducible repeat (first | apply Kd.N_alloc | apply Kd.N_drewN | apply Kd.N_drew)); exact HO216.out) hb); have n7_ := Aside0.mk (below_step (by repeat (first | (with_reducible first | exact HB.out | apply below_alloc | apply pw_below_drewN | apply below_drew1) | exact HB.out)) hb); clear HO166; clear HO180; clear HO183; clear HO195; clear HO198; clear HO212; clear HO216; clear HB; have HO166 := n0_; have HO180 := n1_; have HO183 := n2_; have HO195 := n3_; have HO198 := n4_; have HO212 := n5_; have HO216 := n6_; have HB := n7_; clear n0_ n1_ n2_ n3_ n4_ n5_ n6_ n7_; (try clear hb); (try clear hb2); (try clear hk); (try clear hi)))
                              go_meet
                              case rel => exact ⟨_, ((t217 == t218)), (by first | rfl | (simp; done) | (simp [*]; done)), H', ⟨by first | omega | exact Nat.le_refl _⟩, ⟨by repeat (first | (with_reducible first | exact HB.out | apply below_alloc | apply pw_below_drewN | apply below_drew1) | exact HB.out)⟩⟩
                            · replace c82 := Bool.eq_false_iff.mpr c82
                              subst c82
                              have H1 : (kotatsulaw05_BlockWants.j0 k false) = some r := by rw [if_neg (show ¬ (false = true) by decide)] at H; exact H
                              clear H
                              have H := H1
                              clear H1
                              have H' := Aside0.mk H
                              clear H
                              obtain ⟨Ao97, co97, eo97⟩ := Kd.N_slice HO183.out
                              subst eo97
                              go_wp2_with (first | ((with_reducible refine gate_callee (f := 17) rfl ?_); refine goesL_ (some 43) rfl rfl Try.func17 (by kernel_rfl) rfl #[.slice Ao97 y181.length co97] rfl (by (try simp only [List.map_toArray, List.map_cons, List.map_nil]); first | done | rfl | (simp only [List.length_drop, List.length_take]; rfl)) ?_; (with_reducible refine (block_Right.calls k (fun k_ => (some k_ ≠ (.slice Ao45 y193.length co45 : Value).ownBlock ∧ some k_ ≠ (v197 : Value).ownBlock)) _ _ y181 true _ ?side1 A46.out).mono ?_); (case side1 => exact Kd.N_V (HO183.out)); rintro e w98 ⟨rfl, hb⟩; refine ⟨_, rfl, ?_⟩; have n0_ := Aside0.mk (Kd.N_below (by (with_reducible repeat (first | apply Kd.N_alloc | apply Kd.N_drewN | apply Kd.N_drew)); exact HO166.out) hb); have n1_ := Aside0.mk (Kd.N_below (by (with_reducible repeat (first | apply Kd.N_alloc | apply Kd.N_drewN | apply Kd.N_drew)); exact HO180.out) hb); have n2_ := Aside0.mk (Kd.N_below (by (with_reducible repeat (first | apply Kd.N_alloc | apply Kd.N_drewN | apply Kd.N_drew)); exact HO183.out) hb); have n3_ := Aside0.mk (Kd.N_below (by (with_reducible repeat (first | apply Kd.N_alloc | apply Kd.N_drewN | apply Kd.N_drew)); exact HO195.out) hb); have n4_ := Aside0.mk (Kd.N_below (by (with_reducible repeat (first | apply Kd.N_alloc | apply Kd.N_drewN | apply Kd.N_drew)); exact HO198.out) hb); have n5_ := Aside0.mk (below_step (by repeat (first | (with_reducible first | exact HB.out | apply below_alloc | apply pw_below_drewN | apply below_drew1) | exact HB.out)) hb); clear HO166; clear HO180; clear HO183; clear HO195; clear HO198; clear HB; have HO166 := n0_; have HO180 := n1_; have HO183 := n2_; have HO195 := n3_; have HO198 := n4_; have HB := n5_; clear n0_ n1_ n2_ n3_ n4_ n5_; (try clear hb); (try clear hb2); (try clear hk); (try clear hi); obtain ⟨Ao99, co99, eo99⟩ := Kd.N_slice HO198.out; subst eo99) | (go_at_call 17; (with_reducible refine (block_Right.calls k (fun k_ => (some k_ ≠ (.slice Ao33 y178.length co33 : Value).ownBlock ∧ some k_ ≠ (.slice Ao97 y181.length co97 : Value).ownBlock)) _ _ y196 t200 _ ?side1 A48.out).mono ?_); (case side1 => exact Kd.N_V (HO198.out)); rintro e w100 ⟨rfl, hb⟩; have n0_ := Aside0.mk (Kd.N_below (by (with_reducible repeat (first | apply Kd.N_alloc | apply Kd.N_drewN | apply Kd.N_drew)); exact HO166.out) hb); have n1_ := Aside0.mk (Kd.N_below (by (with_reducible repeat (first | apply Kd.N_alloc | apply Kd.N_drewN | apply Kd.N_drew)); exact HO180.out) hb); have n2_ := Aside0.mk (Kd.N_below (by (with_reducible repeat (first | apply Kd.N_alloc | apply Kd.N_drewN | apply Kd.N_drew)); exact HO183.out) hb); have n3_ := Aside0.mk (Kd.N_below (by (with_reducible repeat (first | apply Kd.N_alloc | apply Kd.N_drewN | apply Kd.N_drew)); exact HO195.out) hb); have n4_ := Aside0.mk (Kd.N_below (by (with_reducible repeat (first | apply Kd.N_alloc | apply Kd.N_drewN | apply Kd.N_drew)); exact HO198.out) hb); have n5_ := Aside0.mk (below_step (by repeat (first | (with_reducible first | exact HB.out | apply below_alloc | apply pw_below_drewN | apply below_drew1) | exact HB.out)) hb); clear HO166; clear HO180; clear HO183; clear HO195; clear HO198; clear HB; have HO166 := n0_; have HO180 := n1_; have HO183 := n2_; have HO195 := n3_; have HO198 := n4_; have HB := n5_; clear n0_ n1_ n2_ n3_ n4_ n5_; (try clear hb); (try clear hb2); (try clear hk); (try clear hi)) | (go_at_call 12; (with_reducible refine (kotatsulaw05_own.calls k (fun k_ => (some k_ ≠ (.slice Ao45 y193.length co45 : Value).ownBlock ∧ some k_ ≠ (.slice Ao99 y196.length co99 : Value).ownBlock)) _ _ y181 t210 _ ?side1 A80.out).mono ?_); (case side1 => exact Kd.N_V (HO183.out)); rintro e w101 ⟨v211, rfl, ho0, hb⟩; have n0_ := Aside0.mk (Kd.N_elder' (by (with_reducible repeat (first | apply Kd.N_alloc | apply Kd.N_drewN | apply Kd.N_drew)); exact HO166.out) (Kd.N_base ho0) hb); have n1_ := Aside0.mk (Kd.N_elder' (by (with_reducible repeat (first | apply Kd.N_alloc | apply Kd.N_drewN | apply Kd.N_drew)); exact HO180.out) (Kd.N_base ho0) hb); have n2_ := Aside0.mk (Kd.N_elder' (by (with_reducible repeat (first | apply Kd.N_alloc | apply Kd.N_drewN | apply Kd.N_drew)); exact HO183.out) (Kd.N_base ho0) hb); have n3_ := Aside0.mk (Kd.N_elder' (by (with_reducible repeat (first | apply Kd.N_alloc | apply Kd.N_drewN | apply Kd.N_drew)); exact HO195.out) (Kd.N_base ho0) hb); have n4_ := Aside0.mk (Kd.N_elder' (by (with_reducible repeat (first | apply Kd.N_alloc | apply Kd.N_drewN | apply Kd.N_drew)); exact HO198.out) (Kd.N_base ho0) hb); have n5_ := Aside0.mk (Kd.N_lower (Kd.N_mono (ok' := fun k_ => some k_ ≠ (.slice Ao45 y193.length co45 : Value).ownBlock ∧ some k_ ≠ (.slice Ao99 y196.length co99 : Value).ownBlock) ho0 (fun k_ hk_ => ⟨Or.elim hk_ (fun hs_ => hs_.1) (fun hn_ => (Kd.fresh' (Kd.N_lt (by (with_reducible repeat (first | apply Kd.N_alloc | apply Kd.N_drewN | apply Kd.N_drew)); exact HO195.out)) k_ hn_)), Or.elim hk_ (fun hs_ => hs_.2) (fun hn_ => (Kd.fresh' (Kd.N_lt (by (with_reducible repeat (first | apply Kd.N_alloc | apply Kd.N_drewN | apply Kd.N_drew)); exact HO198.out)) k_ hn_))⟩)) (below_size (by repeat (first | (with_reducible first | exact HB.out | apply below_alloc | apply pw_below_drewN | apply below_drew1) | exact HB.out)))); have n6_ := Aside0.mk (below_step (by repeat (first | (with_reducible first | exact HB.out | apply below_alloc | apply pw_below_drewN | apply below_drew1) | exact HB.out)) hb); clear HO166; clear HO180; clear HO183; clear HO195; clear HO198; clear HB; have HO166 := n0_; have HO180 := n1_; have HO183 := n2_; have HO195 := n3_; have HO198 := n4_; have HO212 := n5_; have HB := n6_; clear n0_ n1_ n2_ n3_ n4_ n5_ n6_; (try clear hb); (try clear hb2); (try clear hk); (try clear hi); (try clear ho0); obtain ⟨Ao102, co102, eo102⟩ := Kd.N_slice HO212.out; subst eo102) | (go_at_call 21; (with_reducible refine (kotatsuref05_Right.calls k _ _ t210 false _ ?side1 ?side2 A81.out).mono ?_); (case side1 => repeat (first | exact (Kd.N_reads' HO212.out).2.2 | (with_reducible refine Kd.C_alloc ?_ _) | (with_reducible refine Kd.C_drewN ?_ _) | (with_reducible refine Kd.C_drew ?_))); (case side2 => exact (Kd.N_reads' HO212.out).2.1); rintro e w103 ⟨rfl, hb⟩; have n0_ := Aside0.mk (Kd.N_below (by (with_reducible repeat (first | apply Kd.N_alloc | apply Kd.N_drewN | apply Kd.N_drew)); exact HO166.out) hb); have n1_ := Aside0.mk (Kd.N_below (by (with_reducible repeat (first | apply Kd.N_alloc | apply Kd.N_drewN | apply Kd.N_drew)); exact HO180.out) hb); have n2_ := Aside0.mk (Kd.N_below (by (with_reducible repeat (first | apply Kd.N_alloc | apply Kd.N_drewN | apply Kd.N_drew)); exact HO183.out) hb); have n3_ := Aside0.mk (Kd.N_below (by (with_reducible repeat (first | apply Kd.N_alloc | apply Kd.N_drewN | apply Kd.N_drew)); exact HO195.out) hb); have n4_ := Aside0.mk (Kd.N_below (by (with_reducible repeat (first | apply Kd.N_alloc | apply Kd.N_drewN | apply Kd.N_drew)); exact HO198.out) hb); have n5_ := Aside0.mk (Kd.N_below (by (with_reducible repeat (first | apply Kd.N_alloc | apply Kd.N_drewN | apply Kd.N_drew)); exact HO212.out) hb); have n6_ := Aside0.mk (below_step (by repeat (first | (with_reducible first | exact HB.out | apply below_alloc | apply pw_below_drewN | apply below_drew1) | exact HB.out)) hb); clear HO166; clear HO180; clear HO183; clear HO195; clear HO198; clear HO212; clear HB; have HO166 := n0_; have HO180 := n1_; have HO183 := n2_; have HO195 := n3_; have HO198 := n4_; have HO212 := n5_; have HB := n6_; clear n0_ n1_ n2_ n3_ n4_ n5_ n6_; (try clear hb); (try clear hb2); (try clear hk); (try clear hi)))
                              go_meet
                              case rel => exact ⟨_, (false), (by first | rfl | (simp; done) | (simp [*]; done)), H', ⟨by first | omega | exact Nat.le_refl _⟩, ⟨by repeat (first | (with_reducible first | exact HB.out | apply below_alloc | apply pw_below_drewN | apply below_drew1) | exact HB.out)⟩⟩
                          · rw [if_neg c79] at H
                            have c79b0 : (t200 == false) = false := by simpa using c79
                            (try (have c79b1 : decide (t200 = false) = false := by simpa using c79))
                            (try (have c79b2 : (t200 == false) = false := by simpa using c79))
                            (try (have c79b3 : ¬ (t200 = false) := by simpa using c79))
                            clear c79
                            have H' := Aside0.mk H
                            clear H
                            obtain ⟨Ao104, co104, eo104⟩ := Kd.N_slice HO183.out
                            subst eo104
                            go_wp2_with (first | ((with_reducible refine gate_callee (f := 17) rfl ?_); refine goesL_ (some 43) rfl rfl Try.func17 (by kernel_rfl) rfl #[.slice Ao104 y181.length co104] rfl (by (try simp only [List.map_toArray, List.map_cons, List.map_nil]); first | done | rfl | (simp only [List.length_drop, List.length_take]; rfl)) ?_; (with_reducible refine (block_Right.calls k (fun k_ => (some k_ ≠ (.slice Ao45 y193.length co45 : Value).ownBlock ∧ some k_ ≠ (v197 : Value).ownBlock)) _ _ y181 true _ ?side1 A46.out).mono ?_); (case side1 => exact Kd.N_V (HO183.out)); rintro e w105 ⟨rfl, hb⟩; refine ⟨_, rfl, ?_⟩; have n0_ := Aside0.mk (Kd.N_below (by (with_reducible repeat (first | apply Kd.N_alloc | apply Kd.N_drewN | apply Kd.N_drew)); exact HO166.out) hb); have n1_ := Aside0.mk (Kd.N_below (by (with_reducible repeat (first | apply Kd.N_alloc | apply Kd.N_drewN | apply Kd.N_drew)); exact HO180.out) hb); have n2_ := Aside0.mk (Kd.N_below (by (with_reducible repeat (first | apply Kd.N_alloc | apply Kd.N_drewN | apply Kd.N_drew)); exact HO183.out) hb); have n3_ := Aside0.mk (Kd.N_below (by (with_reducible repeat (first | apply Kd.N_alloc | apply Kd.N_drewN | apply Kd.N_drew)); exact HO195.out) hb); have n4_ := Aside0.mk (Kd.N_below (by (with_reducible repeat (first | apply Kd.N_alloc | apply Kd.N_drewN | apply Kd.N_drew)); exact HO198.out) hb); have n5_ := Aside0.mk (below_step (by repeat (first | (with_reducible first | exact HB.out | apply below_alloc | apply pw_below_drewN | apply below_drew1) | exact HB.out)) hb); clear HO166; clear HO180; clear HO183; clear HO195; clear HO198; clear HB; have HO166 := n0_; have HO180 := n1_; have HO183 := n2_; have HO195 := n3_; have HO198 := n4_; have HB := n5_; clear n0_ n1_ n2_ n3_ n4_ n5_; (try clear hb); (try clear hb2); (try clear hk); (try clear hi); obtain ⟨Ao106, co106, eo106⟩ := Kd.N_slice HO198.out; subst eo106) | (go_at_call 17; (with_reducible refine (block_Right.calls k (fun k_ => (some k_ ≠ (.slice Ao33 y178.length co33 : Value).ownBlock ∧ some k_ ≠ (.slice Ao104 y181.length co104 : Value).ownBlock)) _ _ y196 t200 _ ?side1 A48.out).mono ?_); (case side1 => exact Kd.N_V (HO198.out)); rintro e w107 ⟨rfl, hb⟩; have n0_ := Aside0.mk (Kd.N_below (by (with_reducible repeat (first | apply Kd.N_alloc | apply Kd.N_drewN | apply Kd.N_drew)); exact HO166.out) hb); have n1_ := Aside0.mk (Kd.N_below (by (with_reducible repeat (first | apply Kd.N_alloc | apply Kd.N_drewN | apply Kd.N_drew)); exact HO180.out) hb); have n2_ := Aside0.mk (Kd.N_below (by (with_reducible repeat (first | apply Kd.N_alloc | apply Kd.N_drewN | apply Kd.N_drew)); exact HO183.out) hb); have n3_ := Aside0.mk (Kd.N_below (by (with_reducible repeat (first | apply Kd.N_alloc | apply Kd.N_drewN | apply Kd.N_drew)); exact HO195.out) hb); have n4_ := Aside0.mk (Kd.N_below (by (with_reducible repeat (first | apply Kd.N_alloc | apply Kd.N_drewN | apply Kd.N_drew)); exact HO198.out) hb); have n5_ := Aside0.mk (below_step (by repeat (first | (with_reducible first | exact HB.out | apply below_alloc | apply pw_below_drewN | apply below_drew1) | exact HB.out)) hb); clear HO166; clear HO180; clear HO183; clear HO195; clear HO198; clear HB; have HO166 := n0_; have HO180 := n1_; have HO183 := n2_; have HO195 := n3_; have HO198 := n4_; have HB := n5_; clear n0_ n1_ n2_ n3_ n4_ n5_; (try clear hb); (try clear hb2); (try clear hk); (try clear hi)))
                            go_meet
                            case rel => exact ⟨_, (false), (by first | rfl | (simp; done) | (simp [*]; done)), H', ⟨by first | omega | exact Nat.le_refl _⟩, ⟨by repeat (first | (with_reducible first | exact HB.out | apply below_alloc | apply pw_below_drewN | apply below_drew1) | exact HB.out)⟩⟩
                      · replace c47 := Bool.eq_false_iff.mpr c47
                        subst c47
                        have H1 : (kotatsulaw05_BlockWants.j0 k false) = some r := by rw [if_neg (show ¬ (false = true) by decide)] at H; exact H
                        clear H
                        have H := H1
                        clear H1
                        have H' := Aside0.mk H
                        clear H
                        obtain ⟨Ao108, co108, eo108⟩ := Kd.N_slice HO183.out
                        subst eo108
                        go_wp2_with (first | ((with_reducible refine gate_callee (f := 17) rfl ?_); refine goesL_ (some 43) rfl rfl Try.func17 (by kernel_rfl) rfl #[.slice Ao108 y181.length co108] rfl (by (try simp only [List.map_toArray, List.map_cons, List.map_nil]); first | done | rfl | (simp only [List.length_drop, List.length_take]; rfl)) ?_; (with_reducible refine (block_Right.calls k (fun k_ => (some k_ ≠ (.slice Ao45 y193.length co45 : Value).ownBlock ∧ some k_ ≠ (v197 : Value).ownBlock)) _ _ y181 false _ ?side1 A46.out).mono ?_); (case side1 => exact Kd.N_V (HO183.out)); rintro e w109 ⟨rfl, hb⟩; refine ⟨_, rfl, ?_⟩; have n0_ := Aside0.mk (Kd.N_below (by (with_reducible repeat (first | apply Kd.N_alloc | apply Kd.N_drewN | apply Kd.N_drew)); exact HO166.out) hb); have n1_ := Aside0.mk (Kd.N_below (by (with_reducible repeat (first | apply Kd.N_alloc | apply Kd.N_drewN | apply Kd.N_drew)); exact HO180.out) hb); have n2_ := Aside0.mk (Kd.N_below (by (with_reducible repeat (first | apply Kd.N_alloc | apply Kd.N_drewN | apply Kd.N_drew)); exact HO183.out) hb); have n3_ := Aside0.mk (Kd.N_below (by (with_reducible repeat (first | apply Kd.N_alloc | apply Kd.N_drewN | apply Kd.N_drew)); exact HO195.out) hb); have n4_ := Aside0.mk (Kd.N_below (by (with_reducible repeat (first | apply Kd.N_alloc | apply Kd.N_drewN | apply Kd.N_drew)); exact HO198.out) hb); have n5_ := Aside0.mk (below_step (by repeat (first | (with_reducible first | exact HB.out | apply below_alloc | apply pw_below_drewN | apply below_drew1) | exact HB.out)) hb); clear HO166; clear HO180; clear HO183; clear HO195; clear HO198; clear HB; have HO166 := n0_; have HO180 := n1_; have HO183 := n2_; have HO195 := n3_; have HO198 := n4_; have HB := n5_; clear n0_ n1_ n2_ n3_ n4_ n5_; (try clear hb); (try clear hb2); (try clear hk); (try clear hi)))
                        go_meet
                        case rel => exact ⟨_, (false), (by first | rfl | (simp; done) | (simp [*]; done)), H', ⟨by first | omega | exact Nat.le_refl _⟩, ⟨by repeat (first | (with_reducible first | exact HB.out | apply below_alloc | apply pw_below_drewN | apply below_drew1) | exact HB.out)⟩⟩
                    case rest =>
                      clear HC17
                      try clear c1
                      try clear c2
                      try clear p2
                      try clear c4
                      try clear c5
                      try clear p6
                      try clear c7
                      try clear c8
                      try clear c13
                      try clear c16
                      try clear c17
                      try clear c47
                      try clear c49
                      try clear c49b0
                      try clear c49b1
                      try clear c50
                      try clear c50b0
                      try clear c50b1
                      try clear c50b2
                      try clear c53
                      try clear p64
                      try clear c79
                      try clear c79b0
                      try clear c79b1
                      try clear c79b2
                      try clear c82
                      obtain ⟨kq, x8_16, rfl, HA, HJ16, HB⟩ := hcut
                      cases kq with
                      | zero => exact absurd HA.out (by simp [kotatsulaw05_BlockWants.j0])
                      | succ kj16 =>
                        have H := HA.out
                        clear HA
                        simp only [kotatsulaw05_BlockWants.j0] at H
                        obtain rfl := Option.some.inj H
                        go_wp2
                        go_ret
                        exact ⟨by first | rfl | (simp [errW_none, errW_some] <;> rfl) | (simp [*, errW_none, errW_some] <;> rfl), by repeat (first | (with_reducible first | exact HB.out | apply below_alloc | apply pw_below_drewN | apply below_drew1) | exact HB.out)⟩
                  · rw [if_neg c16] at H
                    exact absurd H (by simp)
                · rw [if_neg c15] at H
                  exact absurd H (by simp)
              · rw [if_neg c14] at H
                exact absurd H (by simp)
            · rw [if_neg c13] at H
              exact absurd H (by simp)
          · rw [if_neg c12] at H
            exact absurd H (by simp)
        · rw [if_neg c11] at H
          exact absurd H (by simp)
      · rw [if_neg c10] at H
        exact absurd H (by simp)
    · rw [if_neg c9] at H
      exact absurd H (by simp)
  · replace c6 := Bool.eq_false_iff.mpr c6
    subst c6
    have H1 : (some false) = some r := by rw [if_neg (show ¬ (false = true) by decide)] at H; exact H
    clear H
    have H := H1
    clear H1
    obtain rfl := Option.some.inj H
    go_enter Try.func4, Try.ntmps4
    go_wp2_with (first | ((with_reducible refine gate_callee (f := 8) rfl ?_); refine goesL_ (some 14) rfl rfl Try.func8 (by kernel_rfl) rfl #[] rfl (by (try simp only [List.map_toArray, List.map_cons, List.map_nil]); first | done | rfl | (simp only [List.length_drop, List.length_take]; rfl)) ?_; (with_reducible refine (kotatsulaw05_awake.calls k  false _ A5.out).mono ?_); rintro e w110 ⟨rfl, hb⟩; refine ⟨_, rfl, ?_⟩; have n0_ := Aside0.mk (below_step (by repeat (first | (with_reducible first | exact HB.out | apply below_alloc | apply pw_below_drewN | apply below_drew1) | exact HB.out)) hb); clear HB; have HB := n0_; clear n0_; (try clear hb); (try clear hb2); (try clear hk); (try clear hi)))
    go_ret
    exact ⟨by first | rfl | (simp [errW_none, errW_some] <;> rfl) | (simp [*, errW_none, errW_some] <;> rfl), by repeat (first | (with_reducible first | exact HB.out | apply below_alloc | apply pw_below_drewN | apply below_drew1) | exact HB.out)⟩

end Go.Proofs.Ytgpgoffnfdjhcaa.PBlockWants
