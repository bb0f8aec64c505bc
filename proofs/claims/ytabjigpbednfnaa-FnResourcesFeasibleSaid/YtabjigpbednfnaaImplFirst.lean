import Derived.Test.YtabjigpbednfnaaPB
import Derived.Test.YtabjigpbednfnaaImplDem
import Derived.Test.YtabjigpbednfnaaFimplXFirstOverload
set_option linter.unusedSimpArgs false
set_option linter.unusedVariables false
namespace Go.Proofs.Ytabjigpbednfnaa.Pu
open Go.RowKit Go.Proofs.Ytabjigpbednfnaa.Q Go.Proofs.YtabjigpbednfnaaW.PrintWords Go.Proofs.YtabjigpbednfnaaW.PrintLast

theorem implFirst_loop (l : List Tk) (hok : Ok l) : ∀ (n : Nat) (k : Nat) (t : Int), t + n = hyp l + 1 → 1 ≤ t → n + 25 ≤ k → impl_FirstOverload.l0 k l t = some (firstF (ovP l) n t) := by
  have hb := hyp_bd hok
  intro n
  induction n with
  | zero =>
    intro k t ht h1 hk
    obtain ⟨k, rfl⟩ : ∃ m, k = m + 1 := ⟨k - 1, by omega⟩
    simp only [impl_FirstOverload.l0]
    rw [implHyper_eq l hok k (by omega)]
    simp only [Option.bind_some]
    rw [if_neg (by omega)]
    rfl
  | succ n ih =>
    intro k t ht h1 hk
    obtain ⟨k, rfl⟩ : ∃ m, k = m + 1 := ⟨k - 1, by omega⟩
    simp only [impl_FirstOverload.l0]
    rw [implHyper_eq l hok k (by omega)]
    simp only [Option.bind_some]
    rw [if_pos (by omega), implDem_eq l hok t (by omega) (by omega) k (by omega)]
    simp only [Option.bind_some, firstF, ovP, decide_eq_true_eq]
    by_cases hd : dem l t > t
    · rw [if_pos hd, if_pos hd]
    · rw [if_neg hd, if_neg hd, w64 (by omega) (by omega)]
      exact ih k (t + 1) (by omega) (by omega) (by omega)
theorem implFirst_eq (l : List Tk) (k : Nat) (hk : 300000 ≤ k) : impl_FirstOverload.f k l = some (if setOk l = true then fov l else -1) := by
  unfold impl_FirstOverload.f
  rw [implSet_eq]
  simp only [Option.bind_some]
  by_cases h : setOk l = true
  · have hok := Ok.mk' h
    have hb := hyp_bd hok
    rw [if_pos h, if_pos h]
    exact implFirst_loop l hok (hypN l) k 1 (by unfold hyp; omega) (by omega) (by unfold hyp at hb; omega)
  · rw [if_neg h, if_neg h]

end Go.Proofs.Ytabjigpbednfnaa.Pu
