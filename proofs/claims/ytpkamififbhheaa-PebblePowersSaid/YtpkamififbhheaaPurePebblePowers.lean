/- PebblePowers' plain law: there are 54 cases. -/
import Derived.Test.YtpkamififbhheaaPAllx3
import Derived.Test.YtpkamififbhheaaPlain
namespace Go.Proofs.Ytpkamififbhheaa.Pure
open Go.RowKit Go.Proofs.Ytpkamififbhheaa.PAll

theorem powers_all : ∀ r : Fin 9, ∀ p : Fin 6, backsteplaw44_PebblePowers.l0 200 (wrap64 (2 + (r.1 : Int))) 1 1 (p.1 : Int) 0 = some true := by decide +kernel
theorem PebblePowers : backsteplaw44_PebblePowers.Pure := by
  intro a0 a1 h0 h1
  refine ⟨200, ?_⟩
  have h0 := wf8.1 h0
  have h1 := wf8.1 h1
  have e0 : wrap64 a0 = a0 := wrap64_of (by omega) (by omega)
  have e1 : wrap64 a1 = a1 := wrap64_of (by omega) (by omega)
  obtain ⟨r, hr⟩ := tmod_fin h0.1 9 (by omega)
  obtain ⟨p, hp⟩ := tmod_fin h1.1 6 (by omega)
  have hr : Int.tmod a0 9 = r.1 := hr
  have hp : Int.tmod a1 6 = p.1 := hp
  unfold backsteplaw44_PebblePowers.f
  rw [awake_ok, e0, e1, hr, hp]
  exact powers_all r p

end Go.Proofs.Ytpkamififbhheaa.Pure
