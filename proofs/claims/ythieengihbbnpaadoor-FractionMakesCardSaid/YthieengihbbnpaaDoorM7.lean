/- Negation, difference and quotient by way of the sum and the product. -/
import Derived.Test.YthieengihbbnpaaDoorM6
namespace Go.Proofs.YthieengihbbnpaaDoor.M
theorem vld_neg {c d : Int} (h : vld c d = true) : vld (-c) d = true := by
  obtain ⟨h1, h2, h3, h4, h5⟩ := vld_of h
  exact (vld_iff _ _).mpr ⟨h1, h2, by omega, by omega, by rw [gcdI_neg]; exact h5⟩
theorem subF_add {a b c d : Int} (h1 : vld a b = true) (h2 : vld c d = true) : addF a b (-c) d = subF a b c d := by
  unfold addF subF
  rw [if_pos ⟨h1, vld_neg h2⟩, if_pos ⟨h1, h2⟩, Int.neg_mul]
  rfl
theorem vld_inv {c d : Int} (h : vld c d = true) (hc : 0 < c) : vld d c = true := by
  obtain ⟨h1, h2, h3, h4, h5⟩ := vld_of h
  refine (vld_iff _ _).mpr ⟨by omega, by omega, by omega, by omega, ?_⟩
  unfold gcdI at h5 ⊢; rw [Int.gcd_comm]; exact h5
theorem vld_inv_neg {c d : Int} (h : vld c d = true) (hc : c < 0) : vld (-d) (-c) = true := by
  obtain ⟨h1, h2, h3, h4, h5⟩ := vld_of h
  refine (vld_iff _ _).mpr ⟨by omega, by omega, by omega, by omega, ?_⟩
  unfold gcdI at h5 ⊢; rw [Int.neg_gcd, Int.gcd_comm, Int.neg_gcd]; exact h5
theorem divF_pos {a b c d : Int} (h1 : vld a b = true) (h2 : vld c d = true) (hc : 0 < c) : mulF a b d c = divF a b c d := by
  unfold mulF divF
  rw [if_pos ⟨h1, vld_inv h2 hc⟩, if_pos ⟨h1, h2, by omega⟩, if_pos hc]
theorem divF_neg {a b c d : Int} (h1 : vld a b = true) (h2 : vld c d = true) (hc : c < 0) : mulF a b (-d) (-c) = divF a b c d := by
  unfold mulF divF
  rw [if_pos ⟨h1, vld_inv_neg h2 hc⟩, if_pos ⟨h1, h2, by omega⟩, if_neg (by omega), Int.mul_neg, Int.mul_neg]
end Go.Proofs.YthieengihbbnpaaDoor.M
