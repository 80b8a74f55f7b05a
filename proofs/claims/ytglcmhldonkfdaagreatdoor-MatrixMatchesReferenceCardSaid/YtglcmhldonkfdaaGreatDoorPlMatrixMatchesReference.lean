/- The law MatrixMatchesReference. Own work. -/
import Derived.Test.YtglcmhldonkfdaaGreatDoorPlAll2
set_option maxRecDepth 10000
set_option linter.unusedVariables false
set_option linter.unusedSimpArgs false
namespace Go.Proofs.YtglcmhldonkfdaaGreatDoor
open Go
theorem qdh (m : Nat) (hm : 4294967296 < m) (x : Zp) (hN : 0 ≤ x.N ∧ x.N ≤ 255) (raw : List (List qa)) (l : List Int) : QL (m + 100) x raw l = some true := by
 obtain ⟨n, hd, hn⟩ := qfG hN
 have oA : WP (n + 1) (n + 1) (elt mdI x.A (n + 1)) := fun i _ j _ => qdy _ _ _ _
 have oB : WP (n + 1) (n + 1) (elt mdI x.B (n + 1)) := fun i _ j _ => qdy _ _ _ _
 have oX : ∀ i, i < n + 1 → Ok (vec mdI x.X i) := fun i _ => qfZ qdp (by exact .inr (by unfold ZS; simp)) _ _
 have hn6 : n + 1 ≤ 6 := by omega
 have hn1 : n + 1 < 1000000 := by omega
 have hk : n + 1 < m + 100 := by omega
 have hK : 4294967296 < m + 100 := by omega
 obtain ⟨r, hv1, hv2⟩ := qdn raw (K := m + 100) (by omega)
 obtain ⟨u, ho1, ho2⟩ := qdc (N := n + 1) (K := m + 100) (by omega) (by omega) (m := elN l (n + 1)) (fun i _ k _ => by have := qfY l (n + 1) i k; omega)
 obtain ⟨il, hi1, hi2, hi3⟩ := qcW hN (K := m + 100) (by omega)
 have same : ∀ f : Nat → Nat → qa, qz (m + 100) (mm (n + 1) (n + 1) f) (mm (n + 1) (n + 1) f) = some true := fun f => qdD hn1 hn1 _ _ (fun _ _ _ _ => rfl) hk hk
 have hinv : ∃ q b, qw (m + 100) (mm (n + 1) (n + 1) (elt mdI x.A (n + 1))) = some (q, b) ∧ qm (m + 100) (mm (n + 1) (n + 1) (elt mdI x.A (n + 1))) = some (q, b) ∧ qz (m + 100) q q = some true := by
  rw [qfB (by omega) hn6 _ oA (by omega), qeZ (by omega) hn6 _ oA hK]
  cases qdZ (n + 1) (elt mdI x.A (n + 1)) with
  | none => exact ⟨_, _, rfl, rfl, qbG (by omega)⟩
  | some g => exact ⟨_, _, rfl, rfl, same _⟩
 obtain ⟨q, b, hq1, hq2, hq3⟩ := hinv
 unfold QL
 refine bT (qgp m) ?_
 have gd : ∀ {p : Bool} {o : Option Bool} {s : Bool}, o = some s → (if (p == true) = true then o else some default) = some (p && s) := fun {p o s} h => by
  cases p
  ·rfl
  ·exact h
 refine bT (gd hv1) (bT (gd hv2) ?_)
 rw [if_neg (by cases decide ((raw.length : Int) ≤ 8) <;> cases r <;> decide)]
 refine bT (qef hd hn (by omega)) (bT hd (bT (qcc hn6 l hk) (bT hq1 (bT hq2 ?_))))
 refine bT (qfH hn1 rfl _ _ (fun i hi j hj => oA i hi j hj) (fun i hi j hj => oB i hi j hj) hk) (bT (qeC hn1 rfl _ _ oA oB hk hK) (bT (same _) (iT rfl ?_)))
 refine bT (qd2 hn1 rfl _ _ (fun i hi j hj => oA i hi j hj) oX hk) (bT (qaH hn1 rfl _ _ oA oX hk hK) (bT (qfy hn1 _ _ (fun i hi => rfl) hk) (iT rfl ?_)))
 refine bT (qda hn1 _ hk) (bT (VK hn1 _ hk) (bT (same _) (iT rfl ?_)))
 refine bT (qfn hn1 _ oA hk) (bT (qct hn1 _ hk) (bT (qe7 hn1 _ oA hk) (bT (qbE hn1 _ hk) (bT (same _) (iT rfl ?_)))))
 refine bT ho1 (bT (qct hn1 _ hk) (bT ho2 (bT (qbE hn1 _ hk) (bT (same _) (bT hq3 (iT ?_ ?_))))))
 ·show ((true && true) && (b == b)) = true
  cases b <;> rfl
 ·exact bT hi1 (bT hi2 (bT hi3 rfl))
theorem Jf : QL.Pure :=
 fun _ _ _ _ raw l _ _ _ h3 _ _ => ⟨4294967297 + 100, qdh 4294967297 (by decide) _ h3 raw l⟩
end Go.Proofs.YtglcmhldonkfdaaGreatDoor
