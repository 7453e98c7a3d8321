/- Events' bytes, one behind another: how long they are, that they are bytes. -/
import Derived.Test.YtmaefdeigienjaaEventRdEventTells
import Derived.Test.YtmaefdeigienjaaSeatFnsEventTells
namespace Go.Proofs.Ytmaefdeigienjaa.QEventTells
open Go.RowKit Go.Proofs.YtmaefdeigienjaaW.PrintWords Go.Proofs.YtmaefdeigienjaaW.PrintLast Go.Proofs.YtmaefdeigienjaaW.PrintMore
theorem putE_byte (p tick kind : Int) (data : List Int) (rows cols : Int) (hd : ∀ x ∈ data, 0 ≤ x ∧ x < 256) : ∀ x ∈ (Ev.putE p tick kind data rows cols).1, 0 ≤ x ∧ x < 256 := by
  intro x hx
  unfold Ev.putE at hx
  split at hx
  · split at hx
    · cases hx
    · simp only [List.mem_append] at hx
      rcases hx with (hx | hx) | hx
      · exact Leb.enc_byte _ x hx
      · exact Leb.enc_byte _ x hx
      · split at hx
        · rcases List.mem_append.1 hx with hx | hx
          · exact Leb.enc_byte _ x hx
          · exact Leb.enc_byte _ x hx
        · unfold Leb.encBytes at hx
          rcases List.mem_append.1 hx with hx | hx
          · exact Leb.enc_byte _ x hx
          · exact hd x hx
  · cases hx
theorem putE_len (p tick kind : Int) (data : List Int) (rows cols : Int) (h0 : 0 ≤ p) (h1 : p ≤ 4611686018427387904) (h : Ev.chk p tick kind data rows cols = 0) :
    1 ≤ (Ev.putE p tick kind data rows cols).1.length ∧ (Ev.putE p tick kind data rows cols).1.length ≤ 40 + data.length := by
  obtain ⟨t0, t1, t2, hkind, hd, hn2, h2⟩ := Ev.chk_ok h
  rw [Ev.putE_ok h0 h1 h]
  have l1 := Leb.enc_len10 (tick - p).toNat (by omega)
  have l2 := Leb.enc_len10 kind.toNat (by omega)
  have l0 := Leb.enc_pos (tick - p).toNat
  simp only [List.length_append]
  by_cases hk : kind = 2
  · obtain ⟨_, r1, r2, c1, c2⟩ := h2 hk
    have l3 := Leb.enc_len10 rows.toNat (by omega)
    have l4 := Leb.enc_len10 cols.toNat (by omega)
    rw [if_pos hk, List.length_append]
    omega
  · have l5 := Leb.enc_len10 data.length (by omega)
    rw [if_neg hk]
    unfold Leb.encBytes
    rw [List.length_append]
    omega
def encEvs : Int → List S30 → List Int
  | _, [] => []
  | p, e :: r => (Ev.putE p e.f0 e.f1 e.f2 e.f3 e.f4).1 ++ encEvs e.f0 r
theorem evs_tick {p : Int} {e : S30} {r : List S30} (h : EvsOk p (e :: r)) : 0 ≤ e.f0 ∧ e.f0 ≤ 4611686018427387904 := by
  have := Ev.chk_ok h.1
  exact ⟨this.1, this.2.1⟩
theorem encEvs_byte : ∀ (xs : List S30) (p : Int), EvsOk p xs → ∀ x ∈ encEvs p xs, 0 ≤ x ∧ x < 256 := by
  intro xs
  induction xs with
  | nil => intro p _ x hx; cases hx
  | cons e r ih =>
    intro p h x hx
    rcases List.mem_append.1 hx with hx | hx
    · exact putE_byte _ _ _ _ _ _ h.2.2.1 x hx
    · exact ih e.f0 h.2.2.2 x hx
theorem encEvs_len : ∀ (xs : List S30) (p : Int), 0 ≤ p → p ≤ 4611686018427387904 → EvsOk p xs → (encEvs p xs).length ≤ 400 * xs.length := by
  intro xs
  induction xs with
  | nil => intro p _ _ _; simp [encEvs]
  | cons e r ih =>
    intro p h0 h1 h
    have ht := evs_tick h
    have := putE_len p e.f0 e.f1 e.f2 e.f3 e.f4 h0 h1 h.1
    have := ih e.f0 ht.1 ht.2 h.2.2.2
    have := h.2.1
    simp only [encEvs, List.length_append, List.length_cons]
    omega
theorem evs_drop : ∀ (xs : List S30) (i : Nat), i < xs.length → xs.drop i = rd_T30 xs (i : Int) :: xs.drop (i + 1) := by
  intro xs i h
  rw [List.drop_eq_getElem_cons h]
  unfold rd_T30
  rw [Int.toNat_natCast, List.getD_eq_getElem?_getD, List.getElem?_eq_getElem h]
  rfl
theorem same_self (t k : Int) (d : List Int) (r c : Int) : event_Same.f t k d r c t k d r c = some true := by
  unfold event_Same.f bytes_Equal.f
  simp
end Go.Proofs.Ytmaefdeigienjaa.QEventTells
