/- The printed help of the statements: keys of a number, bytes of numbers, events of numbers: these are right ones, their ticks rise. -/
import Derived.Test.YtmaefdeigienjaaQEventTellsx8
import Derived.Test.YtmaefdeigienjaaEventMath
namespace Go.Proofs.Ytmaefdeigienjaa.QEventTells
open Go.RowKit Go.Proofs.YtmaefdeigienjaaW.PrintWords Go.Proofs.YtmaefdeigienjaaW.PrintLast Go.Proofs.YtmaefdeigienjaaW.PrintMore
def keyOk (r : Option (List Int)) : Bool := match r with
  | some r => decide (r.length ≤ 60) && r.all (fun x => decide (0 ≤ x) && decide (x < 256))
  | none => false
def num256 : List Int := [0, 1, 2, 3, 4, 5, 6, 7, 8, 9, 10, 11, 12, 13, 14, 15, 16, 17, 18, 19, 20, 21, 22, 23, 24, 25, 26, 27, 28, 29, 30, 31, 32, 33, 34, 35, 36, 37, 38, 39, 40, 41, 42, 43, 44, 45, 46, 47, 48, 49, 50, 51, 52, 53, 54, 55, 56, 57, 58, 59, 60, 61, 62, 63, 64, 65, 66, 67, 68, 69, 70, 71, 72, 73, 74, 75, 76, 77, 78, 79, 80, 81, 82, 83, 84, 85, 86, 87, 88, 89, 90, 91, 92, 93, 94, 95, 96, 97, 98, 99, 100, 101, 102, 103, 104, 105, 106, 107, 108, 109, 110, 111, 112, 113, 114, 115, 116, 117, 118, 119, 120, 121, 122, 123, 124, 125, 126, 127, 128, 129, 130, 131, 132, 133, 134, 135, 136, 137, 138, 139, 140, 141, 142, 143, 144, 145, 146, 147, 148, 149, 150, 151, 152, 153, 154, 155, 156, 157, 158, 159, 160, 161, 162, 163, 164, 165, 166, 167, 168, 169, 170, 171, 172, 173, 174, 175, 176, 177, 178, 179, 180, 181, 182, 183, 184, 185, 186, 187, 188, 189, 190, 191, 192, 193, 194, 195, 196, 197, 198, 199, 200, 201, 202, 203, 204, 205, 206, 207, 208, 209, 210, 211, 212, 213, 214, 215, 216, 217, 218, 219, 220, 221, 222, 223, 224, 225, 226, 227, 228, 229, 230, 231, 232, 233, 234, 235, 236, 237, 238, 239, 240, 241, 242, 243, 244, 245, 246, 247, 248, 249, 250, 251, 252, 253, 254, 255]
theorem num256_eq : num256 = (List.range 256).map (fun (i : Nat) => (i : Int)) := by decide +kernel
theorem num256_mem (x : Int) (h0 : 0 ≤ x) (h1 : x < 256) : x ∈ num256 := by
  rw [num256_eq]
  exact List.mem_map.2 ⟨x.toNat, List.mem_range.2 (by omega), by omega⟩
set_option maxRecDepth 100000 in
theorem keys_all : num256.all (fun a => keyOk (repriseseat_Keys.f 100 [a])) = true := by decide +kernel
theorem keys_one (x : Int) (h0 : 0 ≤ x) (h1 : x < 256) (k : Nat) (hk : 100 ≤ k) : ∃ r, repriseseat_Keys.f k [x] = some r ∧ r.length ≤ 60 ∧ ∀ y ∈ r, 0 ≤ y ∧ y < 256 := by
  have h := List.all_eq_true.1 keys_all x (num256_mem x h0 h1)
  cases hr : repriseseat_Keys.f 100 [x] with
  | none => rw [hr] at h; cases h
  | some r =>
    rw [hr] at h
    simp only [keyOk, Bool.and_eq_true, decide_eq_true_eq, List.all_eq_true] at h
    exact ⟨r, at_rounds (repriseseat_Keys.mono [x]) hk hr, h.1, h.2⟩
theorem bytesOf_range (s : ByteArray) : ∀ x ∈ bytesOf s, 0 ≤ x ∧ x < 256 := by
  intro x hx
  unfold bytesOf at hx
  obtain ⟨b, _, rfl⟩ := List.mem_map.1 hx
  have := b.toNat_lt
  omega
theorem bytes_l0 (l : List Int) (hl : l.length ≤ 1000) (hb : ∀ x ∈ l, 0 ≤ x ∧ x < 256) (P : List ByteArray) (hP : 0 < P.length) (hP2 : P.length < 1000) (hPs : ∀ s ∈ P, s.size ≤ 20) (d : Nat) : ∀ (k i : Nat) (acc : List Int), i ≤ l.length → l.length - i = d → d < k → acc.length ≤ 20 * i → (∀ x ∈ acc, 0 ≤ x ∧ x < 256) →
    ∃ r, repriseseat_Bytes.l0 k l P acc (i : Int) = some r ∧ r.length ≤ 20 * l.length ∧ ∀ x ∈ r, 0 ≤ x ∧ x < 256 := by
  induction d with
  | zero =>
    intro k i acc hi hd hk ha hr
    obtain ⟨k, rfl⟩ : ∃ m, k = m + 1 := ⟨k - 1, by omega⟩
    refine ⟨acc, ?_, by omega, hr⟩
    rw [repriseseat_Bytes.l0, if_neg (by omega)]
  | succ d ih =>
    intro k i acc hi hd hk ha hr
    obtain ⟨k, rfl⟩ : ∃ m, k = m + 1 := ⟨k - 1, by omega⟩
    have hx : 0 ≤ rd l (i : Int) ∧ rd l (i : Int) < 256 := by
      unfold rd
      rw [Int.toNat_natCast, List.getD_eq_getElem?_getD, List.getElem?_eq_getElem (by omega)]
      exact hb _ (List.getElem_mem _)
    obtain ⟨q, e1, e2, e3⟩ : ∃ q : Int, Int.tmod (wrap64 (rd l (i : Int))) (P.length : Int) = q ∧ 0 ≤ q ∧ q < (P.length : Int) := by
      refine ⟨rd l (i : Int) % (P.length : Int), ?_, Int.emod_nonneg _ (by omega), Int.emod_lt_of_pos _ (by omega)⟩
      rw [Zig.w64_id _ (by omega) (by omega), Int.tmod_eq_emod_of_nonneg hx.1]
    have hs : (rdOf ByteArray.empty P q).size ≤ 20 := by
      unfold rdOf
      rw [List.getD_eq_getElem?_getD, List.getElem?_eq_getElem (by omega)]
      exact hPs _ (List.getElem_mem _)
    have ei : wrap64 ((i : Int) + 1) = ((i + 1 : Nat) : Int) := by rw [Zig.w64_id _ (by omega) (by omega)]; omega
    have hstep : repriseseat_Bytes.l0 (k + 1) l P acc (i : Int) = repriseseat_Bytes.l0 k l P (acc ++ bytesOf (rdOf ByteArray.empty P q)) ((i + 1 : Nat) : Int) := by
      rw [repriseseat_Bytes.l0, e1, ei]
      clear e1 ei
      rw [if_pos (show (i : Int) < (l.length : Int) by omega), if_pos (show 0 ≤ (i : Int) by omega), if_neg (show ¬ ((P.length : Int) = 0) by omega), if_pos e2, if_pos e3, if_pos (show acc.length + (rdOf ByteArray.empty P q).size < 140737488355328 by omega)]
    rw [hstep]
    clear hstep e1 ei
    refine ih k (i + 1) _ (by omega) (by omega) (by omega) (by rw [List.length_append, bytesOf_length]; omega) (fun x hx' => ?_)
    rcases List.mem_append.1 hx' with h | h
    · exact hr x h
    · exact bytesOf_range _ x h
set_option maxRecDepth 100000 in
theorem bytes_P : ∃ P : List ByteArray, (∀ k l, repriseseat_Bytes.f k l = repriseseat_Bytes.l0 k l P [] 0) ∧ decide (0 < P.length) = true ∧ decide (P.length < 1000) = true ∧ P.all (fun s => decide (s.size ≤ 20)) = true :=
  ⟨_, fun _ _ => rfl, by decide +kernel, by decide +kernel, by decide +kernel⟩
theorem bytes_f (l : List Int) (hl : l.length ≤ 1000) (hb : ∀ x ∈ l, 0 ≤ x ∧ x < 256) (k : Nat) (hk : l.length < k) : ∃ r, repriseseat_Bytes.f k l = some r ∧ r.length ≤ 20 * l.length ∧ ∀ x ∈ r, 0 ≤ x ∧ x < 256 := by
  obtain ⟨P, hP, h1, h2, h3⟩ := bytes_P
  rw [hP]
  exact bytes_l0 l hl hb P (of_decide_eq_true h1) (of_decide_eq_true h2) (fun s hs => of_decide_eq_true (List.all_eq_true.1 h3 s hs)) l.length k 0 [] (by omega) (by omega) hk (by simp) (by simp)
/-- events, one behind the other, that may be -/
def EvsOk : Int → List S30 → Prop
  | _, [] => True
  | p, e :: r => Ev.chk p e.f0 e.f1 e.f2 e.f3 e.f4 = 0 ∧ e.f2.length ≤ 300 ∧ (∀ x ∈ e.f2, 0 ≤ x ∧ x < 256) ∧ EvsOk e.f0 r
def lastT : Int → List S30 → Int
  | p, [] => p
  | _, e :: r => lastT e.f0 r
theorem evs_snoc (e : S30) : ∀ (xs : List S30) (p : Int), EvsOk p xs → Ev.chk (lastT p xs) e.f0 e.f1 e.f2 e.f3 e.f4 = 0 → e.f2.length ≤ 300 → (∀ x ∈ e.f2, 0 ≤ x ∧ x < 256) → EvsOk p (xs ++ [e]) ∧ lastT p (xs ++ [e]) = e.f0 := by
  intro xs
  induction xs with
  | nil => intro p _ h1 h2 h3; exact ⟨⟨h1, h2, h3, trivial⟩, rfl⟩
  | cons a xs ih =>
    intro p h h1 h2 h3
    have := ih a.f0 h.2.2.2 h1 h2 h3
    exact ⟨⟨h.1, h.2.1, h.2.2.1, this.1⟩, this.2⟩
theorem chk_mk {prev tick kind : Int} {data : List Int} {rows cols : Int} (h : ((kind = 0 ∨ kind = 1) ∧ rows = 0 ∧ cols = 0 ∧ data.length ≤ 1048576) ∨ (kind = 2 ∧ data = [] ∧ 1 ≤ rows ∧ rows ≤ 1000 ∧ 1 ≤ cols ∧ cols ≤ 1000))
    (h0 : 0 ≤ tick) (h1 : tick ≤ 4611686018427387904) (h2 : prev ≤ tick) : Ev.chk prev tick kind data rows cols = 0 := by
  unfold Ev.chk
  have hd : (data.length : Int) ≤ 1048576 ∧ (kind = 2 → data.length = 0) := by
    rcases h with h | ⟨h, rfl, _⟩
    · exact ⟨by omega, by omega⟩
    · exact ⟨by simp, by simp⟩
  rw [if_neg (by omega), if_neg (by omega), if_neg (by omega), if_neg (by omega)]
theorem take_one (l : List Int) (i : Nat) (h : i < l.length) : (l.take (i + 1)).drop i = [rd l (i : Int)] := by
  unfold rd
  rw [Int.toNat_natCast, List.getD_eq_getElem?_getD, List.getElem?_eq_getElem h, List.take_succ_eq_append_getElem h, List.drop_append_of_le_length (by rw [List.length_take]; omega), List.drop_of_length_le (by rw [List.length_take]; omega)]
  rfl
theorem events_l0 (l m : List Int) (hl : l.length ≤ 1000) (hb : ∀ x ∈ l, 0 ≤ x ∧ x < 256) (hm : m.length ≤ 1000) (hbm : ∀ x ∈ m, 0 ≤ x ∧ x < 256) (d : Nat) : ∀ (k i : Nat) (xs : List S30) (t : Int), i ≤ l.length → l.length - i = d → d + 200 < k → xs.length = i → EvsOk 0 xs → lastT 0 xs = t → 0 ≤ t → t ≤ 2 * i →
    ∃ r, repriseseat_Events.l0 k l m xs t (i : Int) = some r ∧ r.length = l.length ∧ EvsOk 0 r := by
  induction d with
  | zero =>
    intro k i xs t hi hd hk hxl ho ht h0 h1
    obtain ⟨k, rfl⟩ : ∃ m, k = m + 1 := ⟨k - 1, by omega⟩
    refine ⟨xs, ?_, by omega, ho⟩
    rw [repriseseat_Events.l0, if_neg (by omega)]
  | succ d ih =>
    intro k i xs t hi hd hk hxl ho ht h0 h1
    obtain ⟨k, rfl⟩ : ∃ m, k = m + 1 := ⟨k - 1, by omega⟩
    have hx : 0 ≤ rd l (i : Int) ∧ rd l (i : Int) < 256 := by
      unfold rd
      rw [Int.toNat_natCast, List.getD_eq_getElem?_getD, List.getElem?_eq_getElem (by omega)]
      exact hb _ (List.getElem_mem _)
    have hone := take_one l i (by omega)
    have q1 : (i : Int) < (l.length : Int) := by omega
    have q2 : (0 : Int) ≤ (i : Int) := by omega
    have q3 : (i : Int) ≤ ((i + 1 : Nat) : Int) := by omega
    have q4 : ((i + 1 : Nat) : Int) ≤ (l.length : Int) := by omega
    have ei : wrap64 ((i : Int) + 1) = ((i + 1 : Nat) : Int) := by rw [Zig.w64_id _ (by omega) (by omega)]; omega
    rw [repriseseat_Events.l0, if_pos q1, if_pos q2]
    simp only [ei, Int.toNat_natCast, hone]
    clear ei hone
    generalize rd l (i : Int) = x at *
    rw [Int.tdiv_eq_ediv_of_nonneg hx.1, Int.tdiv_eq_ediv_of_nonneg hx.1, Int.tdiv_eq_ediv_of_nonneg hx.1, Int.tmod_eq_emod_of_nonneg hx.1, Int.tmod_eq_emod_of_nonneg hx.1, Zig.w64_id (x % 3) (by omega) (by omega), Zig.w64_id (x % 4) (by omega) (by omega), Zig.w64_id (t + x % 3) (by omega) (by omega)]
    have next : ∀ e : S30, e.f0 = t + x % 3 → Ev.chk t e.f0 e.f1 e.f2 e.f3 e.f4 = 0 → e.f2.length ≤ 300 → (∀ x ∈ e.f2, 0 ≤ x ∧ x < 256) → ∃ r, repriseseat_Events.l0 k l m (xs ++ [e]) (t + x % 3) ((i + 1 : Nat) : Int) = some r ∧ r.length = l.length ∧ EvsOk 0 r := by
      intro e e0 e1 e2 e3
      have hs := evs_snoc e xs 0 ho (by rw [ht]; exact e1) e2 e3
      exact ih k (i + 1) (xs ++ [e]) (t + x % 3) (by omega) (by omega) (by omega) (by simp [hxl]) hs.1 (by rw [hs.2, e0]) (by omega) (by omega)
    by_cases c0 : x / 3 % 256 % 3 = 0
    · obtain ⟨r, hr, hrl, hrb⟩ := keys_one x hx.1 hx.2 k (by omega)
      rw [if_pos c0, if_pos q3, if_pos q4, hr, Option.bind_some, Option.bind_some, if_pos (by simp only [List.length_cons, List.length_nil]; omega)]
      exact next _ rfl (chk_mk (.inl ⟨.inl c0, rfl, rfl, by simp only; omega⟩) (by simp only; omega) (by simp only; omega) (by simp only; omega)) (by simp only; omega) hrb
    · rw [if_neg c0]
      by_cases c1 : x / 3 % 256 % 3 = 1
      · have hmn : mn (m.length : Int) (x % 4) = min (m.length : Int) (x % 4) := by unfold mn; split <;> omega
        rw [if_pos c1, hmn, if_pos (by omega), if_pos (by omega)]
        have htl : (m.take (min (m.length : Int) (x % 4)).toNat).length ≤ 3 := by rw [List.length_take]; omega
        have htb : ∀ y ∈ m.take (min (m.length : Int) (x % 4)).toNat, 0 ≤ y ∧ y < 256 := fun y hy => hbm y (List.mem_of_mem_take hy)
        generalize m.take (min (m.length : Int) (x % 4)).toNat = q at *
        obtain ⟨r, hr, hrl, hrb⟩ := bytes_f (q ++ [x]) (by simp only [List.length_append, List.length_cons, List.length_nil]; omega) (fun y hy => by
          rcases List.mem_append.1 hy with h | h
          · exact htb y h
          · rw [List.mem_singleton.1 h]; exact hx) k (by simp only [List.length_append, List.length_cons, List.length_nil]; omega)
        simp only [List.length_append, List.length_cons, List.length_nil] at hrl
        rw [if_pos (by simp only [List.length_nil]; omega), Option.bind_some, Option.bind_some, List.nil_append, if_pos (by simp only [List.length_cons, List.length_nil]; omega), hr, Option.bind_some, Option.bind_some, if_pos (by simp only [List.length_cons, List.length_nil]; omega)]
        exact next _ rfl (chk_mk (.inl ⟨.inr c1, rfl, rfl, by simp only; omega⟩) (by simp only; omega) (by simp only; omega) (by simp only; omega)) (by simp only; omega) hrb
      · rw [if_neg c1, Option.bind_some, if_pos (by simp only [List.length_cons, List.length_nil]; omega)]
        exact next _ rfl (chk_mk (.inr ⟨by simp only; omega, rfl, by simp only; omega, by simp only; omega, by simp only; omega, by simp only; omega⟩) (by simp only; omega) (by simp only; omega) (by simp only; omega)) (by simp) (by simp)
theorem events_f (l m : List Int) (hl : l.length ≤ 1000) (hb : ∀ x ∈ l, 0 ≤ x ∧ x < 256) (hm : m.length ≤ 1000) (hbm : ∀ x ∈ m, 0 ≤ x ∧ x < 256) (k : Nat) (hk : l.length + 200 < k) :
    ∃ r, repriseseat_Events.f k l m = some r ∧ r.length = l.length ∧ EvsOk 0 r :=
  events_l0 l m hl hb hm hbm l.length k 0 [] 0 (by omega) (by omega) hk rfl trivial rfl (by omega) (by omega)
end Go.Proofs.Ytmaefdeigienjaa.QEventTells
