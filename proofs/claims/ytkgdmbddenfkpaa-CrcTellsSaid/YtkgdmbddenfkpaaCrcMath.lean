/- Plain laws of the checksum: a step is linear and loses nothing, so that bytes of which up to four neighbours are others have another sum; for all bytes. -/
namespace Go.Proofs.Ytkgdmbddenfkpaa.CrcM
def st (c : Nat) : Nat := if c % 2 = 1 then (c / 2) ^^^ 3988292384 else c / 2
theorem xor_mod2 (a b : Nat) : (a ^^^ b) % 2 = (a % 2 + b % 2) % 2 := by
  have h := Nat.xor_mod_two_eq_one (a := a) (b := b)
  have := Nat.mod_two_eq_zero_or_one (a ^^^ b)
  have := Nat.mod_two_eq_zero_or_one a
  have := Nat.mod_two_eq_zero_or_one b
  omega
theorem xor_div2 (a b : Nat) : (a ^^^ b) / 2 = (a / 2) ^^^ (b / 2) := Nat.xor_div_two
theorem st_xor (a b : Nat) : st (a ^^^ b) = st a ^^^ st b := by
  unfold st
  rw [xor_mod2, xor_div2]
  rcases Nat.mod_two_eq_zero_or_one a with ha | ha <;> rcases Nat.mod_two_eq_zero_or_one b with hb | hb <;> simp only [ha, hb] <;> simp
  · ac_rfl
  · ac_rfl
  · rw [show a / 2 ^^^ 3988292384 ^^^ (b / 2 ^^^ 3988292384) = a / 2 ^^^ b / 2 ^^^ (3988292384 ^^^ 3988292384) from by ac_rfl]; simp
theorem st_lt (c : Nat) (h : c < 2^32) : st c < 2^32 := by
  unfold st
  split
  · exact Nat.xor_lt_two_pow (by omega) (by decide)
  · omega
theorem xor_eq_zero {a b : Nat} (h : a ^^^ b = 0) : a = b := by
  have := congrArg (· ^^^ b) h
  simpa [Nat.xor_assoc] using this
theorem st_inj0 (c : Nat) (h : c < 2^32) (h0 : st c = 0) : c = 0 := by
  unfold st at h0
  split at h0
  · have := xor_eq_zero h0
    omega
  · omega
/-- eight steps -/
def F (c : Nat) : Nat := st (st (st (st (st (st (st (st c)))))))
theorem F_xor (a b : Nat) : F (a ^^^ b) = F a ^^^ F b := by simp only [F, st_xor]
theorem F_lt (c : Nat) (h : c < 2^32) : F c < 2^32 := by
  exact st_lt _ (st_lt _ (st_lt _ (st_lt _ (st_lt _ (st_lt _ (st_lt _ (st_lt _ h)))))))
theorem F_inj0 (c : Nat) (h : c < 2^32) (h0 : F c = 0) : c = 0 := by
  have h1 := st_lt _ h; have h2 := st_lt _ h1; have h3 := st_lt _ h2; have h4 := st_lt _ h3
  have h5 := st_lt _ h4; have h6 := st_lt _ h5; have h7 := st_lt _ h6
  exact st_inj0 _ h (st_inj0 _ h1 (st_inj0 _ h2 (st_inj0 _ h3 (st_inj0 _ h4 (st_inj0 _ h5 (st_inj0 _ h6 (st_inj0 _ h7 h0)))))))
theorem st_even (c : Nat) : st (2 * c) = c := by unfold st; rw [if_neg (by omega)]; omega
theorem F_shift (c : Nat) : F (256 * c) = c := by
  unfold F
  rw [show 256 * c = 2 * (128 * c) from by omega, st_even, show 128 * c = 2 * (64 * c) from by omega, st_even, show 64 * c = 2 * (32 * c) from by omega, st_even, show 32 * c = 2 * (16 * c) from by omega, st_even, show 16 * c = 2 * (8 * c) from by omega, st_even, show 8 * c = 2 * (4 * c) from by omega, st_even, show 4 * c = 2 * (2 * c) from by omega, st_even, st_even]
theorem split256 (c : Nat) : c = (c % 256) ^^^ (256 * (c / 256)) := by
  apply Nat.eq_of_testBit_eq
  intro i
  rw [Nat.testBit_xor, show (256 : Nat) = 2 ^ 8 from rfl, Nat.testBit_mod_two_pow, Nat.testBit_two_pow_mul, Nat.testBit_div_two_pow]
  by_cases hi : i < 8
  · simp [hi]; rw [decide_eq_false (by omega)]; simp
  · simp [hi]
    rw [show i - 8 + 8 = i from by omega, decide_eq_true (by omega : 8 ≤ i)]; simp
/-- the byte step by table -/
theorem F_table (c : Nat) : F c = F (c % 256) ^^^ (c / 256) := by
  conv => lhs; rw [split256 c, F_xor, F_shift]
def run (c : Nat) (l : List Nat) : Nat := l.foldl (fun c x => F (c ^^^ x)) c
theorem run_nil (c : Nat) : run c [] = c := rfl
theorem run_cons (c x : Nat) (l : List Nat) : run c (x :: l) = run (F (c ^^^ x)) l := rfl
theorem run_app (c : Nat) (l m : List Nat) : run c (l ++ m) = run (run c l) m := by unfold run; rw [List.foldl_append]
theorem run_lt (l : List Nat) (hl : ∀ x ∈ l, x < 256) : ∀ c, c < 2^32 → run c l < 2^32 := by
  induction l with
  | nil => intro c h; exact h
  | cons x l ih =>
    intro c h
    rw [run_cons]
    exact ih (fun y hy => hl y (List.mem_cons_of_mem _ hy)) _ (F_lt _ (Nat.xor_lt_two_pow h (by have := hl x (List.mem_cons_self); omega)))
/-- states apart over the same bytes stay apart -/
theorem run_inj (l : List Nat) (hl : ∀ x ∈ l, x < 256) : ∀ c d, c < 2^32 → d < 2^32 → run c l = run d l → c = d := by
  induction l with
  | nil => intro c d _ _ h; exact h
  | cons x l ih =>
    intro c d hc hd h
    have hx : x < 2^32 := by have := hl x (List.mem_cons_self); omega
    rw [run_cons, run_cons] at h
    have h1 := ih (fun y hy => hl y (List.mem_cons_of_mem _ hy)) _ _ (F_lt _ (Nat.xor_lt_two_pow hc hx)) (F_lt _ (Nat.xor_lt_two_pow hd hx)) h
    have h2 : F ((c ^^^ x) ^^^ (d ^^^ x)) = 0 := by rw [F_xor, h1, Nat.xor_self]
    have h3 := F_inj0 _ (Nat.xor_lt_two_pow (Nat.xor_lt_two_pow hc hx) (Nat.xor_lt_two_pow hd hx)) h2
    have h4 := xor_eq_zero h3
    have h5 := congrArg (· ^^^ x) h4
    simpa [Nat.xor_assoc] using h5
/-- the difference of two states over two lists of bytes -/
def dif (l m : List Nat) : List Nat := List.zipWith (· ^^^ ·) l m
theorem run_dif (l : List Nat) : ∀ (m : List Nat) (c d : Nat), l.length = m.length → run c l ^^^ run d m = run (c ^^^ d) (dif l m) := by
  induction l with
  | nil => intro m c d h; cases m with
    | nil => rfl
    | cons => simp at h
  | cons x l ih => intro m c d h; cases m with
    | nil => simp at h
    | cons y m =>
      rw [run_cons, run_cons, ih m _ _ (by simpa using h), ← F_xor]
      show _ = run (F ((c ^^^ d) ^^^ (x ^^^ y))) (dif l m)
      rw [show (c ^^^ x) ^^^ (d ^^^ y) = (c ^^^ d) ^^^ (x ^^^ y) from by ac_rfl]
def val : List Nat → Nat
  | [] => 0
  | d :: l => d ^^^ (256 * val l)
theorem val_lt (l : List Nat) (hl : ∀ x ∈ l, x < 256) : val l < 256 ^ l.length := by
  induction l with
  | nil => exact Nat.one_pos
  | cons x l ih =>
    have h1 := ih (fun y hy => hl y (List.mem_cons_of_mem _ hy))
    have hx := hl x (List.mem_cons_self)
    show x ^^^ (256 * val l) < 256 ^ (l.length + 1)
    rw [show (256 : Nat) = 2 ^ 8 from rfl, ← Nat.pow_mul] at *
    apply Nat.xor_lt_two_pow
    · exact Nat.lt_of_lt_of_le hx (Nat.pow_le_pow_right (by decide) (by omega))
    · rw [show 8 * (l.length + 1) = 8 + 8 * l.length from by omega, Nat.pow_add]
      exact Nat.mul_lt_mul_of_pos_left h1 (by decide)
theorem F_back (y v : Nat) (hy : y < 2^32) (hv : v < 2^24) (h : F y = v) : y = 256 * v := by
  have h2 : F (y ^^^ (256 * v)) = 0 := by rw [F_xor, F_shift, h, Nat.xor_self]
  exact xor_eq_zero (F_inj0 _ (Nat.xor_lt_two_pow hy (by omega)) h2)
theorem run_zero (l : List Nat) (hl : ∀ x ∈ l, x < 256) : ∀ c, c < 2^32 → l.length ≤ 4 → run c l = 0 → c = val l := by
  induction l with
  | nil => intro c _ _ h; exact h
  | cons x l ih =>
    intro c hc h4 h
    have hx := hl x (List.mem_cons_self)
    have hl' : ∀ y ∈ l, y < 256 := fun y hy => hl y (List.mem_cons_of_mem _ hy)
    have hlen : l.length ≤ 3 := by simpa using h4
    have hb := Nat.xor_lt_two_pow hc (show x < 2^32 by omega)
    have h1 := ih hl' _ (F_lt _ hb) (by omega) (by rw [run_cons] at h; exact h)
    have hv : val l < 2^24 := Nat.lt_of_lt_of_le (val_lt l hl') (Nat.le_trans (Nat.pow_le_pow_right (by decide) hlen) (by decide))
    have h2 := F_back _ _ hb hv h1
    have h5 := congrArg (· ^^^ x) h2
    show c = x ^^^ (256 * val l)
    rw [Nat.xor_comm x]
    simpa [Nat.xor_assoc] using h5
theorem val_zero (l : List Nat) (hl : ∀ x ∈ l, x < 256) (h : val l = 0) : ∀ x ∈ l, x = 0 := by
  induction l with
  | nil => intro x hx; cases hx
  | cons y l ih =>
    have hy := hl y (List.mem_cons_self)
    have h1 : y = 256 * val l := xor_eq_zero h
    have h2 := ih (fun y hy => hl y (List.mem_cons_of_mem _ hy)) (by omega)
    intro x hx
    rcases List.mem_cons.1 hx with rfl | hx
    · omega
    · exact h2 x hx
theorem dif_zero (l : List Nat) : ∀ m, l.length = m.length → (∀ x ∈ dif l m, x = 0) → l = m := by
  induction l with
  | nil => intro m h _; cases m with
    | nil => rfl
    | cons => simp at h
  | cons x l ih => intro m h hz; cases m with
    | nil => simp at h
    | cons y m =>
      have h1 := xor_eq_zero (hz (x ^^^ y) (List.mem_cons_self))
      have h2 := ih m (by simpa using h) (fun z hz' => hz z (List.mem_cons_of_mem _ hz'))
      rw [h1, h2]
theorem dif_lt (l : List Nat) : ∀ m, (∀ x ∈ l, x < 256) → (∀ x ∈ m, x < 256) → ∀ x ∈ dif l m, x < 256 := by
  induction l with
  | nil => intro m _ _ x hx; simp [dif] at hx
  | cons a l ih => intro m h1 h2 x hx; cases m with
    | nil => simp [dif] at hx
    | cons b m =>
      rcases List.mem_cons.1 hx with rfl | hx
      · exact Nat.xor_lt_two_pow (n := 8) (h1 a (List.mem_cons_self)) (h2 b (List.mem_cons_self))
      · exact ih m (fun y hy => h1 y (List.mem_cons_of_mem _ hy)) (fun y hy => h2 y (List.mem_cons_of_mem _ hy)) x hx
theorem dif_len (l m : List Nat) (h : l.length = m.length) : (dif l m).length = l.length := by simp [dif, h]
/-- at most four neighbours are others: the sums are alike just where they are -/
theorem turned (c : Nat) (hc : c < 2^32) (p l m s : List Nat) (hp : ∀ x ∈ p, x < 256) (hl : ∀ x ∈ l, x < 256) (hm : ∀ x ∈ m, x < 256) (hs : ∀ x ∈ s, x < 256)
    (hlm : l.length = m.length) (h4 : l.length ≤ 4) (h : run c (p ++ l ++ s) = run c (p ++ m ++ s)) : l = m := by
  rw [run_app, run_app, run_app c (p ++ m), run_app c p m] at h
  have hc' := run_lt p hp c hc
  have h1 := run_inj s hs _ _ (run_lt l hl _ hc') (run_lt m hm _ hc') h
  have h2 : run 0 (dif l m) = 0 := by
    have := run_dif l m (run c p) (run c p) hlm
    rw [h1, Nat.xor_self, Nat.xor_self] at this
    exact this.symm
  have h3 := run_zero (dif l m) (dif_lt l m hl hm) 0 (by decide) (by rw [dif_len l m hlm]; exact h4) h2
  exact dif_zero l m hlm (val_zero _ (dif_lt l m hl hm) h3.symm)
/-- three texts of one length -/
theorem run3 (a b c : List Nat) (i j k : Nat) (h1 : a.length = b.length) (h2 : a.length = c.length) :
    run (i ^^^ j ^^^ k) (dif (dif a b) c) = run i a ^^^ run j b ^^^ run k c := by
  rw [← run_dif (dif a b) c (i ^^^ j) k (by rw [dif_len a b h1]; exact h2), ← run_dif a b i j h1]
end Go.Proofs.Ytkgdmbddenfkpaa.CrcM
