/- '[]byte(s)' of a string that is no constant: a row of bytes that is read (shared); no program. -/
import Derived.Test.YtmaefdeigienjaaWMore
import Derived.Test.YtmaefdeigienjaaWLast
import Derived.Lib.ConvBytes
import Derived.Laws.AppendOwn
import Derived.Lib.AppendStr
namespace Go.Proofs.YtmaefdeigienjaaW.PrintWords
open Go.RowKit
namespace Kd
theorem C_cast {α : Type} {d : Kd α} {W : World} {A : Option Addr} {n m : Nat} {xs : List α} (e : n = m) (h : d.C W A n xs) : d.C W A m xs := e ▸ h
/-- the row that '[]byte(s)' makes: its bytes, which lie in the new block -/
theorem bytes_V (W : World) (e base : Nat) (s : ByteArray) (hs : s.size ≤ 9223372036854775807) :
    V (Kd.int .u8) e (Lib.bytesWorld W e s) base (fun k => W.heap.size ≤ k) (.slice (some ⟨W.heap.size, 0, none⟩) s.size (grownCap W s.size 0 e)) (bytesOf s) := by
  refine ⟨some ⟨W.heap.size, 0, none⟩, grownCap W s.size 0 e, by rw [bytesOf_length], by rw [bytesOf_length]; exact grownCap_ge _ _ _ _, fun W' hW => ?_⟩
  have hb := hW W.heap.size (Nat.le_refl _) (by rw [Lib.bytesWorld_size]; omega)
  rw [bytesOf_length]
  refine C_of_reads (d := (0 : Int)) (h1 := fun _ => rfl) ⟨bytesOf_length s, hs, fun hp => ⟨_, rfl, fun j hj => ?_⟩⟩
  obtain ⟨ad, hA, hc⟩ := (bytes_reads W e s hs).2.2 hp
  injection hA with hA
  subst hA
  have h2 := hc j hj
  rw [add_plain] at h2 ⊢
  rw [← h2]
  simp only [World.cell?, hb]
section
variable {P : Program} {ops : Array Oper} {rest : List Oper} {o : Oper} {a : Act} {Q : Exit → Act → World → Prop} {Kc : Act → World → Prop}
theorem conv_grown (W : World) (e : TypeId) (s : ByteArray) : W.grownBy (Lib.bytesWorld W e s) none :=
  ⟨rfl, rfl, rfl, by rw [Lib.bytesWorld_size]; omega, fun i hi _ => Lib.bytesWorld_at_old W e s i hi⟩
theorem V_conv_step {w0 W : World} (base e : Nat) (hw : Region.wanted o (yielded ops a.tmps) = true) {N : Tmp} (_hd : o.dst = some N) (src dst : TypeId) (x : Operand) (s : ByteArray) (ho : o.op = .convert src dst x) (hx : a.eval x = .string s)
    (hs : P.underlying src = some .string) (hdt : P.underlying dst = some (.slice e)) (he : P.underlying e = some (.int .u8)) (hsz : s.size ≤ 9223372036854775807) (HB : Below base w0 W) (hbase : base ≤ W.heap.size)
    (h : ∀ v1 w1, V (Kd.int .u8) e w1 base (fun k => W.heap.size ≤ k) v1 (bytesOf s) → Below base w0 w1 → W.grownBy w1 none → (∃ b, v1.ownBlock = some b ∧ W.heap.size ≤ b) → Kc (a.put o.dst v1) w1) :
    if Region.wanted o (yielded ops a.tmps) = true then Oper.wp P o a W Kc Q else Kc (a.put o.dst undef) W :=
  event_step hw (w1 := Lib.bytesWorld W e s) (by simp [execOp, ho, hx, print_bytes src dst e hs hdt he s W]) (h _ _ (bytes_V W e base s hsz) (bytes_below HB hbase e s) (conv_grown W e s) ⟨W.heap.size, by simp [Value.ownBlock], Nat.le_refl _⟩)
/-- append(v, y...), y a string: where the row lies, too -/
theorem run_append_str_at (w : World) (base : Nat) (t u ty e : TypeId) (i : TypeInfo) (ht : P.underlying t = some (.slice e)) (hu : P.underlying u = some .string) (hi : P.info? e = some i) (hz : i.zero = some (.int .u8 0))
    (hsize : i.size = 1) (hby : i.bytes = 1) (v : Value) (n : Nat) (xs : List Value) (hown : w.ownsRow base e 1 v n xs) (s : ByteArray) (hbytes : n + s.size ≤ 140737488355328) (hbase : base ≤ w.heap.size) :
    ∃ v' w', (Builtin.append_ #[t, u] ty #[v, .string s]).run P w = .ok v' w' ∧ w'.ownsRow base e 1 v' (n + s.size) (xs ++ Lib.strCells s) ∧ w.grownBy w' v.ownBlock ∧ (v'.ownBlock = v.ownBlock ∨ v'.ownBlock = some w.heap.size) := by
  obtain ⟨v', w', hr, h2, h3, h4⟩ := Lib.run_append_own_string (P := P) w base t u ty e i ht hu hi hz hsize hby v n xs hown s (by simp only [maxLen]; omega) hbytes hbase
  refine ⟨v', w', hr, h2, h3, ?_⟩
  rcases hown.2 with ⟨rfl, hn⟩ | ⟨g, cap, cur, rfl, hbg, hg, hnc, hcm, hcs, htake⟩
  · by_cases hm : s.size = 0
    · rw [h4.2 ⟨rfl, hm⟩]; exact .inl rfl
    · subst hn
      have hr2 := run_append_nil_string (P := P) w t u ty e i (.int .u8 0) ht hu hi hz s (by omega) (by omega) (by rw [hby]; omega)
      rw [hr] at hr2
      injection hr2 with hv hw
      subst hv
      exact .inr (by simp [Value.ownBlock])
  · by_cases hroom : n + s.size ≤ cap
    · have hcs' : cur.size = cap := by simpa using hcs
      have hr2 := Lib.run_append_room_string (P := P) w t u ty e i ht hu hi hsize g n cap cur hg s hroom (by omega)
      rw [hr] at hr2
      injection hr2 with hv hw
      subst hv
      exact .inl (by simp [Value.ownBlock])
    · have hxl : xs.length = n := by simpa using hown.1
      have holds : ∀ j u, xs[j]? = some u → w.cell? ((⟨g, 0, none⟩ : Addr).add j) = some u := hown.cells (g := g) rfl
      have hr2 := Lib.run_append_grow_string (P := P) w t u ty e i (.int .u8 0) ht hu hi hz ⟨g, 0, none⟩ n cap xs (by rw [hsize]; simpa using hxl) holds s (by omega) (by omega) (by rw [hby]; exact growslice_fits (by omega) (by omega))
      rw [hr] at hr2
      injection hr2 with hv hw
      subst hv
      exact .inr (by simp [Value.ownBlock])
theorem append_str_row {W w1 : World} {base e : Nat} {ok : Nat → Prop} {v v1 : Value} {xs : List Int} {y : ByteArray} (HO : (Kd.int .u8).R e W base ok v xs) (hfresh : ∀ k, W.heap.size ≤ k → ok k)
    (h2 : w1.ownsRow base e 1 v1 (xs.length + y.size) (nums .u8 xs ++ Lib.strCells y)) (hat : v1.ownBlock = v.ownBlock ∨ v1.ownBlock = some W.heap.size) : (Kd.int .u8).R e w1 base ok v1 (xs ++ bytesOf y) := by
  have hl2 : (xs ++ bytesOf y).length = xs.length + y.size := by rw [List.length_append, bytesOf_length]
  have hc : encs (Value.int .u8) (xs ++ bytesOf y) = nums .u8 xs ++ Lib.strCells y := by
    rw [encs_append]
    congr 1
    simp [encs, bytesOf, Lib.strCells]
  refine R_of_own (h1 := fun _ => rfl) (by rw [hl2, hc]; exact h2) (fun k hk => ?_)
  rcases hat with hat | hat
  · exact HO.1 k (hat ▸ hk)
  · rw [hat] at hk
    injection hk with hk
    exact hfresh k (by omega)
theorem R_append_str {w0 W : World} (base : Nat) (hgd : o.guard = none) (s x : Operand) (t u e : TypeId)
    (ho : o.op = .call { callee := .builtin .append, args := #[s, x], argTypes := #[t, u] })
    (ht : P.underlying t = some (.slice e)) (hu : P.underlying u = some .string) (hinfo : (P.info? e).map (fun i => (i.zero, i.size, i.bytes)) = some (some (.int .u8 0), 1, 1))
    (v : Value) (xs : List Int) (y : ByteArray) (ok : Nat → Prop) (hs : a.eval s = v) (hx : a.eval x = .string y)
    (HO : (Kd.int .u8).R e W base ok v xs) (hfresh : ∀ k, W.heap.size ≤ k → ok k) (HB : Below base w0 W) (hbase : base ≤ W.heap.size) (hl : xs.length + y.size ≤ 140737488355328)
    (h : ∀ v1 w1, (Kd.int .u8).R e w1 base ok v1 (xs ++ bytesOf y) → Below base w0 w1 → W.grownBy w1 v.ownBlock → (v1.ownBlock = v.ownBlock ∨ ∃ b, v1.ownBlock = some b ∧ W.heap.size ≤ b) → wpList P ops Q rest (a.put o.dst v1) w1) :
    wpList P ops Q (o :: rest) a W := by
  obtain ⟨i0, hi, hzz⟩ := Option.map_eq_some_iff.1 hinfo
  simp only [Prod.mk.injEq] at hzz
  obtain ⟨hz0, hz1, hz2⟩ := hzz
  have hown := own_of_R HO
  obtain ⟨v', w', hr, h2, hg, hat⟩ := run_append_str_at (P := P) W base t u o.type e i0 ht hu hi hz0 hz1 hz2 v xs.length (nums .u8 xs) hown y hl hbase
  refine wpList_plain hgd fun K hK => ?_
  unfold Oper.wp execOp
  simp only [ho, resolve, invoke, builtin, Sem.run_bind, Sem.run_pure, Result.andThen_ok, List.map_toArray, List.map_cons, List.map_nil, hs, hx, hr]
  exact hK _ _ (h v' w' (append_str_row HO hfresh h2 hat) (HB.grown hg hbase (own_base hown)) hg (hat.imp id (fun h => ⟨_, h, Nat.le_refl _⟩)))
end
end Kd
end Go.Proofs.YtmaefdeigienjaaW.PrintWords
