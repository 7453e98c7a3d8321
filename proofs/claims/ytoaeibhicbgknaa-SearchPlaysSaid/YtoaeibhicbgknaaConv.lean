/- '[]byte(s)' of a string that is no constant: a row of bytes that is read (shared); no program. -/
import Derived.Test.YtoaeibhicbgknaaWMore
import Derived.Test.YtoaeibhicbgknaaWLast
import Derived.Lib.ConvBytes
import Derived.Laws.AppendOwn
import Derived.Lib.AppendStr
namespace Go.Proofs.YtoaeibhicbgknaaW.PrintWords
open Go.RowKit
namespace Kd
/-- the row that '[]byte(s)' makes: its bytes, which lie in the new block -/
theorem bytes_V (W : World) (e base : Nat) (s : ByteArray) (hs : s.size ≤ 9223372036854775807) :
    V (Kd.int .u8) e (Lib.bytesWorld W e s) base (fun k => W.heap.size ≤ k) (.slice (some ⟨W.heap.size, 0, none⟩) s.size (grownCap W s.size 0 e)) (bytesOf s) := by
  refine ⟨some ⟨W.heap.size, 0, none⟩, grownCap W s.size 0 e, by rw [bytesOf_length], by rw [bytesOf_length]; exact grownCap_ge _ _ _ _, fun W' hW => ?_⟩
  have hb := hW W.heap.size (Nat.le_refl _) (by rw [Lib.bytesWorld_size]; omega)
  rw [bytesOf_length]
  refine C_of_reads (d := (0 : Int)) (h1 := fun _ => rfl) ⟨bytesOf_length s, hs, fun hp => ⟨_, rfl, fun j hj => ?_⟩⟩
  obtain ⟨ad, hA, hc⟩ := (bytes_reads W e s hs).2.2 hp
  injection hA with hA
  subst hA
  have h2 := hc j hj
  rw [add_plain] at h2 ⊢
  rw [← h2]
  simp only [World.cell?, hb]
section
variable {P : Program} {ops : Array Oper} {rest : List Oper} {o : Oper} {a : Act} {Q : Exit → Act → World → Prop} {Kc : Act → World → Prop}
theorem conv_grown (W : World) (e : TypeId) (s : ByteArray) : W.grownBy (Lib.bytesWorld W e s) none :=
  ⟨rfl, rfl, rfl, by rw [Lib.bytesWorld_size]; omega, fun i hi _ => Lib.bytesWorld_at_old W e s i hi⟩
theorem V_conv {w0 W : World} (base e : Nat) (hgd : o.guard = none) {N : Tmp} (_hd : o.dst = some N) (src dst : TypeId) (x : Operand) (s : ByteArray) (ho : o.op = .convert src dst x) (hx : a.eval x = .string s)
    (hs : P.underlying src = some .string) (hdt : P.underlying dst = some (.slice e)) (he : P.underlying e = some (.int .u8)) (hsz : s.size ≤ 9223372036854775807) (HB : Below base w0 W) (hbase : base ≤ W.heap.size)
    (h : ∀ v1 w1, V (Kd.int .u8) e w1 base (fun k => W.heap.size ≤ k) v1 (bytesOf s) → Below base w0 w1 → W.grownBy w1 none → (∃ b, v1.ownBlock = some b ∧ W.heap.size ≤ b) → wpList P ops Q rest (a.put o.dst v1) w1) : wpList P ops Q (o :: rest) a W :=
  event_run hgd (w1 := Lib.bytesWorld W e s) (by simp [execOp, ho, hx, print_bytes src dst e hs hdt he s W]) (h _ _ (bytes_V W e base s hsz) (bytes_below HB hbase e s) (conv_grown W e s) ⟨W.heap.size, by simp [Value.ownBlock], Nat.le_refl _⟩)
end
end Kd
end Go.Proofs.YtoaeibhicbgknaaW.PrintWords
