/- slices.IndexFunc and slices.DeleteFunc at the closure of hist.Clip (function 12), whatever that one tells: at every row of strings; the closure may make memory. -/
import Derived.Test.YtmffdnedakfigaaDoorProg
import Derived.Test.YtmffdnedakfigaaDoorWMore
import Derived.Lib.SlBy
import Derived.Lib.SlKept
import Derived.Lib.SliceRun
import Derived.Lib.SlicesCompact
import Derived.Shelf.SlicesE.Kit
import Derived.Sort.WalkB12
import Derived.Deep.LoopGhost
import Derived.Deep.Draws
import Derived.WalkKit
import Derived.Below
namespace Go.Proofs.YtmffdnedakfigaaDoor.Pre
open Go.RowKit Go.Lib Go.Sort
theorem holds_below {w w' : World} {b off : Nat} {d : Array ByteArray} (h : Holds Value.string w b off d) (hb : b < w.heap.size) (hw : Below w.heap.size w w') : Holds Value.string w' b off d :=
  fun j hj => ⟨(hw.cell (p := ⟨b, off + j, none⟩) hb).trans (h j hj).1, by
    have e := hw.block b hb
    have f := (h j hj).2
    simp only [World.frozen?] at f ⊢
    rw [e]; exact f⟩
theorem below_putRow {B b off : Nat} {a w : World} {d : Array ByteArray} (h : Below B a w) (hB : B ≤ b) : Below B a (putRow Value.string w b off d) := by
  refine ⟨h.os, h.tape, h.output, by rw [size_putRow]; exact h.size, fun j hj => ?_⟩
  rw [← h.block j hj]
  have hne : b ≠ j := by omega
  simp [putRow, mapBlock, Array.getElem?_modify, hne]
theorem holds_set {w : World} {b off i : Nat} {d : Array ByteArray} {u : ByteArray} (h : Holds Value.string w b off d) (hi : i < d.size) : Holds Value.string (w.setCell ⟨b, off + i, none⟩ (.string u)) b off (d.setIfInBounds i u) := by
  have e := putRow_set Value.string w b off d i u hi
  rw [putRow_self Value.string w b off d h] at e
  rw [e]
  exact holds_putRow Value.string w b off d _ h (by simp)
/-- what slices.IndexFunc tells -/
def Idx (p : ByteArray → Bool) (d : Array ByteArray) (r : Int) : Prop :=
  (r = -1 ∧ ∀ j, j < d.size → p d[j]! = false) ∨ ∃ k, k < d.size ∧ r = ((k : Nat) : Int) ∧ p d[k]! = true ∧ ∀ j, j < k → p d[j]! = false
set_option maxHeartbeats 4000000 in
set_option maxRecDepth 100000 in
theorem idx_calls (p : ByteArray → Bool) (d : Array ByteArray) (b off c : Nat) (w : World) (hb : b < w.heap.size)
    (hp : ∀ (W : World) (j : Nat), j < d.size → Below b w W → Calls Tryd.prog 12 #[.string d[j]!] W fun e w' => e = .returned (.bool (p d[j]!)) ∧ Below W.heap.size W w')
    (hbig : d.size ≤ 1000000) (hH : Holds Value.string w b off d) :
    Calls Tryd.prog 18 #[.slice (some ⟨b, off, none⟩) d.size c, .func (.func 12) #[] #[]] w fun e w' => (∃ r, e = .returned (.int .i64 r) ∧ Idx p d r) ∧ Below w.heap.size w w' := by
  go_enter Tryd.func18, Tryd.ntmps18
  go_wp2
  go_loopg [5, 8] d.size (fun gg _ s8 wr => ∃ kk : Nat, kk ≤ d.size ∧ d.size - kk ≤ gg ∧ s8 = .int .i64 kk ∧ Below w.heap.size w wr ∧ Aside (∀ j, j < kk → p d[j]! = false))
  case atStart => exact ⟨0, Nat.zero_le _, by omega, rfl, Below.refl _ _, fun j hj => absurd hj (Nat.not_lt_zero _)⟩
  case round =>
    obtain ⟨kk, hkk, hg, rfl, hbw, A⟩ := hrel
    by_cases hlt : kk < d.size
    · have hltz : (kk : Int) < (d.size : Int) := by omega
      have hcell : wr.cell? ⟨b, off + kk, none⟩ = some (.string d[kk]!) := (holds_below hH hb hbw kk hlt).1
      have hcall := hp wr kk hlt (hbw.mono (Nat.le_of_lt hb))
      clear hH hp
      generalize hy : d[kk]! = y at hcell hcall
      have B : Aside (d[kk]! = y) := hy
      clear hy
      cases hq : p y with
      | true =>
        rw [hq] at hcall
        go_wp2_with (go_at_call 12; refine hcall.mono ?_; rintro e w' ⟨rfl, hbc⟩)
        go_ret
        refine ⟨⟨_, rfl, .inr ⟨kk, hlt, rfl, by rw [B.out]; exact hq, A.out⟩⟩, hbw.trans (hbc.mono hbw.size)⟩
      | false =>
        rw [hq] at hcall
        go_wp2_with (go_at_call 12; refine hcall.mono ?_; rintro e w' ⟨rfl, hbc⟩)
        go_roundg (d.size - (kk + 1))
        case measure => omega
        case rel =>
          refine ⟨kk + 1, by omega, by omega, by go_num, hbw.trans (hbc.mono hbw.size), (show Aside _ from fun j hj => ?_)⟩
          by_cases e : j = kk
          · subst e
            rw [B.out]; exact hq
          · exact A.out j (by omega)
    · have hltz : ¬ (kk : Int) < (d.size : Int) := by omega
      have : kk = d.size := by omega
      subst this
      go_wp2
      go_ret
      exact ⟨⟨_, rfl, .inl ⟨rfl, A.out⟩⟩, hbw⟩
set_option maxHeartbeats 8000000 in
set_option maxRecDepth 100000 in
theorem del_calls (p : ByteArray → Bool) (d : Array ByteArray) (b off c : Nat) (w : World) (hb : b < w.heap.size)
    (hp : ∀ (W : World) (j : Nat), j < d.size → Below b w W → Calls Tryd.prog 12 #[.string d[j]!] W fun e w' => e = .returned (.bool (p d[j]!)) ∧ Below W.heap.size W w')
    (hbig : d.size ≤ 1000000) (hcap : d.size ≤ c) (hH : Holds Value.string w b off d) :
    Calls Tryd.prog 10 #[.slice (some ⟨b, off, none⟩) d.size c, .func (.func 12) #[] #[]] w fun e w' => e = .returned (.slice (some ⟨b, off, none⟩) (d.toList.filter fun x => !p x).length c) ∧ Below b w w' ∧ b < w'.heap.size ∧
      ∀ j, j < (d.toList.filter fun x => !p x).length → w'.cell? ⟨b, off + j, none⟩ = some (.string (d.toList.filter fun x => !p x)[j]!) := by
  have tl : ∀ j, j < d.size → d.toList[j]! = d[j]! := fun j hj => by rw [getElem!_pos d j hj, getElem!_pos d.toList j (by simpa using hj)]; simp
  have hIF := idx_calls p d b off c w hb hp hbig hH
  obtain ⟨kp, HK⟩ : ∃ kp : Nat → Bool, Hid (kp = fun j => !p d[j]!) := ⟨_, rfl⟩
  have hfil : (d.toList.filter fun x => !p x) = keptUpTo kp d d.size := by rw [HK.out]; exact (keptUpTo_filter (fun x => !p x) d).symm
  rw [hfil]
  by_cases hall : ∀ j, j < d.size → p d[j]! = false
  · have hkeep : ∀ j, j < d.size → kp j = true := fun j hj => by rw [HK.out]; show (!p d[j]!) = true; rw [hall j hj]; rfl
    have e3 : keptUpTo kp d d.size = d.toList := by rw [keptUpTo_all kp d _ hkeep, range_map_get]
    have HH : Aside (Holds Value.string w b off d) := hH
    have HA : Aside (∀ j, j < d.size → p d[j]! = false) := hall
    have HT : Aside (∀ j, j < d.size → d.toList[j]! = d[j]!) := tl
    have hIF1 : Calls Tryd.prog 18 #[.slice (some ⟨b, off, none⟩) d.size c, .func (.func 12) #[] #[]] w fun e w' => e = .returned (.int .i64 (-1)) ∧ Below w.heap.size w w' := by
      refine hIF.mono ?_
      rintro e w' ⟨⟨r, rfl, hr⟩, hb1⟩
      refine ⟨?_, hb1⟩
      rcases hr with ⟨h, _⟩ | ⟨k, hk, _, hk2, _⟩
      · rw [h]
      · rw [hall k hk] at hk2; cases hk2
    clear hH hp hall hkeep tl hIF
    go_enter Tryd.func10, Tryd.ntmps10
    go_wp2_with (go_at_call 18; refine hIF1.mono ?_; rintro e w' ⟨rfl, hb1⟩)
    go_ret
    rw [e3]
    refine ⟨by simp, hb1.mono (Nat.le_of_lt hb), Nat.lt_of_lt_of_le hb hb1.size, fun j hj => ?_⟩
    have hj' : j < d.size := by simpa using hj
    rw [(holds_below HH.out hb hb1 j hj').1, HT.out j hj']
  · obtain ⟨k0, hk0', ht, hfst⟩ : ∃ k0, k0 < d.size ∧ p d[k0]! = true ∧ ∀ j, j < k0 → p d[j]! = false := by
      obtain ⟨x, hx⟩ := Classical.not_forall.1 hall
      have hx2 : x < d.size ∧ p d[x]! = true := by
        obtain ⟨h1, h2⟩ := Classical.not_imp.1 hx
        exact ⟨h1, by cases h : p d[x]! with | true => rfl | false => exact absurd h h2⟩
      have key : ∀ n, (∃ k0, k0 < d.size ∧ k0 < n ∧ p d[k0]! = true ∧ ∀ j, j < k0 → p d[j]! = false) ∨ ∀ j, j < n → j < d.size → p d[j]! = false := by
        intro n
        induction n with
        | zero => exact .inr (fun j hj => absurd hj (Nat.not_lt_zero _))
        | succ n ih =>
          rcases ih with ⟨k0, h1, h2, h3, h4⟩ | ih
          · exact .inl ⟨k0, h1, by omega, h3, h4⟩
          · by_cases hn : n < d.size
            · cases hpn : p d[n]! with
              | true => exact .inl ⟨n, hn, by omega, hpn, fun j hj => ih j hj (by omega)⟩
              | false => exact .inr (fun j hj hj2 => by by_cases e : j = n; exact e ▸ hpn; exact ih j (by omega) hj2)
            · exact .inr (fun j hj hj2 => ih j (by omega) hj2)
      rcases key (x + 1) with ⟨k0, h1, _, h3, h4⟩ | h
      · exact ⟨k0, h1, h3, h4⟩
      · rw [h x (by omega) hx2.1] at hx2; cases hx2.2
    have hIF1 : Calls Tryd.prog 18 #[.slice (some ⟨b, off, none⟩) d.size c, .func (.func 12) #[] #[]] w fun e w' => e = .returned (.int .i64 (k0 : Int)) ∧ Below w.heap.size w w' := by
      refine hIF.mono ?_
      rintro e w' ⟨⟨r, rfl, hr⟩, hb1⟩
      refine ⟨?_, hb1⟩
      rcases hr with ⟨_, h⟩ | ⟨k, hk, rfl, hk2, hk3⟩
      · rw [h k0 hk0'] at ht; cases ht
      · have : k = k0 := by
          rcases Nat.lt_trichotomy k k0 with h | h | h
          · rw [hfst k h] at hk2; cases hk2
          · exact h
          · rw [hk3 k0 h] at ht; cases ht
        rw [this]
    have hkeep : ∀ j, j < k0 → kp j = true := fun j hj => by rw [HK.out]; show (!p d[j]!) = true; rw [hfst j hj]; rfl
    have hdrop : kp k0 = false := by rw [HK.out]; show (!p d[k0]!) = false; rw [ht]; rfl
    have hne1 : ((k0 : Int) == -1) = false := beq_eq_false_iff_ne.2 (by omega)
    have HC : Aside (∀ (W : World) (j : Nat), j < d.size → Below b w W → Calls Tryd.prog 12 #[.string d[j]!] W fun e w' => e = .returned (.bool (p d[j]!)) ∧ Below W.heap.size W w') := hp
    have HH : Aside (Holds Value.string w b off d) := hH
    clear hall hfst ht tl hp hH hIF hfil
    go_enter Tryd.func10, Tryd.ntmps10
    go_wp2_with (go_at_call 18; refine hIF1.mono ?_; rintro e w' ⟨rfl, hb1⟩)
    go_loopg [5, 6, 7] d.size (fun gg s5 s6 _ wr => ∃ (i j : Nat) (dk : Array ByteArray), s5 = .int .i64 i ∧ s6 = .int .i64 j ∧ j ≤ d.size ∧ d.size - j ≤ gg ∧ Below b w wr ∧ b < wr.heap.size ∧ Aside (Holds Value.string wr b off dk) ∧ Aside (KeptInv kp d j i dk))
    case atStart => exact ⟨k0, k0 + 1, d, rfl, by go_num, by omega, by omega, hb1.mono (Nat.le_of_lt hb), Nat.lt_of_lt_of_le hb hb1.size, holds_below HH.out hb hb1, KeptInv.start hkeep hdrop⟩
    case round =>
      obtain ⟨i, j, dk, rfl, rfl, hjd, hgg, hbw, hbs, H2, I2⟩ := hrel
      have hI := I2.out
      have hij := hI.lt
      have hds := hI.size
      by_cases hlt : j < d.size
      · have hltz : (j : Int) < (d.size : Int) := by omega
        obtain ⟨cj, _⟩ := H2.out j (by omega)
        rw [hI.high j (by omega)] at cj
        have hcall := HC.out wr j hlt hbw
        clear hI
        have G : Aside (∀ w', Below wr.heap.size wr w' → Holds Value.string w' b off dk) := fun w' h => holds_below H2.out hbs h
        generalize hu : d[j]! = u at cj hcall
        have C : Aside (d[j]! = u) := hu
        clear hu
        cases hq : p u with
        | false =>
          rw [hq] at hcall
          go_wp2_with (go_at_call 12; refine hcall.mono ?_; rintro e w' ⟨rfl, hbc⟩; obtain ⟨ci, fi⟩ := G.out w' hbc i (by omega); generalize dk[i]! = old at ci)
          go_roundg (d.size - (j + 1))
          case measure => omega
          case rel =>
            have hHk := G.out _ hbc
            have hbt := hbw.trans (hbc.mono (Nat.le_of_lt hbs))
            refine ⟨i + 1, j + 1, dk.setIfInBounds i u, by go_num, by go_num, by omega, Nat.le_refl _, hbt.setCell (Nat.le_refl _) _, ?_, (show Aside _ from ?_), (show Aside _ from ?_)⟩
            · have := hbc.size
              simp only [World.size_setCell]
              omega
            · exact holds_set hHk (by omega)
            · have := I2.out.keep hlt (by rw [HK.out]; show (!p d[j]!) = true; rw [C.out, hq]; rfl)
              rwa [C.out] at this
        | true =>
          rw [hq] at hcall
          go_wp2_with (go_at_call 12; refine hcall.mono ?_; rintro e w' ⟨rfl, hbc⟩)
          go_roundg (d.size - (j + 1))
          case measure => omega
          case rel => exact ⟨i, j + 1, dk, rfl, by go_num, by omega, Nat.le_refl _, hbw.trans (hbc.mono (Nat.le_of_lt hbs)), Nat.lt_of_lt_of_le hbs hbc.size, G.out _ hbc, I2.out.skip (by rw [HK.out]; show (!p d[j]!) = false; rw [C.out, hq]; rfl)⟩
      · obtain rfl : j = d.size := by omega
        have hltz : ¬ (d.size : Int) < (d.size : Int) := by omega
        have hHk := H2.out
        have hcl : ∀ ty, (Builtin.clear_ #[23] ty #[.slice (some ⟨b, off + i, none⟩) (d.size - i) (c - i)]).run Tryd.prog wr = .ok (.tuple #[]) (wr.setCells b (off + i) (List.replicate (d.size - i) (.string ⟨#[]⟩))) :=
          fun ty => Lib.run_clear_slice wr _ _ ty _ Tryd.underlying23 Tryd.zeroValue9 rfl rfl b (off + i) _ _ (by omega) (fun t ht => by rw [show off + i + t = off + (i + t) by omega, (hHk (i + t) (by omega)).1]; rfl) (fun t ht => by rw [show off + i + t = off + (i + t) by omega]; exact (hHk (i + t) (by omega)).2)
        clear hHk hI
        go_wp2
        go_ret
        have hI := I2.out
        have e0 := putRow_setCells Value.string wr b off (List.replicate (d.size - i) ⟨#[]⟩) dk i (by simp; omega)
        rw [putRow_self Value.string wr b off dk H2.out, List.map_replicate, hI.done ⟨#[]⟩] at e0
        rw [e0]
        refine ⟨by rw [hI.len]; rfl, below_putRow hbw (Nat.le_refl _), by rw [size_putRow]; exact hbs, fun q hq => ?_⟩
        have hlen := hI.len
        have hsz : ((keptUpTo kp d d.size ++ List.replicate (d.size - i) (⟨#[]⟩ : ByteArray)).toArray).size = dk.size := by simp; omega
        have := cell?_putRow Value.string wr b off dk _ H2.out hsz q (by rw [hsz]; omega)
        rw [this]
        congr 2
        rw [getElem!_pos _ q (by simp; omega)]
        simp [List.getElem_append_left hq, List.getElem?_eq_getElem hq]
end Go.Proofs.YtmffdnedakfigaaDoor.Pre
