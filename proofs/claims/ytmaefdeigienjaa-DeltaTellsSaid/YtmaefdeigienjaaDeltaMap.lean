/- A map of slices that the call has made: 'm[k] = append(m[k], v)' as the translation has it (an entry, then the entry's store); no program. -/
import Derived.Maps.OwnRows
import Derived.Maps.Views
import Derived.Maps.GroupsBeside
import Derived.WideKeyEntry
import Derived.OwnWalk
namespace Go.Proofs.Ytmaefdeigienjaa.DeltaM
open Go Go.Maps Go.WideElems Go.MapKept Go.RowKit
open Go.ChangeMaps (setBlock heap_setBlock_same heap_setBlock_other modify_eq_set)
open Go.ChangeShapes (lits)

theorem heap_set_at {w : World} {b : Nat} {o : Obj} (hb : b < w.heap.size) : (setBlock w b o).heap[b]? = some o := by
  simp [setBlock, hb]
theorem heap_set_off {w : World} {b : Nat} {o : Obj} {i : Nat} (h : i ≠ b) : (setBlock w b o).heap[i]? = w.heap[i]? := by
  simp only [setBlock]
  rw [Array.getElem?_setIfInBounds_ne (fun e => h e.symm)]
theorem set_set {w : World} {b : Nat} {o o' : Obj} : setBlock (setBlock w b o) b o' = setBlock w b o' := by
  simp [setBlock]
theorem set_grown (w : World) (b : Nat) (o : Obj) : w.grownBy (setBlock w b o) (some b) :=
  ⟨rfl, rfl, rfl, by simp [setBlock], fun i _ h => heap_set_off (fun e => h (by rw [e]))⟩

variable {H : Type} {P : Program} {w : World} {t k E e : TypeId} {q : IntKind} {base b n : Nat} {D : DataW H}

/-- The entry at a key: what lies there; how it reads; and the way back. -/
theorem entry_groups {key : Value} {kl : Lit} (h : w.ownsGroups P k base e q b n D) (L : WideMaps.KeyLaw P k) (ht : P.underlying t = some (.map k E)) (hz : ∀ u : World, (zeroValue E).run P u = .ok (.slice none 0 0) u) (hn : n < maxLen) (hkey : keyOf P k key = some kl) :
    ∃ v zs st we, (Instr.mapEntry t (.map (some b)) key).run P w = .ok (.tuple #[v, goInt st]) we ∧ D.atKey kl .nil = rowDatum q v zs ∧ we.ownsInts base e q v zs ∧ zs.length ≤ n ∧ w.grownBy we (some b) ∧ v.ownBlock ≠ some b ∧ b < base ∧
      ∀ (w1 : World) (v' : Value) (zs' : List Int), we.grownBy w1 v.ownBlock → w1.ownsInts base e q v' zs' → zs'.length ≤ n + 1 → (v'.ownBlock = v.ownBlock ∨ ∃ g, v'.ownBlock = some g ∧ we.heap.size ≤ g) →
        ∃ w2, (Instr.entryStore t (.map (some b)) (goInt st) v').run P w1 = .ok () w2 ∧ w2.ownsGroups P k base e q b (n + 1) (D.put kl (rowDatum q v' zs')) ∧ w1.grownBy w2 (some b) := by
  obtain ⟨v, zs, hrun, hat, hoi, hzl, hback⟩ := h.at (Keyed.of_law L) ht (hz w) hn hkey
  obtain ⟨es, clock, hb, F, hs, hD, hbb, hlen, hap⟩ := h
  have hblt : b < w.heap.size := (Array.getElem?_eq_some_iff.1 hb).1
  obtain ⟨v0, st, es1, clock1, hent, hwho, hst⟩ := entry_then_store L ht hz hb F hkey
  have hv0 : v0 = v := by
    rcases Maps.fit_look false (Keyed.of_law L) ht (hz w) hb F hkey with ⟨hl, hno, _⟩ | ⟨e0, y, hm0, hk0, hl, _, _, _⟩
    · rw [hrun] at hl
      rcases hwho with ⟨e1, he1, hk1, _⟩ | ⟨_, hv⟩
      · exact absurd hk1 (hno e1 he1)
      · rw [hv]; simpa using hl.symm
    · rw [hrun] at hl
      rcases hwho with ⟨e1, he1, hk1, hv1⟩ | ⟨hno, _⟩
      · have : e1 = e0 := by
          obtain ⟨i, hi, ei⟩ := List.getElem_of_mem he1
          obtain ⟨j, hj, ej⟩ := List.getElem_of_mem hm0
          by_cases hij : i = j
          · subst hij; rw [← ei, ← ej]
          · exact absurd (hk1.trans hk0.symm) (other_key F (j := j) (by rw [List.getElem?_eq_getElem hj, ej]) (by rw [List.getElem?_eq_getElem hi, ei]) hij)
        rw [hv1, this]; simpa using hl.symm
      · exact absurd hk0 (hno e0 hm0)
  subst hv0
  have hvb : v0.ownBlock ≠ some b := fun e1 => by
    have := (hoi.1.lt b e1).1
    omega
  have hg1 := set_grown w b (.map es1 clock1)
  refine ⟨v0, zs, st, _, hent, hat, hoi.kept hg1 (by
    cases hx : v0.ownBlock with
    | none => exact .inl rfl
    | some g => exact .inr (fun e1 => hvb (hx.trans e1))), hzl, hg1, hvb, hbb, fun w1 v' zs' hgr hown' hl' hloc => ?_⟩
  have hsz : (setBlock w b (.map es1 clock1)).heap.size = w.heap.size := by simp [setBlock]
  have hb1 : w1.heap[b]? = some (.map es1 clock1) := (hgr.block b (by rw [hsz]; exact hblt) (fun e1 => hvb e1.symm)).trans (heap_set_at hblt)
  obtain ⟨es', clock', hrun1, hrun2⟩ := hst w1 v' hb1
  have hblt1 : b < w1.heap.size := (Array.getElem?_eq_some_iff.1 hb1).1
  -- the world w1 with the map as it was
  obtain ⟨es3, clock3, hrun3, hrun4⟩ : ∃ es3 clock3, (Instr.entryStore t (.map (some b)) (goInt st) v').run P w1 = .ok () (setBlock w1 b (.map es3 clock3)) ∧ (Instr.mapUpdate t (.map (some b)) key v').run P (setBlock w1 b (.map es clock)) = .ok () (setBlock (setBlock w1 b (.map es clock)) b (.map es3 clock3)) := by
    refine ⟨es', clock', hrun1, ?_⟩
    have hbx : (setBlock w1 b (.map es clock)).heap[b]? = some (.map es clock) := heap_set_at hblt1
    have K := Keyed.of_law L
    rcases K.find w hkey es.toList F.keys with ⟨h1, h2⟩ | ⟨j, e0, h1, h2, h3⟩
    · rcases K.find (setBlock w1 b (.map es clock)) hkey es.toList F.keys with ⟨h1', _⟩ | ⟨j', e0', _, h2', h3'⟩
      · simp [Instr.mapUpdate, run_underlying ht, MapKept.run_getObj_map hb, K.check w false hkey, h1, MapKept.run_setObj_map _ hb, Result.andThen] at hrun2
        have e2 : (Obj.map (es.push { key := key, val := v', born := clock }) (clock + 1)) = .map es' clock' := by
          have := congrArg (fun u : World => u.heap[b]?) hrun2
          simpa [setBlock, hblt] using this
        simp [Instr.mapUpdate, run_underlying ht, MapKept.run_getObj_map hbx, K.check _ false hkey, h1', MapKept.run_setObj_map _ hbx, Result.andThen]
        rw [← e2]
        simp [setBlock]
      · exact absurd h3' (h2 e0' (List.mem_of_getElem? h2'))
    · rcases K.find (setBlock w1 b (.map es clock)) hkey es.toList F.keys with ⟨_, h2'⟩ | ⟨j', e0', h1', h2', h3'⟩
      · exact absurd h3 (h2' e0 (List.mem_of_getElem? h2))
      · have hjj : j' = j := by
          by_cases hij : j' = j
          · exact hij
          · exact absurd (h3'.trans h3.symm) (other_key F h2 h2' hij)
        subst hjj
        obtain rfl : e0 = e0' := by rw [h2] at h2'; exact Option.some.inj h2'
        have hj : es[j']? = some e0 := by simpa using h2
        simp [Instr.mapUpdate, run_underlying ht, MapKept.run_getObj_map hb, K.check w false hkey, h1, hj, h3, K.stays w hkey, MapKept.run_setObj_map _ hb, Result.andThen] at hrun2
        have e2 : (Obj.map (es.modify j' fun e => { e with key := key, val := v' }) clock) = .map es' clock' := by
          have := congrArg (fun u : World => u.heap[b]?) hrun2
          simpa [setBlock, hblt] using this
        simp [Instr.mapUpdate, run_underlying ht, MapKept.run_getObj_map hbx, K.check _ false hkey, h1', hj, h3, K.stays _ hkey, MapKept.run_setObj_map _ hbx, Result.andThen]
        rw [← e2]
        simp [setBlock]
  have hown1 : (setBlock w1 b (.map es clock)).ownsInts base e q v' zs' := hown'.kept (set_grown _ _ _) (by
    cases hx : v'.ownBlock with
    | none => exact .inl rfl
    | some g => exact .inr (fun e1 => by
        have := (hown'.1.lt g hx).1
        cases e1
        omega))
  have hgr1 : w.grownBy (setBlock w1 b (.map es clock)) v0.ownBlock := ⟨hgr.os, hgr.tape, hgr.output, by have := hgr.size; simp [setBlock] at this ⊢; exact this, fun i hi hne => by
    by_cases hib : i = b
    · subst hib; rw [heap_set_at hblt1, hb]
    · rw [heap_set_off hib, hgr.block i (by rw [hsz]; exact hi) hne, heap_set_off hib]⟩
  obtain ⟨w2, hrun5, hown2, _⟩ := hback (setBlock w1 b (.map es clock)) v' zs' hgr1 hown1 hl' (hloc.imp id (fun ⟨g, h1, h2⟩ => ⟨g, h1, by rw [hsz] at h2; exact h2⟩))
  rw [hrun4] at hrun5
  obtain rfl : setBlock (setBlock w1 b (.map es clock)) b (.map es3 clock3) = w2 := by simpa using hrun5
  rw [set_set] at hown2
  exact ⟨_, hrun3, hown2, set_grown _ _ _⟩

/-- the entry, at the operation -/
theorem wpList_mapEntry_groups (w : World) {ops : Array Oper} {rest : List Oper} {o : Oper} {a : Act} {Q : Exit → Act → World → Prop}
    (hg : o.guard = none) (m x : Operand) (t : TypeId) (hop : o.op = Op.mapEntry t m x) (k E e : TypeId) (q : IntKind) (L : WideMaps.KeyLaw P k) (ht : P.underlying t = some (.map k E)) (hz : ∀ u : World, (zeroValue E).run P u = .ok (.slice none 0 0) u) (base b n : Nat) (D : DataW H)
    (hm : a.eval m = .map (some b)) (hown : w.ownsGroups P k base e q b n D) (hn : n < maxLen) (key : Value) (kl : Lit) (hx : a.eval x = key) (hkey : keyOf P k key = some kl)
    (hK : ∀ v zs st we, D.atKey kl .nil = rowDatum q v zs → we.ownsInts base e q v zs → zs.length ≤ n → w.grownBy we (some b) →
      (∀ (w1 : World) (v' : Value) (zs' : List Int), we.grownBy w1 v.ownBlock → w1.ownsInts base e q v' zs' → zs'.length ≤ n + 1 → (v'.ownBlock = v.ownBlock ∨ ∃ g, v'.ownBlock = some g ∧ we.heap.size ≤ g) →
        ∃ w2, (Instr.entryStore t (.map (some b)) (goInt st) v').run P w1 = .ok () w2 ∧ w2.ownsGroups P k base e q b (n + 1) (D.put kl (rowDatum q v' zs')) ∧ w1.grownBy w2 (some b)) →
      wpList P ops Q rest (a.put o.dst (.tuple #[v, goInt st])) we) :
    wpList P ops Q (o :: rest) a w := by
  refine wpList_plain hg fun K' hK' => ?_
  obtain ⟨v, zs, st, we, hrun, hat, hoi, hzl, hgr, _, _, hback⟩ := entry_groups hown L ht hz hn hkey
  unfold Oper.wp
  simp [execOp, hop, hm, hx, hrun, Result.andThen]
  exact hK' _ _ (hK v zs st we hat hoi hzl hgr hback)

/-- the entry's store, at the operation -/
theorem wpList_entryStore_groups (w : World) {ops : Array Oper} {rest : List Oper} {o : Oper} {a : Act} {Q : Exit → Act → World → Prop}
    (hg : o.guard = none) (m x v : Operand) (t : TypeId) (hop : o.op = Op.entryStore t m x v) {k e : TypeId} {q : IntKind} {base b n : Nat} {D : DataW H} {kl : Lit} {u v' : Value} {st : Int} {zs' : List Int} {we : World}
    (hback : ∀ (w1 : World) (v' : Value) (zs' : List Int), we.grownBy w1 u.ownBlock → w1.ownsInts base e q v' zs' → zs'.length ≤ n + 1 → (v'.ownBlock = u.ownBlock ∨ ∃ g, v'.ownBlock = some g ∧ we.heap.size ≤ g) →
        ∃ w2, (Instr.entryStore t (.map (some b)) (goInt st) v').run P w1 = .ok () w2 ∧ w2.ownsGroups P k base e q b (n + 1) (D.put kl (rowDatum q v' zs')) ∧ w1.grownBy w2 (some b))
    (hm : a.eval m = .map (some b)) (hx : a.eval x = goInt st) (hv : a.eval v = v')
    (hgr : we.grownBy w u.ownBlock) (hown' : w.ownsInts base e q v' zs') (hl' : zs'.length ≤ n + 1) (hloc : v'.ownBlock = u.ownBlock ∨ ∃ g, v'.ownBlock = some g ∧ we.heap.size ≤ g)
    (hK : ∀ w2, w2.ownsGroups P k base e q b (n + 1) (D.put kl (rowDatum q v' zs')) → w.grownBy w2 (some b) → wpList P ops Q rest (a.put o.dst undef) w2) :
    wpList P ops Q (o :: rest) a w := by
  refine wpList_plain hg fun K' hK' => ?_
  obtain ⟨w2, hrun, r1, r2⟩ := hback w v' zs' hgr hown' hl' hloc
  unfold Oper.wp
  simp [execOp, hop, hm, hx, hv, hrun, Result.andThen]
  exact hK' _ _ (hK w2 r1 r2)

/-- how a list of places reads -/
def dat (zs : List Int) : DataW H := match zs with | [] => .nil | z :: r => .slice (lits .i64 (z :: r)) []
theorem lits_inj {l l' : List Int} (h : (lits (H := H) q l) = lits q l') : l = l' := by
  unfold lits at h
  exact (List.map_inj_right (fun a b hab => by cases hab; rfl)).1 h
theorem dat_row {v : Value} {zs zs' : List Int} (ho : w.ownsInts base e .i64 v zs) (h : dat (H := H) zs' = rowDatum .i64 v zs) : zs = zs' := by
  rcases ho.datum (H := H) with ⟨h1, h2⟩ | h1
  · rw [h1] at h
    cases zs' with
    | nil => exact h2
    | cons z r => cases h
  · rw [h1] at h
    cases zs' with
    | nil => cases h
    | cons z r =>
      simp only [dat] at h
      have h' : lits (H := H) .i64 (z :: r) = lits .i64 zs := by injection h
      exact (lits_inj h').symm
theorem row_dat {v : Value} {zs : List Int} (ho : w.ownsInts base e .i64 v zs) (h : zs ≠ []) : rowDatum (H := H) .i64 v zs = dat zs := by
  rw [ho.datum_pos h]
  cases zs with
  | nil => exact absurd rfl h
  | cons z r => rfl
end Go.Proofs.Ytmaefdeigienjaa.DeltaM
