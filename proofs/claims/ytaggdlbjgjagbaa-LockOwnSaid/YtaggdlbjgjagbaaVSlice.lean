/-
  Slices in the calculus of the base text, whatever the program: what a slice holds, what is owned, append, make, literals, reslicing. No statement of the claim stands here.
-/
import Derived.Test.YtaggdlbjgjagbaaVMem
namespace Go.V
set_option linter.unusedSimpArgs false
set_option linter.unusedVariables false
open Go.RowKit

theorem Cells.app {w : World} {b : Nat} : ∀ {xs ys : List Value} {o : Nat}, Cells w b o (xs ++ ys) ↔ Cells w b o xs ∧ Cells w b (o + xs.length) ys
  | [], ys, o => by simp [Cells]
  | x :: xs, ys, o => by
    simp only [List.cons_append, Cells, Cells.app (xs := xs), List.length_cons, and_assoc]
    rw [show o + 1 + xs.length = o + (xs.length + 1) from by omega]
theorem Cells.lt {w : World} {b o : Nat} {c : Value} {cs : List Value} (h : Cells w b o (c :: cs)) : b < w.heap.size := World.block_lt_of_cell? _ _ h.1

/-- The slice value v has n elements; their cells, one behind the other, are cs, in a block of F. -/
def Sl (F : Nat → Prop) (w : World) (v : Value) (n : Nat) (cs : List Value) : Prop :=
  ∃ ao cap, v = .slice ao n cap ∧ n ≤ cap ∧ cap ≤ maxLen ∧ (cs = [] ∨ ∃ b o, ao = some ⟨b, o, none⟩ ∧ F b ∧ Cells w b o cs)
theorem Sl.up {F W : Nat → Prop} {w w' : World} {v : Value} {n : Nat} {cs : List Value} (h : Sl F w v n cs) (e : Ext W w w') (hd : ∀ b, F b → ¬ W b) : Sl F w' v n cs := by
  obtain ⟨ao, cap, rfl, h1, h2, h3⟩ := h
  refine ⟨ao, cap, rfl, h1, h2, h3.imp id fun ⟨b, o, ha, hF, hc⟩ => ⟨b, o, ha, hF, hc.up e (hd b hF)⟩⟩
theorem Sl.up0 {F : Nat → Prop} {w w' : World} {v : Value} {n : Nat} {cs : List Value} (h : Sl F w v n cs) (e : Ext0 w w') : Sl F w' v n cs := h.up e (fun _ _ h => h)
theorem Sl.mono {F G : Nat → Prop} {w : World} {v : Value} {n : Nat} {cs : List Value} (h : Sl F w v n cs) (hG : ∀ b, b < w.heap.size → F b → G b) : Sl G w v n cs := by
  obtain ⟨ao, cap, rfl, h1, h2, h3⟩ := h
  refine ⟨ao, cap, rfl, h1, h2, ?_⟩
  rcases cs with _ | ⟨c, cs⟩
  · exact .inl rfl
  · rcases h3 with h3 | ⟨b, o, ha, hF, hc⟩
    · cases h3
    · exact .inr ⟨b, o, ha, hG b hc.lt hF, hc⟩
theorem Sl.nil {F : Nat → Prop} {w : World} : Sl F w (.slice none 0 0) 0 [] := ⟨none, 0, rfl, Nat.le_refl _, by simp [maxLen], .inl rfl⟩

/-- The slice value v, of n elements of type E (s cells each), owns its array: block g (none: it is nil). -/
def Own (E : TypeId) (s : Nat) (w : World) (v : Value) (n : Nat) (cs : List Value) (g : Option Nat) : Prop :=
  cs.length = n * s ∧ ((g = none ∧ v = .slice none 0 0 ∧ n = 0) ∨
    ∃ b cap cur, g = some b ∧ v = .slice (some ⟨b, 0, none⟩) n cap ∧ w.heap[b]? = some (.cells cur E (0, 0)) ∧ n ≤ cap ∧ cap ≤ maxLen ∧ cur.size = cap * s ∧ cur.toList.take (n * s) = cs)
theorem Own.nil (E : TypeId) (s : Nat) (w : World) : Own E s w (.slice none 0 0) 0 [] none := ⟨by simp, .inl ⟨rfl, rfl, rfl⟩⟩
theorem Own.up {E : TypeId} {s : Nat} {W : Nat → Prop} {w w' : World} {v : Value} {n : Nat} {cs : List Value} {g : Option Nat} (h : Own E s w v n cs g) (e : Ext W w w') (hd : ∀ b, g = some b → ¬ W b) : Own E s w' v n cs g := by
  refine ⟨h.1, h.2.imp id fun ⟨b, cap, cur, h1, h2, h3, h4⟩ => ⟨b, cap, cur, h1, h2, ?_, h4⟩⟩
  rw [e.block b (Array.getElem?_eq_some_iff.1 h3).1 (hd b h1)]; exact h3
theorem Own.up0 {E : TypeId} {s : Nat} {w w' : World} {v : Value} {n : Nat} {cs : List Value} {g : Option Nat} (h : Own E s w v n cs g) (e : Ext0 w w') : Own E s w' v n cs g := h.up e (fun _ _ h => h)
theorem Own.lt {E : TypeId} {s : Nat} {w : World} {v : Value} {n : Nat} {cs : List Value} {g : Option Nat} (h : Own E s w v n cs g) : ∀ b, g = some b → b < w.heap.size := by
  rintro b rfl
  rcases h.2 with ⟨h, _⟩ | ⟨b', cap, cur, h1, _, h3, _⟩
  · cases h
  · cases h1; exact (Array.getElem?_eq_some_iff.1 h3).1
theorem Own.sl {E : TypeId} {s : Nat} {w : World} {v : Value} {n : Nat} {cs : List Value} {g : Option Nat} (h : Own E s w v n cs g) : Sl (fun b => g = some b) w v n cs := by
  rcases h.2 with ⟨rfl, rfl, rfl⟩ | ⟨b, cap, cur, rfl, rfl, h3, h4, h5, h6, h7⟩
  · have : cs = [] := List.eq_nil_of_length_eq_zero (by simpa using h.1)
    subst this; exact Sl.nil
  · refine ⟨_, cap, rfl, h4, h5, .inr ⟨b, 0, rfl, rfl, Cells.of fun j u hu => ?_⟩⟩
    rw [← h7, List.getElem?_take] at hu
    split at hu
    · rw [cell_of_row w b _ cur E (0, 0) h3]; simpa using hu
    · cases hu
theorem Own.blk {E : TypeId} {s : Nat} {w : World} {b n cap : Nat} {cs : List Value} (hb : Blk w b E cs) (hl : cs.length = n * s) (hn : n ≤ maxLen) (hc : cap = n) : Own E s w (.slice (some ⟨b, 0, none⟩) n cap) n cs (some b) := by
  subst hc
  exact ⟨hl, .inr ⟨b, _, cs.toArray, rfl, rfl, hb, Nat.le_refl _, hn, by simpa using hl, by simp [← hl]⟩⟩

/-- What append takes from: m elements whose cells are news. -/
def Src (P : Program) (s : Nat) (w : World) (x : Value) (m : Nat) (news : List Value) : Prop :=
  news.length = m * s ∧ (∀ u ∈ news, oneC u = true) ∧ (Builtin.lenOf x).run P w = .ok m w ∧
  (Builtin.firstCells s m x).run P w = .ok news.toArray w ∧ (Builtin.firstCells s m x).run P w.drew = .ok news.toArray w.drew
theorem Src.slice {P : Program} {F : Nat → Prop} {s : Nat} {w : World} {v : Value} {m : Nat} {cs : List Value} (h : Sl F w v m cs) (hl : cs.length = m * s) (h1 : ∀ u ∈ cs, oneC u = true) : Src P s w v m cs := by
  obtain ⟨ao, cap, rfl, h2, h3, h4⟩ := h
  refine ⟨hl, h1, by simp [Builtin.lenOf], ?_⟩
  rcases h4 with rfl | ⟨b, o, rfl, hF, hc⟩
  · have hm : m * s = 0 := by simpa using hl.symm
    cases ao with
    | none => exact ⟨by simp [Builtin.firstCells], by simp [Builtin.firstCells]⟩
    | some a => constructor <;> simp [Builtin.firstCells, hm, loadCells, loadCellsFrom]
  · have hg : ∀ j u, cs[j]? = some u → w.cell? ((⟨b, o, none⟩ : Addr).add j) = some u := fun j u hu => by rw [addr_add]; exact hc.get j u hu
    exact ⟨run_firstCells_some (P := P) w s m ⟨b, o, none⟩ m cap cs hl hg, run_firstCells_some (P := P) w.drew s m ⟨b, o, none⟩ m cap cs hl (by simpa using hg)⟩
def u8v (x : UInt8) : Value := .int .u8 x.toNat
theorem Src.string {P : Program} {w : World} (s : ByteArray) : Src P 1 w (.string s) s.size (s.data.toList.map u8v) := by
  have e : ∀ w : World, (Builtin.firstCells 1 s.size (.string s)).run P w = .ok (s.data.toList.map u8v).toArray w := fun w => by
    simp only [Builtin.firstCells, Sem.run_pure]
    congr 1
    apply Array.ext'
    simp [u8v, Function.comp_def]
  refine ⟨by simp, by simp [u8v, oneC], by simp [Builtin.lenOf], e w, e w.drew⟩

theorem oneC' {u : Value} (h : oneC u = true) : u.oneCell' = true := by cases u <;> first | rfl | (simp [oneC] at h)

theorem run_append {P : Program} {w : World} {t u ty E : TypeId} {i : TypeInfo} {z : Value} {s : Nat} (ht : P.underlying t = some (.slice E)) (hu : (∃ E', P.underlying u = some (.slice E')) ∨ P.underlying u = some .string) (hi : P.info? E = some i) (hz : i.zero = some z)
    (hs : i.size = s) (hzs : z.cells.size = s) (hsz : 0 < s) {v x : Value} {n m : Nat} {cs news : List Value} {g : Option Nat} (hv : Own E s w v n cs g) (hx : Src P s w x m news)
    (h63 : n + m ≤ maxLen) (hb : (n + m) * i.bytes ≤ 140737488355328) :
    ∃ v' w' g', (Builtin.append_ #[t, u] ty #[v, x]).run P w = .ok v' w' ∧ Own E s w' v' (n + m) (cs ++ news) g' ∧ Ext (fun b => g = some b) w w' ∧ (∀ b, g' = some b → g = some b ∨ w.heap.size ≤ b) ∧ (v' = .slice none 0 0 ↔ v = .slice none 0 0 ∧ m = 0) := by
  subst hs
  obtain ⟨hl, h1, hlen, hf, hf'⟩ := hx
  have hsmall : n + m ≤ 9223372036854775807 := by simp only [maxLen] at h63; omega
  have hll : (cs ++ news).length = (n + m) * i.size := by rw [List.length_append, hv.1, hl, Nat.add_mul]
  -- a new array
  have grow : ∀ (base : Option Addr) (sCap : Nat), v = .slice base n sCap → sCap < n + m → (Builtin.firstCells i.size n v).run P w.drew = .ok cs.toArray w.drew →
      ∃ v' w' g', (Builtin.append_ #[t, u] ty #[v, x]).run P w = .ok v' w' ∧ Own E i.size w' v' (n + m) (cs ++ news) g' ∧ Ext (fun b => g = some b) w w' ∧ (∀ b, g' = some b → g = some b ∨ w.heap.size ≤ b) ∧ (v' = .slice none 0 0 ↔ v = .slice none 0 0 ∧ m = 0) := by
    intro base sCap e hcap hold
    have hn : ¬ (n + m ≤ sCap) := by omega
    have h63' : ¬ (9223372036854775807 < ((n : Int) + (m : Int))) := by omega
    have hfit := growslice_fits hcap hb
    have h48' : ¬ (281474976710656 < Builtin.nextslicecap (n + m) sCap * i.bytes) := by omega
    have hge := grownCap_ge w (n + m) sCap E
    have hcm := grownCap_le_maxLen w (n + m) sCap E h63
    refine ⟨.slice (some ⟨w.heap.size, 0, none⟩) (n + m) (grownCap w (n + m) sCap E), w.drew.alloc (.cells (cs.toArray ++ news.toArray ++ Builtin.zeroCells z.cells (grownCap w (n + m) sCap E - (n + m))) E), some w.heap.size, ?_, ⟨hll, .inr ⟨w.heap.size, _, _, rfl, rfl, heap_alloc_new w.drew _, hge, hcm, ?_, ?_⟩⟩,
      ⟨rfl, rfl, rfl, by simp, fun k hk _ => Below.heap_alloc w.drew _ k hk⟩, by rintro b ⟨⟩; exact .inr (Nat.le_refl _), ?_⟩
    · subst e
      rcases hu with ⟨E', hD⟩ | hD <;> (simp [Builtin.append_, run_underlying ht, run_underlying hD, sizeOf, typeInfo, zeroValue, hi, hz, hlen, hn, h63', h48', Question.forced, hf', hold, newRow, grownCap]; congr 2; apply Array.ext'; simp [List.append_assoc])
    · simp only [Array.size_append, List.size_toArray, size_zeroCells, hzs, hv.1, hl, ← Nat.add_mul]
      congr 1
      omega
    · simp only [Array.toList_append, List.append_assoc]
      rw [← List.append_assoc, ← hll]
      exact List.take_left
    · constructor
      · intro h; cases h
      · rintro ⟨h, rfl⟩
        rw [e] at h
        cases h
        omega
  rcases hv.2 with ⟨rfl, rfl, rfl⟩ | ⟨b, cap, cur, rfl, rfl, hg, hnc, hcm, hcs, htake⟩
  · have hx : cs = [] := List.eq_nil_of_length_eq_zero (by simpa using hv.1)
    subst hx
    by_cases hm : m = 0
    · subst hm
      have hn : news = [] := List.eq_nil_of_length_eq_zero (by simpa using hl)
      subst hn
      refine ⟨.slice none 0 0, w, none, ?_, Own.nil E _ w, Ext.refl _ w, by rintro b ⟨⟩, by simp⟩
      rcases hu with ⟨E', hD⟩ | hD <;> simp [Builtin.append_, run_underlying ht, run_underlying hD, sizeOf, typeInfo, hi, hlen, hf]
    · exact grow none 0 rfl (by omega) (by simp [Builtin.firstCells])
  · by_cases hroom : n + m ≤ cap
    · have hfit : n * i.size + news.length ≤ cur.size := by rw [hl, hcs, ← Nat.add_mul]; exact Nat.mul_le_mul_right _ hroom
      have hst := run_storeCells_at P b (n * i.size) E news 0 cur w hg (by simpa using hfit) (fun u hu => oneC' (h1 u hu))
      simp only [Nat.add_zero] at hst
      refine ⟨.slice (some ⟨b, 0, none⟩) (n + m) cap, w.setRow b (cur.toList.take (n * i.size) ++ news ++ cur.toList.drop (n * i.size + news.length)).toArray, some b, ?_, ⟨hll, .inr ⟨b, cap, _, rfl, rfl, setRow_heap w b cur _ E _ hg, hroom, hcm, ?_, ?_⟩⟩,
        ⟨rfl, rfl, rfl, by simp, fun k _ hk => setRow_other w b k _ (fun e => hk (by simp [e]))⟩, by rintro b' ⟨⟩; exact .inl rfl, by simp⟩
      · rcases hu with ⟨E', hD⟩ | hD <;> simp [Builtin.append_, run_underlying ht, run_underlying hD, sizeOf, typeInfo, hi, hlen, hroom, hf, addr_add, hst]
      · simp only [List.size_toArray, List.length_append, List.length_take, List.length_drop, Array.length_toList]
        omega
      · rw [htake, ← hll]
        exact List.take_left
    · refine grow _ cap rfl (by omega) ?_
      have hc : ∀ j u, cs[j]? = some u → w.drew.cell? ((⟨b, 0, none⟩ : Addr).add j) = some u := by
        intro j u hj
        rw [addr_add, World.cell?_drew]
        rcases hv.sl with ⟨ao, cap', e1, _, _, e2⟩
        cases e1
        rcases e2 with rfl | ⟨b', o', e3, _, e4⟩
        · simp at hj
        · cases e3; exact e4.get j u hj
      exact run_firstCells_some (P := P) w.drew i.size n ⟨b, 0, none⟩ n cap cs hv.1 hc

theorem made_one (zv : Value) (n : Nat) : ((Array.range n).map (fun j => (#[zv] : Array Value)[j % (#[zv] : Array Value).size]!)) = (List.replicate n zv).toArray := by
  apply Array.ext
  · simp
  · intro i h1 h2
    simp [Nat.mod_one]

section rules
variable {P : Program} {N : Fr} {ops : Array Oper} {rest : List Oper} {Q : EPost} {ρ : Env} {w : World}
variable {d : Nat} {ty T T2 E : TypeId} {pos : String} {af : Array Edge} {x y z : Operand} {k : IntKind} {m n : Int}

/-- append: behind it the new slice owns what it owned and what was appended. -/
theorem r_append {i : TypeInfo} {zv : Value} {s : Nat} {v u : Value} {p q : Nat} {cs news : List Value} {g : Option Nat} (hd : Nat.blt d N.n = true) (ht : P.underlying T = some (.slice E)) (hu : (∃ E', P.underlying T2 = some (.slice E')) ∨ P.underlying T2 = some .string) (hi : P.info? E = some i) (hz : i.zero = some zv)
    (hs : i.size = s) (hzs : zv.cells.size = s) (hsz : Nat.blt 0 s = true) (hx : ev ρ x = v) (hy : ev ρ y = u) (hv : Own E s w v p cs g) (hsrc : Src P s w u q news) (h63 : p + q ≤ maxLen) (hb : (p + q) * i.bytes ≤ 140737488355328)
    (h : ∀ v' w' g', Own E s w' v' (p + q) (cs ++ news) g' → Ext (fun b => g = some b) w w' → (∀ b, g' = some b → g = some b ∨ w.heap.size ≤ b) → (v' = .slice none 0 0 ↔ v = .slice none 0 0 ∧ q = 0) → LW P N ops rest Q (upd ρ d v') w') :
    LW P N ops (⟨some d, .call { callee := .builtin .append, args := #[x, y], argTypes := #[T, T2] }, ty, pos, af, none⟩ :: rest) Q ρ w := by
  obtain ⟨v', w', g', hr, h1, h2, h3, h4⟩ := run_append (P := P) (ty := ty) ht hu hi hz hs hzs (Nat.le_of_ble_eq_true hsz) hv hsrc h63 hb
  refine LW.v hd ?_ (h v' w' g' h1 h2 h3 h4)
  simp only [execOp, resolve, invoke, builtin, Sem.run_bind, Sem.run_pure, Result.andThen_ok, List.map_toArray, List.map_cons, List.map_nil, hx, hy, hr]

/-- make. -/
theorem r_make {i : TypeInfo} {zv : Value} {kl kc : IntKind} {l c : Int} (hd : Nat.blt d N.n = true) (ht : P.underlying T = some (.slice E)) (hi : P.info? E = some i) (hz : i.zero = some zv) (hs : i.size = 1) (h1 : zv.cells = #[zv])
    (hx : ev ρ x = .int kl l) (hy : ev ρ y = .int kc c) (h0 : 0 ≤ l) (hlc : l ≤ c) (hbytes : (i.bytes : Int) * c ≤ 281474976710656) (h63 : c ≤ 9223372036854775807)
    (h : ∀ b w', b = w.heap.size → w'.heap.size = b + 1 → Ext0 w w' → Blk w' b E (List.replicate c.toNat zv) → LW P N ops rest Q (upd ρ d (.slice (some ⟨b, 0, none⟩) l.toNat c.toNat)) w') :
    LW P N ops (⟨some d, .makeSlice T x y, ty, pos, af, none⟩ :: rest) Q ρ w := by
  have hr := run_make (P := P) w T E i zv ht hi hz kl kc l c h0 hlc hbytes h63
  have hm : madeCells zv.cells (c.toNat * i.size) = (List.replicate c.toNat zv).toArray := by
    rw [hs, h1, Nat.mul_one]
    exact made_one zv _
  rw [hm] at hr
  exact LW.v hd (by simp only [execOp, hx, hy, Sem.run_bind, hr, Result.andThen_ok, Sem.run_pure]) (h _ _ rfl (by simp) (alloc_ext w _) (alloc_new w _ _))

theorem zip1 (v : Value) (i : Nat) (cs : Array Value) : (#[v].zipIdx.foldl (fun cs (x : Value × Nat) => cs.setIfInBounds (i + x.2) x.1) cs) = cs.setIfInBounds i v := by rfl
theorem fill_one : ∀ (ps : List (Nat × Value)) (cs : Array Value), (∀ p ∈ ps, p.1 < cs.size ∧ oneC p.2 = true) → Instr.fill (fun i => some (i * 1, 1)) cs ps = some (ps.foldl (fun a p => a.setIfInBounds p.1 p.2) cs)
  | [], cs, _ => rfl
  | (i, v) :: r, cs, h => by
    have h1 := h (i, v) (List.mem_cons_self ..)
    have hc : v.cells = #[v] := by cases v <;> first | rfl | (simp [oneC] at h1)
    have ih := fill_one r (cs.setIfInBounds i v) (fun p hp => by have := h p (List.mem_cons_of_mem _ hp); simpa using this)
    simp only [Instr.fill, hc, Nat.mul_one] at ih ⊢
    rw [if_neg (by simp; omega)]
    simp only [List.foldl_cons]
    exact ih

/-- A literal of elements of one cell each. -/
theorem r_buildSlice {zv : Value} {len : Nat} {parts : Array (Nat × Operand)} {vs : List Value} (hd : Nat.blt d N.n = true) (ht : P.underlying T = some (.slice E)) (hs : ∀ w, (sizeOf E).run P w = .ok 1 w) (hz : ∀ w, (zeroValue E).run P w = .ok zv w) (hzc : zv.cells = #[zv])
    (hl : Nat.ble len 1000 = true) (hp0 : (parts.toList.map (fun p => (p.1, ev ρ p.2))).all (fun p => Nat.blt p.1 len && oneC p.2) = true)
    (hv : ((parts.toList.map (fun p => (p.1, ev ρ p.2))).foldl (fun (a : List Value) p => a.set p.1 p.2) (List.replicate len zv)) = vs)
    (h : ∀ b w', b = w.heap.size → w'.heap.size = b + 1 → Ext0 w w' → Blk w' b E vs → LW P N ops rest Q (upd ρ d (.slice (some ⟨b, 0, none⟩) len len)) w') :
    LW P N ops (⟨some d, .buildSlice T len parts, ty, pos, af, none⟩ :: rest) Q ρ w := by
  have hl' : len ≤ 1000 := Nat.le_of_ble_eq_true hl
  have hp : ∀ p ∈ parts.toList.map (fun p => (p.1, ev ρ p.2)), p.1 < len ∧ oneC p.2 = true := by
    intro p hp
    have := List.all_eq_true.1 hp0 p hp
    rw [Bool.and_eq_true] at this
    exact ⟨Nat.le_of_ble_eq_true this.1, this.2⟩
  have hfold : ∀ (ps : List (Nat × Value)) (a : List Value), (ps.foldl (fun (a : Array Value) p => a.setIfInBounds p.1 p.2) a.toArray) = (ps.foldl (fun (a : List Value) p => a.set p.1 p.2) a).toArray := by
    intro ps
    induction ps with
    | nil => intro a; rfl
    | cons p r ih => intro a; simp only [List.foldl_cons, List.setIfInBounds_toArray]; exact ih _
  have hz0 := made_one zv len
  have hf := fill_one ((parts.map (fun p => (p.1, ev ρ p.2))).toList) (List.replicate len zv).toArray (by
    intro p hp'
    have := hp p (by simpa using hp')
    simpa using this)
  rw [hfold] at hf
  have hv' : ((parts.map (fun p => (p.1, ev ρ p.2))).toList.foldl (fun (a : List Value) p => a.set p.1 p.2) (List.replicate len zv)) = vs := by rw [← hv]; simp
  rw [hv'] at hf
  refine LW.v hd (w' := w.alloc (.cells vs.toArray E)) (v := .slice (some ⟨w.heap.size, 0, none⟩) len len) ?_ (h _ _ rfl (by simp) (alloc_ext w _) (alloc_new w _ _))
  have h24 : ¬ (16777216 < len * 1) := by omega
  have hmap : (parts.map (fun p => match p with | (i, x) => (i, ev ρ x))) = parts.map (fun p => (p.1, ev ρ p.2)) := rfl
  have hrun : (Instr.buildSlice T len (parts.map (fun p => (p.1, ev ρ p.2)))).run P w = .ok (.slice (some ⟨w.heap.size, 0, none⟩) len len) (w.alloc (.cells vs.toArray E)) := by
    by_cases h0 : len = 0
    · subst h0
      have hnil : (parts.map (fun p => (p.1, ev ρ p.2))).toList = [] := by
        cases hq : (parts.map (fun p => (p.1, ev ρ p.2))).toList with
        | nil => rfl
        | cons p r =>
          have := hp p (by have h9 : p ∈ (parts.map (fun p => (p.1, ev ρ p.2))).toList := by rw [hq]; exact List.mem_cons_self ..
                           simpa using h9)
          omega
      rw [hnil] at hf hv'
      simp at hv'
      subst hv'
      have hnil' : parts.toList.map (fun p => (p.1, ev ρ p.2)) = [] := by simpa using hnil
      simp [Instr.buildSlice, run_underlying ht, hs, hnil', Instr.fill, newRow, newObj, Sem.run]
      rw [show Array.map (fun x => (default : Value)) (Array.range 0) = #[] from by apply Array.ext <;> simp]
    · simp only [Nat.mul_one] at hf
      simp [Instr.buildSlice, run_underlying ht, hs, show ¬ (16777216 < len) from by omega, h0, hz, hzc, newRow, newObj, Sem.run, Function.comp_def]
      have hz1 : (Array.range len).map (fun x => [zv][x % 1]?.getD default) = (List.replicate len zv).toArray := by rw [← hz0]; simp [Nat.mod_one]
      have hm2 : (parts.map (fun p => (p.1, ev ρ p.2))).toList = parts.toList.map (fun p => (p.1, ev ρ p.2)) := by simp
      rw [hm2] at hf
      rw [hz1, hf]
      rfl
  simp only [execOp, hmap, Sem.run_bind, hrun, Result.andThen_ok, Sem.run_pure]

theorem strB {xs : List UInt8} : (xs.map (fun x : UInt8 => (x.toNat : Int))).foldl (fun r n => r.push (UInt8.ofNat n.toNat)) ByteArray.empty = ⟨xs.toArray⟩ := by
  rw [foldl_push_bytes]
  congr 1
  apply Array.ext'
  simp [ByteArray.empty, ByteArray.emptyWithCapacity, Function.comp_def]; rfl

/-- string(b). -/
theorem run_b2s {F : Nat → Prop} {v : Value} {p : Nat} {xs : List UInt8} (hT : P.underlying T = some (.slice E)) (hE : P.underlying E = some (.int .u8)) (hT2 : P.underlying T2 = some .string) (hv : Sl F w v p (xs.map u8v)) (hp : xs.length = p) :
    (convert T T2 v).run P w = .ok (.string ⟨xs.toArray⟩) w := by
  obtain ⟨ao, cap, rfl, h1, h2, h3⟩ := hv
  rw [run_convert_bytes_string w T T2 E ao p cap hT hE hT2]
  rcases h3 with h3 | ⟨b, o, rfl, hF, hc⟩
  · have : xs = [] := by simpa using h3
    subst this
    simp at hp
    subst hp
    cases ao with
    | none => simp [Conv.bytesToString, ByteArray.empty, ByteArray.emptyWithCapacity]; rfl
    | some a =>
      rw [run_bytesToString w a 0 cap [] (by simp [loadCells, loadCellsFrom])]
      rfl
  · have hl : (loadCells ⟨b, o, none⟩ p).run P w = .ok ((xs.map (fun x : UInt8 => (x.toNat : Int))).map (Value.int .u8)).toArray w := by
      have := run_loadCells_list (P := P) w ⟨b, o, none⟩ (xs.map u8v) (fun j u hu => by rw [addr_add]; exact hc.get j u hu)
      rw [List.length_map, hp] at this
      rw [this]
      simp [u8v, Function.comp_def]
    rw [run_bytesToString w _ p cap _ hl, strB]
theorem r_b2s {F : Nat → Prop} {v : Value} {p : Nat} {xs : List UInt8} (hd : Nat.blt d N.n = true) (hT : P.underlying T = some (.slice E)) (hE : P.underlying E = some (.int .u8)) (hT2 : P.underlying T2 = some .string) (hx : ev ρ x = v) (hv : Sl F w v p (xs.map u8v)) (hp : xs.length = p)
    (h : LW P N ops rest Q (upd ρ d (.string ⟨xs.toArray⟩)) w) : LW P N ops (⟨some d, .convert T T2 x, ty, pos, af, none⟩ :: rest) Q ρ w :=
  LW.v hd (by simp only [execOp, hx, Sem.run_bind, run_b2s hT hE hT2 hv hp, Result.andThen_ok, Sem.run_pure]) h

/-- xs[l:h]. -/
theorem Sl.cut {F : Nat → Prop} {ao : Option Addr} {p cap s : Nat} {cs : List Value} (hv : Sl F w (.slice ao p cap) p cs) (hl : cs.length = p * s) (l h : Nat) (h1 : l ≤ h) (h2 : h ≤ p) :
    Sl F w (.slice (if cap = l then ao else ao.map (·.add (l * s))) (h - l) (cap - l)) (h - l) ((cs.drop (l * s)).take ((h - l) * s)) := by
  obtain ⟨ao', cap', e, h3, h4, h5⟩ := hv
  cases e
  refine ⟨_, _, rfl, by omega, by omega, ?_⟩
  rcases h5 with rfl | ⟨b, o, rfl, hF, hc⟩
  · exact .inl (by simp)
  · by_cases he : cap = l
    · have : h - l = 0 := by omega
      exact .inl (by simp [this])
    · refine .inr ⟨b, o + l * s, by simp [he, addr_add], hF, Cells.of fun j u hu => ?_⟩
      rw [List.getElem?_take] at hu
      split at hu
      · rw [List.getElem?_drop] at hu
        have := hc.get _ u hu
        rw [show o + l * s + j = o + (l * s + j) from by omega]; exact this
      · cases hu
theorem Sl.lenCap {F : Nat → Prop} {ao : Option Addr} {p q cap : Nat} {cs : List Value} (hv : Sl F w (.slice ao p cap) q cs) : p = q ∧ p ≤ cap ∧ cap ≤ maxLen := by
  obtain ⟨ao', cap', e, h3, h4, h5⟩ := hv
  cases e; exact ⟨rfl, h3, h4⟩
theorem r_sliceLH {F : Nat → Prop} {v : Value} {p s : Nat} {cs : List Value} {kl kh : IntKind} {l h : Int} (hd : Nat.blt d N.n = true) (hT : P.underlying T = some (.slice E)) (hs : ∀ w, (sizeOf E).run P w = .ok s w) (hx : ev ρ x = v) (hy : ev ρ y = .int kl l) (hz : ev ρ z = .int kh h)
    (hv : Sl F w v p cs) (hl : cs.length = p * s) (h0 : 0 ≤ l) (h1 : l ≤ h) (h2 : h ≤ p) (hk : ∀ v', Sl F w v' (h.toNat - l.toNat) ((cs.drop (l.toNat * s)).take ((h.toNat - l.toNat) * s)) → LW P N ops rest Q (upd ρ d v') w) :
    LW P N ops (⟨some d, .slice T x (some y) (some z) none, ty, pos, af, none⟩ :: rest) Q ρ w := by
  obtain ⟨ao, cap, rfl, h3, h4, h5⟩ := hv
  have hE : P.elem T = E := by simp [Program.elem, hT]
  have hr := run_slice_lh (P := P) w T ao p cap (by rw [hE]; exact hT) kl kh l h h0 h1 (by omega)
  rw [hE, hs] at hr
  refine LW.v hd ?_ (hk _ (Sl.cut (F := F) (cap := cap) (ao := ao) ⟨ao, cap, rfl, h3, h4, h5⟩ hl l.toNat h.toNat (by omega) (by omega)))
  simp only [execOp, hx, hy, hz, Option.map_some, Option.map_none, Sem.run_bind]
  simp [go_sem, run_sliceAt_slice w T _ _ _ _ (by rw [hE]; exact hT), hr, sliced]
theorem r_sliceL {F : Nat → Prop} {v : Value} {p s : Nat} {cs : List Value} {kl : IntKind} {l : Int} (hd : Nat.blt d N.n = true) (hT : P.underlying T = some (.slice E)) (hs : ∀ w, (sizeOf E).run P w = .ok s w) (hx : ev ρ x = v) (hy : ev ρ y = .int kl l)
    (hv : Sl F w v p cs) (hl : cs.length = p * s) (h0 : 0 ≤ l) (h2 : l ≤ p) (hk : ∀ v', Sl F w v' (p - l.toNat) (cs.drop (l.toNat * s)) → LW P N ops rest Q (upd ρ d v') w) :
    LW P N ops (⟨some d, .slice T x (some y) none none, ty, pos, af, none⟩ :: rest) Q ρ w := by
  obtain ⟨ao, cap, rfl, h3, h4, h5⟩ := hv
  have hE : P.elem T = E := by simp [Program.elem, hT]
  have hr := run_slice_l (P := P) w T ao p cap (by rw [hE]; exact hT) kl l h0 h2
  rw [hE, hs] at hr
  have hc := Sl.cut (F := F) (w := w) (cap := cap) (ao := ao) (p := p) (cs := cs) ⟨ao, cap, rfl, h3, h4, h5⟩ hl l.toNat p (by omega) (Nat.le_refl _)
  rw [List.take_of_length_le (by rw [List.length_drop, hl, ← Nat.sub_mul]; exact Nat.le_refl _)] at hc
  refine LW.v hd ?_ (hk _ hc)
  simp only [execOp, hx, hy, Option.map_some, Option.map_none, Sem.run_bind]
  simp [go_sem, run_sliceAt_slice w T _ _ _ _ (by rw [hE]; exact hT), hr, sliced]
theorem r_sliceH {F : Nat → Prop} {v : Value} {p s : Nat} {cs : List Value} {kh : IntKind} {h : Int} (hd : Nat.blt d N.n = true) (hT : P.underlying T = some (.slice E)) (hs : ∀ w, (sizeOf E).run P w = .ok s w) (hx : ev ρ x = v) (hz : ev ρ z = .int kh h)
    (hv : Sl F w v p cs) (hl : cs.length = p * s) (h1 : 0 ≤ h) (h2 : h ≤ p) (hk : ∀ v', Sl F w v' h.toNat (cs.take (h.toNat * s)) → LW P N ops rest Q (upd ρ d v') w) :
    LW P N ops (⟨some d, .slice T x none (some z) none, ty, pos, af, none⟩ :: rest) Q ρ w := by
  obtain ⟨ao, cap, rfl, h3, h4, h5⟩ := hv
  have hE : P.elem T = E := by simp [Program.elem, hT]
  have hr := run_slice_h (P := P) w T ao p cap (by rw [hE]; exact hT) kh h h1 (by omega)
  rw [hE, hs] at hr
  have hc := Sl.cut (F := F) (w := w) (cap := cap) (ao := ao) (p := p) (cs := cs) (s := s) ⟨ao, cap, rfl, h3, h4, h5⟩ hl 0 h.toNat (Nat.zero_le _) (by omega)
  simp only [Nat.zero_mul, List.drop_zero, Nat.sub_zero] at hc
  refine LW.v hd ?_ (hk _ hc)
  simp only [execOp, hx, hz, Option.map_some, Option.map_none, Sem.run_bind]
  simp [go_sem, run_sliceAt_slice w T _ _ _ _ (by rw [hE]; exact hT), hr, sliced]
theorem x_sliceLH {ao : Option Addr} {len cap s : Nat} {kl kh : IntKind} {l h : Int} {dd : Option Nat} {gg : Option (Nat × Bool)} (hT : P.underlying T = some (.slice E)) (hs : ∀ w, (sizeOf E).run P w = .ok s w) (hx : ev ρ x = .slice ao len cap) (hy : ev ρ y = .int kl l) (hz : ev ρ z = .int kh h)
    (h0 : 0 ≤ l) (h1 : l ≤ h) (h2 : h ≤ cap) : (execOp (ev ρ) ⟨dd, .slice T x (some y) (some z) none, ty, pos, af, gg⟩).run P w = .ok (.value (.slice (if cap = l.toNat then ao else ao.map (·.add (l.toNat * s))) (h.toNat - l.toNat) (cap - l.toNat))) w := by
  have hE : P.elem T = E := by simp [Program.elem, hT]
  have hr := run_slice_lh (P := P) w T ao len cap (by rw [hE]; exact hT) kl kh l h h0 h1 h2
  rw [hE, hs] at hr
  simp only [execOp, hx, hy, hz, Option.map_some, Option.map_none, Sem.run_bind]
  simp [go_sem, run_sliceAt_slice w T _ _ _ _ (by rw [hE]; exact hT), hr, sliced]
end rules
end Go.V
