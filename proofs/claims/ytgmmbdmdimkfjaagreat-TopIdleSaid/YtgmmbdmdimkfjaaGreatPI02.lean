/-
  Slices in the calculus of the base text, whatever the program: what a slice holds, what is owned, append, make, literals, reslicing. No statement of the claim stands here; Regions that draw their order, in the calculus of the base text, whatever the program: operations that yield the same value in every world of a class are taken first; the others come one by one. No statement of the claim stands here; Rules: a slice that is made to grow; a slice cut at its end; results in variables of structs; two structs compared. No statement of the claim stands here; Rules: a struct that is the one result; texts joined and cut. No statement of the claim stands here; Rules: a slice compared with nil. No statement of the claim stands here; Regions that draw their order, once more: some operations are late, all that looks at memory comes ahead of them. No statement of the claim stands here: these are rules, whatever the program; Rules: two structs compared. No statement of the claim stands here
-/
import Derived.Test.YtgmmbdmdimkfjaaGreatPI01
import Derived.OrdersHeld
import Derived.ChangeKeysEq
namespace Go.V
set_option linter.unusedSimpArgs false
set_option linter.unusedVariables false
open Go.RowKit
theorem Cells.app {w : World} {b : Nat} : ∀ {xs ys : List Value} {o : Nat}, Cells w b o (xs ++ ys) ↔ Cells w b o xs ∧ Cells w b (o + xs.length) ys
  | [], ys, o => by simp [Cells]
  | x :: xs, ys, o => by
    simp only [List.cons_append, Cells, Cells.app (xs := xs), List.length_cons, and_assoc]
    rw [show o + 1 + xs.length = o + (xs.length + 1) from by omega]
theorem Cells.lt {w : World} {b o : Nat} {c : Value} {cs : List Value} (h : Cells w b o (c :: cs)) : b < w.heap.size := World.block_lt_of_cell? _ _ h.1
/-- The slice value v has n elements; their cells, one behind the other, are cs, in a block of F. -/
def Sl (F : Nat → Prop) (w : World) (v : Value) (n : Nat) (cs : List Value) : Prop :=
  ∃ ao cap, v = .slice ao n cap ∧ n ≤ cap ∧ cap ≤ maxLen ∧ (cs = [] ∨ ∃ b o, ao = some ⟨b, o, none⟩ ∧ F b ∧ Cells w b o cs)
theorem Sl.up {F W : Nat → Prop} {w w' : World} {v : Value} {n : Nat} {cs : List Value} (h : Sl F w v n cs) (e : Ext W w w') (hd : ∀ b, F b → ¬ W b) : Sl F w' v n cs := by
  obtain ⟨ao, cap, rfl, h1, h2, h3⟩ := h
  refine ⟨ao, cap, rfl, h1, h2, h3.imp id fun ⟨b, o, ha, hF, hc⟩ => ⟨b, o, ha, hF, hc.up e (hd b hF)⟩⟩
theorem Sl.up0 {F : Nat → Prop} {w w' : World} {v : Value} {n : Nat} {cs : List Value} (h : Sl F w v n cs) (e : Ext0 w w') : Sl F w' v n cs := h.up e (fun _ _ h => h)
theorem Sl.mono {F G : Nat → Prop} {w : World} {v : Value} {n : Nat} {cs : List Value} (h : Sl F w v n cs) (hG : ∀ b, b < w.heap.size → F b → G b) : Sl G w v n cs := by
  obtain ⟨ao, cap, rfl, h1, h2, h3⟩ := h
  refine ⟨ao, cap, rfl, h1, h2, ?_⟩
  rcases cs with _ | ⟨c, cs⟩
  · exact .inl rfl
  · rcases h3 with h3 | ⟨b, o, ha, hF, hc⟩
    · cases h3
    · exact .inr ⟨b, o, ha, hG b hc.lt hF, hc⟩
theorem Sl.nil {F : Nat → Prop} {w : World} : Sl F w (.slice none 0 0) 0 [] := ⟨none, 0, rfl, Nat.le_refl _, by simp [maxLen], .inl rfl⟩
/-- The slice value v, of n elements of type E (s cells each), owns its array: block g (none: it is nil). -/
def Own (E : TypeId) (s : Nat) (w : World) (v : Value) (n : Nat) (cs : List Value) (g : Option Nat) : Prop :=
  cs.length = n * s ∧ ((g = none ∧ v = .slice none 0 0 ∧ n = 0) ∨
    ∃ b cap cur, g = some b ∧ v = .slice (some ⟨b, 0, none⟩) n cap ∧ w.heap[b]? = some (.cells cur E (0, 0)) ∧ n ≤ cap ∧ cap ≤ maxLen ∧ cur.size = cap * s ∧ cur.toList.take (n * s) = cs)
theorem Own.nil (E : TypeId) (s : Nat) (w : World) : Own E s w (.slice none 0 0) 0 [] none := ⟨by simp, .inl ⟨rfl, rfl, rfl⟩⟩
theorem Own.up {E : TypeId} {s : Nat} {W : Nat → Prop} {w w' : World} {v : Value} {n : Nat} {cs : List Value} {g : Option Nat} (h : Own E s w v n cs g) (e : Ext W w w') (hd : ∀ b, g = some b → ¬ W b) : Own E s w' v n cs g := by
  refine ⟨h.1, h.2.imp id fun ⟨b, cap, cur, h1, h2, h3, h4⟩ => ⟨b, cap, cur, h1, h2, ?_, h4⟩⟩
  rw [e.block b (Array.getElem?_eq_some_iff.1 h3).1 (hd b h1)]; exact h3
theorem Own.up0 {E : TypeId} {s : Nat} {w w' : World} {v : Value} {n : Nat} {cs : List Value} {g : Option Nat} (h : Own E s w v n cs g) (e : Ext0 w w') : Own E s w' v n cs g := h.up e (fun _ _ h => h)
theorem Own.lt {E : TypeId} {s : Nat} {w : World} {v : Value} {n : Nat} {cs : List Value} {g : Option Nat} (h : Own E s w v n cs g) : ∀ b, g = some b → b < w.heap.size := by
  rintro b rfl
  rcases h.2 with ⟨h, _⟩ | ⟨b', cap, cur, h1, _, h3, _⟩
  · cases h
  · cases h1; exact (Array.getElem?_eq_some_iff.1 h3).1
theorem Own.sl {E : TypeId} {s : Nat} {w : World} {v : Value} {n : Nat} {cs : List Value} {g : Option Nat} (h : Own E s w v n cs g) : Sl (fun b => g = some b) w v n cs := by
  rcases h.2 with ⟨rfl, rfl, rfl⟩ | ⟨b, cap, cur, rfl, rfl, h3, h4, h5, h6, h7⟩
  · have : cs = [] := List.eq_nil_of_length_eq_zero (by simpa using h.1)
    subst this; exact Sl.nil
  · refine ⟨_, cap, rfl, h4, h5, .inr ⟨b, 0, rfl, rfl, Cells.of fun j u hu => ?_⟩⟩
    rw [← h7, List.getElem?_take] at hu
    split at hu
    · rw [cell_of_row w b _ cur E (0, 0) h3]; simpa using hu
    · cases hu
theorem Own.blk {E : TypeId} {s : Nat} {w : World} {b n cap : Nat} {cs : List Value} (hb : Blk w b E cs) (hl : cs.length = n * s) (hn : n ≤ maxLen) (hc : cap = n) : Own E s w (.slice (some ⟨b, 0, none⟩) n cap) n cs (some b) := by
  subst hc
  exact ⟨hl, .inr ⟨b, _, cs.toArray, rfl, rfl, hb, Nat.le_refl _, hn, by simpa using hl, by simp [← hl]⟩⟩
/-- What append takes from: m elements whose cells are news. -/
def Src (P : Program) (s : Nat) (w : World) (x : Value) (m : Nat) (news : List Value) : Prop :=
  news.length = m * s ∧ (∀ u ∈ news, oneC u = true) ∧ (Builtin.lenOf x).run P w = .ok m w ∧
  (Builtin.firstCells s m x).run P w = .ok news.toArray w ∧ (Builtin.firstCells s m x).run P w.drew = .ok news.toArray w.drew
theorem Src.slice {P : Program} {F : Nat → Prop} {s : Nat} {w : World} {v : Value} {m : Nat} {cs : List Value} (h : Sl F w v m cs) (hl : cs.length = m * s) (h1 : ∀ u ∈ cs, oneC u = true) : Src P s w v m cs := by
  obtain ⟨ao, cap, rfl, h2, h3, h4⟩ := h
  refine ⟨hl, h1, by simp [Builtin.lenOf], ?_⟩
  rcases h4 with rfl | ⟨b, o, rfl, hF, hc⟩
  · have hm : m * s = 0 := by simpa using hl.symm
    cases ao with
    | none => exact ⟨by simp [Builtin.firstCells], by simp [Builtin.firstCells]⟩
    | some a => constructor <;> simp [Builtin.firstCells, hm, loadCells, loadCellsFrom]
  · have hg : ∀ j u, cs[j]? = some u → w.cell? ((⟨b, o, none⟩ : Addr).add j) = some u := fun j u hu => by rw [addr_add]; exact hc.get j u hu
    exact ⟨run_firstCells_some (P := P) w s m ⟨b, o, none⟩ m cap cs hl hg, run_firstCells_some (P := P) w.drew s m ⟨b, o, none⟩ m cap cs hl (by simpa using hg)⟩
def u8v (x : UInt8) : Value := .int .u8 x.toNat
theorem Src.string {P : Program} {w : World} (s : ByteArray) : Src P 1 w (.string s) s.size (s.data.toList.map u8v) := by
  have e : ∀ w : World, (Builtin.firstCells 1 s.size (.string s)).run P w = .ok (s.data.toList.map u8v).toArray w := fun w => by
    simp only [Builtin.firstCells, Sem.run_pure]
    congr 1
    apply Array.ext'
    simp [u8v, Function.comp_def]
  refine ⟨by simp, by simp [u8v, oneC], by simp [Builtin.lenOf], e w, e w.drew⟩
theorem oneC' {u : Value} (h : oneC u = true) : u.oneCell' = true := by cases u <;> first | rfl | (simp [oneC] at h)
theorem run_append {P : Program} {w : World} {t u ty E : TypeId} {i : TypeInfo} {z : Value} {s : Nat} (ht : P.underlying t = some (.slice E)) (hu : (∃ E', P.underlying u = some (.slice E')) ∨ P.underlying u = some .string) (hi : P.info? E = some i) (hz : i.zero = some z)
    (hs : i.size = s) (hzs : z.cells.size = s) (hsz : 0 < s) {v x : Value} {n m : Nat} {cs news : List Value} {g : Option Nat} (hv : Own E s w v n cs g) (hx : Src P s w x m news)
    (h63 : n + m ≤ maxLen) (hb : (n + m) * i.bytes ≤ 140737488355328) :
    ∃ v' w' g', (Builtin.append_ #[t, u] ty #[v, x]).run P w = .ok v' w' ∧ Own E s w' v' (n + m) (cs ++ news) g' ∧ Ext (fun b => g = some b) w w' ∧ (∀ b, g' = some b → g = some b ∨ w.heap.size ≤ b) ∧ (v' = .slice none 0 0 ↔ v = .slice none 0 0 ∧ m = 0) := by
  subst hs
  obtain ⟨hl, h1, hlen, hf, hf'⟩ := hx
  have hsmall : n + m ≤ 9223372036854775807 := by simp only [maxLen] at h63; omega
  have hll : (cs ++ news).length = (n + m) * i.size := by rw [List.length_append, hv.1, hl, Nat.add_mul]
  -- a new array
  have grow : ∀ (base : Option Addr) (sCap : Nat), v = .slice base n sCap → sCap < n + m → (Builtin.firstCells i.size n v).run P w.drew = .ok cs.toArray w.drew →
      ∃ v' w' g', (Builtin.append_ #[t, u] ty #[v, x]).run P w = .ok v' w' ∧ Own E i.size w' v' (n + m) (cs ++ news) g' ∧ Ext (fun b => g = some b) w w' ∧ (∀ b, g' = some b → g = some b ∨ w.heap.size ≤ b) ∧ (v' = .slice none 0 0 ↔ v = .slice none 0 0 ∧ m = 0) := by
    intro base sCap e hcap hold
    have hn : ¬ (n + m ≤ sCap) := by omega
    have h63' : ¬ (9223372036854775807 < ((n : Int) + (m : Int))) := by omega
    have hfit := growslice_fits hcap hb
    have h48' : ¬ (281474976710656 < Builtin.nextslicecap (n + m) sCap * i.bytes) := by omega
    have hge := grownCap_ge w (n + m) sCap E
    have hcm := grownCap_le_maxLen w (n + m) sCap E h63
    refine ⟨.slice (some ⟨w.heap.size, 0, none⟩) (n + m) (grownCap w (n + m) sCap E), w.drew.alloc (.cells (cs.toArray ++ news.toArray ++ Builtin.zeroCells z.cells (grownCap w (n + m) sCap E - (n + m))) E), some w.heap.size, ?_, ⟨hll, .inr ⟨w.heap.size, _, _, rfl, rfl, heap_alloc_new w.drew _, hge, hcm, ?_, ?_⟩⟩,
      ⟨rfl, rfl, rfl, by simp, fun k hk _ => Below.heap_alloc w.drew _ k hk⟩, by rintro b ⟨⟩; exact .inr (Nat.le_refl _), ?_⟩
    · subst e
      rcases hu with ⟨E', hD⟩ | hD <;> (simp [Builtin.append_, run_underlying ht, run_underlying hD, sizeOf, typeInfo, zeroValue, hi, hz, hlen, hn, h63', h48', Question.forced, hf', hold, newRow, grownCap]; congr 2; apply Array.ext'; simp [List.append_assoc])
    · simp only [Array.size_append, List.size_toArray, size_zeroCells, hzs, hv.1, hl, ← Nat.add_mul]
      congr 1
      omega
    · simp only [Array.toList_append, List.append_assoc]
      rw [← List.append_assoc, ← hll]
      exact List.take_left
    · constructor
      · intro h; cases h
      · rintro ⟨h, rfl⟩
        rw [e] at h
        cases h
        omega
  rcases hv.2 with ⟨rfl, rfl, rfl⟩ | ⟨b, cap, cur, rfl, rfl, hg, hnc, hcm, hcs, htake⟩
  · have hx : cs = [] := List.eq_nil_of_length_eq_zero (by simpa using hv.1)
    subst hx
    by_cases hm : m = 0
    · subst hm
      have hn : news = [] := List.eq_nil_of_length_eq_zero (by simpa using hl)
      subst hn
      refine ⟨.slice none 0 0, w, none, ?_, Own.nil E _ w, Ext.refl _ w, by rintro b ⟨⟩, by simp⟩
      rcases hu with ⟨E', hD⟩ | hD <;> simp [Builtin.append_, run_underlying ht, run_underlying hD, sizeOf, typeInfo, hi, hlen, hf]
    · exact grow none 0 rfl (by omega) (by simp [Builtin.firstCells])
  · by_cases hroom : n + m ≤ cap
    · have hfit : n * i.size + news.length ≤ cur.size := by rw [hl, hcs, ← Nat.add_mul]; exact Nat.mul_le_mul_right _ hroom
      have hst := run_storeCells_at P b (n * i.size) E news 0 cur w hg (by simpa using hfit) (fun u hu => oneC' (h1 u hu))
      simp only [Nat.add_zero] at hst
      refine ⟨.slice (some ⟨b, 0, none⟩) (n + m) cap, w.setRow b (cur.toList.take (n * i.size) ++ news ++ cur.toList.drop (n * i.size + news.length)).toArray, some b, ?_, ⟨hll, .inr ⟨b, cap, _, rfl, rfl, setRow_heap w b cur _ E _ hg, hroom, hcm, ?_, ?_⟩⟩,
        ⟨rfl, rfl, rfl, by simp, fun k _ hk => setRow_other w b k _ (fun e => hk (by simp [e]))⟩, by rintro b' ⟨⟩; exact .inl rfl, by simp⟩
      · rcases hu with ⟨E', hD⟩ | hD <;> simp [Builtin.append_, run_underlying ht, run_underlying hD, sizeOf, typeInfo, hi, hlen, hroom, hf, addr_add, hst]
      · simp only [List.size_toArray, List.length_append, List.length_take, List.length_drop, Array.length_toList]
        omega
      · rw [htake, ← hll]
        exact List.take_left
    · refine grow _ cap rfl (by omega) ?_
      have hc : ∀ j u, cs[j]? = some u → w.drew.cell? ((⟨b, 0, none⟩ : Addr).add j) = some u := by
        intro j u hj
        rw [addr_add, World.cell?_drew]
        rcases hv.sl with ⟨ao, cap', e1, _, _, e2⟩
        cases e1
        rcases e2 with rfl | ⟨b', o', e3, _, e4⟩
        · simp at hj
        · cases e3; exact e4.get j u hj
      exact run_firstCells_some (P := P) w.drew i.size n ⟨b, 0, none⟩ n cap cs hv.1 hc
theorem made_one (zv : Value) (n : Nat) : ((Array.range n).map (fun j => (#[zv] : Array Value)[j % (#[zv] : Array Value).size]!)) = (List.replicate n zv).toArray := by
  apply Array.ext
  · simp
  · intro i h1 h2
    simp [Nat.mod_one]
section rules
variable {P : Program} {N : Fr} {ops : Array Oper} {rest : List Oper} {Q : EPost} {ρ : Env} {w : World}
variable {d : Nat} {ty T T2 E : TypeId} {pos : String} {af : Array Edge} {x y z : Operand} {k : IntKind} {m n : Int}
/-- append: behind it the new slice owns what it owned and what was appended. -/
theorem r_append {i : TypeInfo} {zv : Value} {s : Nat} {v u : Value} {p q : Nat} {cs news : List Value} {g : Option Nat} (hd : Nat.blt d N.n = true) (ht : P.underlying T = some (.slice E)) (hu : (∃ E', P.underlying T2 = some (.slice E')) ∨ P.underlying T2 = some .string) (hi : P.info? E = some i) (hz : i.zero = some zv)
    (hs : i.size = s) (hzs : zv.cells.size = s) (hsz : Nat.blt 0 s = true) (hx : ev ρ x = v) (hy : ev ρ y = u) (hv : Own E s w v p cs g) (hsrc : Src P s w u q news) (h63 : p + q ≤ maxLen) (hb : (p + q) * i.bytes ≤ 140737488355328)
    (h : ∀ v' w' g', Own E s w' v' (p + q) (cs ++ news) g' → Ext (fun b => g = some b) w w' → (∀ b, g' = some b → g = some b ∨ w.heap.size ≤ b) → (v' = .slice none 0 0 ↔ v = .slice none 0 0 ∧ q = 0) → LW P N ops rest Q (upd ρ d v') w') :
    LW P N ops (⟨some d, .call { callee := .builtin .append, args := #[x, y], argTypes := #[T, T2] }, ty, pos, af, none⟩ :: rest) Q ρ w := by
  obtain ⟨v', w', g', hr, h1, h2, h3, h4⟩ := run_append (P := P) (ty := ty) ht hu hi hz hs hzs (Nat.le_of_ble_eq_true hsz) hv hsrc h63 hb
  refine LW.v hd ?_ (h v' w' g' h1 h2 h3 h4)
  simp only [execOp, resolve, invoke, builtin, Sem.run_bind, Sem.run_pure, Result.andThen_ok, List.map_toArray, List.map_cons, List.map_nil, hx, hy, hr]
/-- make. -/
theorem r_make {i : TypeInfo} {zv : Value} {kl kc : IntKind} {l c : Int} (hd : Nat.blt d N.n = true) (ht : P.underlying T = some (.slice E)) (hi : P.info? E = some i) (hz : i.zero = some zv) (hs : i.size = 1) (h1 : zv.cells = #[zv])
    (hx : ev ρ x = .int kl l) (hy : ev ρ y = .int kc c) (h0 : 0 ≤ l) (hlc : l ≤ c) (hbytes : (i.bytes : Int) * c ≤ 281474976710656) (h63 : c ≤ 9223372036854775807)
    (h : ∀ b w', b = w.heap.size → w'.heap.size = b + 1 → Ext0 w w' → Blk w' b E (List.replicate c.toNat zv) → LW P N ops rest Q (upd ρ d (.slice (some ⟨b, 0, none⟩) l.toNat c.toNat)) w') :
    LW P N ops (⟨some d, .makeSlice T x y, ty, pos, af, none⟩ :: rest) Q ρ w := by
  have hr := run_make (P := P) w T E i zv ht hi hz kl kc l c h0 hlc hbytes h63
  have hm : madeCells zv.cells (c.toNat * i.size) = (List.replicate c.toNat zv).toArray := by
    rw [hs, h1, Nat.mul_one]
    exact made_one zv _
  rw [hm] at hr
  exact LW.v hd (by simp only [execOp, hx, hy, Sem.run_bind, hr, Result.andThen_ok, Sem.run_pure]) (h _ _ rfl (by simp) (alloc_ext w _) (alloc_new w _ _))
theorem fill_one : ∀ (ps : List (Nat × Value)) (cs : Array Value), (∀ p ∈ ps, p.1 < cs.size ∧ oneC p.2 = true) → Instr.fill (fun i => some (i * 1, 1)) cs ps = some (ps.foldl (fun a p => a.setIfInBounds p.1 p.2) cs)
  | [], cs, _ => rfl
  | (i, v) :: r, cs, h => by
    have h1 := h (i, v) (List.mem_cons_self ..)
    have hc : v.cells = #[v] := by cases v <;> first | rfl | (simp [oneC] at h1)
    have ih := fill_one r (cs.setIfInBounds i v) (fun p hp => by have := h p (List.mem_cons_of_mem _ hp); simpa using this)
    simp only [Instr.fill, hc, Nat.mul_one] at ih ⊢
    rw [if_neg (by simp; omega)]
    simp only [List.foldl_cons]
    exact ih
/-- A literal of elements of one cell each. -/
theorem r_buildSlice {zv : Value} {len : Nat} {parts : Array (Nat × Operand)} {vs : List Value} (hd : Nat.blt d N.n = true) (ht : P.underlying T = some (.slice E)) (hs : ∀ w, (sizeOf E).run P w = .ok 1 w) (hz : ∀ w, (zeroValue E).run P w = .ok zv w) (hzc : zv.cells = #[zv])
    (hl : Nat.ble len 1000 = true) (hp0 : (parts.toList.map (fun p => (p.1, ev ρ p.2))).all (fun p => Nat.blt p.1 len && oneC p.2) = true)
    (hv : ((parts.toList.map (fun p => (p.1, ev ρ p.2))).foldl (fun (a : List Value) p => a.set p.1 p.2) (List.replicate len zv)) = vs)
    (h : ∀ b w', b = w.heap.size → w'.heap.size = b + 1 → Ext0 w w' → Blk w' b E vs → LW P N ops rest Q (upd ρ d (.slice (some ⟨b, 0, none⟩) len len)) w') :
    LW P N ops (⟨some d, .buildSlice T len parts, ty, pos, af, none⟩ :: rest) Q ρ w := by
  have hl' : len ≤ 1000 := Nat.le_of_ble_eq_true hl
  have hp : ∀ p ∈ parts.toList.map (fun p => (p.1, ev ρ p.2)), p.1 < len ∧ oneC p.2 = true := by
    intro p hp
    have := List.all_eq_true.1 hp0 p hp
    rw [Bool.and_eq_true] at this
    exact ⟨Nat.le_of_ble_eq_true this.1, this.2⟩
  have hfold : ∀ (ps : List (Nat × Value)) (a : List Value), (ps.foldl (fun (a : Array Value) p => a.setIfInBounds p.1 p.2) a.toArray) = (ps.foldl (fun (a : List Value) p => a.set p.1 p.2) a).toArray := by
    intro ps
    induction ps with
    | nil => intro a; rfl
    | cons p r ih => intro a; simp only [List.foldl_cons, List.setIfInBounds_toArray]; exact ih _
  have hz0 := made_one zv len
  have hf := fill_one ((parts.map (fun p => (p.1, ev ρ p.2))).toList) (List.replicate len zv).toArray (by
    intro p hp'
    have := hp p (by simpa using hp')
    simpa using this)
  rw [hfold] at hf
  have hv' : ((parts.map (fun p => (p.1, ev ρ p.2))).toList.foldl (fun (a : List Value) p => a.set p.1 p.2) (List.replicate len zv)) = vs := by rw [← hv]; simp
  rw [hv'] at hf
  refine LW.v hd (w' := w.alloc (.cells vs.toArray E)) (v := .slice (some ⟨w.heap.size, 0, none⟩) len len) ?_ (h _ _ rfl (by simp) (alloc_ext w _) (alloc_new w _ _))
  have h24 : ¬ (16777216 < len * 1) := by omega
  have hmap : (parts.map (fun p => match p with | (i, x) => (i, ev ρ x))) = parts.map (fun p => (p.1, ev ρ p.2)) := rfl
  have hrun : (Instr.buildSlice T len (parts.map (fun p => (p.1, ev ρ p.2)))).run P w = .ok (.slice (some ⟨w.heap.size, 0, none⟩) len len) (w.alloc (.cells vs.toArray E)) := by
    by_cases h0 : len = 0
    · subst h0
      have hnil : (parts.map (fun p => (p.1, ev ρ p.2))).toList = [] := by
        cases hq : (parts.map (fun p => (p.1, ev ρ p.2))).toList with
        | nil => rfl
        | cons p r =>
          have := hp p (by have h9 : p ∈ (parts.map (fun p => (p.1, ev ρ p.2))).toList := by rw [hq]; exact List.mem_cons_self ..
                           simpa using h9)
          omega
      rw [hnil] at hf hv'
      simp at hv'
      subst hv'
      have hnil' : parts.toList.map (fun p => (p.1, ev ρ p.2)) = [] := by simpa using hnil
      simp [Instr.buildSlice, run_underlying ht, hs, hnil', Instr.fill, newRow, newObj, Sem.run]
      rw [show Array.map (fun x => (default : Value)) (Array.range 0) = #[] from by apply Array.ext <;> simp]
    · simp only [Nat.mul_one] at hf
      simp [Instr.buildSlice, run_underlying ht, hs, show ¬ (16777216 < len) from by omega, h0, hz, hzc, newRow, newObj, Sem.run, Function.comp_def]
      have hz1 : (Array.range len).map (fun x => [zv][x % 1]?.getD default) = (List.replicate len zv).toArray := by rw [← hz0]; simp [Nat.mod_one]
      have hm2 : (parts.map (fun p => (p.1, ev ρ p.2))).toList = parts.toList.map (fun p => (p.1, ev ρ p.2)) := by simp
      rw [hm2] at hf
      rw [hz1, hf]
      rfl
  simp only [execOp, hmap, Sem.run_bind, hrun, Result.andThen_ok, Sem.run_pure]
theorem strB {xs : List UInt8} : (xs.map (fun x : UInt8 => (x.toNat : Int))).foldl (fun r n => r.push (UInt8.ofNat n.toNat)) ByteArray.empty = ⟨xs.toArray⟩ := by
  rw [foldl_push_bytes]
  congr 1
  apply Array.ext'
  simp [ByteArray.empty, ByteArray.emptyWithCapacity, Function.comp_def]; rfl
/-- string(b). -/
theorem run_b2s {F : Nat → Prop} {v : Value} {p : Nat} {xs : List UInt8} (hT : P.underlying T = some (.slice E)) (hE : P.underlying E = some (.int .u8)) (hT2 : P.underlying T2 = some .string) (hv : Sl F w v p (xs.map u8v)) (hp : xs.length = p) :
    (convert T T2 v).run P w = .ok (.string ⟨xs.toArray⟩) w := by
  obtain ⟨ao, cap, rfl, h1, h2, h3⟩ := hv
  rw [run_convert_bytes_string w T T2 E ao p cap hT hE hT2]
  rcases h3 with h3 | ⟨b, o, rfl, hF, hc⟩
  · have : xs = [] := by simpa using h3
    subst this
    simp at hp
    subst hp
    cases ao with
    | none => simp [Conv.bytesToString, ByteArray.empty, ByteArray.emptyWithCapacity]; rfl
    | some a =>
      rw [run_bytesToString w a 0 cap [] (by simp [loadCells, loadCellsFrom])]
      rfl
  · have hl : (loadCells ⟨b, o, none⟩ p).run P w = .ok ((xs.map (fun x : UInt8 => (x.toNat : Int))).map (Value.int .u8)).toArray w := by
      have := run_loadCells_list (P := P) w ⟨b, o, none⟩ (xs.map u8v) (fun j u hu => by rw [addr_add]; exact hc.get j u hu)
      rw [List.length_map, hp] at this
      rw [this]
      simp [u8v, Function.comp_def]
    rw [run_bytesToString w _ p cap _ hl, strB]
/-- xs[l:h]. -/
theorem Sl.cut {F : Nat → Prop} {ao : Option Addr} {p cap s : Nat} {cs : List Value} (hv : Sl F w (.slice ao p cap) p cs) (hl : cs.length = p * s) (l h : Nat) (h1 : l ≤ h) (h2 : h ≤ p) :
    Sl F w (.slice (if cap = l then ao else ao.map (·.add (l * s))) (h - l) (cap - l)) (h - l) ((cs.drop (l * s)).take ((h - l) * s)) := by
  obtain ⟨ao', cap', e, h3, h4, h5⟩ := hv
  cases e
  refine ⟨_, _, rfl, by omega, by omega, ?_⟩
  rcases h5 with rfl | ⟨b, o, rfl, hF, hc⟩
  · exact .inl (by simp)
  · by_cases he : cap = l
    · have : h - l = 0 := by omega
      exact .inl (by simp [this])
    · refine .inr ⟨b, o + l * s, by simp [he, addr_add], hF, Cells.of fun j u hu => ?_⟩
      rw [List.getElem?_take] at hu
      split at hu
      · rw [List.getElem?_drop] at hu
        have := hc.get _ u hu
        rw [show o + l * s + j = o + (l * s + j) from by omega]; exact this
      · cases hu
theorem x_sliceLH {ao : Option Addr} {len cap s : Nat} {kl kh : IntKind} {l h : Int} {dd : Option Nat} {gg : Option (Nat × Bool)} (hT : P.underlying T = some (.slice E)) (hs : ∀ w, (sizeOf E).run P w = .ok s w) (hx : ev ρ x = .slice ao len cap) (hy : ev ρ y = .int kl l) (hz : ev ρ z = .int kh h)
    (h0 : 0 ≤ l) (h1 : l ≤ h) (h2 : h ≤ cap) : (execOp (ev ρ) ⟨dd, .slice T x (some y) (some z) none, ty, pos, af, gg⟩).run P w = .ok (.value (.slice (if cap = l.toNat then ao else ao.map (·.add (l.toNat * s))) (h.toNat - l.toNat) (cap - l.toNat))) w := by
  have hE : P.elem T = E := by simp [Program.elem, hT]
  have hr := run_slice_lh (P := P) w T ao len cap (by rw [hE]; exact hT) kl kh l h h0 h1 h2
  rw [hE, hs] at hr
  simp only [execOp, hx, hy, hz, Option.map_some, Option.map_none, Sem.run_bind]
  simp [go_sem, run_sliceAt_slice w T _ _ _ _ (by rw [hE]; exact hT), hr, sliced]
end rules
end Go.V
namespace Go.V
set_option linter.unusedSimpArgs false
set_option linter.unusedVariables false
open Go.RowKit
def yE (ops : Array Oper) (ρ : Env) (j : Nat) : Option Bool :=
  match (ops[j]?).bind (·.dst) with
  | some t => (match ρ t with | .bool b => some b | _ => none)
  | none => none
theorem yE_eq {N : Fr} {ops : Array Oper} {ρ : Env} {a : Act} (ha : Fits N ρ a) : yielded ops a.tmps = yE ops ρ := by
  funext j
  unfold yielded yE
  cases h : (ops[j]?).bind (·.dst) with
  | none => simp
  | some t =>
    have h1 := ha.2.2 t
    simp only [Option.bind_some]
    rw [Array.getD_eq_getD_getElem?] at h1
    cases h' : a.tmps[t]? with
    | none => rw [h'] at h1; simp at h1; rw [← h1]; rfl
    | some x => rw [h'] at h1; simp at h1; subst h1; generalize ρ t = u; cases u <;> rfl
theorem wantE {ops : Array Oper} {ρ : Env} {d : Option Nat} {op : Op} {ty : TypeId} {pos : String} {af : Array Edge} {j t : Nat} {want b : Bool} (hj : (ops[j]?).bind (·.dst) = some t) (hb : ρ t = .bool b) (hw : b = want) : Region.wanted ⟨d, op, ty, pos, af, some (j, want)⟩ (yE ops ρ) = true := by
  simp [Region.wanted, yE, hj, hb, hw]
theorem skipE {ops : Array Oper} {ρ : Env} {d : Option Nat} {op : Op} {ty : TypeId} {pos : String} {af : Array Edge} {j t : Nat} {want b : Bool} (hj : (ops[j]?).bind (·.dst) = some t) (hb : ρ t = .bool b) (hw : b = !want) : Region.wanted ⟨d, op, ty, pos, af, some (j, want)⟩ (yE ops ρ) = false := by
  simp only [Region.wanted, yE, hj, hb, hw]; cases want <;> rfl
def nopan (Q : EPost) : EPost
  | .normal, ρ, w => Q .normal ρ w
  | _, _, _ => False
def DW (P : Program) (N : Fr) (ops : Array Oper) (S : World → Prop) (Q : EPost) (fuel : Nat) (listed : Array Bool) (ρ : Env) (w : World) : Prop :=
  ∀ a, Fits N ρ a → wpAnyH P .any ops (lift N (nopan Q)) S fuel listed a w
section
variable {P : Program} {N : Fr} {ops : Array Oper} {S : World → Prop} {Q : EPost} {ρ : Env} {w : World} {fuel : Nat} {listed : Array Bool}
theorem DW.take {i d : Nat} {op : Op} {ty : TypeId} {pos : String} {af : Array Edge} {g : Option (Nat × Bool)} {v : Value} (hi : ops[i]? = some ⟨some d, op, ty, pos, af, g⟩) (hs : Region.noSelect ops = true) (hf : Region.free .any ops listed i = true) (hr : (Region.ready .any ops listed).contains i = true)
    (hd : Nat.blt d N.n = true) (hw : Region.wanted ⟨some d, op, ty, pos, af, g⟩ (yE ops ρ) = true) (hy : ∀ u, S u → (execOp (ev ρ) ⟨some d, op, ty, pos, af, g⟩).run P u = .ok (.value v) u) (hS : S w)
    (h : DW P N ops S Q fuel (listed.setIfInBounds i true) (upd ρ d v) w) : DW P N ops S Q (fuel + 1) listed ρ w := by
  intro a ha
  refine wpAnyH_take (v := v) hi hs hf hr ?_ (.inl ⟨by rw [yE_eq ha]; exact hw, fun u hu => by rw [ha.eval]; exact hy u hu⟩) hS (h _ (ha.put (Nat.le_of_ble_eq_true hd) v))
  intro c a' w' ⟨_, _, hq⟩
  exact hq.elim
theorem DW.skip {i d : Nat} {op : Op} {ty : TypeId} {pos : String} {af : Array Edge} {g : Option (Nat × Bool)} (hi : ops[i]? = some ⟨some d, op, ty, pos, af, g⟩) (hs : Region.noSelect ops = true) (hf : Region.free .any ops listed i = true) (hr : (Region.ready .any ops listed).contains i = true)
    (hd : Nat.blt d N.n = true) (hw : Region.wanted ⟨some d, op, ty, pos, af, g⟩ (yE ops ρ) = false) (hS : S w)
    (h : DW P N ops S Q fuel (listed.setIfInBounds i true) (upd ρ d undef) w) : DW P N ops S Q (fuel + 1) listed ρ w := by
  intro a ha
  refine wpAnyH_take (v := undef) hi hs hf hr ?_ (.inr ⟨by rw [yE_eq ha]; exact hw, rfl⟩) hS (h _ (ha.put (Nat.le_of_ble_eq_true hd) undef))
  intro c a' w' ⟨_, _, hq⟩
  exact hq.elim
/-- One operation comes up, and the others behind it. -/
def DOp (P : Program) (N : Fr) (ops : Array Oper) (S : World → Prop) (Q : EPost) (fuel : Nat) (listed : Array Bool) (i : Nat) (ρ : Env) (w : World) : Prop :=
  ∀ a, Fits N ρ a → wpOp P ops (lift N (nopan Q)) i (fun a' w' => S w' ∧ wpAnyH P .any ops (lift N (nopan Q)) S fuel (listed.setIfInBounds i true) a' w') a w
theorem DOp.of {i : Nat} {d : Option Nat} {op : Op} {ty : TypeId} {pos : String} {af : Array Edge} {g : Option (Nat × Bool)} (hi : ops[i]? = some ⟨d, op, ty, pos, af, g⟩) (hw : Region.wanted ⟨d, op, ty, pos, af, g⟩ (yE ops ρ) = true)
    (h : LW P N ops [⟨d, op, ty, pos, af, none⟩] (thenE (fun ρ' w' => S w' ∧ DW P N ops S Q fuel (listed.setIfInBounds i true) ρ' w') (fun _ _ _ => False)) ρ w) : DOp P N ops S Q fuel listed i ρ w := by
  intro a ha
  have h1 := h a ha
  unfold wpOp
  rw [hi]
  simp only [yE_eq ha, hw, if_true]
  unfold wpList at h1
  simp only [Region.wanted, if_true] at h1
  rcases h1 with h1 | ⟨_, a₀, w₀, ρ', _, hq⟩
  · refine .inl ?_
    have he : ∀ (r : Result Next), Oper.upon P ⟨d, op, ty, pos, af, none⟩ a (wpList P ops (lift N (thenE (fun ρ' w' => S w' ∧ DW P N ops S Q fuel (listed.setIfInBounds i true) ρ' w') (fun _ _ _ => False))) []) (lift N (thenE (fun ρ' w' => S w' ∧ DW P N ops S Q fuel (listed.setIfInBounds i true) ρ' w') (fun _ _ _ => False))) r →
        Oper.upon P ⟨d, op, ty, pos, af, g⟩ a (fun a' w' => S w' ∧ wpAnyH P .any ops (lift N (nopan Q)) S fuel (listed.setIfInBounds i true) a' w') (lift N (nopan Q)) r := by
      intro r hr'
      have hk : ∀ a' w', wpList P ops (lift N (thenE (fun ρ' w' => S w' ∧ DW P N ops S Q fuel (listed.setIfInBounds i true) ρ' w') (fun _ _ _ => False))) [] a' w' → S w' ∧ wpAnyH P .any ops (lift N (nopan Q)) S fuel (listed.setIfInBounds i true) a' w' := by
        intro a' w' ⟨ρ', hf, hq⟩
        exact ⟨hq.1, hq.2 a' hf⟩
      cases r with
      | ok n w' =>
        cases n <;> simp only [Oper.upon] at hr' ⊢ <;>
          first
            | exact hk _ _ hr'
            | exact Calls.mono hr' (fun e w'' he => by
                cases e with
                | returned v => exact hk _ _ he
                | panicked c => obtain ⟨_, _, hq⟩ := he; exact hq.elim
                | outgrown => obtain ⟨_, _, _, _, hq⟩ := he; exact hq.elim)
            | exact Rows.mono hr' (fun _ _ he => hk _ _ he)
      | halt x w' =>
        cases x <;> simp only [Oper.upon] at hr' ⊢
        obtain ⟨_, _, hq⟩ := hr'; exact hq.elim
    unfold Oper.wp at h1 ⊢
    exact he _ h1
  · exact hq.elim
/-- One operation that is the only one that may come up. -/
theorem DW.one {i : Nat} {d : Option Nat} {op : Op} {ty : TypeId} {pos : String} {af : Array Edge} {g : Option (Nat × Bool)} (hr : Region.ready .any ops listed = [i]) (hi : ops[i]? = some ⟨d, op, ty, pos, af, g⟩) (hw : Region.wanted ⟨d, op, ty, pos, af, g⟩ (yE ops ρ) = true)
    (h : LW P N ops [⟨d, op, ty, pos, af, none⟩] (thenE (fun ρ' w' => S w' ∧ DW P N ops S Q fuel (listed.setIfInBounds i true) ρ' w') (fun _ _ _ => False)) ρ w) : DW P N ops S Q (fuel + 1) listed ρ w := fun a ha =>
  wpAnyH_all hr (by simp) fun j hj => by
    rw [List.mem_singleton] at hj
    subst hj
    exact DOp.of hi hw h a ha
/-- One of two comes up. -/
theorem DW.two {i j : Nat} (hr : Region.ready .any ops listed = [i, j]) (hi : DOp P N ops S Q fuel listed i ρ w) (hj : DOp P N ops S Q fuel listed j ρ w) : DW P N ops S Q (fuel + 1) listed ρ w := fun a ha =>
  wpAnyH_all hr (by simp) fun q hq => by
    simp only [List.mem_cons, List.not_mem_nil, or_false] at hq
    rcases hq with rfl | rfl
    · exact hi a ha
    · exact hj a ha
theorem DW.known {t : Nat} {b c : Bool} (_hb : ρ t = .bool b) (h : b = c) (k : b = c → DW P N ops S Q fuel listed ρ w) : DW P N ops S Q fuel listed ρ w := k h
theorem DW.done (hr : Region.ready .any ops listed = []) (h : Q .normal ρ w) : DW P N ops S Q fuel listed ρ w := fun a ha => wpAnyH_done hr ⟨ρ, ha, h⟩ fuel
end
/-! ### Structs in memory -/
section rules
variable {P : Program} {N : Fr} {ops : Array Oper} {rest : List Oper} {Q : EPost} {ρ : Env} {w : World}
variable {d : Nat} {dd : Option Nat} {gg : Option (Nat × Bool)} {ty T T2 : TypeId} {pos : String} {af : Array Edge} {x y z : Operand} {k : IntKind} {m n : Int}
/-- A load of a struct: its cells. -/
theorem x_loadA {b o s : Nat} {cs : List Value} (hT : ∀ w, (isAgg T).run P w = .ok true w) (hs : ∀ w, (sizeOf T).run P w = .ok s w) (hx : ev ρ x = .pointer (some ⟨b, o, none⟩)) (hc : Cells w b o cs) (hl : cs.length = s) :
    (execOp (ev ρ) ⟨dd, .load T x, ty, pos, af, gg⟩).run P w = .ok (.value (.agg cs.toArray)) w := by
  have := run_loadCells_list (P := P) w ⟨b, o, none⟩ cs (fun j u hu => by rw [addr_add]; exact hc.get j u hu)
  rw [hl] at this
  unfold loadCells at this
  simp [execOp, hx, Instr.loadAt, Instr.sureAddr, loadVar, hT, hs, this, go_sem]
theorem r_loadA {b o s : Nat} {cs : List Value} (hd : Nat.blt d N.n = true) (hT : ∀ w, (isAgg T).run P w = .ok true w) (hs : ∀ w, (sizeOf T).run P w = .ok s w) (hx : ev ρ x = .pointer (some ⟨b, o, none⟩)) (hc : Cells w b o cs) (hl : cs.length = s)
    (h : LW P N ops rest Q (upd ρ d (.agg cs.toArray)) w) : LW P N ops (⟨some d, .load T x, ty, pos, af, none⟩ :: rest) Q ρ w := LW.v hd (x_loadA hT hs hx hc hl) h
theorem setRow_blk {b : Nat} {E : TypeId} {cs cs' : List Value} (hb : Blk w b E cs) : Blk (w.setRow b cs'.toArray) b E cs' := setRow_heap w b cs.toArray _ E _ hb
theorem setRow_ext {b : Nat} {cs' : Array Value} : Ext (fun k => k = b) w (w.setRow b cs') := ⟨rfl, rfl, rfl, by simp, fun k _ hk => setRow_other w b k _ hk⟩
/-- A store of a value of several cells into a block of one's own. -/
theorem r_storeA {b o s : Nat} {E : TypeId} {cs vs : List Value} {v : Value} (hs : ∀ w, (sizeOf T).run P w = .ok s w) (hx : ev ρ x = .pointer (some ⟨b, o, none⟩)) (hy : ev ρ y = v) (hv : cellsL v = vs) (hl : vs.length = s) (h1 : vs.all oneC = true) (hb : Blk w b E cs) (ho : o + s ≤ cs.length)
    (h : ∀ w', w'.heap.size = w.heap.size → Ext (fun k => k = b) w w' → Blk w' b E (spliceL cs o vs) → LW P N ops rest Q ρ w') :
    LW P N ops (⟨none, .store T x y, ty, pos, af, none⟩ :: rest) Q ρ w := by
  have hst := run_storeCells_at P b o E vs 0 cs.toArray w hb (by simp; omega) (fun u hu => oneC' (List.all_eq_true.1 h1 u hu))
  simp only [Nat.add_zero] at hst
  have hvc : v.cells = vs.toArray := by rw [← hv, cellsL_eq]
  refine LW.skp (w' := w.setRow b (spliceL cs o vs).toArray) rfl (fun _ e => by cases e) ?_ (h _ (by simp) setRow_ext (setRow_blk hb))
  simp only [execOp, hx, hy, Instr.storeAt, Instr.sureAddr, storeVar, Sem.run_bind, Sem.run_pure, Result.andThen_ok, hs, hvc, List.size_toArray, hl]
  simp only [ne_eq, not_true_eq_false, if_false]
  rw [hst]
  simp only [Result.andThen_ok, spliceL]
end rules
end Go.V
namespace Go.V
set_option linter.unusedSimpArgs false
set_option linter.unusedVariables false
open Go.RowKit
theorem Own.take {E : TypeId} {s : Nat} {w : World} {ao : Option Addr} {n cap m : Nat} {cs : List Value} {g : Option Nat} (h : Own E s w (.slice ao n cap) n cs g) (hm : m ≤ n) : Own E s w (.slice ao m cap) m (cs.take (m * s)) g := by
  obtain ⟨hl, ⟨rfl, h1, rfl⟩ | ⟨b, cap', cur, rfl, h1, h2, h3, h4, h5, h6⟩⟩ := h
  · cases h1
    obtain rfl : m = 0 := by omega
    exact ⟨by simp, .inl ⟨rfl, rfl, rfl⟩⟩
  · cases h1
    have hms : m * s ≤ n * s := Nat.mul_le_mul_right _ hm
    refine ⟨by rw [List.length_take, hl]; exact Nat.min_eq_left hms, .inr ⟨b, cap, cur, rfl, rfl, h2, by omega, h4, h5, ?_⟩⟩
    rw [← h6, List.take_take, Nat.min_eq_left hms]
section rules
variable {P : Program} {N : Fr} {ops : Array Oper} {rest : List Oper} {Q : EPost} {ρ : Env} {w : World}
variable {d : Nat} {dd : Option Nat} {gg : Option (Nat × Bool)} {ty T T2 E : TypeId} {pos : String} {af : Array Edge} {x y z : Operand} {k : IntKind} {m n : Int}
/-- xs[:h], the value written out. -/
theorem r_sliceHc {ao : Option Addr} {p cap s : Nat} {kh : IntKind} {h : Int} (hd : Nat.blt d N.n = true) (hT : P.underlying T = some (.slice E)) (hs : ∀ w, (sizeOf E).run P w = .ok s w) (hx : ev ρ x = .slice ao p cap) (hz : ev ρ z = .int kh h)
    (h1 : 0 ≤ h) (h2 : h ≤ cap) (hk : LW P N ops rest Q (upd ρ d (.slice ao h.toNat cap)) w) :
    LW P N ops (⟨some d, .slice T x none (some z) none, ty, pos, af, none⟩ :: rest) Q ρ w := by
  have hE : P.elem T = E := by simp [Program.elem, hT]
  have hr := run_slice_h (P := P) w T ao p cap (by rw [hE]; exact hT) kh h h1 (by omega)
  rw [hE, hs] at hr
  refine LW.v hd ?_ hk
  simp only [execOp, hx, hz, Option.map_some, Option.map_none, Sem.run_bind]
  simp [go_sem, run_sliceAt_slice w T _ _ _ _ (by rw [hE]; exact hT), hr, sliced]
theorem x_cap {a : Option Addr} {len cap : Nat} {E : TypeId} (hT : P.underlying T = some (.slice E)) (hx : ev ρ x = .slice a len cap) : (execOp (ev ρ) ⟨dd, .call { callee := .builtin .cap, args := #[x], argTypes := #[T] }, ty, pos, af, gg⟩).run P w = .ok (.value (.int .i64 cap)) w := by
  simp [go_sem, hx, hT]
theorem r_cap {a : Option Addr} {len cap : Nat} {E : TypeId} (hd : Nat.blt d N.n = true) (hT : P.underlying T = some (.slice E)) (hx : ev ρ x = .slice a len cap) (h : LW P N ops rest Q (upd ρ d (.int .i64 cap)) w) : LW P N ops (⟨some d, .call { callee := .builtin .cap, args := #[x], argTypes := #[T] }, ty, pos, af, none⟩ :: rest) Q ρ w := LW.v hd (x_cap hT hx) h
end rules
end Go.V
namespace Go.V
set_option linter.unusedSimpArgs false
set_option linter.unusedVariables false
open Go.RowKit
theorem retC1 {P : Program} {fn : Func} {R : Ending → World → Prop} {ρ : Env} {w : World} {s0 T0 p n : Nat} {cs : List Value} (h : fn.results = #[.cell s0 T0]) (h0 : ρ s0 = .pointer (some ⟨p, 0, none⟩))
    (hT : ∀ w, (isAgg T0).run P w = .ok true w) (hs : ∀ w, (sizeOf T0).run P w = .ok n w) (hc : Cells w p 0 cs) (hl : cs.length = n) (hR : R (.returned (.agg cs.toArray)) w) : bodyE P fn R .ret ρ w := by
  refine ⟨_, fun tmps ht => ?_, hR⟩
  have e0 := (ht s0).trans h0
  have := run_loadCells_list (P := P) w ⟨p, 0, none⟩ cs (fun j u hu => by rw [addr_add]; exact hc.get j u hu)
  rw [hl] at this
  unfold loadCells at this
  simp only [Array.getD_eq_getD_getElem?] at e0
  simp [results, h, e0, asAddr, loadVar, hT, hs, this, go_sem]
section rules
variable {P : Program} {N : Fr} {ops : Array Oper} {rest : List Oper} {Q : EPost} {ρ : Env} {w : World}
variable {d : Nat} {dd : Option Nat} {gg : Option (Nat × Bool)} {ty T T2 E : TypeId} {pos : String} {af : Array Edge} {x y z y2 : Operand} {k : IntKind}
end rules
end Go.V
namespace Go.V
set_option linter.unusedSimpArgs false
set_option linter.unusedVariables false
open Go.RowKit
section rules
variable {P : Program} {N : Fr} {ops : Array Oper} {rest : List Oper} {Q : EPost} {ρ : Env} {w : World}
variable {d : Nat} {dd : Option Nat} {gg : Option (Nat × Bool)} {ty T T2 E : TypeId} {pos : String} {af : Array Edge} {x y : Operand}
theorem x_eqlN {ao : Option Addr} {len cap : Nat} (hT : P.underlying T = some (.slice E)) (hx : ev ρ x = .slice ao len cap) (hy : ev ρ y = .slice none 0 0) :
    (execOp (ev ρ) ⟨dd, .binOp .eql T x y T2, ty, pos, af, gg⟩).run P w = .ok (.value (.bool ao.isNone)) w := by
  have h' : (Op.equalIn 10000 T (.slice ao len cap) (.slice none 0 0)).run P w = .ok ao.isNone w := by
    show (Op.equalIn (9999 + 1) T (.slice ao len cap) (.slice none 0 0)).run P w = .ok ao.isNone w
    generalize 9999 = d
    cases ao <;> simp [Op.equalIn, run_underlying hT]
  simp only [execOp, hx, hy, eqGuard, Go.binOp]
  simp [go_sem, Op.equal, Op.maxDepth, h']
theorem r_eqlN {ao : Option Addr} {len cap : Nat} (hd : Nat.blt d N.n = true) (hT : P.underlying T = some (.slice E)) (hx : ev ρ x = .slice ao len cap) (hy : ev ρ y = .slice none 0 0)
    (h : LW P N ops rest Q (upd ρ d (.bool ao.isNone)) w) : LW P N ops (⟨some d, .binOp .eql T x y T2, ty, pos, af, none⟩ :: rest) Q ρ w := LW.v hd (x_eqlN hT hx hy) h
end rules
end Go.V
namespace Go.V
set_option linter.unusedSimpArgs false
set_option linter.unusedVariables false
open Go.RowKit
section
variable {P : Program} {ops : Array Oper} {Q : Exit → Act → World → Prop} {md : Region.Mode} {S : World → Prop} {late : List Nat}
/-- Whatever order is picked from here on, and S holds behind every operation that is not late. -/
def wpAnyL (P : Program) (md : Region.Mode) (ops : Array Oper) (Q : Exit → Act → World → Prop) (S : World → Prop) (late : List Nat) : Nat → Array Bool → Act → World → Prop
  | 0, listed, a, w => Region.ready md ops listed = [] ∧ Q .normal a w
  | fuel + 1, listed, a, w =>
    (Region.ready md ops listed = [] → Q .normal a w) ∧
    ∀ i ∈ Region.ready md ops listed, wpOp P ops Q i (fun a' w' => (late.contains i = false → S w') ∧ wpAnyL P md ops Q S late fuel (listed.setIfInBounds i true) a' w') a w
theorem wpAny_of_late : ∀ (fuel : Nat) (listed : Array Bool) (a : Act) (w : World), wpAnyL P md ops Q S late fuel listed a w → wpAny P md ops Q fuel listed a w
  | 0, _, _, _, h => h
  | fuel + 1, _, _, _, h => ⟨h.1, fun i hi => wpOp_mono (fun a' w' h' => wpAny_of_late fuel _ a' w' h'.2) (h.2 i hi)⟩
/-- T: S, where all that is late waits for it; nothing, where it is late itself. -/
theorem wpAnyL_first {T : World → Prop} {i : Nat} {oi : Oper} {v : Value} (B : List Nat) (hi : ops[i]? = some oi) (hsel : ∀ (j : Nat) (o : Oper) cs b, ops[j]? = some o → o.op ≠ .select cs b)
    (hQ : ∀ c a w, Q (.panic c) (a.put oi.dst v) w → Q (.panic c) a w) (hST : ∀ u, S u → T u) :
    ∀ (fuel : Nat) (listed : Array Bool) (a : Act) (w : World),
      (∀ j oj, ops[j]? = some oj → j ≠ i → listed.getD j true = false → (∀ e ∈ oj.after, Region.binds md e = true → e.on ≠ i) → oi.apart ops oj = true) →
      ((late.contains i = true ∧ ∀ w, T w) ∨ ((∀ k ∈ B, listed.getD k true = false) ∧ (∀ j oj, ops[j]? = some oj → j ∈ B → j ≠ i → ∃ e ∈ oj.after, Region.binds md e = true ∧ e.on ∈ B) ∧ ∀ j, late.contains j = true → listed.getD j true = false → j ∈ B)) →
      i ∈ Region.ready md ops listed → YieldsIf P ops T oi v a → T w → (late.contains i = false → S w) →
      wpAnyL P md ops Q S late fuel (listed.setIfInBounds i true) (a.put oi.dst v) w → wpAnyL P md ops Q S late (fuel + 1) listed a w := by
  intro fuel
  induction fuel with
  | zero =>
    intro listed a w _ _ hr hy hS hS' H
    refine ⟨fun h => (by rw [h] at hr; cases hr), fun j hj => ?_⟩
    by_cases hji : j = i
    · subst hji; exact hy.wpOp hi hS ⟨hS', H⟩
    · have := ready_mono hj hji
      rw [H.1] at this
      cases this
  | succ fuel ih =>
    intro listed a w hfree hlate hr hy hS hS' H
    refine ⟨fun h => (by rw [h] at hr; cases hr), fun j hj => ?_⟩
    by_cases hji : j = i
    · subst hji; exact hy.wpOp hi hS ⟨hS', H⟩
    · have h1 := H.2 j (ready_mono hj hji)
      obtain ⟨hjun, oj, hoj, hall⟩ := mem_ready.1 hj
      have hnot : ∀ e ∈ oj.after, Region.binds md e = true → e.on ≠ i := fun e he hb heq => by
        have h1 := hall e he hb
        have h0 := (mem_ready.1 hr).1
        rw [heq] at h1
        rcases Nat.lt_or_ge i listed.size with h' | h'
        · simp [h'] at h0 h1; rw [h0] at h1; cases h1
        · simp [Array.getElem?_eq_none h'] at h1
      have h2 := wpOp_putIf hoj (hfree j oj hoj hji hjun hnot) (fun cs b => hsel i oi cs b hi) (fun cs b => hsel j oj cs b hoj) hQ hy h1
      have hfree' : ∀ k ok, ops[k]? = some ok → k ≠ i → (listed.setIfInBounds j true).getD k true = false →
          (∀ e ∈ ok.after, Region.binds md e = true → e.on ≠ i) → oi.apart ops ok = true := fun k ok hk hki hun hno => by
        refine hfree k ok hk hki ?_ hno
        by_cases hjk : j = k
        · subst hjk; exact hjun
        · rw [getD_set_ne true hjk] at hun; exact hun
      refine wpOp_mono (fun a' w' h3 => ?_) h2
      have hjB : (∀ k ∈ B, listed.getD k true = false) → (∀ j oj, ops[j]? = some oj → j ∈ B → j ≠ i → ∃ e ∈ oj.after, Region.binds md e = true ∧ e.on ∈ B) → j ∉ B := fun hu hb hm => by
        obtain ⟨e, he, hbe, hk⟩ := hb j oj hoj hm hji
        have h1 := hall e he hbe
        have h0 := hu _ hk
        rcases Nat.lt_or_ge e.on listed.size with h' | h'
        · simp [h'] at h0 h1; rw [h0] at h1; cases h1
        · simp [Array.getElem?_eq_none h'] at h1
      have hlate' : ((late.contains i = true ∧ ∀ w, T w) ∨ ((∀ k ∈ B, (listed.setIfInBounds j true).getD k true = false) ∧ (∀ j oj, ops[j]? = some oj → j ∈ B → j ≠ i → ∃ e ∈ oj.after, Region.binds md e = true ∧ e.on ∈ B) ∧ ∀ k, late.contains k = true → (listed.setIfInBounds j true).getD k true = false → k ∈ B)) := by
        rcases hlate with h | ⟨h1, h2, h3⟩
        · exact .inl h
        · refine .inr ⟨fun k hk => ?_, h2, fun k hk hun => ?_⟩
          · have hne : j ≠ k := fun e => hjB h1 h2 (e ▸ hk)
            rw [getD_set_ne true hne]; exact h1 k hk
          · by_cases hjk : j = k
            · subst hjk; exact h3 _ hk hjun
            · rw [getD_set_ne true hjk] at hun; exact h3 k hk hun
      refine ⟨h3.2.1, ih (listed.setIfInBounds j true) a' w' hfree' hlate' (ready_mono hr (Ne.symm hji)) h3.1 ?_ (fun hil => ?_) (by rw [Array.setIfInBounds_comm _ _ hji]; exact h3.2.2)⟩
      · rcases hlate with h | h
        · exact h.2 w'
        · cases hc : late.contains j with
          | false => exact hST _ (h3.2.1 hc)
          | true => exact absurd (h.2.2 j hc hjun) (hjB h.1 h.2.1)
      · rcases hlate with h | h
        · rw [h.1] at hil; cases hil
        · cases hc : late.contains j with
          | false => exact h3.2.1 hc
          | true => exact absurd (h.2.2 j hc hjun) (hjB h.1 h.2.1)
/-- All that is late waits for i, by way of those of B. -/
def waitsAll (ops : Array Oper) (listed : Array Bool) (late B : List Nat) (i : Nat) : Bool :=
  (late.all fun j => listed.getD j true || B.contains j) && B.all fun k => !(listed.getD k true) && (k == i || match ops[k]? with
    | some oj => oj.after.any fun e => Region.binds .any e && B.contains e.on
    | none => true)
theorem waitsAll_spec {listed : Array Bool} {B : List Nat} {i : Nat} (h : waitsAll ops listed late B i = true) :
    (∀ k ∈ B, listed.getD k true = false) ∧ (∀ j oj, ops[j]? = some oj → j ∈ B → j ≠ i → ∃ e ∈ oj.after, Region.binds .any e = true ∧ e.on ∈ B) ∧ ∀ j, late.contains j = true → listed.getD j true = false → j ∈ B := by
  unfold waitsAll at h
  rw [Bool.and_eq_true] at h
  refine ⟨fun k hk => ?_, fun j oj hj hm hne => ?_, fun j hj hun => ?_⟩
  · have := List.all_eq_true.1 h.2 k hk
    rw [Bool.and_eq_true] at this
    simpa using this.1
  · have := List.all_eq_true.1 h.2 j hm
    rw [Bool.and_eq_true, hj] at this
    have h2 := this.2
    rw [Bool.or_eq_true] at h2
    rcases h2 with h2 | h2
    · exact absurd (by simpa using h2) hne
    · simp only [Array.any_eq_true'] at h2
      obtain ⟨e, he, hb⟩ := h2
      rw [Bool.and_eq_true] at hb
      exact ⟨e, he, hb.1, by simpa using hb.2⟩
  · have := List.all_eq_true.1 h.1 j (by simpa using hj)
    rw [hun, Bool.false_or] at this
    simpa using this
theorem wpAnyL_done {listed : Array Bool} {a : Act} {w : World} (hr : Region.ready md ops listed = []) (h : Q .normal a w) : ∀ fuel, wpAnyL P md ops Q S late fuel listed a w
  | 0 => ⟨hr, h⟩
  | _ + 1 => ⟨fun _ => h, by rw [hr]; simp⟩
theorem wpAnyL_all {rs : List Nat} {fuel : Nat} {listed : Array Bool} {a : Act} {w : World} (hr : Region.ready md ops listed = rs) (hne : rs ≠ [])
    (h : ∀ i ∈ rs, wpOp P ops Q i (fun a' w' => (late.contains i = false → S w') ∧ wpAnyL P md ops Q S late fuel (listed.setIfInBounds i true) a' w') a w) : wpAnyL P md ops Q S late (fuel + 1) listed a w :=
  ⟨fun h0 => absurd (hr ▸ h0) hne, hr ▸ h⟩
end
def DL (P : Program) (N : Fr) (ops : Array Oper) (S : World → Prop) (late : List Nat) (Q : EPost) (fuel : Nat) (listed : Array Bool) (ρ : Env) (w : World) : Prop :=
  ∀ a, Fits N ρ a → wpAnyL P .any ops (lift N (nopan Q)) S late fuel listed a w
section
variable {P : Program} {N : Fr} {ops : Array Oper} {S : World → Prop} {late : List Nat} {Q : EPost} {ρ : Env} {w : World} {fuel : Nat} {listed : Array Bool}
theorem CW.drawL {id n : Nat} (S : World → Prop) (late : List Nat) (hm : P.follows .mixedOrders = true) (hn : ops.size = n) (h : ∀ w1, w1.heap = w.heap → Ext0 w w1 → DL P N ops S late Q n (Array.replicate n false) ρ w1) : CW P N (.region id ops true) Q ρ w := by
  intro a ha
  subst hn
  refine wp_mono (wp_region_any hm (wpAny_of_late _ _ _ _ (h { w with drawn := w.drawn + 1 } rfl ⟨rfl, rfl, rfl, Nat.le_refl _, fun _ _ _ => rfl⟩ a ha))) ?_
  intro e a' w' ⟨ρ', hf, hq⟩
  cases e <;> first | exact ⟨ρ', hf, hq⟩ | exact hq.elim
theorem DL.take {i d : Nat} (B : List Nat) {op : Op} {ty : TypeId} {pos : String} {af : Array Edge} {g : Option (Nat × Bool)} {v : Value} (hi : ops[i]? = some ⟨some d, op, ty, pos, af, g⟩) (hs : Region.noSelect ops = true) (hf : Region.free .any ops listed i = true) (hr : (Region.ready .any ops listed).contains i = true)
    (hl : waitsAll ops listed late B i = true) (hd : Nat.blt d N.n = true) (hw : Region.wanted ⟨some d, op, ty, pos, af, g⟩ (yE ops ρ) = true) (hy : ∀ u, S u → (execOp (ev ρ) ⟨some d, op, ty, pos, af, g⟩).run P u = .ok (.value v) u) (hS : S w)
    (h : DL P N ops S late Q fuel (listed.setIfInBounds i true) (upd ρ d v) w) : DL P N ops S late Q (fuel + 1) listed ρ w := by
  intro a ha
  refine wpAnyL_first (T := S) B hi (Region.noSelect_spec hs) ?_ (fun _ h => h) fuel listed a w (Region.free_spec hi hf) (.inr (waitsAll_spec hl)) (by simpa using hr) (.inl ⟨by rw [yE_eq ha]; exact hw, fun u hu => by rw [ha.eval]; exact hy u hu⟩) hS (fun _ => hS) (h _ (ha.put (Nat.le_of_ble_eq_true hd) v))
  intro c a' w' ⟨_, _, hq⟩
  exact hq.elim
theorem DL.takeU {i d : Nat} {op : Op} {ty : TypeId} {pos : String} {af : Array Edge} {g : Option (Nat × Bool)} {v : Value} (hi : ops[i]? = some ⟨some d, op, ty, pos, af, g⟩) (hs : Region.noSelect ops = true) (hf : Region.free .any ops listed i = true) (hr : (Region.ready .any ops listed).contains i = true)
    (hl : late.contains i = true) (hd : Nat.blt d N.n = true) (hw : Region.wanted ⟨some d, op, ty, pos, af, g⟩ (yE ops ρ) = true) (hy : ∀ u, (execOp (ev ρ) ⟨some d, op, ty, pos, af, g⟩).run P u = .ok (.value v) u)
    (h : DL P N ops S late Q fuel (listed.setIfInBounds i true) (upd ρ d v) w) : DL P N ops S late Q (fuel + 1) listed ρ w := by
  intro a ha
  refine wpAnyL_first (T := fun _ => True) [] hi (Region.noSelect_spec hs) ?_ (fun _ _ => trivial) fuel listed a w (Region.free_spec hi hf) (.inl ⟨hl, fun _ => trivial⟩) (by simpa using hr) (.inl ⟨by rw [yE_eq ha]; exact hw, fun u _ => by rw [ha.eval]; exact hy u⟩) trivial (fun h => by rw [hl] at h; cases h) (h _ (ha.put (Nat.le_of_ble_eq_true hd) v))
  intro c a' w' ⟨_, _, hq⟩
  exact hq.elim
theorem DL.skip {i d : Nat} (B : List Nat) {op : Op} {ty : TypeId} {pos : String} {af : Array Edge} {g : Option (Nat × Bool)} (hi : ops[i]? = some ⟨some d, op, ty, pos, af, g⟩) (hs : Region.noSelect ops = true) (hf : Region.free .any ops listed i = true) (hr : (Region.ready .any ops listed).contains i = true)
    (hl : waitsAll ops listed late B i = true) (hd : Nat.blt d N.n = true) (hw : Region.wanted ⟨some d, op, ty, pos, af, g⟩ (yE ops ρ) = false) (hS : S w)
    (h : DL P N ops S late Q fuel (listed.setIfInBounds i true) (upd ρ d undef) w) : DL P N ops S late Q (fuel + 1) listed ρ w := by
  intro a ha
  refine wpAnyL_first (T := S) (v := undef) B hi (Region.noSelect_spec hs) ?_ (fun _ h => h) fuel listed a w (Region.free_spec hi hf) (.inr (waitsAll_spec hl)) (by simpa using hr) (.inr ⟨by rw [yE_eq ha]; exact hw, rfl⟩) hS (fun _ => hS) (h _ (ha.put (Nat.le_of_ble_eq_true hd) undef))
  intro c a' w' ⟨_, _, hq⟩
  exact hq.elim
/-- One operation comes up, and the others behind it. -/
def LOp (P : Program) (N : Fr) (ops : Array Oper) (S : World → Prop) (late : List Nat) (Q : EPost) (fuel : Nat) (listed : Array Bool) (i : Nat) (ρ : Env) (w : World) : Prop :=
  ∀ a, Fits N ρ a → wpOp P ops (lift N (nopan Q)) i (fun a' w' => (late.contains i = false → S w') ∧ wpAnyL P .any ops (lift N (nopan Q)) S late fuel (listed.setIfInBounds i true) a' w') a w
theorem LOp.of {i : Nat} {d : Option Nat} {op : Op} {ty : TypeId} {pos : String} {af : Array Edge} {g : Option (Nat × Bool)} (hi : ops[i]? = some ⟨d, op, ty, pos, af, g⟩) (hw : Region.wanted ⟨d, op, ty, pos, af, g⟩ (yE ops ρ) = true)
    (h : LW P N ops [⟨d, op, ty, pos, af, none⟩] (thenE (fun ρ' w' => (late.contains i = false → S w') ∧ DL P N ops S late Q fuel (listed.setIfInBounds i true) ρ' w') (fun _ _ _ => False)) ρ w) : LOp P N ops S late Q fuel listed i ρ w := by
  intro a ha
  have h1 := h a ha
  unfold wpOp
  rw [hi]
  simp only [yE_eq ha, hw, if_true]
  unfold wpList at h1
  simp only [Region.wanted, if_true] at h1
  rcases h1 with h1 | ⟨_, a₀, w₀, ρ', _, hq⟩
  · refine .inl ?_
    have he : ∀ (r : Result Next), Oper.upon P ⟨d, op, ty, pos, af, none⟩ a (wpList P ops (lift N (thenE (fun ρ' w' => (late.contains i = false → S w') ∧ DL P N ops S late Q fuel (listed.setIfInBounds i true) ρ' w') (fun _ _ _ => False))) []) (lift N (thenE (fun ρ' w' => (late.contains i = false → S w') ∧ DL P N ops S late Q fuel (listed.setIfInBounds i true) ρ' w') (fun _ _ _ => False))) r →
        Oper.upon P ⟨d, op, ty, pos, af, g⟩ a (fun a' w' => (late.contains i = false → S w') ∧ wpAnyL P .any ops (lift N (nopan Q)) S late fuel (listed.setIfInBounds i true) a' w') (lift N (nopan Q)) r := by
      intro r hr'
      have hk : ∀ a' w', wpList P ops (lift N (thenE (fun ρ' w' => (late.contains i = false → S w') ∧ DL P N ops S late Q fuel (listed.setIfInBounds i true) ρ' w') (fun _ _ _ => False))) [] a' w' → (late.contains i = false → S w') ∧ wpAnyL P .any ops (lift N (nopan Q)) S late fuel (listed.setIfInBounds i true) a' w' := by
        intro a' w' ⟨ρ', hf, hq⟩
        exact ⟨hq.1, hq.2 a' hf⟩
      cases r with
      | ok n w' =>
        cases n <;> simp only [Oper.upon] at hr' ⊢ <;>
          first
            | exact hk _ _ hr'
            | exact Calls.mono hr' (fun e w'' he => by
                cases e with
                | returned v => exact hk _ _ he
                | panicked c => obtain ⟨_, _, hq⟩ := he; exact hq.elim
                | outgrown => obtain ⟨_, _, _, _, hq⟩ := he; exact hq.elim)
            | exact Rows.mono hr' (fun _ _ he => hk _ _ he)
      | halt x w' =>
        cases x <;> simp only [Oper.upon] at hr' ⊢
        obtain ⟨_, _, hq⟩ := hr'; exact hq.elim
    unfold Oper.wp at h1 ⊢
    exact he _ h1
  · exact hq.elim
theorem DL.one {i : Nat} {d : Option Nat} {op : Op} {ty : TypeId} {pos : String} {af : Array Edge} {g : Option (Nat × Bool)} (hr : Region.ready .any ops listed = [i]) (hi : ops[i]? = some ⟨d, op, ty, pos, af, g⟩) (hw : Region.wanted ⟨d, op, ty, pos, af, g⟩ (yE ops ρ) = true)
    (h : LW P N ops [⟨d, op, ty, pos, af, none⟩] (thenE (fun ρ' w' => (late.contains i = false → S w') ∧ DL P N ops S late Q fuel (listed.setIfInBounds i true) ρ' w') (fun _ _ _ => False)) ρ w) : DL P N ops S late Q (fuel + 1) listed ρ w := fun a ha =>
  wpAnyL_all hr (by simp) fun j hj => by
    rw [List.mem_singleton] at hj
    subst hj
    exact LOp.of hi hw h a ha
theorem DL.two {i j : Nat} (hr : Region.ready .any ops listed = [i, j]) (hi : LOp P N ops S late Q fuel listed i ρ w) (hj : LOp P N ops S late Q fuel listed j ρ w) : DL P N ops S late Q (fuel + 1) listed ρ w := fun a ha =>
  wpAnyL_all hr (by simp) fun q hq => by
    simp only [List.mem_cons, List.not_mem_nil, or_false] at hq
    rcases hq with rfl | rfl
    · exact hi a ha
    · exact hj a ha
theorem DL.known {t : Nat} {b c : Bool} (_hb : ρ t = .bool b) (h : b = c) (k : b = c → DL P N ops S late Q fuel listed ρ w) : DL P N ops S late Q fuel listed ρ w := k h
theorem DL.splitB {t : Nat} {b : Bool} (_hb : ρ t = .bool b) (h1 : b = true → DL P N ops S late Q fuel listed ρ w) (h2 : b = false → DL P N ops S late Q fuel listed ρ w) : DL P N ops S late Q fuel listed ρ w := by cases b; exact h2 rfl; exact h1 rfl
theorem DL.done (hr : Region.ready .any ops listed = []) (h : Q .normal ρ w) : DL P N ops S late Q fuel listed ρ w := fun a ha => wpAnyL_done hr ⟨ρ, ha, h⟩ fuel
end
end Go.V
namespace Go.V
set_option linter.unusedSimpArgs false
set_option linter.unusedVariables false
open Go.RowKit
def EqA (P : Program) (d : Nat) (t : TypeId) (x y : Value) (b : Bool) : Prop := ∀ w, (Op.equalIn d t x y).run P w = .ok b w
def EqF (P : Program) (d : Nat) (fs : List Field) (xs ys : List Value) (b : Bool) : Prop := ∀ w, (Op.eqFields d xs.toArray ys.toArray fs).run P w = .ok b w
section
variable {P : Program} {d : Nat} {t : TypeId}
theorem EqA.int {k k' : IntKind} {a b : Int} (hu : P.underlying t = some (.int k)) : EqA P (d + 1) t (.int k' a) (.int k' b) (decide (a = b)) := fun w => by
  simp [Op.equalIn, run_underlying hu]
  rw [Bool.eq_iff_iff]; simp
theorem EqA.str {a b : ByteArray} (hu : P.underlying t = some .string) : EqA P (d + 1) t (.string a) (.string b) (decide (a = b)) := fun w => by
  rw [run_equalIn_string w d t a b hu, ba_beq]
theorem EqA.bool {a b : Bool} (hu : P.underlying t = some .bool) : EqA P (d + 1) t (.bool a) (.bool b) (a == b) := fun w => by
  simp [Op.equalIn, run_underlying hu]
theorem EqA.struct {fs : Array Field} {xs ys : List Value} {b : Bool} (hu : P.underlying t = some (.struct fs)) (hs : P.stoodInHeld t = false) (h : EqF P d fs.toList xs ys b) : EqA P (d + 1) t (.agg xs.toArray) (.agg ys.toArray) b := fun w => by
  have hf : P.fieldsOf t = fs := by simp [Program.fieldsOf, hu]
  rw [run_equalIn_struct (P := P) w d t xs.toArray ys.toArray (by rw [hf]; exact hu) hs, hf]
  exact h w
theorem EqF.nil {xs ys : List Value} : EqF P d [] xs ys true := fun w => by simp [Op.eqFields]
theorem EqF.one {f : Field} {fs : List Field} {xs ys : List Value} {x y : Value} {b c : Bool} (hn : (f.name != "_") = true) (ha : ∀ w, (isAgg f.type).run P w = .ok false w) (hx : xs[f.offset]? = some x) (hy : ys[f.offset]? = some y)
    (h1 : EqA P d f.type x y b) (h2 : EqF P d fs xs ys c) : EqF P d (f :: fs) xs ys (b && c) := fun w => by
  have hn' : f.name ≠ "_" := by simpa using hn
  have h1' : (Op.equalIn d f.type x y).run P w = .ok b w := h1 w
  have px : (part f.type xs.toArray f.offset).run P w = .ok x w := by simp [part, ha, hx]
  have py : (part f.type ys.toArray f.offset).run P w = .ok y w := by simp [part, ha, hy]
  simp only [Op.eqFields, hn', ne_eq, not_false_eq_true, if_true, Sem.run_bind, px, py, Result.andThen_ok, h1']
  cases b
  · simp
  · simpa using h2 w
theorem EqF.agg {f : Field} {fs : List Field} {xs ys : List Value} {n : Nat} {b c : Bool} (hn : (f.name != "_") = true) (ha : ∀ w, (isAgg f.type).run P w = .ok true w) (hs : ∀ w, (sizeOf f.type).run P w = .ok n w)
    (h1 : EqA P d f.type (.agg ((xs.drop f.offset).take n).toArray) (.agg ((ys.drop f.offset).take n).toArray) b) (h2 : EqF P d fs xs ys c) : EqF P d (f :: fs) xs ys (b && c) := fun w => by
  have hn' : f.name ≠ "_" := by simpa using hn
  have e : ∀ zs : List Value, zs.toArray.extract f.offset (f.offset + n) = ((zs.drop f.offset).take n).toArray := fun zs => by
    apply Array.ext'; simp
  have h1' := h1 w
  have px : ∀ zs : List Value, (part f.type zs.toArray f.offset).run P w = .ok (.agg ((zs.drop f.offset).take n).toArray) w := fun zs => by
    rw [← e]; simp only [part, Sem.run_bind, ha, hs, Result.andThen_ok, if_true, Sem.run_pure]
  simp only [Op.eqFields, hn', ne_eq, not_false_eq_true, if_true, Sem.run_bind, px, Result.andThen_ok, h1']
  cases b
  · simp
  · simpa using h2 w
end
section rules
variable {P : Program} {N : Fr} {ops : Array Oper} {rest : List Oper} {Q : EPost} {ρ : Env} {w : World}
variable {d : Nat} {dd : Option Nat} {gg : Option (Nat × Bool)} {ty T T2 : TypeId} {pos : String} {af : Array Edge} {x y : Operand}
theorem x_b2s {E : TypeId} {F : Nat → Prop} {v : Value} {p : Nat} {xs : List UInt8} (hT : P.underlying T = some (.slice E)) (hE : P.underlying E = some (.int .u8)) (hT2 : P.underlying T2 = some .string) (hx : ev ρ x = v) (hv : Sl F w v p (xs.map u8v)) (hp : xs.length = p) :
    (execOp (ev ρ) ⟨dd, .convert T T2 x, ty, pos, af, gg⟩).run P w = .ok (.value (.string ⟨xs.toArray⟩)) w := by
  simp only [execOp, hx, Sem.run_bind, run_b2s hT hE hT2 hv hp, Result.andThen_ok, Sem.run_pure]
end rules
end Go.V
