/-
  Rules: function values; a row's block cell by cell: append in place, copy, clear. No statement of the claim stands here: these are rules, whatever the program; What a struct that came in is to the walks: its cells, and what each field's reading says of them; What came in as data, opened: rows of things of any number of Row.cells. No program here; Things that own memory; two lists alike, member by member. No program here; The greater, the lesser of two numbers. No program here; A place in a row that rises, found by halves. No program here; Rules for slices.Insert: append(s, make(n)...) into a new block; overlaps. No program here; The order of texts; comparisons of texts. No program here
-/
import Derived.Test.YtgmmbdmdimkfjaaGreatPI03
import Derived.Lib.Overlaps
import Derived.Lib.SmallJoins
import Derived.Lib.MinMax
import Derived.Laws.Externs
namespace Go.V
set_option linter.unusedSimpArgs false
set_option linter.unusedVariables false
open Go.RowKit
section
variable {U G : Nat → Prop} {w0 w w' : World} {L M : List Ch}
/-- A row's block, cell by cell. -/
theorem SH.toB {α : Type} {_r : Row α} {E : TypeId} {v : Value} {xs : List α} {g : Option Nat} {i : Nat} (H : SH U G w0 w L) (hi : At L i (.O E v xs g)) (h0 : xs ≠ []) :
    ∃ b cap cur, g = some b ∧ v = .slice (some ⟨b, 0, none⟩) xs.length cap ∧ xs.length ≤ cap ∧ cap ≤ maxLen ∧ cur.length = cap * Row.sz α ∧ cur.take (xs.length * Row.sz α) = flat xs ∧ Ones xs ∧ SH U G w0 w (replC L i [.B b E cur]) := by
  have how : Ow E w v xs g := (H.val.1 _ hi.mem).holds
  obtain ⟨⟨hcl, ⟨rfl, rfl, h⟩ | ⟨b, cap, cur, rfl, rfl, h3, h4, h5, h6, h7⟩⟩, hone⟩ := how
  · exact absurd (List.eq_nil_of_length_eq_zero h) h0
  · exact ⟨b, cap, cur.toList, rfl, rfl, h4, h5, by simpa using h6, h7, hone, H.cast (d := .B b E cur.toList) hi (fun _ => trivial) (fun k hk => by cases hk; rfl) Ch.stB (fun _ => by simpa [Blk, Ch.A] using h3)⟩
theorem SH.ofB {α : Type} {_r : Row α} {E : TypeId} {b cap : Nat} {cur : List Value} {i : Nat} (H : SH U G w0 w L) (hi : At L i (.B b E cur)) (xs : List α) (n : Nat) (hn : n = xs.length) (hone : Ones xs) (hl : cur.length = cap * Row.sz α) (hc : n ≤ cap) (hm : cap ≤ maxLen) (ht : cur.take (n * Row.sz α) = flat xs) :
    SH U G w0 w (replC L i [.O E (.slice (some ⟨b, 0, none⟩) n cap) xs (some b)]) :=
  H.cast (d := .O E (.slice (some ⟨b, 0, none⟩) n cap) xs (some b)) hi (fun _ => trivial) (fun k hk => by cases hk; rfl) Ch.stO (fun hb => by
    subst hn
    exact ⟨⟨flat_len xs, .inr ⟨b, cap, cur.toArray, rfl, rfl, hb, hc, hm, by simpa using hl, ht⟩⟩, hone⟩)
theorem Src.cells {P : Program} {w : World} {b o s m c : Nat} {cs : List Value} (h : Cells w b o cs) (hl : cs.length = m * s) (h1 : ∀ u ∈ cs, oneC u = true) : Src P s w (.slice (some ⟨b, o, none⟩) m c) m cs := by
  refine ⟨hl, h1, by simp [Builtin.lenOf], ?_⟩
  have hg : ∀ j u, cs[j]? = some u → w.cell? ((⟨b, o, none⟩ : Addr).add j) = some u := fun j u hu => by rw [addr_add]; exact h.get j u hu
  exact ⟨run_firstCells_some (P := P) w s m ⟨b, o, none⟩ m c cs hl hg, run_firstCells_some (P := P) w.drew s m ⟨b, o, none⟩ m c cs hl (by simpa using hg)⟩
end
section rules
variable {U G : Nat → Prop} {w0 : World} {L : List Ch}
variable {P : Program} {N : Fr} {ops : Array Oper} {rest : List Oper} {Q : EPost} {ρ : Env} {w : World}
variable {d : Nat} {dd : Option Nat} {gg : Option (Nat × Bool)} {ty T T2 E : TypeId} {pos : String} {af : Array Edge} {x y z y2 : Operand} {k : IntKind} {m n : Int}
theorem x_makeFunc {fn : Fn} {first captured : Array Operand} {fs cs : List Value} (hf : first.toList.map (ev ρ) = fs) (hc : captured.toList.map (ev ρ) = cs) : (execOp (ev ρ) ⟨dd, .makeFunc fn first captured, ty, pos, af, gg⟩).run P w = .ok (.value (.func fn fs.toArray cs.toArray)) w := by
  have h1 : first.map (ev ρ) = fs.toArray := by rw [← hf, ← Array.toList_map]
  have h2 : captured.map (ev ρ) = cs.toArray := by rw [← hc, ← Array.toList_map]
  simp [execOp, Instr.makeFunc, h1, h2, Sem.run_bind, Sem.run_pure]
theorem r_makeFunc {fn : Fn} {first captured : Array Operand} {fs cs : List Value} (hd : Nat.blt d N.n = true) (hf : first.toList.map (ev ρ) = fs) (hc : captured.toList.map (ev ρ) = cs)
    (h : LW P N ops rest Q (upd ρ d (.func fn fs.toArray cs.toArray)) w) : LW P N ops (⟨some d, .makeFunc fn first captured, ty, pos, af, none⟩ :: rest) Q ρ w := LW.v hd (x_makeFunc hf hc) h
/-- A call of a function value. -/
theorem r_callV {f : FuncId} {args : Array Operand} {tys : Array TypeId} {R : Ending → World → Prop} {l fs cs as : List Value} (hd : Nat.blt d N.n = true) (hx : ev ρ x = .func (.func f) fs.toArray cs.toArray) (hc : ∀ (l : Array Value) w, (callFunc f l).run P w = .ok (.enter f l) w)
    (ha : (args.toList.map (ev ρ)) = as) (hl : fs ++ as ++ cs = l) (hR : Calls P f l.toArray w R) (h : ∀ e w', R e w' → ∃ v, e = .returned v ∧ LW P N ops rest Q (upd ρ d v) w') :
    LW P N ops (⟨some d, .call { callee := .value x, args := args, argTypes := tys }, ty, pos, af, none⟩ :: rest) Q ρ w := by
  refine LW.enter rfl (fun _ e => by cases e; exact Nat.le_of_ble_eq_true hd) ?_ hR h
  have hA : args.map (ev ρ) = as.toArray := by rw [← ha, ← Array.toList_map]
  subst hl
  simp [execOp, resolve, hx, hc, hA, invoke, Sem.run_bind, Deferred.ofValue]
/-- append in place. -/
theorem run_appendB {b s cap : Nat} {E' : TypeId} {i : TypeInfo} {cur news : List Value} {u : Value} {p q : Nat} (ht : P.underlying T = some (.slice E)) (hu : P.underlying T2 = some (.slice E')) (hi : P.info? E = some i) (hs : i.size = s) (hb : Blk w b E cur) (hx : Src P s w u q news) (hroom : p + q ≤ cap) (hcap : cap ≤ maxLen) (hl : cur.length = cap * s) :
    (Builtin.append_ #[T, T2] ty #[.slice (some ⟨b, 0, none⟩) p cap, u]).run P w = .ok (.slice (some ⟨b, 0, none⟩) (p + q) cap) (w.setRow b (spliceL cur (p * s) news).toArray) := by
  subst hs
  obtain ⟨hnl, h1, hlen, hf, hf'⟩ := hx
  have hm : (p + q) * i.size ≤ cap * i.size := Nat.mul_le_mul_right _ hroom
  have hfit : p * i.size + news.length ≤ cur.toArray.size := by rw [hnl, List.size_toArray, hl, ← Nat.add_mul]; exact hm
  have hst := run_storeCells_at P b (p * i.size) E news 0 cur.toArray w hb (by simpa using hfit) (fun u hu => oneC' (h1 u hu))
  simp only [Nat.add_zero] at hst
  simp [Builtin.append_, run_underlying ht, run_underlying hu, sizeOf, typeInfo, hi, hlen, hroom, hf, addr_add, hst, spliceL]
theorem s_appendB {b s cap i : Nat} {E' : TypeId} {ti : TypeInfo} {cur news : List Value} {u : Value} {p q : Nat} (H : SH U G w0 w L) (hd : Nat.blt d N.n = true) (ht : P.underlying T = some (.slice E)) (hu : P.underlying T2 = some (.slice E')) (hti : P.info? E = some ti) (hs : ti.size = s) (hx : ev ρ x = .slice (some ⟨b, 0, none⟩) p cap) (hy : ev ρ y = u)
    (hi : At L i (.B b E cur)) (hsrc : Src P s w u q news) (hroom : p + q ≤ cap) (hcap : cap ≤ maxLen) (hl : cur.length = cap * s)
    (h : ∀ w', SH U G w0 w' (replC L i [.B b E (spliceL cur (p * s) news)]) → LW P N ops rest Q (upd ρ d (.slice (some ⟨b, 0, none⟩) (p + q) cap)) w') :
    LW P N ops (⟨some d, .call { callee := .builtin .append, args := #[x, y], argTypes := #[T, T2] }, ty, pos, af, none⟩ :: rest) Q ρ w := by
  have hr := run_appendB (P := P) (w := w) (ty := ty) ht hu hti hs (H.blk hi) hsrc hroom hcap hl
  refine LW.v hd ?_ (h _ (H.stored hi setRow_ext (by simp) (setRow_blk (H.blk hi))))
  simp only [execOp, resolve, invoke, builtin, Sem.run_bind, Sem.run_pure, Result.andThen_ok, List.map_toArray, List.map_cons, List.map_nil, hx, hy, hr]
/-- copy: into a block of ours; all is read before anything is written. -/
theorem run_copyB {b o s dl dc m q : Nat} {ti : TypeInfo} {cur news : List Value} {u : Value} (ht : P.underlying T = some (.slice E)) (hti : P.info? E = some ti) (hs : ti.size = s) (hb : Blk w b E cur)
    (hlen : (Builtin.lenOf u).run P w = .ok q w) (hm : m = min q dl) (hf : (Builtin.firstCells s m u).run P w = .ok news.toArray w) (h1 : ∀ c ∈ news, oneC c = true) (hnl : news.length = m * s) (hl : o + m * s ≤ cur.length) :
    (Builtin.copy_ #[T, T2] ty #[.slice (some ⟨b, o, none⟩) dl dc, u]).run P w = .ok (goInt m) (w.setRow b (spliceL cur o news).toArray) := by
  subst hs hm
  have hst := run_storeCells_at P b o E news 0 cur.toArray w hb (by simp; omega) (fun u hu => oneC' (h1 u hu))
  simp only [Nat.add_zero] at hst
  have hmin : Nat.min q dl = min q dl := rfl
  simp [Builtin.copy_, run_underlying ht, sizeOf, typeInfo, hti, hlen, hmin, hf, hst, spliceL]
theorem s_copyB {b o s dl dc m q i : Nat} {ti : TypeInfo} {cur news : List Value} {u : Value} (H : SH U G w0 w L) (hd : Nat.blt d N.n = true) (ht : P.underlying T = some (.slice E)) (hti : P.info? E = some ti) (hs : ti.size = s) (hx : ev ρ x = .slice (some ⟨b, o, none⟩) dl dc) (hy : ev ρ y = u) (hi : At L i (.B b E cur))
    (hlen : (Builtin.lenOf u).run P w = .ok q w) (hm : m = min q dl) (hf : (Builtin.firstCells s m u).run P w = .ok news.toArray w) (h1 : ∀ c ∈ news, oneC c = true) (hnl : news.length = m * s) (hl : o + m * s ≤ cur.length)
    (h : ∀ w', SH U G w0 w' (replC L i [.B b E (spliceL cur o news)]) → LW P N ops rest Q (upd ρ d (.int .i64 m)) w') :
    LW P N ops (⟨some d, .call { callee := .builtin .copy, args := #[x, y], argTypes := #[T, T2] }, ty, pos, af, none⟩ :: rest) Q ρ w := by
  have hr := run_copyB (P := P) (w := w) (T2 := T2) (ty := ty) (dc := dc) ht hti hs (H.blk hi) hlen hm hf h1 hnl hl
  refine LW.v hd ?_ (h _ (H.stored hi setRow_ext (by simp) (setRow_blk (H.blk hi))))
  simp only [execOp, resolve, invoke, builtin, Sem.run_bind, Sem.run_pure, Result.andThen_ok, List.map_toArray, List.map_cons, List.map_nil, hx, hy, hr, goInt]
/-- clear. -/
theorem zeroL (zc : Array Value) (n : Nat) : ∃ zs : List Value, (Builtin.zeroCells zc n).toList = zs ∧ zs.length = n * zc.size ∧ ∀ u ∈ zs, u ∈ zc.toList ∨ zc.size = 0 := by
  refine ⟨_, rfl, by simp [size_zeroCells], fun u hu => ?_⟩
  by_cases h0 : zc.size = 0
  · exact .inr h0
  · refine .inl ?_
    simp only [Builtin.zeroCells, Array.toList_map, List.mem_map] at hu
    obtain ⟨j, _, rfl⟩ := hu
    have hj : j % zc.size < zc.size := Nat.mod_lt _ (by omega)
    rw [getElem!_pos zc _ hj]
    exact Array.getElem_mem_toList _
theorem run_clearB {b o s m c : Nat} {zv : Value} {cur : List Value} (ht : P.underlying T = some (.slice E)) (hz : ∀ w, (zeroValue E).run P w = .ok zv w) (hzs : zv.cells.size = s) (hzo : zv.cells.toList.all oneC = true) (hs : 0 < s) (hm : 0 < m) (hb : Blk w b E cur) (hl : o + m * s ≤ cur.length) :
    ∃ zs : List Value, zs.length = m * s ∧ (Builtin.clear_ #[T] ty #[.slice (some ⟨b, o, none⟩) m c]).run P w = .ok (.tuple #[]) (w.setRow b (spliceL cur o zs).toArray) := by
  obtain ⟨zs, h1, h2, h3⟩ := zeroL zv.cells m
  rw [hzs] at h2
  refine ⟨zs, h2, ?_⟩
  have hst := run_storeCells_at P b o E zs 0 cur.toArray w hb (by simp; omega) (fun u hu => oneC' (by
    rcases h3 u hu with h | h
    · exact List.all_eq_true.1 hzo u h
    · omega))
  simp only [Nat.add_zero] at hst
  obtain ⟨m, rfl⟩ : ∃ k, m = k + 1 := ⟨m - 1, by omega⟩
  simp [Builtin.clear_, run_underlying ht, hz, h1, hst, spliceL]
theorem s_clearB {b o s m c i : Nat} {zv : Value} {cur : List Value} (H : SH U G w0 w L) (ht : P.underlying T = some (.slice E)) (hz : ∀ w, (zeroValue E).run P w = .ok zv w) (hzs : zv.cells.size = s) (hzo : zv.cells.toList.all oneC = true) (hs : Nat.blt 0 s = true) (hx : ev ρ x = .slice (some ⟨b, o, none⟩) m c) (hm : 0 < m) (hi : At L i (.B b E cur)) (hl : o + m * s ≤ cur.length)
    (h : ∀ w' zs, zs.length = m * s → SH U G w0 w' (replC L i [.B b E (spliceL cur o zs)]) → LW P N ops rest Q ρ w') :
    LW P N ops (⟨none, .call { callee := .builtin .clear, args := #[x], argTypes := #[T] }, ty, pos, af, none⟩ :: rest) Q ρ w := by
  obtain ⟨zs, hzl, hr⟩ := run_clearB (P := P) (w := w) (ty := ty) (c := c) ht hz hzs hzo (Nat.le_of_ble_eq_true hs) hm (H.blk hi) hl
  refine LW.val (v := .tuple #[]) rfl (fun _ e => by cases e) ?_ (h _ zs hzl (H.stored hi setRow_ext (by simp) (setRow_blk (H.blk hi))))
  simp only [execOp, resolve, invoke, builtin, Sem.run_bind, Sem.run_pure, Result.andThen_ok, List.map_toArray, List.map_cons, List.map_nil, hx, hr]
/-- Slices of a row, the value written out. -/
theorem x_sliceHc {ao : Option Addr} {p cap s : Nat} {kh : IntKind} {h : Int} (hT : P.underlying T = some (.slice E)) (hs : ∀ w, (sizeOf E).run P w = .ok s w) (hx : ev ρ x = .slice ao p cap) (hz : ev ρ z = .int kh h) (h1 : 0 ≤ h) (h2 : h ≤ cap) :
    (execOp (ev ρ) ⟨dd, .slice T x none (some z) none, ty, pos, af, gg⟩).run P w = .ok (.value (.slice ao h.toNat cap)) w := by
  have hE : P.elem T = E := by simp [Program.elem, hT]
  have hr := run_slice_h (P := P) w T ao p cap (by rw [hE]; exact hT) kh h h1 (by omega)
  rw [hE, hs] at hr
  simp only [execOp, hx, hz, Option.map_some, Option.map_none, Sem.run_bind]
  simp [go_sem, run_sliceAt_slice w T _ _ _ _ (by rw [hE]; exact hT), hr, sliced]
theorem x_sliceLc {ao : Option Addr} {p cap s : Nat} {kl : IntKind} {l : Int} (hT : P.underlying T = some (.slice E)) (hs : ∀ w, (sizeOf E).run P w = .ok s w) (hx : ev ρ x = .slice ao p cap) (hy : ev ρ y = .int kl l) (h0 : 0 ≤ l) (h2 : l ≤ p) :
    (execOp (ev ρ) ⟨dd, .slice T x (some y) none none, ty, pos, af, gg⟩).run P w = .ok (.value (.slice (if cap = l.toNat then ao else ao.map (·.add (l.toNat * s))) (p - l.toNat) (cap - l.toNat))) w := by
  have hE : P.elem T = E := by simp [Program.elem, hT]
  have hr := run_slice_l (P := P) w T ao p cap (by rw [hE]; exact hT) kl l h0 h2
  rw [hE, hs] at hr
  simp only [execOp, hx, hy, Option.map_some, Option.map_none, Sem.run_bind]
  simp [go_sem, run_sliceAt_slice w T _ _ _ _ (by rw [hE]; exact hT), hr, sliced]
theorem r_sliceLc {ao : Option Addr} {p cap s : Nat} {kl : IntKind} {l : Int} (hd : Nat.blt d N.n = true) (hT : P.underlying T = some (.slice E)) (hs : ∀ w, (sizeOf E).run P w = .ok s w) (hx : ev ρ x = .slice ao p cap) (hy : ev ρ y = .int kl l) (h0 : 0 ≤ l) (h2 : l ≤ p)
    (h : LW P N ops rest Q (upd ρ d (.slice (if cap = l.toNat then ao else ao.map (·.add (l.toNat * s))) (p - l.toNat) (cap - l.toNat))) w) : LW P N ops (⟨some d, .slice T x (some y) none none, ty, pos, af, none⟩ :: rest) Q ρ w := LW.v hd (x_sliceLc hT hs hx hy h0 h2) h
theorem r_sliceLHc {ao : Option Addr} {len cap s : Nat} {kl kh : IntKind} {l h : Int} (hd : Nat.blt d N.n = true) (hT : P.underlying T = some (.slice E)) (hs : ∀ w, (sizeOf E).run P w = .ok s w) (hx : ev ρ x = .slice ao len cap) (hy : ev ρ y = .int kl l) (hz : ev ρ z = .int kh h)
    (h0 : 0 ≤ l) (h1 : l ≤ h) (h2 : h ≤ cap) (hk : LW P N ops rest Q (upd ρ d (.slice (if cap = l.toNat then ao else ao.map (·.add (l.toNat * s))) (h.toNat - l.toNat) (cap - l.toNat))) w) : LW P N ops (⟨some d, .slice T x (some y) (some z) none, ty, pos, af, none⟩ :: rest) Q ρ w := LW.v hd (x_sliceLH hT hs hx hy hz h0 h1 h2) hk
theorem r_sliceLHMc {ao : Option Addr} {p cap s : Nat} {kl kh km : IntKind} {l h m : Int} (hd : Nat.blt d N.n = true) (hT : P.underlying T = some (.slice E)) (hs : ∀ w, (sizeOf E).run P w = .ok s w) (hx : ev ρ x = .slice ao p cap) (hy : ev ρ y = .int kl l) (hz : ev ρ z = .int kh h) (hz2 : ev ρ y2 = .int km m)
    (h0 : 0 ≤ l) (h1 : l ≤ h) (h2 : h ≤ m) (h3 : m ≤ cap) (hk : ∀ v, LW P N ops rest Q (upd ρ d v) w) :
    LW P N ops (⟨some d, .slice T x (some y) (some z) (some y2), ty, pos, af, none⟩ :: rest) Q ρ w := by
  have hE : P.elem T = E := by simp [Program.elem, hT]
  have hr := run_slice_lhm (P := P) w T ao p cap (by rw [hE]; exact hT) kl kh km l h m h0 h1 h2 (by omega)
  rw [hE, hs] at hr
  refine LW.v hd (v := sliced ao l.toNat h.toNat m.toNat s) ?_ (hk _)
  simp only [execOp, hx, hy, hz, hz2, Option.map_some, Option.map_none, Sem.run_bind]
  simp [go_sem, run_sliceAt_slice w T _ _ _ _ (by rw [hE]; exact hT), hr]
theorem at_part {b cap s : Nat} {l : Nat} (h : l < cap) : (if cap = l then (some ⟨b, 0, none⟩ : Option Addr) else (some ⟨b, 0, none⟩ : Option Addr).map (·.add (l * s))) = some ⟨b, l * s, none⟩ := by
  rw [if_neg (by omega)]; simp [addr_add]
theorem r_sliceLHp {b p cap s : Nat} {kl kh : IntKind} {l h : Int} (hd : Nat.blt d N.n = true) (hT : P.underlying T = some (.slice E)) (hs : ∀ w, (sizeOf E).run P w = .ok s w) (hx : ev ρ x = .slice (some ⟨b, 0, none⟩) p cap) (hy : ev ρ y = .int kl l) (hz : ev ρ z = .int kh h)
    (h0 : 0 ≤ l) (h1 : l ≤ h) (h2 : h ≤ cap) (h3 : l < cap) (hk : LW P N ops rest Q (upd ρ d (.slice (some ⟨b, l.toNat * s, none⟩) (h.toNat - l.toNat) (cap - l.toNat))) w) : LW P N ops (⟨some d, .slice T x (some y) (some z) none, ty, pos, af, none⟩ :: rest) Q ρ w :=
  r_sliceLHc hd hT hs hx hy hz h0 h1 h2 (by rw [at_part (by omega)]; exact hk)
theorem r_sliceLp {b p cap s : Nat} {kl : IntKind} {l : Int} (hd : Nat.blt d N.n = true) (hT : P.underlying T = some (.slice E)) (hs : ∀ w, (sizeOf E).run P w = .ok s w) (hx : ev ρ x = .slice (some ⟨b, 0, none⟩) p cap) (hy : ev ρ y = .int kl l)
    (h0 : 0 ≤ l) (h2 : l ≤ p) (h3 : l < cap) (hk : LW P N ops rest Q (upd ρ d (.slice (some ⟨b, l.toNat * s, none⟩) (p - l.toNat) (cap - l.toNat))) w) : LW P N ops (⟨some d, .slice T x (some y) none none, ty, pos, af, none⟩ :: rest) Q ρ w :=
  r_sliceLc hd hT hs hx hy h0 h2 (by rw [at_part (by omega)]; exact hk)
end rules
theorem retC2 {P : Program} {fn : Func} {R : Ending → World → Prop} {ρ : Env} {w : World} {s0 T0 s1 p n : Nat} {cs : List Value} {u : Value} (h : fn.results = #[.cell s0 T0, .tmp s1]) (h0 : ρ s0 = .pointer (some ⟨p, 0, none⟩))
    (hu : ρ s1 = u) (hT : ∀ w, (isAgg T0).run P w = .ok true w) (hs : ∀ w, (sizeOf T0).run P w = .ok n w) (hc : Cells w p 0 cs) (hl : cs.length = n) (hR : R (.returned (.tuple #[.agg cs.toArray, u])) w) : bodyE P fn R .ret ρ w := by
  refine ⟨_, fun tmps ht => ?_, hR⟩
  have e0 := (ht s0).trans h0
  have e1 := (ht s1).trans hu
  have := run_loadCells_list (P := P) w ⟨p, 0, none⟩ cs (fun j u hu => by rw [addr_add]; exact hc.get j u hu)
  rw [hl] at this
  unfold loadCells at this
  simp only [Array.getD_eq_getD_getElem?] at e0 e1
  simp [results, h, e0, e1, asAddr, loadVar, hT, hs, this, go_sem]
theorem SH.own1 {α : Type} {_r : Row α} {E : TypeId} {w : World} {v : Value} {xs : List α} {g : Option Nat} (h : Ow E w v xs g) : SH (fun b => g = some b) Non w w [.O E v xs g] :=
  SH.fromO (Ext.refl _ _) h (fun b hb => .inl hb)
theorem SH.ow {α : Type} {_r : Row α} {U G : Nat → Prop} {w0 w : World} {L : List Ch} {E : TypeId} {v : Value} {xs : List α} {g : Option Nat} {i : Nat} (H : SH U G w0 w L) (hi : At L i (.O E v xs g)) : Ow E w v xs g := (H.val.1 _ hi.mem).holds
theorem mem_pick {L : List Ch} {d : Ch} : ∀ {is : List Nat}, d ∈ pickC L is → ∃ j ∈ is, nthC L j = some d
  | [], h => by cases h
  | i :: r, h => by
    rw [pickC] at h
    cases hi : nthC L i with
    | none => rw [hi] at h; obtain ⟨j, hj, e⟩ := mem_pick h; exact ⟨j, by simp [hj], e⟩
    | some c =>
      rw [hi] at h
      rcases List.mem_cons.1 h with rfl | h
      · exact ⟨i, by simp, hi⟩
      · obtain ⟨j, hj, e⟩ := mem_pick h; exact ⟨j, by simp [hj], e⟩
theorem pick_apart {L : List Ch} (h : L.Pairwise Apart) : ∀ {is : List Nat}, is.Nodup → (pickC L is).Pairwise Apart
  | [], _ => List.Pairwise.nil
  | i :: r, hn => by
    rw [List.nodup_cons] at hn
    have ih := pick_apart h hn.2
    rw [pickC]
    cases hi : nthC L i with
    | none => exact ih
    | some c =>
      refine List.Pairwise.cons (fun d hd => ?_) ih
      obtain ⟨j, hj, e⟩ := mem_pick hd
      have hij : i ≠ j := fun e => hn.1 (e ▸ hj)
      rcases Nat.lt_or_gt_of_ne hij with hlt | hlt
      · exact apart_lt L i j c d h hi e hlt
      · exact (apart_lt L j i d c h e hi hlt).symm
/-- Some chunks, in any order. -/
theorem SH.sel {U G : Nat → Prop} {w0 w : World} {L M : List Ch} (H : SH U G w0 w L) (is : List Nat) (hn : is.Nodup) (hp : pickC L is = M) : SH U G w0 w M := by
  subst hp
  refine ⟨H.ext, fun c hc => ?_, pick_apart H.val.2 hn⟩
  obtain ⟨j, _, e⟩ := mem_pick hc
  exact H.val.1 c (At.mem (i := j) e)
theorem SH.updO {α : Type} {_r : Row α} {U G : Nat → Prop} {w0 w w' : World} {L M : List Ch} {E : TypeId} {v : Value} {xs : List α} {g : Option Nat} {i : Nat} (H : SH U G w0 w L) (hi : At L i (.O E v xs g)) (K : SH (fun b => g = some b) Non w w' M) : SH U G w0 w' (replC L i M) :=
  SH.upd H hi trivial K
theorem SH.updP {U G F : Nat → Prop} {A : World → Prop} {w0 w w' : World} {L M : List Ch} {i : Nat} (H : SH U G w0 w L) (hi : At L i (.P F A)) (K : SH F Non w w' M) : SH U G w0 w' (replC L i M) :=
  SH.upd H hi trivial K
/-- What lies behind a place of a block, as a slice that append or copy takes from. -/
theorem Blk.tail {P : Program} {w : World} {b cap n s l : Nat} {E : TypeId} {cur cs : List Value} (hb : Blk w b E cur) (ht : cur.take (n * s) = cs) (hl : cur.length = cap * s) (hn : n ≤ cap) (hm : cap ≤ maxLen) (h1 : ∀ u ∈ cs, oneC u = true) (hln : l ≤ n) :
    Src P s w (.slice (if cap = l then some ⟨b, 0, none⟩ else (some (⟨b, 0, none⟩ : Addr)).map (·.add (l * s))) (n - l) (cap - l)) (n - l) (cs.drop (l * s)) := by
  have hms : n * s ≤ cap * s := Nat.mul_le_mul_right _ hn
  have hcl : cs.length = n * s := by rw [← ht, List.length_take, hl]; omega
  have hsl : Sl Any w (.slice (some ⟨b, 0, none⟩) n cap) n cs := ⟨_, _, rfl, hn, hm, .inr ⟨b, 0, rfl, trivial, Cells.of fun j u hj => by
    rw [← ht, List.getElem?_take] at hj
    split at hj
    · exact hb.cellsAll.get j u hj
    · cases hj⟩⟩
  have hc := Sl.cut hsl hcl l n hln (Nat.le_refl _)
  rw [List.take_of_length_le (by rw [List.length_drop, hcl, ← Nat.sub_mul]; exact Nat.le_refl _)] at hc
  exact Src.slice hc (by rw [List.length_drop, hcl, ← Nat.sub_mul]) (fun u hu => h1 u (List.mem_of_mem_drop hu))
theorem take_set {α : Type} {ys : List α} {i : Nat} {x : α} (h : i < ys.length) : (ys.set i x).take (i + 1) = ys.take i ++ [x] := by
  rw [take_snoc (x := x) (by rw [List.getElem?_set_self h]), List.take_set_of_le (Nat.le_refl _)]
theorem splice_len {cur vs : List Value} {o : Nat} (h : o + vs.length ≤ cur.length) : (spliceL cur o vs).length = cur.length := by simp [spliceL]; omega
theorem splice_front {cur vs : List Value} {o : Nat} (h : o ≤ cur.length) : (spliceL cur o vs).take o = cur.take o := by
  simp only [spliceL, List.append_assoc]
  rw [List.take_append, List.length_take, Nat.min_eq_left h, Nat.sub_self, List.take_zero, List.append_nil, List.take_take, Nat.min_self]
theorem splice_upto {cur vs : List Value} {o : Nat} (h : o ≤ cur.length) : (spliceL cur o vs).take (o + vs.length) = cur.take o ++ vs := by
  simp only [spliceL]
  have : o + vs.length = (cur.take o ++ vs).length := by simp; omega
  rw [this, List.take_left]
end Go.V
namespace Go.V
set_option linter.unusedSimpArgs false
set_option linter.unusedVariables false
open Go.RowKit Go.ChangeShapes Go.WideShapes
section
variable {H : Type} {enc : TypeId × Value → H} {P : Program} {w : World} {base : Nat} {spare : Nat → Bool} {held : Bool}
end
end Go.V
namespace Go.V
set_option linter.unusedSimpArgs false
set_option linter.unusedVariables false
open Go.RowKit Go.ChangeShapes Go.WideShapes
/-- What reads as data of a type is one of ours. -/
def Opens (P : Program) {α : Type} [Row α] (t : TypeId) (Good : World → α → Prop) : Prop :=
  ∀ (H : Type) (enc : TypeId × Value → H) (w : World) (base : Nat) (spare : Nat → Bool) (held : Bool) (fuel : Nat) (cs : List Value) (x : DataW H × List MemPlace), cs.length = Row.sz α → DataW.trod enc P w base spare held fuel t cs = some x →
    ∃ a : α, Row.cells a = cs ∧ (Row.cells a).all oneC = true ∧ Good w a
theorem addr_plain {w : World} {a : Addr} {u : Value} (h : w.cell? a = some u) : a = ⟨a.block, a.off, none⟩ := by
  obtain ⟨b, o, sp⟩ := a
  cases sp with
  | none => rfl
  | some s => exfalso; simp only [World.cell?] at h; split at h <;> simp at h
theorem choose_list {β : Type} {Q : Nat → β → Prop} : ∀ {len : Nat}, (∀ i, i < len → ∃ y, Q i y) → ∃ xs : List β, xs.length = len ∧ ∀ i y, xs[i]? = some y → Q i y
  | 0, _ => ⟨[], rfl, by simp⟩
  | k + 1, each => by
    obtain ⟨xs, hxl, hx⟩ := choose_list (len := k) (fun i hi => each i (by omega))
    obtain ⟨y, hy⟩ := each k (by omega)
    refine ⟨xs ++ [y], by simp [hxl], fun i z hz => ?_⟩
    by_cases hik : i < xs.length
    · rw [List.getElem?_append_left hik] at hz; exact hx i z hz
    · rw [List.getElem?_append_right (by omega)] at hz
      have : i - xs.length = 0 := by
        have := (List.getElem?_eq_some_iff.1 hz).1
        simp at this; omega
      rw [this] at hz
      simp at hz
      subst hz
      rw [show i = k from by omega]; exact hy
theorem Opens.rows {P : Program} {β : Type} [Row β] {t e : TypeId} {Good : World → β → Prop} (ht : P.underlying t = some (.slice e)) (he : Opens P (α := β) e Good) (hC : P.cellsOf e = Row.sz β)
    {H : Type} {enc : TypeId × Value → H} {w : World} {base : Nat} {spare : Nat → Bool} {held : Bool} {fuel : Nat} {cs : List Value} {x : DataW H × List MemPlace} (h : DataW.trod enc P w base spare held fuel t cs = some x) :
    ∃ (v : Value) (xs : List β), cs = [v] ∧ Rs (Old w) w v xs ∧ ∀ y ∈ xs, Good w y := by
  rcases DataW.trod_slice ht h with ⟨rfl, _⟩ | ⟨a, len, cap, elems, rest, n, _, rfl, _, hb, hl, hm, hel, hget, _, _⟩
  · exact ⟨_, [], rfl, Rs.nil, by simp⟩
  · refine ⟨.slice (some a) len cap, ?_⟩
    have each : ∀ i, i < len → ∃ y : β, (Row.cells y).all oneC = true ∧ Good w y ∧ ∀ j u, (Row.cells y)[j]? = some u → w.cell? ((a.add (i * Row.sz β)).add j) = some u := by
      intro i hi
      have h1 := hget i hi
      rw [List.getElem?_eq_getElem (by omega)] at h1
      obtain ⟨cs', hc, h2⟩ := Option.bind_eq_some_iff.1 h1
      obtain ⟨_, hcl, hat⟩ := World.cells?_some hc
      obtain ⟨y, hy, ho, hg⟩ := he H enc w base spare held n cs' _ (hcl.trans hC) h2
      refine ⟨y, ho, hg, fun j u hj => ?_⟩
      rw [hy] at hj
      have hjl := (List.getElem?_eq_some_iff.1 hj).1
      rw [hC] at hat
      rw [hat j (by rw [hcl, hC] at hjl; exact hjl), hj]
    have hxs := choose_list each
    obtain ⟨xs, hxl, hx⟩ := hxs
    refine ⟨xs, rfl, ⟨⟨some a, cap, by rw [hxl], by omega, hm, ?_⟩, fun y hy => ?_⟩, fun y hy => ?_⟩
    · cases xs with
      | nil => exact .inl rfl
      | cons y0 r =>
        right
        have h0 := (hx 0 y0 rfl).2.2
        have hp : 0 < Row.sz β := Nat.le_of_ble_eq_true Row.pos
        have hc0 := h0 0 _ (List.getElem?_eq_getElem (by rw [Row.len]; exact hp))
        simp only [Nat.zero_mul] at hc0
        have e0 : (a.add 0).add 0 = a := by unfold Addr.add; simp
        rw [e0] at hc0
        have ea := addr_plain hc0
        refine ⟨a.block, a.off, by rw [← ea], World.block_lt_of_cell? _ _ hc0, Cells.of fun q u hq => ?_⟩
        have hql := (List.getElem?_eq_some_iff.1 hq).1
        rw [flat_len] at hql
        have hqi : q / Row.sz β < (y0 :: r).length := Nat.div_lt_of_lt_mul (by rw [Nat.mul_comm]; exact hql)
        obtain ⟨y, hy⟩ := get_of_lt hqi
        have hqm : q % Row.sz β < Row.sz β := Nat.mod_lt _ hp
        have hdm : q / Row.sz β * Row.sz β + q % Row.sz β = q := by rw [Nat.mul_comm]; exact Nat.div_add_mod q _
        have hg := flat_get hy (q % Row.sz β) hqm
        rw [hdm, hq] at hg
        have := (hx _ y hy).2.2 (q % Row.sz β) u hg.symm
        rw [ea, addr_add, addr_add] at this
        rw [show a.off + q = a.off + q / Row.sz β * Row.sz β + q % Row.sz β from by omega]
        exact this
    · obtain ⟨i, hi⟩ := List.mem_iff_getElem?.1 hy
      exact (hx i y hi).1
    · obtain ⟨i, hi⟩ := List.mem_iff_getElem?.1 hy
      exact (hx i y hi).2.1
def I64 (a : Int) : Prop := -9223372036854775808 ≤ a ∧ a ≤ 9223372036854775807
theorem u8_wf {a : Int} (h : (Lit.int .u8 a).wf = true) : ∃ x : UInt8, Value.int .u8 a = u8v x := by
  simp [Lit.wf, IntKind.min, IntKind.max, IntKind.bits, IntKind.signed] at h
  refine ⟨UInt8.ofNat a.toNat, ?_⟩
  rw [u8v, UInt8.toNat_ofNat']
  congr 1; omega
theorem opens_u8 {P : Program} {t : TypeId} (ht : P.underlying t = some (.int .u8)) : Opens P (α := UInt8) t (fun _ _ => True) := fun H enc w base spare held fuel cs x _ h => by
  obtain ⟨n, rfl, _, hw⟩ := DataW.trod_int ht h
  obtain ⟨y, hy⟩ := u8_wf hw
  exact ⟨y, by rw [hy]; rfl, rfl, trivial⟩
/-- A slice that is itself an element of a row. -/
structure Sv where
  v : Value
instance : Row Sv := ⟨1, fun s => [s.v], ⟨.slice none 0 0⟩, fun _ => rfl, rfl⟩
/-- An argument of a slice's type. -/
theorem open_rows {P : Program} {β : Type} [Row β] {t e : TypeId} {Good : World → β → Prop} (ht : P.underlying t = some (.slice e)) (he : Opens P (α := β) e Good) (hC : P.cellsOf e = Row.sz β)
    {H : Type} {enc : TypeId × Value → H} {w : World} {base : Nat} {spare : Nat → Bool} {held : Bool} {r : Reach} {b0 : Nat} {v : Value} {d : DataW H} {p : List MemPlace} (hv : Value.okWide P w r b0 t v) (h : DataW.Trod enc P w base spare held t v d p) :
    ∃ xs : List β, Rs (Old w) w v xs ∧ ∀ y ∈ xs, Good w y := by
  obtain ⟨a, len, cap, rfl⟩ := okWide_slice ht hv
  obtain ⟨fuel, hf⟩ := h
  obtain ⟨v, xs, e, hr, hg⟩ := Opens.rows ht he hC hf
  simp [Value.cells] at e
  exact ⟨xs, e ▸ hr, hg⟩
/-- .. of a struct's. -/
def agg {α : Type} [Row α] (a : α) : Value := .agg (Row.cells a).toArray
end Go.V
namespace Go.V
set_option linter.unusedSimpArgs false
set_option linter.unusedVariables false
open Go.RowKit
/-- Two lists, alike member by member. -/
def All2 {α β : Type} (R : α → β → Prop) : List α → List β → Prop
  | [], [] => True
  | a :: as, b :: bs => R a b ∧ All2 R as bs
  | _, _ => False
section
variable {α β : Type} {R S : α → β → Prop}
theorem All2.len : ∀ {as : List α} {bs : List β}, All2 R as bs → as.length = bs.length
  | [], [], _ => rfl
  | a :: as, b :: bs, h => by simp [All2.len h.2]
theorem All2.mono (hm : ∀ a b, R a b → S a b) : ∀ {as : List α} {bs : List β}, All2 R as bs → All2 S as bs
  | [], [], _ => trivial
  | a :: as, b :: bs, h => ⟨hm a b h.1, h.2.mono hm⟩
theorem All2.get : ∀ {as : List α} {bs : List β} {i : Nat} {a : α}, All2 R as bs → as[i]? = some a → ∃ b, bs[i]? = some b ∧ R a b
  | a :: as, b :: bs, 0, x, h, hx => by simp at hx; subst hx; exact ⟨b, rfl, h.1⟩
  | a :: as, b :: bs, i + 1, x, h, hx => by
    obtain ⟨y, hy, hr⟩ := h.2.get (i := i) (by simpa using hx)
    exact ⟨y, by simpa using hy, hr⟩
theorem All2.app : ∀ {as as' : List α} {bs bs' : List β}, All2 R as bs → All2 R as' bs' → All2 R (as ++ as') (bs ++ bs')
  | [], _, [], _, _, k => k
  | a :: as, _, b :: bs, _, h, k => ⟨h.1, h.2.app k⟩
theorem All2.snoc {as : List α} {bs : List β} {a : α} {b : β} (h : All2 R as bs) (k : R a b) : All2 R (as ++ [a]) (bs ++ [b]) := h.app ⟨k, trivial⟩
theorem All2.take : ∀ {as : List α} {bs : List β} (n : Nat), All2 R as bs → All2 R (as.take n) (bs.take n)
  | [], [], n, _ => by simp [All2]
  | a :: as, b :: bs, 0, h => by simp [All2]
  | a :: as, b :: bs, n + 1, h => ⟨h.1, h.2.take n⟩
theorem All2.drop : ∀ {as : List α} {bs : List β} (n : Nat), All2 R as bs → All2 R (as.drop n) (bs.drop n)
  | [], [], n, _ => by simp [All2]
  | a :: as, b :: bs, 0, h => h
  | a :: as, b :: bs, n + 1, h => h.2.drop n
theorem All2.set : ∀ {as : List α} {bs : List β} (n : Nat) {a : α} {b : β}, All2 R as bs → R a b → All2 R (as.set n a) (bs.set n b)
  | [], [], n, a, b, _, _ => by simp [All2]
  | x :: as, y :: bs, 0, a, b, h, k => ⟨k, h.2⟩
  | x :: as, y :: bs, n + 1, a, b, h, k => ⟨h.1, h.2.set n k⟩
theorem All2.of : ∀ {as : List α} {bs : List β}, as.length = bs.length → (∀ (i : Nat) (a : α) (b : β), as[i]? = some a → bs[i]? = some b → R a b) → All2 R as bs
  | [], [], _, _ => trivial
  | a :: as, b :: bs, hl, h => ⟨h 0 a b rfl rfl, All2.of (by simpa using hl) (fun i x y hx hy => h (i + 1) x y (by simpa using hx) (by simpa using hy))⟩
theorem All2.map {γ : Type} {f : γ → α} {g : γ → β} : ∀ {cs : List γ}, (∀ c ∈ cs, R (f c) (g c)) → All2 R (cs.map f) (cs.map g)
  | [], _ => trivial
  | c :: cs, h => ⟨h c (by simp), All2.map fun d hd => h d (by simp [hd])⟩
end
/-- What a thing owns: all lies in FN. -/
def ObjA (FN : Nat → Prop) (w : World) (M : List Ch) : Prop := Val FN Non w M ∧ ∀ b, FN b → b < w.heap.size
theorem ObjA.up {FN V : Nat → Prop} {w w' : World} {M : List Ch} (h : ObjA FN w M) (e : Ext V w w') (hd : ∀ b, FN b → ¬ V b) : ObjA FN w' M :=
  ⟨h.1.up e (fun c hc b hb => hd b (((h.1.1 c hc).imm b hb).elim id (fun q => q.elim))), fun b hb => Nat.lt_of_lt_of_le (h.2 b hb) e.size⟩
section
variable {U G FN : Nat → Prop} {w0 w w' : World} {L M : List Ch}
theorem SH.obj (h : ObjA FN w M) : SH FN G w w M := ⟨Ext.refl _ _, h.1.mono (fun b _ hb => .inl hb) (fun b _ hb => hb.elim)⟩
theorem SH.argU {α : Type} [Row α] {F : Nat → Prop} {v : Value} {xs : List α} (H : SH U Any w w L) (h : Rs F w v xs) (hF : ∀ b, F b → ¬ U b) : SH U Any w w (L ++ [.R (fun b => F b ∧ b < w.heap.size) v xs]) := by
  have h1 := h.mono (K := fun b => F b ∧ b < w.heap.size) (fun b hb hF => ⟨hF, hb⟩)
  refine ⟨H.ext, H.val.app (Val.one ⟨h1, Ch.stR, fun b hb => hb.2, fun h => h.elim, fun b hb => .inr trivial⟩) ?_⟩
  intro c hc d hd ho b h2 h3
  rw [List.mem_singleton] at hd
  subst hd
  rcases ho with ho | ho
  · rcases (H.val.1 c hc).own ho b h2 with q | q
    · exact hF b h3.1 q
    · exact absurd h3.2 (by omega)
  · exact ho
theorem SH.objP {A : World → Prop} {F : Nat → Prop} (h : A w) (hst : Ch.St F A) (hlt : ∀ w, A w → ∀ b, F b → b < w.heap.size) : SH F G w w [.P F A] :=
  ⟨Ext.refl _ _, Val.one ⟨h, hst, hlt w h, fun _ b hb => .inl hb, fun b hb => .inl (.inl hb)⟩⟩
def toImm : Ch → Ch
  | .B b E cs => .I (fun k => k = b) (fun w => Blk w b E cs)
  | @Ch.O _ _ _ v xs g => .R (fun b => g = some b) v xs
  | @Ch.R _ _ F v xs => .R F v xs
  | .P F A => .I F A
  | .I F A => .I F A
theorem toImm_own (c : Ch) : ¬ (toImm c).own := by cases c <;> exact fun h => h
theorem toImm_F (c : Ch) : (toImm c).F = c.F := by cases c <;> rfl
theorem toImm_A {c : Ch} {w : World} (h : c.A w) : (toImm c).A w := by cases c <;> first | exact h | exact Ow.rs h
theorem toImm_st {c : Ch} (h : c.st) : (toImm c).st := by
  cases c with
  | O E v xs g => exact Ch.stR
  | B b E cs => exact h
  | R F v xs => exact h
  | P F A => exact h
  | I F A => exact h
/-- A thing that is looked at alone. -/
theorem SH.look (h : ObjA FN w M) : SH Non Any w w (M.map toImm) := by
  refine ⟨Ext.refl _ _, fun c hc => ?_, ?_⟩
  · obtain ⟨d, hd, rfl⟩ := List.mem_map.1 hc
    have k := h.1.1 d hd
    exact ⟨toImm_A k.holds, toImm_st k.st, fun b hb => k.lt b (by rwa [toImm_F] at hb), fun o => absurd o (toImm_own d), fun b _ => .inr trivial⟩
  · rw [List.pairwise_map]
    exact h.1.2.imp fun _ ho => ho.elim (fun q => absurd q (toImm_own _)) (fun q => absurd q (toImm_own _))
theorem SH.cellI {b o : Nat} {E : TypeId} {cs : List Value} {u : Value} {i : Nat} {F : Nat → Prop} (H : SH U G w0 w L) (hi : At L i (.I F (fun w => Blk w b E cs))) (hu : cs[o]? = some u) : w.cell? ⟨b, o, none⟩ = some u := Blk.cell (SH.propI H hi) hu
/-- Some chunks, all owned, are one thing. -/
def foot (M : List Ch) : Nat → Prop := fun b => ∃ c ∈ M, c.F b
theorem SH.objA (H : SH U G w0 w M) : ObjA (foot M) w M :=
  ⟨⟨fun c hc => have k := H.val.1 c hc
    ⟨k.holds, k.st, k.lt, fun _ b hb => ⟨c, hc, hb⟩, fun b hb => .inl ⟨c, hc, hb⟩⟩, H.val.2⟩, fun b ⟨c, hc, hb⟩ => (H.val.1 c hc).lt b hb⟩
theorem AllOwn.all : ∀ {L : List Ch}, AllOwn L → ∀ c ∈ L, c.own := fun h c hc => h.mem c hc
/-- The thing that some chunks make, in their place. -/
theorem SH.pack {A : World → Prop} (H : SH U G w0 w (M ++ L)) (ho : AllOwn M) (hst : Ch.St (foot M) A) (hA : ObjA (foot M) w M → A w) : SH U G w0 w (.P (foot M) A :: L) := by
  have hM : SH U G w0 w M := H.sub (List.sublist_append_left _ _)
  have hL : SH U G w0 w L := H.sub (List.sublist_append_right _ _)
  refine ⟨H.ext, Val.cons ⟨hA hM.objA, hst, hM.objA.2, fun _ b ⟨c, hc, hb⟩ => (hM.val.1 c hc).own (ho.mem c hc) b hb, fun b ⟨c, hc, hb⟩ => (hM.val.1 c hc).imm b hb⟩ hL.val fun d hd hod b ⟨c, hc, hb⟩ hb2 => ?_⟩
  exact (List.pairwise_append.1 H.val.2).2.2 c hc d hd (.inl (ho.mem c hc)) b hb hb2
/-- What one more chunk holds becomes the thing's own. -/
theorem SH.absorb {F : Nat → Prop} {A A' : World → Prop} {c : Ch} (H : SH U G w0 w (.P F A :: c :: L)) (hc : c.own) (hst : Ch.St (fun b => F b ∨ c.F b) A') (hA : A w → c.A w → A' w) : SH U G w0 w (.P (fun b => F b ∨ c.F b) A' :: L) := by
  have h1 := H.val.1 (.P F A) (by simp)
  have h2 := H.val.1 c (by simp)
  have hp := List.pairwise_cons.1 H.val.2
  have hp2 := List.pairwise_cons.1 hp.2
  refine ⟨H.ext, Val.cons ⟨hA h1.holds h2.holds, hst, fun b hb => hb.elim (h1.lt b) (h2.lt b), fun _ b hb => hb.elim (h1.own trivial b) (h2.own hc b), fun b hb => hb.elim (h1.imm b) (h2.imm b)⟩
    ⟨fun d hd => H.val.1 d (by simp [hd]), hp2.2⟩ fun d hd hod b hb hb2 => ?_⟩
  rcases hb with hb | hb
  · exact hp.1 d (by simp [hd]) (.inl trivial) b hb hb2
  · exact hp2.1 d hd (.inl hc) b hb hb2
/-- A thing seen as the chunks that it is made of. -/
theorem SH.unpack {A : World → Prop} {F : Nat → Prop} {i : Nat} (H : SH U G w0 w L) (hi : At L i (.P F A)) (hA : ObjA F w M) : SH U G w0 w (replC L i M) := by
  have k : SH (Ch.P F A).F Non w w M := ⟨Ext.refl _ _, hA.1.mono (fun b _ hb => .inl hb) (fun b _ hb => hb.elim)⟩
  exact H.upd hi trivial k
end
end Go.V
namespace Go.V
set_option linter.unusedSimpArgs false
set_option linter.unusedVariables false
open Go.RowKit
section
variable {P : Program} {N : Fr} {ops : Array Oper} {rest : List Oper} {Q : EPost} {ρ : Env} {w : World}
variable {d : Nat} {dd : Option Nat} {gg : Option (Nat × Bool)} {ty : TypeId} {ts : Array TypeId} {pos : String} {af : Array Edge} {x y : Operand} {k k' : IntKind} {m n : Int}
theorem x_max (hx : ev ρ x = .int k m) (hy : ev ρ y = .int k' n) : (execOp (ev ρ) ⟨dd, .call { callee := .builtin .max, args := #[x, y], argTypes := ts }, ty, pos, af, gg⟩).run P w = .ok (.value (.int k (max m n))) w := by
  simp [go_sem, hx, hy, Go.Lib.run_max_ints]
theorem x_min (hx : ev ρ x = .int k m) (hy : ev ρ y = .int k' n) : (execOp (ev ρ) ⟨dd, .call { callee := .builtin .min, args := #[x, y], argTypes := ts }, ty, pos, af, gg⟩).run P w = .ok (.value (.int k (min m n))) w := by
  simp [go_sem, hx, hy, Go.Lib.run_min_ints]
theorem r_max (hd : Nat.blt d N.n = true) (hx : ev ρ x = .int k m) (hy : ev ρ y = .int k' n) (h : LW P N ops rest Q (upd ρ d (.int k (max m n))) w) : LW P N ops (⟨some d, .call { callee := .builtin .max, args := #[x, y], argTypes := ts }, ty, pos, af, none⟩ :: rest) Q ρ w := LW.v hd (x_max hx hy) h
theorem r_min (hd : Nat.blt d N.n = true) (hx : ev ρ x = .int k m) (hy : ev ρ y = .int k' n) (h : LW P N ops rest Q (upd ρ d (.int k (min m n))) w) : LW P N ops (⟨some d, .call { callee := .builtin .min, args := #[x, y], argTypes := ts }, ty, pos, af, none⟩ :: rest) Q ρ w := LW.v hd (x_min hx hy) h
theorem x_lenW {α : Type} {_r : Row α} {F : Nat → Prop} {T E : TypeId} {v : Value} {xs : List α} {w2 : World} (hT : P.underlying T = some (.slice E)) (hx : ev ρ x = v) (hr : Rs F w2 v xs) : (execOp (ev ρ) ⟨dd, .call { callee := .builtin .len, args := #[x], argTypes := #[T] }, ty, pos, af, gg⟩).run P w = .ok (.value (.int .i64 xs.length)) w := by
  obtain ⟨ao, cap, rfl, _, _⟩ := hr.shape
  exact x_len hT hx
theorem r_lenW {α : Type} {_r : Row α} {F : Nat → Prop} {T E : TypeId} {v : Value} {xs : List α} {w2 : World} (hd : Nat.blt d N.n = true) (hT : P.underlying T = some (.slice E)) (hx : ev ρ x = v) (hr : Rs F w2 v xs) (h : LW P N ops rest Q (upd ρ d (.int .i64 xs.length)) w) : LW P N ops (⟨some d, .call { callee := .builtin .len, args := #[x], argTypes := #[T] }, ty, pos, af, none⟩ :: rest) Q ρ w := LW.v hd (x_lenW hT hx hr) h
end
end Go.V
namespace Go.V
set_option linter.unusedSimpArgs false
set_option linter.unusedVariables false
open Go.RowKit
end Go.V
namespace Go.V
set_option linter.unusedSimpArgs false
set_option linter.unusedVariables false
open Go.RowKit
/-- append(v, make(n)...) where there is no room: a new block, the old cells ahead. -/
theorem run_growB {P : Program} {w : World} {t u ty E : TypeId} {i : TypeInfo} {z : Value} {s : Nat} (ht : P.underlying t = some (.slice E)) (hu : P.underlying u = some (.int .i64)) (hi : P.info? E = some i) (hz : i.zero = some z)
    (hs : i.size = s) (hzs : z.cells.size = s) {b p cap n : Nat} {cs : List Value} (hc : Cells w b 0 cs) (hcl : cs.length = p * s) (hcap : cap < p + n) (hb : (p + n) * i.bytes ≤ 140737488355328) (h63 : p + n ≤ maxLen) (h0 : 0 < n) (hsz : 0 < s) :
    ∃ w' cap' cur, (Builtin.append_ #[t, u] ty #[.slice (some ⟨b, 0, none⟩) p cap, .int .i64 n]).run P w = .ok (.slice (some ⟨w.heap.size, 0, none⟩) (p + n) cap') w' ∧ p + n ≤ cap' ∧ cap' ≤ maxLen ∧ Blk w' w.heap.size E cur ∧ cur.length = cap' * s ∧ cur.take (p * s) = cs ∧ w'.heap.size = w.heap.size + 1 ∧ Ext0 w w' := by
  subst hs
  have h63m : p + n ≤ 9223372036854775807 := by simpa [maxLen] using h63
  have hw : IntKind.i64.wrap (n : Int) = n := wr_i64 (by omega) (by omega)
  have hfit := growslice_fits hcap hb
  have h48 : ¬ (281474976710656 < Builtin.nextslicecap (p + n) cap * i.bytes) := by omega
  have hnb : n * i.bytes ≤ 140737488355328 := Nat.le_trans (Nat.mul_le_mul_right _ (by omega)) hb
  have h48i : ¬ ((n : Int) * (i.bytes : Int) > 281474976710656) := by
    have := Int.ofNat_le.2 hnb
    rw [Int.natCast_mul] at this; omega
  have h48j : ¬ (281474976710656 < (n : Int) * (i.bytes : Int)) := by omega
  have hnn : ¬ ((n : Int) < 0) := by omega
  have hmax : max (n : Int) 0 = n := by omega
  have h63' : ¬ (9223372036854775807 < (n : Int)) := by omega
  have h63s : ¬ (9223372036854775807 < ((p : Int) + (n : Int))) := by omega
  have hn : ¬ (p + n ≤ cap) := by omega
  have hge := grownCap_ge w (p + n) cap E
  have hcm := grownCap_le_maxLen w (p + n) cap E h63
  have hfc := run_firstCells_some (P := P) w.drew i.size p ⟨b, 0, none⟩ p cap cs hcl (fun j u hj => by rw [addr_add, World.cell?_drew]; exact hc.get j u hj)
  refine ⟨w.drew.alloc (.cells (cs.toArray ++ Builtin.zeroCells z.cells n ++ Builtin.zeroCells z.cells (grownCap w (p + n) cap E - (p + n))) E), grownCap w (p + n) cap E, (cs.toArray ++ Builtin.zeroCells z.cells n ++ Builtin.zeroCells z.cells (grownCap w (p + n) cap E - (p + n))).toList, ?_, hge, hcm, ?_, ?_, ?_, by simp, ⟨rfl, rfl, rfl, by simp, fun k hk _ => Below.heap_alloc w.drew _ k hk⟩⟩
  · simp [Builtin.append_, run_underlying ht, run_underlying hu, sizeOf, typeInfo, zeroValue, hi, hz, asInt, asIntOf, hw, hn, h63', h63s, h48, h48i, h48j, hnn, hmax, Question.forced, newRow, grownCap, hfc]
    intro h
    have := Nat.mul_pos h0 hsz
    omega
  · rw [Blk, Array.toArray_toList]; exact heap_alloc_new w.drew _
  · simp only [Array.length_toList, Array.size_append, List.size_toArray, size_zeroCells, hzs, hcl, ← Nat.add_mul]
    congr 1
    omega
  · simp only [Array.toList_append, List.append_assoc]
    rw [← hcl]
    exact List.take_left
section
variable {U G : Nat → Prop} {w0 : World} {L : List Ch}
variable {P : Program} {N : Fr} {ops : Array Oper} {rest : List Oper} {Q : EPost} {ρ : Env} {w : World}
variable {d : Nat} {dd : Option Nat} {gg : Option (Nat × Bool)} {ty T T2 E : TypeId} {pos : String} {af : Array Edge} {x y z : Operand} {k : IntKind}
theorem s_growB {i : TypeInfo} {zv : Value} {s b p cap n : Nat} {l : Int} {cs : List Value} (H : SH U G w0 w L) (hd : Nat.blt d N.n = true) (ht : P.underlying T = some (.slice E)) (hu : P.underlying T2 = some (.int .i64)) (hi : P.info? E = some i) (hz : i.zero = some zv) (hs : i.size = s) (hzs : zv.cells.size = s)
    (hx : ev ρ x = .slice (some ⟨b, 0, none⟩) p cap) (hy : ev ρ y = .int .i64 l) (hl : l = (n : Int)) (hc : Cells w b 0 cs) (hcl : cs.length = p * s) (hcap : cap < p + n) (hb : (p + n) * i.bytes ≤ 140737488355328) (h63 : p + n ≤ maxLen) (h0 : 0 < n) (hsz : Nat.blt 0 s = true)
    (h : ∀ b' w' cap' cur, p + n ≤ cap' → cap' ≤ maxLen → cur.length = cap' * s → cur.take (p * s) = cs → SH U G w0 w' (L ++ [.B b' E cur]) → LW P N ops rest Q (upd ρ d (.slice (some ⟨b', 0, none⟩) (p + n) cap')) w') :
    LW P N ops (⟨some d, .call { callee := .builtin .append, args := #[x, y], argTypes := #[T, T2] }, ty, pos, af, none⟩ :: rest) Q ρ w := by
  subst hl
  obtain ⟨w', cap', cur, hr, h1, h2, h3, h4, h5, h6, h7⟩ := run_growB (P := P) (w := w) (ty := ty) ht hu hi hz hs hzs hc hcl hcap hb h63 h0 (Nat.le_of_ble_eq_true hsz)
  refine LW.v hd ?_ (h _ w' cap' cur h1 h2 h4 h5 (SH.call H (SH.fromB h7 rfl h6 h3)))
  simp only [execOp, resolve, invoke, builtin, Sem.run_bind, Sem.run_pure, Result.andThen_ok, List.map_toArray, List.map_cons, List.map_nil, hx, hy, hr]
/-- A call of what the model answers itself. -/
theorem r_callX {f : FuncId} {args : Array Operand} {tys : Array TypeId} {l : List Value} {v : Value} (hd : Nat.blt d N.n = true) (hl : (args.toList.map (ev ρ)) = l) (hr : (callFunc f l.toArray).run P w = .ok (.value v) w) (h : LW P N ops rest Q (upd ρ d v) w) :
    LW P N ops (⟨some d, .call { callee := .value (.func f), args := args, argTypes := tys }, ty, pos, af, none⟩ :: rest) Q ρ w := by
  have hA : args.map (ev ρ) = l.toArray := by rw [← hl, ← Array.toList_map]
  refine LW.v hd ?_ h
  simp [execOp, resolve, ev, hA, hr, invoke, Sem.run_bind, Deferred.ofValue]
/-- slices.overlaps of two slices of two blocks. -/
theorem run_overlapsB {f : FuncId} {fn : Func} {tS tR e EA EB : TypeId} {size ba oa bb ob la ca lb cb : Nat} {csa csb : List Value} (hf : P.funcs[f]? = some fn) (hname : (fn.name == "runtime.NumGoroutine") = false) (hb : fn.body.isNone = true) (hn : Extern.findNext fn = none)
    (he : Extern.find fn = some (Extern.SlicesOverlaps.overlaps #[tS, tS] #[tR])) (ht : P.underlying tS = some (.slice e)) (hz : ∀ w, (Go.sizeOf e).run P w = .ok size w) (hne : ba ≠ bb) (hA : Blk w ba EA csa) (hB : Blk w bb EB csb) (hkB : csb.length ≠ 0) :
    (callFunc f #[.slice (some ⟨ba, oa, none⟩) la ca, .slice (some ⟨bb, ob, none⟩) lb cb]).run P w = .ok (.value (.bool false)) w := by
  unfold Blk at hA hB
  rw [run_callFunc_extern hf hname hb hn he, Lib.run_overlaps_apart w tS tR e ht size hz ⟨ba, oa, none⟩ ⟨bb, ob, none⟩ la ca lb cb hne EA EB csa.length csb.length (by simp [World.shape?, hA]) (by simp [World.shape?, hB]) hkB (by simp [World.frozen?, hA]) (by simp [World.frozen?, hA])]
  rfl
theorem x_sliceLp {b p cap s : Nat} {kl : IntKind} {l : Int} (hT : P.underlying T = some (.slice E)) (hs : ∀ w, (sizeOf E).run P w = .ok s w) (hx : ev ρ x = .slice (some ⟨b, 0, none⟩) p cap) (hy : ev ρ y = .int kl l)
    (h0 : 0 ≤ l) (h2 : l ≤ p) (h3 : l < cap) : (execOp (ev ρ) ⟨dd, .slice T x (some y) none none, ty, pos, af, gg⟩).run P w = .ok (.value (.slice (some ⟨b, l.toNat * s, none⟩) (p - l.toNat) (cap - l.toNat))) w := by
  have := x_sliceLc (dd := dd) (gg := gg) (ty := ty) (pos := pos) (af := af) (w := w) hT hs hx hy h0 h2
  rwa [at_part (by omega)] at this
end
theorem SH.anyG {U : Nat → Prop} {w0 w : World} {L : List Ch} (H : SH U Non w0 w L) : SH U Any w0 w L := ⟨H.ext, H.val.mono (fun _ _ h => h) (fun _ _ h => h.elim)⟩
theorem SH.argI {U F : Nat → Prop} {A : World → Prop} {w : World} {L : List Ch} (H : SH U Any w w L) (hA : A w) (hst : Ch.St F A) (hlt : ∀ b, F b → b < w.heap.size) (hF : ∀ b, F b → ¬ U b) : SH U Any w w (L ++ [.I F A]) := by
  refine ⟨H.ext, H.val.app (Val.one ⟨hA, hst, hlt, fun h => h.elim, fun b hb => .inr trivial⟩) ?_⟩
  intro c hc d hd ho b h2 h3
  rw [List.mem_singleton] at hd
  subst hd
  rcases ho with ho | ho
  · rcases (H.val.1 c hc).own ho b h2 with q | q
    · exact hF b h3 q
    · exact absurd (hlt b h3) (by omega)
  · exact ho
theorem ins_grow {cur Y D A : List Value} {o o2 l : Nat} (ho : o ≤ cur.length) (hA : cur.take o = A) (ho2 : o2 = o + Y.length) (hl : l = o2 + D.length) (hc : l ≤ cur.length) : (spliceL (spliceL cur o Y) o2 D).take l = A ++ Y ++ D := by
  subst ho2 hl
  have h1 : (spliceL cur o Y).length = cur.length := splice_len (by omega)
  rw [splice_upto (by omega), splice_upto ho, hA]
theorem ins_room {cur Y D A : List Value} {o o2 l : Nat} (ho : o ≤ cur.length) (hA : cur.take o = A) (ho2 : o2 = o + Y.length) (hl : l = o2 + D.length) (hc : l ≤ cur.length) : (spliceL (spliceL cur o2 D) o Y).take l = A ++ Y ++ D := by
  subst ho2 hl
  have h2 : (spliceL cur (o + Y.length) D).take o = A := by
    have := splice_front (cur := cur) (vs := D) (o := o + Y.length) (by omega)
    have h4 := congrArg (List.take o) this
    rw [List.take_take, List.take_take, Nat.min_eq_left (by omega)] at h4
    rw [h4, hA]
  have h3 : (spliceL cur (o + Y.length) D).drop (o + Y.length) = D ++ cur.drop (o + Y.length + D.length) := by
    simp only [spliceL, List.append_assoc]
    rw [List.drop_left' (by rw [List.length_take]; omega)]
  rw [show spliceL (spliceL cur (o + Y.length) D) o Y = A ++ Y ++ D ++ cur.drop (o + Y.length + D.length) from by rw [spliceL, h2, h3, List.append_assoc (A ++ Y)]]
  rw [List.take_left' (by
    have : A.length = o := by rw [← hA, List.length_take]; omega
    simp [this]; omega)]
end Go.V
namespace Go.V
set_option linter.unusedSimpArgs false
set_option linter.unusedVariables false
open Go.RowKit
section
variable {P : Program} {N : Fr} {ops : Array Oper} {rest : List Oper} {Q : EPost} {ρ : Env} {w : World} {d : Nat} {dd : Option Nat} {T T2 : TypeId} {x y : Operand} {ty : TypeId} {pos : String} {af : Array Edge} {gg : Option (Nat × Bool)}
end
end Go.V
