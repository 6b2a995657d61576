/-
  Rules: function values; a row's block cell by cell: append in place, copy, clear. No statement of the claim stands here: these are rules, whatever the program.
-/
import Derived.Test.YtaggdlbjgjagbaaVSepR
import Derived.Lib.Overlaps
namespace Go.V
set_option linter.unusedSimpArgs false
set_option linter.unusedVariables false
open Go.RowKit

section
variable {U G : Nat → Prop} {w0 w w' : World} {L M : List Ch}
/-- A row's block, cell by cell. -/
theorem SH.toB {α : Type} {_r : Row α} {E : TypeId} {v : Value} {xs : List α} {g : Option Nat} {i : Nat} (H : SH U G w0 w L) (hi : At L i (.O E v xs g)) (h0 : xs ≠ []) :
    ∃ b cap cur, g = some b ∧ v = .slice (some ⟨b, 0, none⟩) xs.length cap ∧ xs.length ≤ cap ∧ cap ≤ maxLen ∧ cur.length = cap * Row.sz α ∧ cur.take (xs.length * Row.sz α) = flat xs ∧ Ones xs ∧ SH U G w0 w (replC L i [.B b E cur]) := by
  have how : Ow E w v xs g := (H.val.1 _ hi.mem).holds
  obtain ⟨⟨hcl, ⟨rfl, rfl, h⟩ | ⟨b, cap, cur, rfl, rfl, h3, h4, h5, h6, h7⟩⟩, hone⟩ := how
  · exact absurd (List.eq_nil_of_length_eq_zero h) h0
  · exact ⟨b, cap, cur.toList, rfl, rfl, h4, h5, by simpa using h6, h7, hone, H.cast (d := .B b E cur.toList) hi (fun _ => trivial) (fun k hk => by cases hk; rfl) Ch.stB (fun _ => by simpa [Blk, Ch.A] using h3)⟩
theorem SH.ofB {α : Type} {_r : Row α} {E : TypeId} {b cap : Nat} {cur : List Value} {i : Nat} (H : SH U G w0 w L) (hi : At L i (.B b E cur)) (xs : List α) (n : Nat) (hn : n = xs.length) (hone : Ones xs) (hl : cur.length = cap * Row.sz α) (hc : n ≤ cap) (hm : cap ≤ maxLen) (ht : cur.take (n * Row.sz α) = flat xs) :
    SH U G w0 w (replC L i [.O E (.slice (some ⟨b, 0, none⟩) n cap) xs (some b)]) :=
  H.cast (d := .O E (.slice (some ⟨b, 0, none⟩) n cap) xs (some b)) hi (fun _ => trivial) (fun k hk => by cases hk; rfl) Ch.stO (fun hb => by
    subst hn
    exact ⟨⟨flat_len xs, .inr ⟨b, cap, cur.toArray, rfl, rfl, hb, hc, hm, by simpa using hl, ht⟩⟩, hone⟩)
/-- .. any value of a slice that lies within. -/
theorem SH.ofB' {α : Type} {_r : Row α} {E : TypeId} {b cap : Nat} {cur : List Value} {i : Nat} (H : SH U G w0 w L) (hi : At L i (.B b E cur)) (xs : List α) (n : Nat) (hn : n = xs.length) (hone : Ones xs) (hl : cur.length = cap * Row.sz α) (hc : n ≤ cap) (hm : cap ≤ maxLen) (ht : cur.take (n * Row.sz α) = flat xs) :
    SH U G w0 w (replC L i [.O E (.slice (some ⟨b, 0, none⟩) n cap) xs (some b)]) := H.ofB hi xs n hn hone hl hc hm ht
theorem Src.cells {P : Program} {w : World} {b o s m c : Nat} {cs : List Value} (h : Cells w b o cs) (hl : cs.length = m * s) (h1 : ∀ u ∈ cs, oneC u = true) : Src P s w (.slice (some ⟨b, o, none⟩) m c) m cs := by
  refine ⟨hl, h1, by simp [Builtin.lenOf], ?_⟩
  have hg : ∀ j u, cs[j]? = some u → w.cell? ((⟨b, o, none⟩ : Addr).add j) = some u := fun j u hu => by rw [addr_add]; exact h.get j u hu
  exact ⟨run_firstCells_some (P := P) w s m ⟨b, o, none⟩ m c cs hl hg, run_firstCells_some (P := P) w.drew s m ⟨b, o, none⟩ m c cs hl (by simpa using hg)⟩
end

section rules
variable {U G : Nat → Prop} {w0 : World} {L : List Ch}
variable {P : Program} {N : Fr} {ops : Array Oper} {rest : List Oper} {Q : EPost} {ρ : Env} {w : World}
variable {d : Nat} {dd : Option Nat} {gg : Option (Nat × Bool)} {ty T T2 E : TypeId} {pos : String} {af : Array Edge} {x y z y2 : Operand} {k : IntKind} {m n : Int}

theorem x_makeFunc {fn : Fn} {first captured : Array Operand} {fs cs : List Value} (hf : first.toList.map (ev ρ) = fs) (hc : captured.toList.map (ev ρ) = cs) : (execOp (ev ρ) ⟨dd, .makeFunc fn first captured, ty, pos, af, gg⟩).run P w = .ok (.value (.func fn fs.toArray cs.toArray)) w := by
  have h1 : first.map (ev ρ) = fs.toArray := by rw [← hf, ← Array.toList_map]
  have h2 : captured.map (ev ρ) = cs.toArray := by rw [← hc, ← Array.toList_map]
  simp [execOp, Instr.makeFunc, h1, h2, Sem.run_bind, Sem.run_pure]
theorem r_makeFunc {fn : Fn} {first captured : Array Operand} {fs cs : List Value} (hd : Nat.blt d N.n = true) (hf : first.toList.map (ev ρ) = fs) (hc : captured.toList.map (ev ρ) = cs)
    (h : LW P N ops rest Q (upd ρ d (.func fn fs.toArray cs.toArray)) w) : LW P N ops (⟨some d, .makeFunc fn first captured, ty, pos, af, none⟩ :: rest) Q ρ w := LW.v hd (x_makeFunc hf hc) h
/-- A call of a function value. -/
theorem r_callV {f : FuncId} {args : Array Operand} {tys : Array TypeId} {R : Ending → World → Prop} {l fs cs as : List Value} (hd : Nat.blt d N.n = true) (hx : ev ρ x = .func (.func f) fs.toArray cs.toArray) (hc : ∀ (l : Array Value) w, (callFunc f l).run P w = .ok (.enter f l) w)
    (ha : (args.toList.map (ev ρ)) = as) (hl : fs ++ as ++ cs = l) (hR : Calls P f l.toArray w R) (h : ∀ e w', R e w' → ∃ v, e = .returned v ∧ LW P N ops rest Q (upd ρ d v) w') :
    LW P N ops (⟨some d, .call { callee := .value x, args := args, argTypes := tys }, ty, pos, af, none⟩ :: rest) Q ρ w := by
  refine LW.enter rfl (fun _ e => by cases e; exact Nat.le_of_ble_eq_true hd) ?_ hR h
  have hA : args.map (ev ρ) = as.toArray := by rw [← ha, ← Array.toList_map]
  subst hl
  simp [execOp, resolve, hx, hc, hA, invoke, Sem.run_bind, Deferred.ofValue]

/-- append in place. -/
theorem run_appendB {b s cap : Nat} {E' : TypeId} {i : TypeInfo} {cur news : List Value} {u : Value} {p q : Nat} (ht : P.underlying T = some (.slice E)) (hu : P.underlying T2 = some (.slice E')) (hi : P.info? E = some i) (hs : i.size = s) (hb : Blk w b E cur) (hx : Src P s w u q news) (hroom : p + q ≤ cap) (hcap : cap ≤ maxLen) (hl : cur.length = cap * s) :
    (Builtin.append_ #[T, T2] ty #[.slice (some ⟨b, 0, none⟩) p cap, u]).run P w = .ok (.slice (some ⟨b, 0, none⟩) (p + q) cap) (w.setRow b (spliceL cur (p * s) news).toArray) := by
  subst hs
  obtain ⟨hnl, h1, hlen, hf, hf'⟩ := hx
  have hm : (p + q) * i.size ≤ cap * i.size := Nat.mul_le_mul_right _ hroom
  have hfit : p * i.size + news.length ≤ cur.toArray.size := by rw [hnl, List.size_toArray, hl, ← Nat.add_mul]; exact hm
  have hst := run_storeCells_at P b (p * i.size) E news 0 cur.toArray w hb (by simpa using hfit) (fun u hu => oneC' (h1 u hu))
  simp only [Nat.add_zero] at hst
  simp [Builtin.append_, run_underlying ht, run_underlying hu, sizeOf, typeInfo, hi, hlen, hroom, hf, addr_add, hst, spliceL]
theorem s_appendB {b s cap i : Nat} {E' : TypeId} {ti : TypeInfo} {cur news : List Value} {u : Value} {p q : Nat} (H : SH U G w0 w L) (hd : Nat.blt d N.n = true) (ht : P.underlying T = some (.slice E)) (hu : P.underlying T2 = some (.slice E')) (hti : P.info? E = some ti) (hs : ti.size = s) (hx : ev ρ x = .slice (some ⟨b, 0, none⟩) p cap) (hy : ev ρ y = u)
    (hi : At L i (.B b E cur)) (hsrc : Src P s w u q news) (hroom : p + q ≤ cap) (hcap : cap ≤ maxLen) (hl : cur.length = cap * s)
    (h : ∀ w', SH U G w0 w' (replC L i [.B b E (spliceL cur (p * s) news)]) → LW P N ops rest Q (upd ρ d (.slice (some ⟨b, 0, none⟩) (p + q) cap)) w') :
    LW P N ops (⟨some d, .call { callee := .builtin .append, args := #[x, y], argTypes := #[T, T2] }, ty, pos, af, none⟩ :: rest) Q ρ w := by
  have hr := run_appendB (P := P) (w := w) (ty := ty) ht hu hti hs (H.blk hi) hsrc hroom hcap hl
  refine LW.v hd ?_ (h _ (H.stored hi setRow_ext (by simp) (setRow_blk (H.blk hi))))
  simp only [execOp, resolve, invoke, builtin, Sem.run_bind, Sem.run_pure, Result.andThen_ok, List.map_toArray, List.map_cons, List.map_nil, hx, hy, hr]

/-- copy: into a block of ours; all is read before anything is written. -/
theorem run_copyB {b o s dl dc m q : Nat} {ti : TypeInfo} {cur news : List Value} {u : Value} (ht : P.underlying T = some (.slice E)) (hti : P.info? E = some ti) (hs : ti.size = s) (hb : Blk w b E cur)
    (hlen : (Builtin.lenOf u).run P w = .ok q w) (hm : m = min q dl) (hf : (Builtin.firstCells s m u).run P w = .ok news.toArray w) (h1 : ∀ c ∈ news, oneC c = true) (hnl : news.length = m * s) (hl : o + m * s ≤ cur.length) :
    (Builtin.copy_ #[T, T2] ty #[.slice (some ⟨b, o, none⟩) dl dc, u]).run P w = .ok (goInt m) (w.setRow b (spliceL cur o news).toArray) := by
  subst hs hm
  have hst := run_storeCells_at P b o E news 0 cur.toArray w hb (by simp; omega) (fun u hu => oneC' (h1 u hu))
  simp only [Nat.add_zero] at hst
  have hmin : Nat.min q dl = min q dl := rfl
  simp [Builtin.copy_, run_underlying ht, sizeOf, typeInfo, hti, hlen, hmin, hf, hst, spliceL]
theorem s_copyB {b o s dl dc m q i : Nat} {ti : TypeInfo} {cur news : List Value} {u : Value} (H : SH U G w0 w L) (hd : Nat.blt d N.n = true) (ht : P.underlying T = some (.slice E)) (hti : P.info? E = some ti) (hs : ti.size = s) (hx : ev ρ x = .slice (some ⟨b, o, none⟩) dl dc) (hy : ev ρ y = u) (hi : At L i (.B b E cur))
    (hlen : (Builtin.lenOf u).run P w = .ok q w) (hm : m = min q dl) (hf : (Builtin.firstCells s m u).run P w = .ok news.toArray w) (h1 : ∀ c ∈ news, oneC c = true) (hnl : news.length = m * s) (hl : o + m * s ≤ cur.length)
    (h : ∀ w', SH U G w0 w' (replC L i [.B b E (spliceL cur o news)]) → LW P N ops rest Q (upd ρ d (.int .i64 m)) w') :
    LW P N ops (⟨some d, .call { callee := .builtin .copy, args := #[x, y], argTypes := #[T, T2] }, ty, pos, af, none⟩ :: rest) Q ρ w := by
  have hr := run_copyB (P := P) (w := w) (T2 := T2) (ty := ty) (dc := dc) ht hti hs (H.blk hi) hlen hm hf h1 hnl hl
  refine LW.v hd ?_ (h _ (H.stored hi setRow_ext (by simp) (setRow_blk (H.blk hi))))
  simp only [execOp, resolve, invoke, builtin, Sem.run_bind, Sem.run_pure, Result.andThen_ok, List.map_toArray, List.map_cons, List.map_nil, hx, hy, hr, goInt]
/-- clear. -/
theorem zeroL (zc : Array Value) (n : Nat) : ∃ zs : List Value, (Builtin.zeroCells zc n).toList = zs ∧ zs.length = n * zc.size ∧ ∀ u ∈ zs, u ∈ zc.toList ∨ zc.size = 0 := by
  refine ⟨_, rfl, by simp [size_zeroCells], fun u hu => ?_⟩
  by_cases h0 : zc.size = 0
  · exact .inr h0
  · refine .inl ?_
    simp only [Builtin.zeroCells, Array.toList_map, List.mem_map] at hu
    obtain ⟨j, _, rfl⟩ := hu
    have hj : j % zc.size < zc.size := Nat.mod_lt _ (by omega)
    rw [getElem!_pos zc _ hj]
    exact Array.getElem_mem_toList _
theorem run_clearB {b o s m c : Nat} {zv : Value} {cur : List Value} (ht : P.underlying T = some (.slice E)) (hz : ∀ w, (zeroValue E).run P w = .ok zv w) (hzs : zv.cells.size = s) (hzo : zv.cells.toList.all oneC = true) (hs : 0 < s) (hm : 0 < m) (hb : Blk w b E cur) (hl : o + m * s ≤ cur.length) :
    ∃ zs : List Value, zs.length = m * s ∧ (Builtin.clear_ #[T] ty #[.slice (some ⟨b, o, none⟩) m c]).run P w = .ok (.tuple #[]) (w.setRow b (spliceL cur o zs).toArray) := by
  obtain ⟨zs, h1, h2, h3⟩ := zeroL zv.cells m
  rw [hzs] at h2
  refine ⟨zs, h2, ?_⟩
  have hst := run_storeCells_at P b o E zs 0 cur.toArray w hb (by simp; omega) (fun u hu => oneC' (by
    rcases h3 u hu with h | h
    · exact List.all_eq_true.1 hzo u h
    · omega))
  simp only [Nat.add_zero] at hst
  obtain ⟨m, rfl⟩ : ∃ k, m = k + 1 := ⟨m - 1, by omega⟩
  simp [Builtin.clear_, run_underlying ht, hz, h1, hst, spliceL]
theorem s_clearB {b o s m c i : Nat} {zv : Value} {cur : List Value} (H : SH U G w0 w L) (ht : P.underlying T = some (.slice E)) (hz : ∀ w, (zeroValue E).run P w = .ok zv w) (hzs : zv.cells.size = s) (hzo : zv.cells.toList.all oneC = true) (hs : Nat.blt 0 s = true) (hx : ev ρ x = .slice (some ⟨b, o, none⟩) m c) (hm : 0 < m) (hi : At L i (.B b E cur)) (hl : o + m * s ≤ cur.length)
    (h : ∀ w' zs, zs.length = m * s → SH U G w0 w' (replC L i [.B b E (spliceL cur o zs)]) → LW P N ops rest Q ρ w') :
    LW P N ops (⟨none, .call { callee := .builtin .clear, args := #[x], argTypes := #[T] }, ty, pos, af, none⟩ :: rest) Q ρ w := by
  obtain ⟨zs, hzl, hr⟩ := run_clearB (P := P) (w := w) (ty := ty) (c := c) ht hz hzs hzo (Nat.le_of_ble_eq_true hs) hm (H.blk hi) hl
  refine LW.val (v := .tuple #[]) rfl (fun _ e => by cases e) ?_ (h _ zs hzl (H.stored hi setRow_ext (by simp) (setRow_blk (H.blk hi))))
  simp only [execOp, resolve, invoke, builtin, Sem.run_bind, Sem.run_pure, Result.andThen_ok, List.map_toArray, List.map_cons, List.map_nil, hx, hr]
/-- .. of nothing. -/
theorem r_clear0 {ao : Option Addr} {c : Nat} (ht : P.underlying T = some (.slice E)) (hx : ev ρ x = .slice ao 0 c) (h : LW P N ops rest Q ρ w) :
    LW P N ops (⟨none, .call { callee := .builtin .clear, args := #[x], argTypes := #[T] }, ty, pos, af, none⟩ :: rest) Q ρ w := by
  have hr : (Builtin.clear_ #[T] ty #[.slice ao 0 c]).run P w = .ok (.tuple #[]) w := by cases ao <;> simp [Builtin.clear_, run_underlying ht]
  refine LW.val (v := .tuple #[]) rfl (fun _ e => by cases e) ?_ h
  simp only [execOp, resolve, invoke, builtin, Sem.run_bind, Sem.run_pure, Result.andThen_ok, List.map_toArray, List.map_cons, List.map_nil, hx, hr]
/-- Slices of a row, the value written out. -/
theorem x_sliceHc {ao : Option Addr} {p cap s : Nat} {kh : IntKind} {h : Int} (hT : P.underlying T = some (.slice E)) (hs : ∀ w, (sizeOf E).run P w = .ok s w) (hx : ev ρ x = .slice ao p cap) (hz : ev ρ z = .int kh h) (h1 : 0 ≤ h) (h2 : h ≤ cap) :
    (execOp (ev ρ) ⟨dd, .slice T x none (some z) none, ty, pos, af, gg⟩).run P w = .ok (.value (.slice ao h.toNat cap)) w := by
  have hE : P.elem T = E := by simp [Program.elem, hT]
  have hr := run_slice_h (P := P) w T ao p cap (by rw [hE]; exact hT) kh h h1 (by omega)
  rw [hE, hs] at hr
  simp only [execOp, hx, hz, Option.map_some, Option.map_none, Sem.run_bind]
  simp [go_sem, run_sliceAt_slice w T _ _ _ _ (by rw [hE]; exact hT), hr, sliced]
theorem x_sliceLc {ao : Option Addr} {p cap s : Nat} {kl : IntKind} {l : Int} (hT : P.underlying T = some (.slice E)) (hs : ∀ w, (sizeOf E).run P w = .ok s w) (hx : ev ρ x = .slice ao p cap) (hy : ev ρ y = .int kl l) (h0 : 0 ≤ l) (h2 : l ≤ p) :
    (execOp (ev ρ) ⟨dd, .slice T x (some y) none none, ty, pos, af, gg⟩).run P w = .ok (.value (.slice (if cap = l.toNat then ao else ao.map (·.add (l.toNat * s))) (p - l.toNat) (cap - l.toNat))) w := by
  have hE : P.elem T = E := by simp [Program.elem, hT]
  have hr := run_slice_l (P := P) w T ao p cap (by rw [hE]; exact hT) kl l h0 h2
  rw [hE, hs] at hr
  simp only [execOp, hx, hy, Option.map_some, Option.map_none, Sem.run_bind]
  simp [go_sem, run_sliceAt_slice w T _ _ _ _ (by rw [hE]; exact hT), hr, sliced]
theorem r_sliceLc {ao : Option Addr} {p cap s : Nat} {kl : IntKind} {l : Int} (hd : Nat.blt d N.n = true) (hT : P.underlying T = some (.slice E)) (hs : ∀ w, (sizeOf E).run P w = .ok s w) (hx : ev ρ x = .slice ao p cap) (hy : ev ρ y = .int kl l) (h0 : 0 ≤ l) (h2 : l ≤ p)
    (h : LW P N ops rest Q (upd ρ d (.slice (if cap = l.toNat then ao else ao.map (·.add (l.toNat * s))) (p - l.toNat) (cap - l.toNat))) w) : LW P N ops (⟨some d, .slice T x (some y) none none, ty, pos, af, none⟩ :: rest) Q ρ w := LW.v hd (x_sliceLc hT hs hx hy h0 h2) h
theorem r_sliceLHc {ao : Option Addr} {len cap s : Nat} {kl kh : IntKind} {l h : Int} (hd : Nat.blt d N.n = true) (hT : P.underlying T = some (.slice E)) (hs : ∀ w, (sizeOf E).run P w = .ok s w) (hx : ev ρ x = .slice ao len cap) (hy : ev ρ y = .int kl l) (hz : ev ρ z = .int kh h)
    (h0 : 0 ≤ l) (h1 : l ≤ h) (h2 : h ≤ cap) (hk : LW P N ops rest Q (upd ρ d (.slice (if cap = l.toNat then ao else ao.map (·.add (l.toNat * s))) (h.toNat - l.toNat) (cap - l.toNat))) w) : LW P N ops (⟨some d, .slice T x (some y) (some z) none, ty, pos, af, none⟩ :: rest) Q ρ w := LW.v hd (x_sliceLH hT hs hx hy hz h0 h1 h2) hk
theorem r_sliceLHMc {ao : Option Addr} {p cap s : Nat} {kl kh km : IntKind} {l h m : Int} (hd : Nat.blt d N.n = true) (hT : P.underlying T = some (.slice E)) (hs : ∀ w, (sizeOf E).run P w = .ok s w) (hx : ev ρ x = .slice ao p cap) (hy : ev ρ y = .int kl l) (hz : ev ρ z = .int kh h) (hz2 : ev ρ y2 = .int km m)
    (h0 : 0 ≤ l) (h1 : l ≤ h) (h2 : h ≤ m) (h3 : m ≤ cap) (hk : ∀ v, LW P N ops rest Q (upd ρ d v) w) :
    LW P N ops (⟨some d, .slice T x (some y) (some z) (some y2), ty, pos, af, none⟩ :: rest) Q ρ w := by
  have hE : P.elem T = E := by simp [Program.elem, hT]
  have hr := run_slice_lhm (P := P) w T ao p cap (by rw [hE]; exact hT) kl kh km l h m h0 h1 h2 (by omega)
  rw [hE, hs] at hr
  refine LW.v hd (v := sliced ao l.toNat h.toNat m.toNat s) ?_ (hk _)
  simp only [execOp, hx, hy, hz, hz2, Option.map_some, Option.map_none, Sem.run_bind]
  simp [go_sem, run_sliceAt_slice w T _ _ _ _ (by rw [hE]; exact hT), hr]
theorem at_part {b cap s : Nat} {l : Nat} (h : l < cap) : (if cap = l then (some ⟨b, 0, none⟩ : Option Addr) else (some ⟨b, 0, none⟩ : Option Addr).map (·.add (l * s))) = some ⟨b, l * s, none⟩ := by
  rw [if_neg (by omega)]; simp [addr_add]
theorem r_sliceLHp {b p cap s : Nat} {kl kh : IntKind} {l h : Int} (hd : Nat.blt d N.n = true) (hT : P.underlying T = some (.slice E)) (hs : ∀ w, (sizeOf E).run P w = .ok s w) (hx : ev ρ x = .slice (some ⟨b, 0, none⟩) p cap) (hy : ev ρ y = .int kl l) (hz : ev ρ z = .int kh h)
    (h0 : 0 ≤ l) (h1 : l ≤ h) (h2 : h ≤ cap) (h3 : l < cap) (hk : LW P N ops rest Q (upd ρ d (.slice (some ⟨b, l.toNat * s, none⟩) (h.toNat - l.toNat) (cap - l.toNat))) w) : LW P N ops (⟨some d, .slice T x (some y) (some z) none, ty, pos, af, none⟩ :: rest) Q ρ w :=
  r_sliceLHc hd hT hs hx hy hz h0 h1 h2 (by rw [at_part (by omega)]; exact hk)
theorem r_sliceLp {b p cap s : Nat} {kl : IntKind} {l : Int} (hd : Nat.blt d N.n = true) (hT : P.underlying T = some (.slice E)) (hs : ∀ w, (sizeOf E).run P w = .ok s w) (hx : ev ρ x = .slice (some ⟨b, 0, none⟩) p cap) (hy : ev ρ y = .int kl l)
    (h0 : 0 ≤ l) (h2 : l ≤ p) (h3 : l < cap) (hk : LW P N ops rest Q (upd ρ d (.slice (some ⟨b, l.toNat * s, none⟩) (p - l.toNat) (cap - l.toNat))) w) : LW P N ops (⟨some d, .slice T x (some y) none none, ty, pos, af, none⟩ :: rest) Q ρ w :=
  r_sliceLc hd hT hs hx hy h0 h2 (by rw [at_part (by omega)]; exact hk)
end rules

theorem retC2 {P : Program} {fn : Func} {R : Ending → World → Prop} {ρ : Env} {w : World} {s0 T0 s1 p n : Nat} {cs : List Value} {u : Value} (h : fn.results = #[.cell s0 T0, .tmp s1]) (h0 : ρ s0 = .pointer (some ⟨p, 0, none⟩))
    (hu : ρ s1 = u) (hT : ∀ w, (isAgg T0).run P w = .ok true w) (hs : ∀ w, (sizeOf T0).run P w = .ok n w) (hc : Cells w p 0 cs) (hl : cs.length = n) (hR : R (.returned (.tuple #[.agg cs.toArray, u])) w) : bodyE P fn R .ret ρ w := by
  refine ⟨_, fun tmps ht => ?_, hR⟩
  have e0 := (ht s0).trans h0
  have e1 := (ht s1).trans hu
  have := run_loadCells_list (P := P) w ⟨p, 0, none⟩ cs (fun j u hu => by rw [addr_add]; exact hc.get j u hu)
  rw [hl] at this
  unfold loadCells at this
  simp only [Array.getD_eq_getD_getElem?] at e0 e1
  simp [results, h, e0, e1, asAddr, loadVar, hT, hs, this, go_sem]
theorem SH.own1 {α : Type} {_r : Row α} {E : TypeId} {w : World} {v : Value} {xs : List α} {g : Option Nat} (h : Ow E w v xs g) : SH (fun b => g = some b) Non w w [.O E v xs g] :=
  SH.fromO (Ext.refl _ _) h (fun b hb => .inl hb)
theorem SH.ow {α : Type} {_r : Row α} {U G : Nat → Prop} {w0 w : World} {L : List Ch} {E : TypeId} {v : Value} {xs : List α} {g : Option Nat} {i : Nat} (H : SH U G w0 w L) (hi : At L i (.O E v xs g)) : Ow E w v xs g := (H.val.1 _ hi.mem).holds
theorem mem_pick {L : List Ch} {d : Ch} : ∀ {is : List Nat}, d ∈ pickC L is → ∃ j ∈ is, nthC L j = some d
  | [], h => by cases h
  | i :: r, h => by
    rw [pickC] at h
    cases hi : nthC L i with
    | none => rw [hi] at h; obtain ⟨j, hj, e⟩ := mem_pick h; exact ⟨j, by simp [hj], e⟩
    | some c =>
      rw [hi] at h
      rcases List.mem_cons.1 h with rfl | h
      · exact ⟨i, by simp, hi⟩
      · obtain ⟨j, hj, e⟩ := mem_pick h; exact ⟨j, by simp [hj], e⟩
theorem pick_apart {L : List Ch} (h : L.Pairwise Apart) : ∀ {is : List Nat}, is.Nodup → (pickC L is).Pairwise Apart
  | [], _ => List.Pairwise.nil
  | i :: r, hn => by
    rw [List.nodup_cons] at hn
    have ih := pick_apart h hn.2
    rw [pickC]
    cases hi : nthC L i with
    | none => exact ih
    | some c =>
      refine List.Pairwise.cons (fun d hd => ?_) ih
      obtain ⟨j, hj, e⟩ := mem_pick hd
      have hij : i ≠ j := fun e => hn.1 (e ▸ hj)
      rcases Nat.lt_or_gt_of_ne hij with hlt | hlt
      · exact apart_lt L i j c d h hi e hlt
      · exact (apart_lt L j i d c h e hi hlt).symm
/-- Some chunks, in any order. -/
theorem SH.sel {U G : Nat → Prop} {w0 w : World} {L M : List Ch} (H : SH U G w0 w L) (is : List Nat) (hn : is.Nodup) (hp : pickC L is = M) : SH U G w0 w M := by
  subst hp
  refine ⟨H.ext, fun c hc => ?_, pick_apart H.val.2 hn⟩
  obtain ⟨j, _, e⟩ := mem_pick hc
  exact H.val.1 c (At.mem (i := j) e)
theorem SH.updO {α : Type} {_r : Row α} {U G : Nat → Prop} {w0 w w' : World} {L M : List Ch} {E : TypeId} {v : Value} {xs : List α} {g : Option Nat} {i : Nat} (H : SH U G w0 w L) (hi : At L i (.O E v xs g)) (K : SH (fun b => g = some b) Non w w' M) : SH U G w0 w' (replC L i M) :=
  SH.upd H hi trivial K
theorem SH.updB {U G : Nat → Prop} {w0 w w' : World} {L M : List Ch} {E : TypeId} {b : Nat} {cs : List Value} {i : Nat} (H : SH U G w0 w L) (hi : At L i (.B b E cs)) (K : SH (fun k => k = b) Non w w' M) : SH U G w0 w' (replC L i M) :=
  SH.upd H hi trivial K
theorem SH.updP {U G F : Nat → Prop} {A : World → Prop} {w0 w w' : World} {L M : List Ch} {i : Nat} (H : SH U G w0 w L) (hi : At L i (.P F A)) (K : SH F Non w w' M) : SH U G w0 w' (replC L i M) :=
  SH.upd H hi trivial K
/-- What lies behind a place of a block, as a slice that append or copy takes from. -/
theorem Blk.tail {P : Program} {w : World} {b cap n s l : Nat} {E : TypeId} {cur cs : List Value} (hb : Blk w b E cur) (ht : cur.take (n * s) = cs) (hl : cur.length = cap * s) (hn : n ≤ cap) (hm : cap ≤ maxLen) (h1 : ∀ u ∈ cs, oneC u = true) (hln : l ≤ n) :
    Src P s w (.slice (if cap = l then some ⟨b, 0, none⟩ else (some (⟨b, 0, none⟩ : Addr)).map (·.add (l * s))) (n - l) (cap - l)) (n - l) (cs.drop (l * s)) := by
  have hms : n * s ≤ cap * s := Nat.mul_le_mul_right _ hn
  have hcl : cs.length = n * s := by rw [← ht, List.length_take, hl]; omega
  have hsl : Sl Any w (.slice (some ⟨b, 0, none⟩) n cap) n cs := ⟨_, _, rfl, hn, hm, .inr ⟨b, 0, rfl, trivial, Cells.of fun j u hj => by
    rw [← ht, List.getElem?_take] at hj
    split at hj
    · exact hb.cellsAll.get j u hj
    · cases hj⟩⟩
  have hc := Sl.cut hsl hcl l n hln (Nat.le_refl _)
  rw [List.take_of_length_le (by rw [List.length_drop, hcl, ← Nat.sub_mul]; exact Nat.le_refl _)] at hc
  exact Src.slice hc (by rw [List.length_drop, hcl, ← Nat.sub_mul]) (fun u hu => h1 u (List.mem_of_mem_drop hu))
/-- A function value that answers yes or no of each thing of D, as long as S holds. -/
def PredF {α : Type} (P : Program) (S : World → Prop) (fv : Value) (val : α → Value) (p : α → Bool) (D : α → Prop) : Prop :=
  ∃ f fs cs, fv = .func (.func f) fs.toArray cs.toArray ∧ (∀ (l : Array Value) w, (callFunc f l).run P w = .ok (.enter f l) w) ∧ ∀ x w, D x → S w → Calls P f (fs ++ [val x] ++ cs).toArray w fun e w' => e = .returned (.bool (p x)) ∧ Ext0 w w'
def findM {α : Type} (p : α → Bool) (xs : List α) : Int := if xs.any p then (xs.findIdx p : Int) else -1
theorem any_snoc {α : Type} {p : α → Bool} {xs : List α} {i : Nat} {x : α} (hx : xs[i]? = some x) (h : (xs.take i).any p = false) (hp : p x = false) : (xs.take (i + 1)).any p = false := by
  rw [take_snoc hx, List.any_append, h]; simp [hp]
theorem find_at {α : Type} {p : α → Bool} {xs : List α} {i : Nat} {x : α} (hx : xs[i]? = some x) (h : (xs.take i).any p = false) (hp : p x = true) : findM p xs = i := by
  have hl := lt_of_get hx
  have e : xs = xs.take i ++ x :: xs.drop (i + 1) := by
    have h1 : xs[i] = x := by rw [List.getElem?_eq_getElem hl] at hx; cases hx; rfl
    rw [← h1, List.getElem_cons_drop, List.take_append_drop]
  have hany : xs.any p = true := List.any_eq_true.2 ⟨x, List.mem_of_getElem? hx, hp⟩
  rw [findM, if_pos hany]
  have : xs.findIdx p = i := by
    rw [List.findIdx_eq hl]
    have h1 : xs[i] = x := by rw [List.getElem?_eq_getElem hl] at hx; cases hx; rfl
    refine ⟨by rw [h1]; exact hp, fun j hj => ?_⟩
    have hm : xs[j]'(by omega) ∈ xs.take i := by rw [List.mem_take_iff_getElem]; exact ⟨j, by omega, rfl⟩
    have := List.any_eq_false.1 h _ hm
    simpa using this
  rw [this]
theorem take_set {α : Type} {ys : List α} {i : Nat} {x : α} (h : i < ys.length) : (ys.set i x).take (i + 1) = ys.take i ++ [x] := by
  rw [take_snoc (x := x) (by rw [List.getElem?_set_self h]), List.take_set_of_le (Nat.le_refl _)]
theorem drop_set {α : Type} {ys : List α} {i j : Nat} {x : α} (h : i < j) : (ys.set i x).drop j = ys.drop j := by rw [List.drop_set_of_lt h]
theorem u8_any (n : Int) : ∃ x : UInt8, Value.int .u8 (IntKind.u8.wrap n) = u8v x := by
  refine ⟨UInt8.ofNat (n % 256).toNat, ?_⟩
  rw [IntKind.wrap_u8, u8v, UInt8.toNat_ofNat']
  congr 1; omega
theorem splice_len {cur vs : List Value} {o : Nat} (h : o + vs.length ≤ cur.length) : (spliceL cur o vs).length = cur.length := by simp [spliceL]; omega
theorem splice_front {cur vs : List Value} {o : Nat} (h : o ≤ cur.length) : (spliceL cur o vs).take o = cur.take o := by
  simp only [spliceL, List.append_assoc]
  rw [List.take_append, List.length_take, Nat.min_eq_left h, Nat.sub_self, List.take_zero, List.append_nil, List.take_take, Nat.min_self]
theorem splice_upto {cur vs : List Value} {o : Nat} (h : o ≤ cur.length) : (spliceL cur o vs).take (o + vs.length) = cur.take o ++ vs := by
  simp only [spliceL]
  have : o + vs.length = (cur.take o ++ vs).length := by simp; omega
  rw [this, List.take_left]
end Go.V
