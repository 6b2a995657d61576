/-
  make, on the abstract heap. No statement of the claim stands here: these are rules, whatever the program; append, on the abstract heap. No statement of the claim stands here: these are rules, whatever the program; append, evaluated on the abstract heap. No statement of the claim stands here: these are rules, whatever the program; append of so many zeros. No statement of the claim stands here: these are rules, whatever the program; copy, clear, bytes to text, on the abstract heap. No statement of the claim stands here: these are rules, whatever the program; Maps from numbers to things of several cells: made, looked up, written, gone through, their entries taken away. No statement of the claim stands here: these are rules, whatever the program
-/
import Derived.Test.YtgmmbdmdimkfjaaGreatPI07
import Derived.Test.YtgmmbdmdimkfjaaGreatPI04
import Derived.Maps.RangeRun
namespace Go.V
set_option linter.unusedSimpArgs false
set_option linter.unusedVariables false
open Go.RowKit
section
variable {P : Program} {A : NM} {e : AEnv} {ρ : Env} {U : Nat → Prop} {w0 w : World} {S S' : AS}
variable {dd : Option Nat} {gg : Option (Nat × Bool)} {ty T T2 E : TypeId} {pos : String} {af : Array Edge} {x y z : Operand}
def makeSliceA (P : Program) (S : AS) (T : TypeId) (a b : AV) : Option (AV × AS) := match natOf a, natOf b, elemsOf P T, freeName S with
  | some l, some c, some E, true => match P.info? E with
    | some i => match i.zero with
      | some zv => match ofV zv with
        | some za => bif Nat.ble l c && (Nat.ble (i.bytes * c) 100000000 && (Nat.ble c 1000000 && (Nat.beq (acells za).length i.size && Nat.blt 0 i.size))) then
          some (.sl S.next 0 l (some c) i.size, newA S (List.replicate c (acells za)).flatten E) else none
        | none => none
      | none => none
    | none => none
  | _, _, _, _ => none
theorem makeSliceA_ok {a b r : AV} (H : RW U w0 A S w) (hx : RV A a (ev ρ x)) (hy : RV A b (ev ρ y)) (h : makeSliceA P S T a b = some (r, S')) : Stp P U w0 A ρ ⟨dd, .makeSlice T x y, ty, pos, af, gg⟩ w r S' := by
  unfold makeSliceA at h
  split at h
  · rename_i l c E hl hc hE hf
    split at h
    · rename_i i hi
      split at h
      · rename_i zv hz
        split at h
        · rename_i za hza
          cases hb : (Nat.ble l c && (Nat.ble (i.bytes * c) 100000000 && (Nat.ble c 1000000 && (Nat.beq (acells za).length i.size && Nat.blt 0 i.size)))) with
          | false => rw [hb] at h; cases h
          | true =>
            rw [hb] at h
            cases h
            simp only [Bool.and_eq_true] at hb
            obtain ⟨b1, b2, b3, b4, b5⟩ := hb
            have b1 := Nat.le_of_ble_eq_true b1
            have b2 := Nat.le_of_ble_eq_true b2
            have b3 := Nat.le_of_ble_eq_true b3
            have b4 := beqT b4
            have b5 : 0 < i.size := Nat.le_of_ble_eq_true b5
            obtain ⟨kl, hx⟩ := natOf_ok hl hx
            obtain ⟨kc, hy⟩ := natOf_ok hc hy
            have hzc := acells_ok (ofV_ok (A := A) hza)
            have hzl := hzc.length
            have hzs : zv.cells.size = i.size := by rw [cellsL_eq]; simp only [List.size_toArray]; omega
            have b2' : (i.bytes : Int) * (c : Int) ≤ 100000000 := by
              have : ((i.bytes * c : Nat) : Int) ≤ ((100000000 : Nat) : Int) := Int.ofNat_le.2 b2
              rw [Int.natCast_mul] at this
              exact this
            have hr := run_make (P := P) w T E i zv (elemsOf_ok hE) hi hz kl kc (l : Int) (c : Int) (by omega) (by omega) (by omega) (by omega)
            have hm : madeCells zv.cells ((c : Int).toNat * i.size) = (List.replicate c (cellsL zv)).flatten.toArray := by
              unfold madeCells
              rw [Int.toNat_natCast, ← hzs, made_rep, cellsL_eq]
            rw [hm] at hr
            obtain ⟨B, h1, h2, h3⟩ := newA_ok (w' := w.alloc (.cells (List.replicate c (cellsL zv)).flatten.toArray E)) (E := E) H hf rfl (alloc_ext w _) (hzc.rep c)
            refine ⟨B, .slice (some ⟨w.heap.size, 0, none⟩) l c, _, h1, ?_, h3, ?_⟩
            · simp only [RV]
              exact ⟨_, _, _, c, h2, rfl, b1, by simp only [maxLen]; omega, by rw [repA_len, b4]; omega, b5, .inl rfl⟩
            · simp only [execOp, hx, hy, Sem.run_bind, hr, Result.andThen_ok, Sem.run_pure, Int.toNat_natCast]
        · cases h
      · cases h
    · cases h
  · cases h
end
end Go.V
namespace Go.V
set_option linter.unusedSimpArgs false
set_option linter.unusedVariables false
open Go.RowKit
/-- A name given up. -/
theorem RW.kill {U : Nat → Prop} {w0 : World} {A : NM} {S : AS} {w : World} {n : Nat} {o : AO} (H : RW U w0 A S w) (hn : S.get n = some o) : RW U w0 A (S.put n .dead) w := by
  refine ⟨H.ext, ?_, H.above, ?_, ?_, H.facts, H.zero⟩
  · intro m hm
    obtain ⟨hl, hm⟩ := hm
    rw [AS.get_put] at hm
    split at hm
    · cases hm
    · exact H.fresh m ⟨hl, hm⟩
  · intro m o' hm
    rw [AS.get_put] at hm
    split at hm
    · cases hm; trivial
    · exact H.obj m o' hm
  · intro m k b p z q y o1 o2 hmk hm hk h1 h2
    rw [AS.get_put] at h1 h2
    split at h1
    · cases h1; exact .inl rfl
    · split at h2
      · cases h2; exact .inr rfl
      · exact H.apart m k b p z q y o1 o2 hmk hm hk h1 h2
/-- A name given up for a new one, that begins o cells behind it. -/
theorem RW.rename {U : Nat → Prop} {w0 : World} {A : NM} {S : AS} {w : World} {n k b p z o E : Nat} {cs : List AV} (H : RW U w0 A S w) (hn : S.get n = some (.cells cs E)) (hA : A n = some (b, p, z)) (ho : o ≤ z) (ho0 : o = 0) (hk : S.free k) :
    ∃ B, A.le B ∧ B k = some (b, p + o, z - o) ∧ RW U w0 B ((S.put n .dead).put k (.cells (cs.drop o) E)) w := by
  have hkn : k ≠ n := by rintro rfl; rw [hk.2] at hn; cases hn
  have hle := names_new H hk (b, p + o, z - o)
  have hold : ∀ m x, m ≠ k → (A.put k (b, p + o, z - o)) m = some x → A m = some x := by
    intro m x hm h; simpa only [NM.put, if_neg hm] using h
  have hg : ∀ m, ((S.put n .dead).put k (.cells (cs.drop o) E)).get m = if m = k then some (.cells (cs.drop o) E) else if m = n then some .dead else S.get m := by
    intro m; rw [AS.get_put, AS.get_put]
  have hdead : ∀ m x q y o1, m ≠ k → (A.put k (b, p + o, z - o)) m = some (x, q, y) → x = b → ((S.put n .dead).put k (.cells (cs.drop o) E)).get m = some o1 → o1 = .dead := by
    intro m x q y o1 hm h hx h1
    subst hx
    have := hold m _ hm h
    rw [hg, if_neg hm] at h1
    split at h1
    · cases h1; rfl
    · rename_i e
      rcases H.apart m n x q y p z o1 _ e this hA h1 hn with h' | h'
      · exact h'
      · cases h'
  have hzero : ∀ m b' p' y, (A.put k (b, p + o, z - o)) m = some (b', p', y) → p' = 0 := by
    intro m b' p' y hm
    by_cases e : m = k
    · subst e
      simp only [NM.put, if_true] at hm
      cases hm
      have := H.zero n b p z hA
      omega
    · exact H.zero m b' p' y (hold m _ e hm)
  refine ⟨_, hle, by simp [NM.put], ⟨H.ext, ?_, ?_, ?_, ?_, H.facts, hzero⟩⟩
  · intro m hm
    obtain ⟨hl, hm⟩ := hm
    rw [hg] at hm
    split at hm
    · cases hm
    · rename_i e
      split at hm
      · cases hm
      · simp only [NM.put, if_neg e]; exact H.fresh m ⟨hl, hm⟩
  · intro m b' p' y hm
    by_cases e : m = k
    · subst e
      simp only [NM.put, if_true] at hm
      cases hm
      exact H.above n b p z hA
    · exact H.above m _ _ _ (hold m _ e hm)
  · intro m o' hm
    rw [hg] at hm
    split at hm
    · rename_i e
      subst e
      cases hm
      obtain ⟨b', p', z', c, hA', h2, h3, h4, h5⟩ := H.obj n _ hn
      rw [hA] at hA'; cases hA'
      refine ⟨b, p + o, z - o, c, by simp [NM.put], h2, by omega, by simp only [List.length_drop]; omega, ?_⟩
      have := RVs.up hle _ _ (h5.drop o)
      rw [List.drop_take, List.drop_drop] at this
      rw [List.length_drop]
      exact this
    · rename_i e
      split at hm
      · cases hm; trivial
      · exact (H.obj m o' hm).up hle (fun _ _ _ _ => rfl)
  · intro m j b' p' y q x o1 o2 hmj hm hj h1 h2
    by_cases e : m = k
    · subst e
      simp only [NM.put, if_true] at hm
      cases hm
      exact .inr (hdead j _ _ _ o2 (Ne.symm hmj) hj rfl h2)
    · by_cases e' : j = k
      · subst e'
        simp only [NM.put, if_true] at hj
        cases hj
        exact .inl (hdead m _ _ _ o1 e hm rfl h1)
      · rw [hg, if_neg e] at h1
        rw [hg, if_neg e'] at h2
        split at h1
        · cases h1; exact .inl rfl
        · split at h2
          · cases h2; exact .inr rfl
          · exact H.apart m j b' p' y q x o1 o2 hmj (hold m _ e hm) (hold j _ e' hj) h1 h2
theorem RW.congr {U : Nat → Prop} {w0 : World} {A : NM} {S S' : AS} {w : World} (H : RW U w0 A S w) (hl : S'.low = S.low) (hf : S'.facts = S.facts) (h : ∀ m, S'.get m = S.get m) : RW U w0 A S' w :=
  ⟨H.ext, fun n hn => H.fresh n ⟨by rw [← hl]; exact hn.1, by rw [← h]; exact hn.2⟩, H.above, fun n o hn => H.obj n o (by rw [← h]; exact hn), fun n m b p z q y o o' hnm h1 h2 h3 h4 => H.apart n m b p z q y o o' hnm h1 h2 (by rw [← h]; exact h3) (by rw [← h]; exact h4), by rw [hf]; exact H.facts, H.zero⟩
theorem splice_ext (cur vs : List Value) (p o L : Nat) (hL : p + L ≤ cur.length) (ho : o ≤ L) (h : p + o + vs.length ≤ cur.length) :
    ((cur.take (p + o) ++ vs ++ cur.drop (p + o + vs.length)).drop p).take (max L (o + vs.length)) = ((cur.drop p).take L).take o ++ vs ++ ((cur.drop p).take L).drop (o + vs.length) := by
  apply List.ext_getElem?
  intro i
  by_cases h1 : i < o
  · rw [List.getElem?_take, if_pos (by omega), List.getElem?_drop, List.append_assoc, List.getElem?_append_left (by simp; omega), List.getElem?_take, if_pos (by omega),
      List.append_assoc, List.getElem?_append_left (by simp; omega), List.getElem?_take, if_pos h1, List.getElem?_take, if_pos (by omega), List.getElem?_drop]
  · by_cases h2 : i < o + vs.length
    · have e1 : p + i - (List.take (p + o) cur).length = i - o := by simp; omega
      have e2 : i - (List.take o (List.take L (List.drop p cur))).length = i - o := by simp; omega
      rw [List.getElem?_take, if_pos (by omega), List.getElem?_drop, List.append_assoc, List.getElem?_append_right (by simp; omega), List.getElem?_append_left (by rw [e1]; omega), e1,
        List.append_assoc, List.getElem?_append_right (by simp; omega), List.getElem?_append_left (by rw [e2]; omega), e2]
    · by_cases h3 : i < L
      · have e1 : p + i - (List.take (p + o) cur ++ vs).length = i - (o + vs.length) := by simp; omega
        have e2 : i - (List.take o (List.take L (List.drop p cur)) ++ vs).length = i - (o + vs.length) := by simp; omega
        rw [List.getElem?_take, if_pos (by omega), List.getElem?_drop, List.getElem?_append_right (by simp; omega), e1, List.getElem?_drop,
          List.getElem?_append_right (by simp; omega), e2, List.getElem?_drop, List.getElem?_take, if_pos (by omega), List.getElem?_drop]
        congr 1; omega
      · rw [List.getElem?_take, if_neg (by omega), List.getElem?_eq_none]
        simp; omega
/-- Cells written from a place on up to which all is known. -/
theorem RW.splice {U : Nat → Prop} {w0 : World} {A : NM} {S : AS} {w : World} {n b p z o E : Nat} {cs na : List AV} {vs : List Value} (H : RW U w0 A S w) (hn : S.get n = some (.cells cs E)) (hA : A n = some (b, p, z)) (ho : o ≤ cs.length) (hz : o + na.length ≤ z) (hv : RVs A na vs) :
    ∃ c, w.heap[b]? = some (.cells c E (0, 0)) ∧ c.size = p + z ∧ RW U w0 A (S.put n (.cells (cs.take o ++ na ++ cs.drop (o + na.length)) E)) (w.setRow b (c.toList.take (p + o) ++ vs ++ c.toList.drop (p + o + vs.length)).toArray) := by
  obtain ⟨b', p', z', c, hA', hw, hsz, hl, hr⟩ := H.obj n _ hn
  rw [hA] at hA'; cases hA'
  have hcl : c.toList.length = p + z := by simpa using hsz
  have hlen := hv.length
  refine ⟨c, hw, hsz, H.write hn (by simp) hA (setRow_heap w b c _ E _ hw) (by simp [World.setRow]) (fun k hk => setRow_other w b k _ hk) ⟨rfl, rfl, rfl⟩ ?_ ?_ ?_⟩
  · simp only [List.size_toArray, List.length_append, List.length_take, List.length_drop, hcl]; omega
  · simp only [List.length_append, List.length_take, List.length_drop]; omega
  · have hlL : (cs.take o ++ na ++ cs.drop (o + na.length)).length = max cs.length (o + vs.length) := by simp only [List.length_append, List.length_take, List.length_drop]; omega
    rw [hlL]
    have := splice_ext c.toList vs p o cs.length (by omega) ho (by omega)
    simp only [List.toList_toArray]
    rw [this, hlen]
    exact ((hr.take o).app hv).app (hr.drop (o + na.length))
section
variable {P : Program} {A : NM} {e : AEnv} {ρ : Env} {U : Nat → Prop} {w0 w : World} {S S' : AS}
variable {dd : Option Nat} {gg : Option (Nat × Bool)} {ty T T2 E : TypeId} {pos : String} {af : Array Edge} {x y z : Operand}
def u8a (x : UInt8) : AV := .int .u8 x.toNat
theorem u8s_ok (A : NM) : ∀ l : List UInt8, RVs A (l.map u8a) (l.map u8v)
  | [] => RVs.nil A
  | x :: r => RVs.cons (by simp [RV, u8a, u8v]) (u8s_ok A r)
/-- What append and copy take from. -/
def srcA (P : Program) (S : AS) (T2 : TypeId) (s : Nat) (x : AV) : Option (Nat × List AV) := match x, P.underlying T2 with
  | .nils, some (.slice _) => some (0, [])
  | .sle, some (.slice _) => some (0, [])
  | .sl n o len _ s', some (.slice _) => match S.get n with
    | some (.cells cs _) => bif Nat.beq s s' && (Nat.ble (o + len * s) cs.length && ((cs.drop o).take (len * s)).all aone) then some (len, (cs.drop o).take (len * s)) else none
    | _ => none
  | .str t, some .string => bif Nat.beq s 1 then some (t.size, t.data.toList.map u8a) else none
  | _, _ => none
theorem srcA_ok {s m : Nat} {a : AV} {V : Value} {na : List AV} (H : RW U w0 A S w) (hx : RV A a V) (h : srcA P S T2 s a = some (m, na)) :
    ∃ vs, RVs A na vs ∧ Src P s w V m vs ∧ ((∃ E', P.underlying T2 = some (.slice E')) ∨ P.underlying T2 = some .string) ∧ na.length = m * s := by
  unfold srcA at h
  split at h
  · rename_i hT
    cases h
    simp only [RV] at hx; subst hx
    exact ⟨[], RVs.nil A, Src.slice (F := fun _ => True) Sl.nil (by simp) (by simp), .inl ⟨_, hT⟩, by simp⟩
  · rename_i hT
    cases h
    simp only [RV] at hx
    obtain ⟨ad, c, rfl, hc⟩ := hx
    exact ⟨[], RVs.nil A, Src.slice (F := fun _ => True) ⟨_, _, rfl, Nat.zero_le _, hc, .inl rfl⟩ (by simp) (by simp), .inl ⟨_, hT⟩, by simp⟩
  · rename_i n o len cap s' E' hT
    split at h
    · rename_i cs E2 hS
      cases hb : (Nat.beq s s' && (Nat.ble (o + len * s) cs.length && ((cs.drop o).take (len * s)).all aone)) with
      | false => rw [hb] at h; cases h
      | true =>
        rw [hb] at h
        cases h
        simp only [Bool.and_eq_true] at hb
        have h2 := Nat.le_of_ble_eq_true hb.2.1
        simp only [RV] at hx
        obtain ⟨b, p, q, c, hA, hx, h3, h4, h5, h6, h7⟩ := hx
        obtain ⟨b', p', q', vs, hA', hl, hc, hr⟩ := H.cells hS o (m * s) h2
        rw [hA] at hA'; cases hA'
        subst hx
        refine ⟨vs, hr, Src.slice (F := fun _ => True) ⟨_, _, rfl, h3, h4, .inr ⟨b, p + o, rfl, trivial, hc⟩⟩ hl (aones_ok hb.2.2 hr), .inl ⟨_, hT⟩, ?_⟩
        rw [← hr.length, hl]
    · cases h
  · rename_i t hT
    cases hb : Nat.beq s 1 with
    | false => rw [hb] at h; cases h
    | true =>
      rw [hb] at h
      cases h
      have := beqT hb; subst this
      simp only [RV] at hx; subst hx
      exact ⟨_, u8s_ok A _, Src.string t, .inr hT, by simp⟩
  · cases h
/-- append, where there is no room. -/
theorem run_appendG {i : TypeInfo} {zv : Value} {s : Nat} (ht : P.underlying T = some (.slice E)) (hu : (∃ E', P.underlying T2 = some (.slice E')) ∨ P.underlying T2 = some .string) (hi : P.info? E = some i) (hz : i.zero = some zv)
    (hs : i.size = s) {base : Option Addr} {x : Value} {n m sCap : Nat} {cs news : List Value} (hold : (Builtin.firstCells s n (.slice base n sCap)).run P w.drew = .ok cs.toArray w.drew) (hx : Src P s w x m news) (hcap : sCap < n + m)
    (h63 : n + m ≤ maxLen) (hb : (n + m) * i.bytes ≤ 140737488355328) :
    (Builtin.append_ #[T, T2] ty #[.slice base n sCap, x]).run P w = .ok (.slice (some ⟨w.heap.size, 0, none⟩) (n + m) (grownCap w (n + m) sCap E)) (w.drew.alloc (.cells (cs ++ news ++ (Builtin.zeroCells zv.cells (grownCap w (n + m) sCap E - (n + m))).toList).toArray E)) := by
  subst hs
  obtain ⟨hl, h1, hlen, hf, hf'⟩ := hx
  have hn : ¬ (n + m ≤ sCap) := by omega
  have h63' : ¬ (9223372036854775807 < ((n : Int) + (m : Int))) := by simp only [maxLen] at h63; omega
  have hfit := growslice_fits hcap hb
  have h48' : ¬ (281474976710656 < Builtin.nextslicecap (n + m) sCap * i.bytes) := by omega
  rcases hu with ⟨E', hD⟩ | hD <;> (simp [Builtin.append_, run_underlying ht, run_underlying hD, sizeOf, typeInfo, zeroValue, hi, hz, hlen, hn, h63', h48', Question.forced, hf', hold, newRow, grownCap]; congr 2; apply Array.ext'; simp [List.append_assoc])
/-- append, where there is room. -/
theorem run_appendI {i : TypeInfo} {s : Nat} (ht : P.underlying T = some (.slice E)) (hu : (∃ E', P.underlying T2 = some (.slice E')) ∨ P.underlying T2 = some .string) (hi : P.info? E = some i)
    (hs : i.size = s) {b off E2 p q cap : Nat} {c : Array Value} {u : Value} {news : List Value} (hb : w.heap[b]? = some (.cells c E2 (0, 0))) (hx : Src P s w u q news) (hroom : p + q ≤ cap) (hl : off + cap * s ≤ c.size) :
    (Builtin.append_ #[T, T2] ty #[.slice (some ⟨b, off, none⟩) p cap, u]).run P w = .ok (.slice (some ⟨b, off, none⟩) (p + q) cap) (w.setRow b (c.toList.take (off + p * s) ++ news ++ c.toList.drop (off + p * s + news.length)).toArray) := by
  subst hs
  obtain ⟨hnl, h1, hlen, hf, hf'⟩ := hx
  have hm : (p + q) * i.size ≤ cap * i.size := Nat.mul_le_mul_right _ hroom
  have hfit : off + p * i.size + news.length ≤ c.size := by rw [hnl, Nat.add_assoc, ← Nat.add_mul]; omega
  have hst := run_storeCells_at P b (off + p * i.size) E2 news 0 c w hb (by simpa using hfit) (fun u hu => oneC' (h1 u hu))
  simp only [Nat.add_zero] at hst
  rcases hu with ⟨E', hD⟩ | hD <;> simp [Builtin.append_, run_underlying ht, run_underlying hD, sizeOf, typeInfo, hi, hlen, hroom, hf, addr_add, hst]
/-- append of nothing. -/
theorem run_append0 {i : TypeInfo} {s : Nat} (ht : P.underlying T = some (.slice E)) (hu : (∃ E', P.underlying T2 = some (.slice E')) ∨ P.underlying T2 = some .string) (hi : P.info? E = some i)
    (hs : i.size = s) {base : Option Addr} {p cap : Nat} {u : Value} {news : List Value} (hx : Src P s w u 0 news) (hroom : p ≤ cap) :
    (Builtin.append_ #[T, T2] ty #[.slice base p cap, u]).run P w = .ok (.slice base p cap) w := by
  subst hs
  obtain ⟨hnl, h1, hlen, hf, hf'⟩ := hx
  have : news = [] := List.eq_nil_of_length_eq_zero (by simpa using hnl)
  subst this
  cases base <;> rcases hu with ⟨E', hD⟩ | hD <;> simp [Builtin.append_, run_underlying ht, run_underlying hD, sizeOf, typeInfo, hi, hlen, hroom, hf, storeCells]
end
end Go.V
namespace Go.V
set_option linter.unusedSimpArgs false
set_option linter.unusedVariables false
open Go.RowKit
section
variable {P : Program} {A : NM} {e : AEnv} {ρ : Env} {U : Nat → Prop} {w0 w : World} {S S' : AS}
variable {dd : Option Nat} {gg : Option (Nat × Bool)} {ty T T2 E : TypeId} {pos : String} {af : Array Edge} {x y z : Operand}
/-- A new array: what was there, what is appended; how long it is nobody knows. -/
def growA (s bs : Nat) (S : AS) (E : Nat) (old : List AV) (p q : Nat) (na : List AV) : Option (AV × AS) :=
  bif freeName S && (Nat.ble (p + q) 1000000 && Nat.ble ((p + q) * bs) 100000000) then some (.sl S.next 0 (p + q) none s, newA S (old ++ na) E) else none
def appOp (T T2 : TypeId) (x y : Operand) : Op := .call { callee := .builtin .append, args := #[x, y], argTypes := #[T, T2] }
theorem app_step {v : Value} {w' : World} (h : (Builtin.append_ #[T, T2] ty #[ev ρ x, ev ρ y]).run P w = .ok v w') : (execOp (ev ρ) ⟨dd, appOp T T2 x y, ty, pos, af, gg⟩).run P w = .ok (.value v) w' := by
  simp only [appOp, execOp, resolve, invoke, builtin, Sem.run_bind, Sem.run_pure, Result.andThen_ok, List.map_toArray, List.map_cons, List.map_nil, h]
theorem growA_ok {i : TypeInfo} {zv : Value} {s p q sCap : Nat} {base : Option Addr} {old na : List AV} {cs vs : List Value} {r : AV} (H : RW U w0 A S w) (ht : P.underlying T = some (.slice E)) (hu : (∃ E', P.underlying T2 = some (.slice E')) ∨ P.underlying T2 = some .string) (hi : P.info? E = some i) (hz : i.zero = some zv)
    (hs : i.size = s) (hzs : zv.cells.size = s) (hp : 0 < s) (hx : ev ρ x = .slice base p sCap) (hold : (Builtin.firstCells s p (.slice base p sCap)).run P w.drew = .ok cs.toArray w.drew) (hc : RVs A old cs) (hcl : cs.length = p * s) (hn : RVs A na vs) (hsrc : Src P s w (ev ρ y) q vs) (hcap : sCap < p + q)
    (h : growA s i.bytes S E old p q na = some (r, S')) : Stp P U w0 A ρ ⟨dd, appOp T T2 x y, ty, pos, af, gg⟩ w r S' := by
  unfold growA at h
  cases hb : (freeName S && (Nat.ble (p + q) 1000000 && Nat.ble ((p + q) * i.bytes) 100000000)) with
  | false => rw [hb] at h; cases h
  | true =>
    rw [hb] at h
    cases h
    simp only [Bool.and_eq_true] at hb
    have b1 := Nat.le_of_ble_eq_true hb.2.1
    have b2 := Nat.le_of_ble_eq_true hb.2.2
    have h63 : p + q ≤ maxLen := by simp only [maxLen]; omega
    have hr := run_appendG (ty := ty) ht hu hi hz hs hold hsrc hcap h63 (by omega)
    have hge := grownCap_ge w (p + q) sCap E
    have hcm := grownCap_le_maxLen w (p + q) sCap E h63
    have hvl := hsrc.1
    have hol := hc.length
    have hnl := hn.length
    obtain ⟨B, h1, h2, h3⟩ := H.new (n := S.next) (E := E) (z := grownCap w (p + q) sCap E * s) (cs := old ++ na) (c := (cs ++ vs ++ (Builtin.zeroCells zv.cells (grownCap w (p + q) sCap E - (p + q))).toList).toArray)
      (w' := w.drew.alloc (.cells (cs ++ vs ++ (Builtin.zeroCells zv.cells (grownCap w (p + q) sCap E - (p + q))).toList).toArray E)) (freeName_ok hb.1) rfl ⟨rfl, rfl, rfl, by simp, fun k hk _ => Below.heap_alloc w.drew _ k hk⟩
      (by
        simp only [List.size_toArray, List.length_append, Array.length_toList, size_zeroCells, hzs, hcl, hvl, ← Nat.add_mul]
        congr 1; omega)
      (by
        have : (p + q) * s ≤ grownCap w (p + q) sCap E * s := Nat.mul_le_mul_right _ hge
        rw [Nat.add_mul] at this
        rw [List.length_append]; omega)
      (by
        have hl : (old ++ na).length = (cs ++ vs).length := by rw [List.length_append, List.length_append]; omega
        rw [hl]
        simp only [List.toList_toArray]
        rw [List.take_left]
        exact hc.app hn)
    refine ⟨B, _, _, h1, ?_, h3.step _, app_step (by rw [hx]; exact hr)⟩
    simp only [RV]
    exact ⟨_, _, _, _, h2, rfl, hge, hcm, by omega, hp, .inr ⟨trivial, by omega⟩⟩
def appS (s bs : Nat) (S : AS) (E n o len : Nat) (cap : Option Nat) (q : Nat) (na cs : List AV) (E' : Nat) : Option (AV × AS) := match cap with
  | some c => bif Nat.ble (len + q) c then some (.sl n o (len + q) (some c) s, S.put n (.cells (cs.take (o + len * s) ++ na ++ cs.drop (o + len * s + na.length)) E')) else growA s bs S E ((cs.drop o).take (len * s)) len q na
  | none => bif Nat.ble (o + (len + q) * s) cs.length then some (.sl n o (len + q) none s, S.put n (.cells (cs.take (o + len * s) ++ na ++ cs.drop (o + len * s + na.length)) E')) else bif Nat.beq E E' && Nat.beq o 0 then growA s bs (S.put n .dead) E ((cs.drop o).take (len * s)) len q na else none
theorem appS_ok {i : TypeInfo} {zv : Value} {s n o len q E' : Nat} {cap : Option Nat} {na cs : List AV} {vs : List Value} {r : AV} (H : RW U w0 A S w) (ht : P.underlying T = some (.slice E)) (hu : (∃ E', P.underlying T2 = some (.slice E')) ∨ P.underlying T2 = some .string) (hi : P.info? E = some i) (hz : i.zero = some zv)
    (hs : i.size = s) (hzs : zv.cells.size = s) (hp : 0 < s) (hx : RV A (.sl n o len cap s) (ev ρ x)) (hS : S.get n = some (.cells cs E')) (hl : o + len * s ≤ cs.length) (hn : RVs A na vs) (hnl : na.length = q * s) (hsrc : Src P s w (ev ρ y) q vs)
    (h : appS s i.bytes S E n o len cap q na cs E' = some (r, S')) : Stp P U w0 A ρ ⟨dd, appOp T T2 x y, ty, pos, af, gg⟩ w r S' := by
  simp only [RV] at hx
  obtain ⟨b, p, z, c, hA, hx, h1, h2, h3, h4, h5⟩ := hx
  have hobj := H.obj n _ hS
  obtain ⟨b', p', z', ca, hA', hw, hsz, hlz, hr⟩ := hobj
  rw [hA] at hA'; cases hA'
  obtain ⟨b', p', z', os, hA', hol, hcs, hor⟩ := H.cells hS o (len * s) hl
  rw [hA] at hA'; cases hA'
  have hold : (Builtin.firstCells s len (.slice (some ⟨b, p + o, none⟩) len c)).run P w.drew = .ok os.toArray w.drew :=
    run_firstCells_some (P := P) w.drew s len ⟨b, p + o, none⟩ len c os hol (fun j u hj => by rw [addr_add, World.cell?_drew]; exact hcs.get j u hj)
  -- in place, under the old name
  have inplace : len + q ≤ c → Stp P U w0 A ρ ⟨dd, appOp T T2 x y, ty, pos, af, gg⟩ w (.sl n o (len + q) cap s) (S.put n (.cells (cs.take (o + len * s) ++ na ++ cs.drop (o + len * s + na.length)) E')) := by
    intro hroom
    have hm : (len + q) * s ≤ c * s := Nat.mul_le_mul_right _ hroom
    rw [Nat.add_mul] at hm
    obtain ⟨ca', hw', hsz', HW⟩ := H.splice (vs := vs) hS hA hl (by omega) hn
    rw [hw] at hw'; cases hw'
    have hca : p + o + c * s ≤ ca.size := by omega
    have hrun := run_appendI (ty := ty) ht hu hi hs hw hsrc hroom hca
    rw [Nat.add_assoc p o] at hrun
    refine ⟨A, _, _, NM.le.refl A, ?_, HW, app_step (by rw [hx]; exact hrun)⟩
    simp only [RV]
    exact ⟨b, p, z, c, hA, rfl, hroom, h2, h3, h4, h5⟩
  unfold appS at h
  split at h
  · rename_i c'
    have : c' = c := by
      rcases h5 with h5 | ⟨h5, _⟩
      · exact Option.some.inj h5
      · cases h5
    subst this
    cases hb : Nat.ble (len + q) c' with
    | true =>
      rw [hb] at h
      cases h
      exact inplace (Nat.le_of_ble_eq_true hb)
    | false =>
      rw [hb] at h
      have hb' : ¬ (len + q ≤ c') := fun h' => by rw [Nat.ble_eq_true_of_le h'] at hb; cases hb
      exact growA_ok H ht hu hi hz hs hzs hp hx hold hor hol hn hsrc (by omega) h
  · have hcz : o + c * s = z := by
      rcases h5 with h5 | ⟨_, h5⟩
      · cases h5
      · exact h5
    cases hb : Nat.ble (o + (len + q) * s) cs.length with
    | true =>
      rw [hb] at h
      cases h
      have := Nat.le_of_ble_eq_true hb
      have hm : (len + q) * s ≤ c * s := by omega
      exact inplace (Nat.le_of_mul_le_mul_right hm h4)
    | false =>
      rw [hb, cond_false] at h
      cases hE : (Nat.beq E E' && Nat.beq o 0) with
      | false => rw [hE] at h; cases h
      | true =>
        rw [hE, cond_true] at h
        rw [Bool.and_eq_true] at hE
        have := beqT hE.1; subst this
        have ho0 := beqT hE.2
        have hb' : ¬ (o + (len + q) * s ≤ cs.length) := fun h' => by rw [Nat.ble_eq_true_of_le h'] at hb; cases hb
        by_cases hroom : len + q ≤ c
        · unfold growA at h
          cases hf : (freeName (S.put n .dead) && (Nat.ble (len + q) 1000000 && Nat.ble ((len + q) * i.bytes) 100000000)) with
          | false => rw [hf] at h; cases h
          | true =>
            rw [hf] at h
            cases h
            simp only [Bool.and_eq_true] at hf
            have hk := freeName_ok hf.1
            have hk2 : S.free S.next := by
              refine ⟨hk.1, ?_⟩
              have hk := hk.2
              rw [AS.get_put] at hk
              split at hk
              · cases hk
              · exact hk
            have hkn : S.next ≠ n := by intro e; rw [AS.free, e, hS] at hk2; cases hk2.2
            have hm : (len + q) * s ≤ c * s := Nat.mul_le_mul_right _ hroom
            rw [Nat.add_mul] at hm
            obtain ⟨B, g1, g2, g3⟩ := H.rename (k := S.next) hS hA (o := o) (by omega) ho0 hk2
            obtain ⟨ca', hw', hsz', HW⟩ := g3.splice (n := S.next) (na := na) (vs := vs) (o := len * s) (cs := cs.drop o) (E := E) (by rw [AS.get_put, if_pos rfl]) g2 (by rw [List.length_drop]; omega) (by omega) (RVs.up g1 _ _ hn)
            rw [hw] at hw'; cases hw'
            have hca : p + o + c * s ≤ ca.size := by omega
            have hrun := run_appendI (ty := ty) ht hu hi hs hw hsrc hroom hca
            rw [← hx] at hrun
            refine ⟨B, _, _, g1, ?_, ?_, app_step hrun⟩
            · simp only [RV]
              exact ⟨b, p + o, z - o, c, g2, rfl, hroom, h2, by omega, h4, .inr ⟨trivial, by omega⟩⟩
            · refine RW.congr HW rfl rfl fun m => ?_
              have hd : (cs.drop o).drop (len * s + na.length) = [] := by
                rw [List.drop_drop, List.drop_eq_nil_of_le]
                rw [Nat.add_mul] at hb'
                omega
              show ((S.put n .dead).put (S.put n .dead).next _).get m = _
              rw [hd, List.append_nil]
              show ((S.put n .dead).put S.next _).get m = _
              simp only [AS.get_put]
              split <;> rfl
        · exact growA_ok (H.kill hS) ht hu hi hz hs hzs hp hx hold hor hol hn hsrc (by omega) h
def appendA (P : Program) (S : AS) (T T2 : TypeId) (a b : AV) : Option (AV × AS) := match elemsOf P T with
  | none => none
  | some E => match P.info? E with
    | none => none
    | some i => match i.zero with
      | none => none
      | some zv => match srcA P S T2 i.size b with
        | none => none
        | some (q, na) => bif Nat.beq zv.cells.size i.size && Nat.blt 0 i.size then match a with
          | .nils => bif Nat.beq q 0 then some (.nils, S) else growA i.size i.bytes S E [] 0 q na
          | .sl n o len cap s => bif Nat.beq q 0 then some (.sl n o len cap s, S) else match S.get n with
            | some (.cells cs E') => bif Nat.beq i.size s && Nat.ble (o + len * s) cs.length then appS s i.bytes S E n o len cap q na cs E' else none
            | _ => none
          | _ => none
          else none
theorem appendA_ok {a b r : AV} (H : RW U w0 A S w) (hx : RV A a (ev ρ x)) (hy : RV A b (ev ρ y)) (h : appendA P S T T2 a b = some (r, S')) : Stp P U w0 A ρ ⟨dd, appOp T T2 x y, ty, pos, af, gg⟩ w r S' := by
  unfold appendA at h
  split at h
  · cases h
  rename_i E hE
  split at h
  · cases h
  rename_i i hi
  split at h
  · cases h
  rename_i zv hz
  split at h
  · cases h
  rename_i q na hsrc
  obtain ⟨vs, k1, k2, k3, k4⟩ := srcA_ok H hy hsrc
  have ht := elemsOf_ok hE
  cases hb : (Nat.beq zv.cells.size i.size && Nat.blt 0 i.size) with
  | false => rw [hb] at h; cases h
  | true =>
    rw [hb, cond_true] at h
    rw [Bool.and_eq_true] at hb
    have b1 := beqT hb.1
    have b2 : 0 < i.size := Nat.le_of_ble_eq_true hb.2
    split at h
    · have hx' := hx
      simp only [RV] at hx'
      cases hq : Nat.beq q 0 with
      | true =>
        rw [hq] at h
        cases h
        have := beqT hq; subst this
        exact ⟨A, .slice none 0 0, w, NM.le.refl A, by simp [RV], H, app_step (by rw [hx']; exact run_append0 ht k3 hi rfl k2 (Nat.le_refl _))⟩
      | false =>
        rw [hq] at h
        have := beqF hq
        exact growA_ok (cs := []) H ht k3 hi hz rfl b1 b2 hx' (by simp [Builtin.firstCells]) (RVs.nil A) (by simp) k1 k2 (by omega) h
    · rename_i n o len cap s
      cases hq : Nat.beq q 0 with
      | true =>
        rw [hq] at h
        cases h
        have := beqT hq; subst this
        have hx' := hx
        simp only [RV] at hx'
        obtain ⟨b, p, z, c, hA, hx', h1, _⟩ := hx'
        exact ⟨A, _, w, NM.le.refl A, hx, H, app_step (by rw [hx']; exact run_append0 ht k3 hi rfl k2 h1)⟩
      | false =>
        rw [hq, cond_false] at h
        split at h
        · rename_i cs E' hS
          cases hc : (Nat.beq i.size s && Nat.ble (o + len * s) cs.length) with
          | false => rw [hc] at h; cases h
          | true =>
            rw [hc, cond_true] at h
            rw [Bool.and_eq_true] at hc
            have := beqT hc.1; subst this
            exact appS_ok H ht k3 hi hz rfl b1 b2 hx hS (Nat.le_of_ble_eq_true hc.2) k1 k4 k2 h
        · cases h
    · cases h
end
end Go.V
namespace Go.V
set_option linter.unusedSimpArgs false
set_option linter.unusedVariables false
open Go.RowKit
section
variable {P : Program} {A : NM} {e : AEnv} {ρ : Env} {U : Nat → Prop} {w0 w : World} {S S' : AS}
variable {dd : Option Nat} {gg : Option (Nat × Bool)} {ty T T2 E : TypeId} {pos : String} {af : Array Edge} {x y z : Operand}
theorem run_appendGZ {i : TypeInfo} {zv : Value} {s q : Nat} {k kk : IntKind} (ht : P.underlying T = some (.slice E)) (hu : P.underlying T2 = some (.int kk)) (hi : P.info? E = some i) (hz : i.zero = some zv)
    (hs : i.size = s) (hq : 0 < q) (hsz : 0 < s) {base : Option Addr} {n sCap : Nat} {cs : List Value} (hold : (Builtin.firstCells s n (.slice base n sCap)).run P w.drew = .ok cs.toArray w.drew) (hcap : sCap < n + q)
    (h63 : n + q ≤ 1000000) (hb : (n + q) * i.bytes ≤ 100000000) :
    (Builtin.append_ #[T, T2] ty #[.slice base n sCap, .int k (q : Int)]).run P w = .ok (.slice (some ⟨w.heap.size, 0, none⟩) (n + q) (grownCap w (n + q) sCap E)) (w.drew.alloc (.cells (cs ++ (Builtin.zeroCells zv.cells q).toList ++ (Builtin.zeroCells zv.cells (grownCap w (n + q) sCap E - (n + q))).toList).toArray E)) := by
  subst hs
  have hn : ¬ (n + q ≤ sCap) := by omega
  have h63' : ¬ (9223372036854775807 < ((n : Int) + (q : Int))) := by omega
  have hfit := growslice_fits (bytes := i.bytes) hcap (by omega)
  have h48' : ¬ (281474976710656 < Builtin.nextslicecap (n + q) sCap * i.bytes) := by omega
  have hw : IntKind.i64.wrap (q : Int) = (q : Int) := wr_i64 (by omega) (by omega)
  have hneg : ¬ ((q : Int) < 0) := by omega
  have hqb : q * i.bytes ≤ (n + q) * i.bytes := Nat.mul_le_mul_right _ (by omega)
  have hbig : ¬ (281474976710656 < (q : Int) * (i.bytes : Int)) := by
    have : ((q * i.bytes : Nat) : Int) ≤ ((100000000 : Nat) : Int) := Int.ofNat_le.2 (by omega)
    rw [Int.natCast_mul] at this
    omega
  have hq0 : ¬ (q * i.size = 0) := by have := Nat.mul_pos hq hsz; omega
  have hai : (asInt (.int k (q : Int))).run P w = .ok (q : Int) w := by simp [asInt, asIntOf, Sem.run_bind, Sem.run_pure]
  have hmx : ¬ (9223372036854775807 < (n : Int) + max (q : Int) 0) := by omega
  simp [Builtin.append_, run_underlying ht, run_underlying hu, sizeOf, typeInfo, zeroValue, hi, hz, hn, h63', h48', hw, hneg, hbig, hq0, hai, hmx, Question.forced, hold, newRow, grownCap]
  congr 2; apply Array.ext'; simp [List.append_assoc]
def zerosA (P : Program) (S : AS) (T T2 : TypeId) (a b : AV) : Option (AV × AS) := match elemsOf P T, P.underlying T2, natOf b with
  | some E, some (.int _), some q => match P.info? E with
    | none => none
    | some i => match i.zero with
      | none => none
      | some zv => match ofV zv with
        | none => none
        | some za => bif Nat.beq zv.cells.size i.size && (Nat.blt 0 i.size && Nat.blt 0 q) then match a with
          | .nils => growA i.size i.bytes S E [] 0 q (List.replicate q (acells za)).flatten
          | .sl n o len (some c) s => match S.get n with
            | some (.cells cs _) => bif Nat.beq i.size s && (Nat.ble (o + len * s) cs.length && Nat.blt c (len + q)) then growA s i.bytes S E ((cs.drop o).take (len * s)) len q (List.replicate q (acells za)).flatten else none
            | _ => none
          | _ => none
          else none
  | _, _, _ => none
theorem growZ_ok {i : TypeInfo} {zv : Value} {za : AV} {s p q sCap : Nat} {base : Option Addr} {kk : IntKind} {old : List AV} {cs : List Value} {r b : AV} (H : RW U w0 A S w) (ht : P.underlying T = some (.slice E)) (hu : P.underlying T2 = some (.int kk)) (hi : P.info? E = some i) (hz : i.zero = some zv) (hza : ofV zv = some za)
    (hs : i.size = s) (hzs : zv.cells.size = s) (hp : 0 < s) (hq : 0 < q) (hb : natOf b = some q) (hy : RV A b (ev ρ y)) (hx : ev ρ x = .slice base p sCap) (hold : (Builtin.firstCells s p (.slice base p sCap)).run P w.drew = .ok cs.toArray w.drew) (hc : RVs A old cs) (hcl : cs.length = p * s) (hcap : sCap < p + q)
    (h : growA s i.bytes S E old p q (List.replicate q (acells za)).flatten = some (r, S')) : Stp P U w0 A ρ ⟨dd, appOp T T2 x y, ty, pos, af, gg⟩ w r S' := by
  unfold growA at h
  cases hbb : (freeName S && (Nat.ble (p + q) 1000000 && Nat.ble ((p + q) * i.bytes) 100000000)) with
  | false => rw [hbb] at h; cases h
  | true =>
    rw [hbb] at h
    cases h
    simp only [Bool.and_eq_true] at hbb
    have b1 := Nat.le_of_ble_eq_true hbb.2.1
    have b2 := Nat.le_of_ble_eq_true hbb.2.2
    have h63 : p + q ≤ maxLen := by simp only [maxLen]; omega
    obtain ⟨k, hy⟩ := natOf_ok hb hy
    have hr := run_appendGZ (ty := ty) (k := k) ht hu hi hz hs hq hp hold hcap b1 b2
    have hge := grownCap_ge w (p + q) sCap E
    have hcm := grownCap_le_maxLen w (p + q) sCap E h63
    have hzc := acells_ok (ofV_ok (A := A) hza)
    have hn := hzc.rep q
    have hzl : (Builtin.zeroCells zv.cells q).toList = (List.replicate q (cellsL zv)).flatten := by
      unfold Builtin.zeroCells
      rw [made_rep, cellsL_eq]
    have hvl : (List.replicate q (cellsL zv)).flatten.length = q * s := by rw [len_rep, ← hzs, cellsL_eq]; simp
    rw [hzl] at hr
    have hz3 : (Builtin.zeroCells zv.cells (grownCap w (p + q) sCap E - (p + q))).toList.length = (grownCap w (p + q) sCap E - (p + q)) * s := by rw [Array.length_toList, size_zeroCells, hzs]
    have hol := hc.length
    have hnl := hn.length
    obtain ⟨B, h1, h2, h3⟩ := H.new (n := S.next) (E := E) (z := grownCap w (p + q) sCap E * s) (cs := old ++ (List.replicate q (acells za)).flatten) (c := (cs ++ (List.replicate q (cellsL zv)).flatten ++ (Builtin.zeroCells zv.cells (grownCap w (p + q) sCap E - (p + q))).toList).toArray)
      (w' := w.drew.alloc (.cells (cs ++ (List.replicate q (cellsL zv)).flatten ++ (Builtin.zeroCells zv.cells (grownCap w (p + q) sCap E - (p + q))).toList).toArray E)) (freeName_ok hbb.1) rfl ⟨rfl, rfl, rfl, by simp, fun k hk _ => Below.heap_alloc w.drew _ k hk⟩
      (by
        rw [List.size_toArray, List.length_append, List.length_append, hz3, hcl, hvl, ← Nat.add_mul, ← Nat.add_mul]
        congr 1; omega)
      (by
        have : (p + q) * s ≤ grownCap w (p + q) sCap E * s := Nat.mul_le_mul_right _ hge
        rw [Nat.add_mul] at this
        rw [List.length_append]; omega)
      (by
        have hl : (old ++ (List.replicate q (acells za)).flatten).length = (cs ++ (List.replicate q (cellsL zv)).flatten).length := by rw [List.length_append, List.length_append]; omega
        rw [hl]
        simp only [List.toList_toArray]
        rw [List.take_left]
        exact hc.app hn)
    refine ⟨B, _, _, h1, ?_, h3.step _, app_step (by rw [hx, hy]; exact hr)⟩
    simp only [RV]
    exact ⟨_, _, _, _, h2, rfl, hge, hcm, by omega, hp, .inr ⟨trivial, by omega⟩⟩
theorem zerosA_ok {a b r : AV} (H : RW U w0 A S w) (hx : RV A a (ev ρ x)) (hy : RV A b (ev ρ y)) (h : zerosA P S T T2 a b = some (r, S')) : Stp P U w0 A ρ ⟨dd, appOp T T2 x y, ty, pos, af, gg⟩ w r S' := by
  unfold zerosA at h
  split at h
  · rename_i E kk q hE hT2 hq
    have ht := elemsOf_ok hE
    split at h
    · cases h
    rename_i i hi
    split at h
    · cases h
    rename_i zv hz
    split at h
    · cases h
    rename_i za hza
    cases hb : (Nat.beq zv.cells.size i.size && (Nat.blt 0 i.size && Nat.blt 0 q)) with
    | false => rw [hb] at h; cases h
    | true =>
      rw [hb, cond_true] at h
      simp only [Bool.and_eq_true] at hb
      have b1 := beqT hb.1
      have b2 : 0 < i.size := Nat.le_of_ble_eq_true hb.2.1
      have b3 : 0 < q := Nat.le_of_ble_eq_true hb.2.2
      split at h
      · simp only [RV] at hx
        exact growZ_ok (cs := []) H ht hT2 hi hz hza rfl b1 b2 b3 hq hy hx (by simp [Builtin.firstCells]) (RVs.nil A) (by simp) (by omega) h
      · rename_i n o len c s
        simp only [RV] at hx
        obtain ⟨b, p, z, c', hA, hx, h1, h2, h3, h4, h5⟩ := hx
        have : c = c' := by
          rcases h5 with h5 | ⟨h5, _⟩
          · exact Option.some.inj h5
          · cases h5
        subst this
        split at h
        · rename_i cs E' hS
          cases hc : (Nat.beq i.size s && (Nat.ble (o + len * s) cs.length && Nat.blt c (len + q))) with
          | false => rw [hc] at h; cases h
          | true =>
            rw [hc, cond_true] at h
            simp only [Bool.and_eq_true] at hc
            have := beqT hc.1; subst this
            obtain ⟨b', p', z', os, hA', hol, hcs, hor⟩ := H.cells hS o (len * i.size) (Nat.le_of_ble_eq_true hc.2.1)
            rw [hA] at hA'; cases hA'
            have hold : (Builtin.firstCells i.size len (.slice (some ⟨b, p + o, none⟩) len c)).run P w.drew = .ok os.toArray w.drew :=
              run_firstCells_some (P := P) w.drew i.size len ⟨b, p + o, none⟩ len c os hol (fun j u hj => by rw [addr_add, World.cell?_drew]; exact hcs.get j u hj)
            exact growZ_ok H ht hT2 hi hz hza rfl b1 b2 b3 hq hy hx hold hor hol (Nat.le_of_ble_eq_true hc.2.2) h
        · cases h
      · cases h
  · cases h
def orS (x y : Option (AV × AS)) : Option (AV × AS) := match x with
  | some a => some a
  | none => y
theorem orS_ok {x y : Option (AV × AS)} {r : AV × AS} (h : orS x y = some r) : x = some r ∨ y = some r := by
  unfold orS at h
  split at h
  · exact .inl h
  · exact .inr h
end
end Go.V
namespace Go.V
set_option linter.unusedSimpArgs false
set_option linter.unusedVariables false
open Go.RowKit
section
variable {P : Program} {A : NM} {e : AEnv} {ρ : Env} {U : Nat → Prop} {w0 w : World} {S S' : AS}
variable {dd : Option Nat} {gg : Option (Nat × Bool)} {ty T T2 E : TypeId} {pos : String} {af : Array Edge} {x y z : Operand}
theorem run_copyI {ti : TypeInfo} {s b off E2 dl dc q : Nat} {c : Array Value} {u : Value} {news : List Value} (ht : P.underlying T = some (.slice E)) (hti : P.info? E = some ti) (hs : ti.size = s) (hb : w.heap[b]? = some (.cells c E2 (0, 0)))
    (hx : Src P s w u q news) (hq : q ≤ dl) (hl : off + q * s ≤ c.size) :
    (Builtin.copy_ #[T, T2] ty #[.slice (some ⟨b, off, none⟩) dl dc, u]).run P w = .ok (goInt q) (w.setRow b (c.toList.take off ++ news ++ c.toList.drop (off + news.length)).toArray) := by
  subst hs
  obtain ⟨hnl, h1, hlen, hf, hf'⟩ := hx
  have hst := run_storeCells_at P b off E2 news 0 c w hb (by simpa using by omega) (fun u hu => oneC' (h1 u hu))
  simp only [Nat.add_zero] at hst
  have hmin : Nat.min q dl = q := Nat.min_eq_left hq
  simp [Builtin.copy_, run_underlying ht, sizeOf, typeInfo, hti, hlen, hmin, hf, hst]
theorem run_copy0 {ti : TypeInfo} {s dc dl : Nat} {ao : Option Addr} {u : Value} {news : List Value} (ht : P.underlying T = some (.slice E)) (hti : P.info? E = some ti) (hs : ti.size = s) (hx : Src P s w u 0 news) :
    (Builtin.copy_ #[T, T2] ty #[.slice ao dl dc, u]).run P w = .ok (goInt (0 : Nat)) w := by
  subst hs
  obtain ⟨hnl, h1, hlen, hf, hf'⟩ := hx
  have : news = [] := List.eq_nil_of_length_eq_zero (by simpa using hnl)
  subst this
  have hmin : Nat.min 0 dl = 0 := Nat.zero_min dl
  cases ao <;> simp [Builtin.copy_, run_underlying ht, sizeOf, typeInfo, hti, hlen, hmin, hf, storeCells]
def copyOp (T T2 : TypeId) (x y : Operand) : Op := .call { callee := .builtin .copy, args := #[x, y], argTypes := #[T, T2] }
theorem copy_step {v : Value} {w' : World} (h : (Builtin.copy_ #[T, T2] ty #[ev ρ x, ev ρ y]).run P w = .ok v w') : (execOp (ev ρ) ⟨dd, copyOp T T2 x y, ty, pos, af, gg⟩).run P w = .ok (.value v) w' := by
  simp only [copyOp, execOp, resolve, invoke, builtin, Sem.run_bind, Sem.run_pure, Result.andThen_ok, List.map_toArray, List.map_cons, List.map_nil, h]
def copyA (P : Program) (S : AS) (T T2 : TypeId) (a b : AV) : Option (AV × AS) := match elemsOf P T with
  | none => none
  | some E => match tSize P E with
    | none => none
    | some s => match srcA P S T2 s b with
      | none => none
      | some (q, na) => match a with
        | .nils => bif Nat.beq q 0 then some (.int .i64 0, S) else none
        | .sl n o len _ s' => bif Nat.beq q 0 then some (.int .i64 0, S) else match S.get n with
          | some (.cells cs E') => bif Nat.beq s s' && (Nat.ble q len && Nat.ble o cs.length) then some (.int .i64 q, S.put n (.cells (cs.take o ++ na ++ cs.drop (o + na.length)) E')) else none
          | _ => none
        | _ => none
theorem tSize_info {s : Nat} (h : tSize P T = some s) : ∃ i, P.info? T = some i ∧ i.size = s := by
  unfold tSize at h
  split at h
  · rename_i i hi; cases h; exact ⟨i, hi, rfl⟩
  · cases h
theorem copyA_ok {a b r : AV} (H : RW U w0 A S w) (hx : RV A a (ev ρ x)) (hy : RV A b (ev ρ y)) (h : copyA P S T T2 a b = some (r, S')) : Stp P U w0 A ρ ⟨dd, copyOp T T2 x y, ty, pos, af, gg⟩ w r S' := by
  unfold copyA at h
  split at h
  · cases h
  rename_i E hE
  split at h
  · cases h
  rename_i s hs
  split at h
  · cases h
  rename_i q na hsrc
  obtain ⟨vs, k1, k2, k3, k4⟩ := srcA_ok H hy hsrc
  have ht := elemsOf_ok hE
  obtain ⟨i, hi, his⟩ := tSize_info hs
  split at h
  · cases hq : Nat.beq q 0 with
    | true =>
      rw [hq] at h
      cases h
      have := beqT hq; subst this
      simp only [RV] at hx
      exact ⟨A, goInt (0 : Nat), w, NM.le.refl A, by simp [RV, goInt], H, copy_step (by rw [hx]; exact run_copy0 ht hi his k2)⟩
    | false => rw [hq] at h; cases h
  · rename_i n o len cap s'
    simp only [RV] at hx
    obtain ⟨b, p, z, c, hA, hx, h1, h2, h3, h4, h5⟩ := hx
    cases hq : Nat.beq q 0 with
    | true =>
      rw [hq] at h
      cases h
      have := beqT hq; subst this
      exact ⟨A, goInt (0 : Nat), w, NM.le.refl A, by simp [RV, goInt], H, copy_step (by rw [hx]; exact run_copy0 ht hi his k2)⟩
    | false =>
      rw [hq, cond_false] at h
      split at h
      · rename_i cs E' hS
        cases hb : (Nat.beq s s' && (Nat.ble q len && Nat.ble o cs.length)) with
        | false => rw [hb] at h; cases h
        | true =>
          rw [hb] at h
          cases h
          simp only [Bool.and_eq_true] at hb
          have := beqT hb.1; subst this
          have b1 := Nat.le_of_ble_eq_true hb.2.1
          have b2 := Nat.le_of_ble_eq_true hb.2.2
          have hm : q * s ≤ c * s := Nat.mul_le_mul_right _ (Nat.le_trans b1 h1)
          obtain ⟨ca, hw, hsz, HW⟩ := H.splice (vs := vs) hS hA b2 (by omega) k1
          have hca : p + o + q * s ≤ ca.size := by omega
          have hrun := run_copyI (T2 := T2) (ty := ty) (dc := c) ht hi his hw k2 b1 hca
          rw [← hx] at hrun
          exact ⟨A, goInt q, _, NM.le.refl A, by simp [RV, goInt], HW, copy_step hrun⟩
      · cases h
  · cases h
theorem run_clearI {b o s m c E2 : Nat} {zv : Value} {ca : Array Value} (ht : P.underlying T = some (.slice E)) (hz : ∀ w, (zeroValue E).run P w = .ok zv w) (hzs : zv.cells.size = s) (hzo : ∀ u ∈ cellsL zv, oneC u = true) (hm : 0 < m) (hb : w.heap[b]? = some (.cells ca E2 (0, 0))) (hl : o + m * s ≤ ca.size) :
    (Builtin.clear_ #[T] ty #[.slice (some ⟨b, o, none⟩) m c]).run P w = .ok (.tuple #[]) (w.setRow b (ca.toList.take o ++ (List.replicate m (cellsL zv)).flatten ++ ca.toList.drop (o + (List.replicate m (cellsL zv)).flatten.length)).toArray) := by
  have hzc : (Builtin.zeroCells zv.cells m).toList = (List.replicate m (cellsL zv)).flatten := by
    unfold Builtin.zeroCells
    rw [made_rep, cellsL_eq]
  have hll : (List.replicate m (cellsL zv)).flatten.length = m * s := by
    rw [len_rep, ← hzs, cellsL_eq]; simp
  have hst := run_storeCells_at P b o E2 (List.replicate m (cellsL zv)).flatten 0 ca w hb (by rw [Nat.add_zero, hll]; exact hl) (fun u hu => oneC' (by
    obtain ⟨l, hl, hu⟩ := List.mem_flatten.1 hu
    rw [List.eq_of_mem_replicate hl] at hu
    exact hzo u hu))
  simp only [Nat.add_zero] at hst
  obtain ⟨m, rfl⟩ : ∃ k, m = k + 1 := ⟨m - 1, by omega⟩
  simp [Builtin.clear_, run_underlying ht, hz, hzc, hst, Sem.run_bind, Sem.run_pure]
theorem run_clear0 {ao : Option Addr} {c : Nat} (ht : P.underlying T = some (.slice E)) : (Builtin.clear_ #[T] ty #[.slice ao 0 c]).run P w = .ok (.tuple #[]) w := by
  cases ao <;> simp [Builtin.clear_, run_underlying ht]
def clearOp (T : TypeId) (x : Operand) : Op := .call { callee := .builtin .clear, args := #[x], argTypes := #[T] }
theorem clear_step {v : Value} {w' : World} (h : (Builtin.clear_ #[T] ty #[ev ρ x]).run P w = .ok v w') : (execOp (ev ρ) ⟨dd, clearOp T x, ty, pos, af, gg⟩).run P w = .ok (.value v) w' := by
  simp only [clearOp, execOp, resolve, invoke, builtin, Sem.run_bind, Sem.run_pure, Result.andThen_ok, List.map_toArray, List.map_cons, List.map_nil, h]
def clearA (P : Program) (S : AS) (T : TypeId) (a : AV) : Option (AV × AS) := match elemsOf P T with
  | none => none
  | some E => match a with
    | .nils => some (.tup [], S)
    | .sl n o len _ s => bif Nat.beq len 0 then some (.tup [], S) else match S.get n, tZero P E with
      | some (.cells cs E'), some zv => match ofV zv with
        | some za => bif Nat.beq (acells za).length s && ((acells za).all aone && Nat.ble o cs.length) then some (.tup [], S.put n (.cells (cs.take o ++ (List.replicate len (acells za)).flatten ++ cs.drop (o + (List.replicate len (acells za)).flatten.length)) E')) else none
        | none => none
      | _, _ => none
    | _ => none
theorem clearA_ok {a r : AV} (H : RW U w0 A S w) (hx : RV A a (ev ρ x)) (h : clearA P S T a = some (r, S')) : Stp P U w0 A ρ ⟨dd, clearOp T x, ty, pos, af, gg⟩ w r S' := by
  unfold clearA at h
  split at h
  · cases h
  rename_i E hE
  have ht := elemsOf_ok hE
  have htup : ∀ B, RV B (.tup []) (.tuple #[]) := fun B => by simp only [RV]; exact ⟨[], rfl, RVs.nil B⟩
  split at h
  · cases h
    simp only [RV] at hx
    exact ⟨A, _, w, NM.le.refl A, htup A, H, clear_step (by rw [hx]; exact run_clear0 ht)⟩
  · rename_i n o len cap s
    simp only [RV] at hx
    obtain ⟨b, p, z, c, hA, hx, h1, h2, h3, h4, h5⟩ := hx
    cases hq : Nat.beq len 0 with
    | true =>
      rw [hq] at h
      cases h
      have := beqT hq; subst this
      exact ⟨A, _, w, NM.le.refl A, htup A, H, clear_step (by rw [hx]; exact run_clear0 ht)⟩
    | false =>
      rw [hq, cond_false] at h
      have hq := beqF hq
      split at h
      · rename_i cs E' zv hS hz
        split at h
        · rename_i za hza
          cases hb : (Nat.beq (acells za).length s && ((acells za).all aone && Nat.ble o cs.length)) with
          | false => rw [hb] at h; cases h
          | true =>
            rw [hb] at h
            cases h
            simp only [Bool.and_eq_true] at hb
            have b0 := beqT hb.1
            have b2 := Nat.le_of_ble_eq_true hb.2.2
            have hzc := acells_ok (ofV_ok (A := A) hza)
            have hzl := hzc.length
            have hzs : zv.cells.size = s := by rw [cellsL_eq]; simp only [List.size_toArray]; omega
            have hm : len * s ≤ c * s := Nat.mul_le_mul_right _ h1
            have hll : (List.replicate len (acells za)).flatten.length = len * s := by rw [repA_len, b0]
            obtain ⟨ca, hw, hsz, HW⟩ := H.splice (vs := (List.replicate len (cellsL zv)).flatten) hS hA b2 (by omega) (hzc.rep len)
            have hca : p + o + len * s ≤ ca.size := by omega
            have hrun := run_clearI (ty := ty) (c := c) ht (tZero_ok hz) hzs (aones_ok hb.2.1 hzc) (by omega) hw hca
            rw [← hx] at hrun
            exact ⟨A, _, _, NM.le.refl A, htup A, HW, clear_step hrun⟩
        · cases h
      · cases h
  · cases h
def bytesOf : List AV → Option (List UInt8)
  | [] => some []
  | .int .u8 (.ofNat k) :: r => match bytesOf r with
    | some l => bif Nat.blt k 256 then some (UInt8.ofNat k :: l) else none
    | none => none
  | _ :: _ => none
theorem bytesOf_ok : ∀ {l : List AV} {xs : List UInt8} {vs : List Value}, bytesOf l = some xs → RVs A l vs → vs = xs.map u8v
  | [], xs, vs, h, H => by cases h; simpa [RVs] using H
  | .int .u8 (.ofNat k) :: r, xs, vs, h, H => by
    simp only [RVs] at H
    obtain ⟨v, t, rfl, h1, h2⟩ := H
    rw [bytesOf] at h
    split at h
    · rename_i l hl
      cases hb : Nat.blt k 256 with
      | false => rw [hb] at h; cases h
      | true =>
        rw [hb] at h
        cases h
        have hk : k < 256 := Nat.le_of_ble_eq_true hb
        simp only [RV] at h1
        rw [h1, bytesOf_ok hl h2, List.map_cons]
        congr 1
        simp [u8v, Nat.mod_eq_of_lt hk]
    · cases h
def b2sA (P : Program) (S : AS) (T T2 : TypeId) (a : AV) : Option AV := match elemsOf P T with
  | none => none
  | some E => match P.underlying E, P.underlying T2 with
    | some (.int .u8), some .string => match a with
      | .nils => some (.str ⟨#[]⟩)
      | .sle => some (.str ⟨#[]⟩)
      | .sl n o len _ s => bif Nat.beq len 0 then some (.str ⟨#[]⟩) else match S.get n with
        | some (.cells cs _) => bif Nat.beq s 1 && Nat.ble (o + len) cs.length then match bytesOf ((cs.drop o).take len) with
          | some xs => some (.str ⟨xs.toArray⟩)
          | none => none else none
        | _ => none
      | _ => none
    | _, _ => none
theorem b2sA_ok {a r : AV} (H : RW U w0 A S w) (hx : RV A a (ev ρ x)) (h : b2sA P S T T2 a = some r) : ∃ v, RV A r v ∧ (execOp (ev ρ) ⟨dd, .convert T T2 x, ty, pos, af, gg⟩).run P w = .ok (.value v) w := by
  unfold b2sA at h
  split at h
  · cases h
  rename_i E hE
  have ht := elemsOf_ok hE
  split at h
  · rename_i hE8 hT2
    split at h
    · cases h
      simp only [RV] at hx
      exact ⟨_, by simp [RV], x_b2s (F := fun _ => True) (xs := []) ht hE8 hT2 hx Sl.nil rfl⟩
    · cases h
      simp only [RV] at hx
      obtain ⟨ad, c, hx, hc⟩ := hx
      exact ⟨_, by simp [RV], x_b2s (F := fun _ => True) (xs := []) ht hE8 hT2 hx ⟨_, _, rfl, Nat.zero_le _, hc, .inl rfl⟩ rfl⟩
    · rename_i n o len cap s
      simp only [RV] at hx
      obtain ⟨b, p, z, c, hA, hx, h1, h2, h3, h4, h5⟩ := hx
      cases hq : Nat.beq len 0 with
      | true =>
        rw [hq] at h
        cases h
        have := beqT hq; subst this
        exact ⟨_, by simp [RV], x_b2s (F := fun _ => True) (xs := []) ht hE8 hT2 hx ⟨_, _, rfl, h1, h2, .inl rfl⟩ rfl⟩
      | false =>
        rw [hq, cond_false] at h
        split at h
        · rename_i cs E' hS
          cases hb : (Nat.beq s 1 && Nat.ble (o + len) cs.length) with
          | false => rw [hb] at h; cases h
          | true =>
            rw [hb, cond_true] at h
            rw [Bool.and_eq_true] at hb
            split at h
            · rename_i xs hxs
              cases h
              obtain ⟨b', p', q', vs, hA', hl, hc, hr⟩ := H.cells hS o len (Nat.le_of_ble_eq_true hb.2)
              rw [hA] at hA'; cases hA'
              have hv := bytesOf_ok hxs hr
              subst hv
              have hxl : xs.length = len := by simpa using hl
              exact ⟨_, by simp [RV], x_b2s (F := fun _ => True) (xs := xs) ht hE8 hT2 hx ⟨_, _, rfl, h1, h2, .inr ⟨b, p + o, rfl, trivial, hc⟩⟩ hxl⟩
            · cases h
        · cases h
    · cases h
  · cases h
end
end Go.V
namespace Go.V
set_option linter.unusedSimpArgs false
set_option linter.unusedVariables false
open Go.RowKit Go.MapKept
open Go.ChangeMaps (setBlock)
section maps0
variable {α : Type}
end maps0
section maps
variable {α : Type} [Row α]
/-- The entries of a map are these. -/
def EsR (es : List MapEntry) (kvs : List (Int × α)) : Prop := es.map (fun e => (e.key, e.val)) = kvs.map (fun p => (Value.int .i64 p.1, agg p.2))
theorem EsR.nil : EsR [] ([] : List (Int × α)) := rfl
theorem EsR.get {es : List MapEntry} {kvs : List (Int × α)} (h : EsR es kvs) (i : Nat) : (es[i]?).map (fun e => (e.key, e.val)) = (kvs[i]?).map (fun p => (Value.int .i64 p.1, agg p.2)) := by
  rw [← List.getElem?_map, ← List.getElem?_map, h]
theorem EsR.mem {es : List MapEntry} {kvs : List (Int × α)} (h : EsR es kvs) {e : MapEntry} (he : e ∈ es) : ∃ p ∈ kvs, e.key = .int .i64 p.1 ∧ e.val = agg p.2 := by
  have : (e.key, e.val) ∈ kvs.map (fun p => (Value.int .i64 p.1, agg p.2)) := by rw [← h]; exact List.mem_map.2 ⟨e, he, rfl⟩
  obtain ⟨p, hp, hq⟩ := List.mem_map.1 this
  simp only [Prod.mk.injEq] at hq
  exact ⟨p, hp, hq.1.symm, hq.2.symm⟩
theorem EsR.len {es : List MapEntry} {kvs : List (Int × α)} (h : EsR es kvs) : es.length = kvs.length := by
  have := congrArg List.length h
  simpa using this
/-- A map, in a block. -/
def Mp (b : Nat) (kvs : List (Int × α)) (w : World) : Prop := ∃ es clock, w.heap[b]? = some (.map es clock) ∧ EsR es.toList kvs ∧ (∀ e ∈ es.toList, e.born < clock) ∧ (es.toList.map (·.born)).Nodup
theorem Mp.lt {b : Nat} {kvs : List (Int × α)} {w : World} (h : Mp b kvs w) : b < w.heap.size := by
  obtain ⟨es, clock, h1, _⟩ := h
  exact (Array.getElem?_eq_some_iff.1 h1).1
theorem set_same {w : World} {b : Nat} {o o' : Obj} (h : w.heap[b]? = some o') : (setBlock w b o).heap[b]? = some o := by
  have hlt := (Array.getElem?_eq_some_iff.1 h).1
  simp [setBlock, hlt]
theorem set_other {w : World} {b k : Nat} {o : Obj} (h : k ≠ b) : (setBlock w b o).heap[k]? = w.heap[k]? := by
  simp [setBlock]; rw [Array.getElem?_setIfInBounds_ne (fun e => h e.symm)]
theorem run_setO {P : Program} {w : World} {b : Nat} {es : Array MapEntry} {clock : Nat} {o : Obj} (h : w.heap[b]? = some (.map es clock)) : (setObj b o).run P w = .ok () (setBlock w b o) := MapKept.run_setObj_map o h
theorem drew_ext (w : World) : Ext0 w w.drew := ⟨rfl, rfl, rfl, Nat.le_refl _, fun _ _ _ => rfl⟩
variable {P : Program} {N : Fr} {ops : Array Oper} {rest : List Oper} {Q : EPost} {ρ : Env} {w : World}
variable {d : Nat} {ty T K E D : TypeId} {pos : String} {af : Array Edge} {x y z : Operand} {n : Int} {b r : Nat} {kvs : List (Int × α)} {vis : List Int}
section
variable {U G : Nat → Prop} {w0 w1 w2 : World} {L : List Ch}
end
end maps
end Go.V
