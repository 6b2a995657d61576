/-
  The walks of layer 26's functions: a net and its flights.
-/
import Derived.Test.YtcmnhneigojpoaaVObj
import Derived.Test.YtcmnhneigojpoaaChecked
namespace Go.Proofs.Ytcmnhneigojpoaa
set_option linter.unusedSimpArgs false
set_option linter.unusedVariables false
open Go.V Go.RowKit Go.ChangeShapes Go.WideShapes

structure Flight where
  src : Int
  dst : Int
  born : Int
  bytes : Value
def Flight.L (a : Flight) : List Value := [.int .i64 a.src, .int .i64 a.dst, .int .i64 a.born, a.bytes]
instance : Row Flight := ⟨4, Flight.L, ⟨0, 0, 0, .slice none 0 0⟩, fun _ => rfl, rfl⟩
def Flight.Good (w : World) (a : Flight) : Prop := I64 a.src ∧ I64 a.dst ∧ I64 a.born ∧ (∃ xs : List UInt8, Rs (Old w) w a.bytes xs ∧ ∀ y ∈ xs, True)
theorem Flight.opens : Opens Try.prog (α := Flight) 29 Flight.Good := fun H enc w base spare held fuel cs x hl h => by
  obtain ⟨u0, u1, u2, u3, rfl⟩ := list4 hl
  obtain ⟨m0, hf0⟩ := open_fields Try.underlying29 h
  obtain ⟨y0, t0⟩ := hf0 0 _ 1 rfl (by kernel_rfl)
  obtain ⟨a0, e0, -, w0⟩ := DataW.trod_int Try.underlying3 t0
  obtain rfl : u0 = _ := by simpa using e0
  obtain ⟨y1, t1⟩ := hf0 1 _ 1 rfl (by kernel_rfl)
  obtain ⟨a1, e1, -, w1⟩ := DataW.trod_int Try.underlying3 t1
  obtain rfl : u1 = _ := by simpa using e1
  obtain ⟨y2, t2⟩ := hf0 2 _ 1 rfl (by kernel_rfl)
  obtain ⟨a2, e2, -, w2⟩ := DataW.trod_int Try.underlying3 t2
  obtain rfl : u2 = _ := by simpa using e2
  obtain ⟨y3, t3⟩ := hf0 3 _ 1 rfl (by kernel_rfl)
  obtain ⟨a3, xs3, e3, r3, g3⟩ := Opens.rows (β := UInt8) Try.underlying22 (opens_u8 Try.underlying5) (by kernel_rfl) t3
  obtain rfl : u3 = _ := by simpa using e3
  have o3 := r3.oneC
  exact ⟨⟨a0, a1, a2, u3⟩, rfl, (by first | rfl | (simp only [Row.cells, Flight.L] at *; simp_all [V.oneC])), ⟨i64_wf w0, i64_wf w1, i64_wf w2, ⟨xs3, r3, g3⟩⟩⟩
/-- A flight, its bytes read. -/
structure Fl where
  src : Int
  dst : Int
  born : Int
  bytes : List UInt8
def FlR (F : Nat → Prop) (w : World) (r : Flight) (m : Fl) : Prop := r.src = m.src ∧ r.dst = m.dst ∧ r.born = m.born ∧ Rs F w r.bytes m.bytes
theorem FlR.up {F V : Nat → Prop} {w w' : World} {r : Flight} {m : Fl} (h : FlR F w r m) (e : Ext V w w') (hd : ∀ b, F b → ¬ V b) : FlR F w' r m := ⟨h.1, h.2.1, h.2.2.1, h.2.2.2.up e hd⟩
def FlsA (F : Nat → Prop) (raws : List Flight) (ms : List Fl) (w : World) : Prop := All2 (FlR F w) raws ms
theorem fls_st {F : Nat → Prop} {raws : List Flight} {ms : List Fl} : Ch.St F (FlsA F raws ms) := fun V w w' h e hd => All2.mono (fun _ _ q => q.up e hd) h
theorem FlR.mono {F K : Nat → Prop} {w : World} {r : Flight} {m : Fl} (h : FlR F w r m) (hK : ∀ b, F b → K b) : FlR K w r m := ⟨h.1, h.2.1, h.2.2.1, h.2.2.2.mono fun b _ hb => hK b hb⟩
theorem FlsA.mono {F K : Nat → Prop} {w : World} {rs : List Flight} {ms : List Fl} (h : FlsA F rs ms w) (hK : ∀ b, F b → K b) : FlsA K rs ms w := All2.mono (fun _ _ q => q.mono hK) h
def small (ms : List Fl) : Prop := ∀ m ∈ ms, m.bytes.length ≤ 2048
/-- The program's net. -/
def NetA (p : Nat) (ms : List Fl) (lost : Int) (FN : Nat → Prop) (w : World) : Prop :=
  small ms ∧ ∃ v raws g F, ObjA FN w [.B p 71 [v, .int .i64 lost], .O 29 v raws g, .P F (FlsA F raws ms)]
theorem net_st {p : Nat} {ms : List Fl} {lost : Int} {FN : Nat → Prop} : Ch.St FN (NetA p ms lost FN) := fun V w w' h e hd => by
  obtain ⟨hs, v, raws, g, F, h⟩ := h
  exact ⟨hs, v, raws, g, F, h.up e hd⟩
theorem NetA.lt {p : Nat} {ms : List Fl} {lost : Int} {FN : Nat → Prop} {w : World} (h : NetA p ms lost FN w) : ∀ b, FN b → b < w.heap.size := by
  obtain ⟨_, _, _, _, _, h⟩ := h
  exact h.2
/-- A net beside other chunks. -/
theorem NetA.mkL {U G : Nat → Prop} {w0 w : World} {L : List Ch} {p : Nat} {v : Value} {raws : List Flight} {g : Option Nat} {F : Nat → Prop} {ms : List Fl} {lost : Int} (hs : small ms)
    (H : SH U G w0 w ([.B p 71 [v, .int .i64 lost], .O 29 v raws g, .P F (FlsA F raws ms)] ++ L)) : ∃ FN, SH U G w0 w (.P FN (NetA p ms lost FN) :: L) :=
  ⟨_, SH.pack (A := NetA p ms lost (foot [.B p 71 [v, .int .i64 lost], .O 29 v raws g, .P F (FlsA F raws ms)])) H ⟨trivial, trivial, trivial, trivial⟩ net_st (fun h => ⟨hs, v, raws, g, F, h⟩)⟩
theorem NetA.mk {U G : Nat → Prop} {w0 w : World} {p : Nat} {v : Value} {raws : List Flight} {g : Option Nat} {F : Nat → Prop} {ms : List Fl} {lost : Int} (hs : small ms)
    (H : SH U G w0 w [.B p 71 [v, .int .i64 lost], .O 29 v raws g, .P F (FlsA F raws ms)]) : ∃ FN, SH U Non w0 w [.P FN (NetA p ms lost FN)] :=
  have ⟨FN, K⟩ := NetA.mkL (L := []) hs H
  ⟨FN, SH.give (M := [.P _ _]) K (List.Sublist.refl _) ⟨trivial, trivial⟩⟩

theorem CloneB_c {F : Nat → Prop} {v : Value} {xs : List UInt8} (w : World) (hv : Rs F w v xs) (hn : xs.length ≤ 1000000) :
    Calls Try.prog 51 #[v] w fun e w' => ∃ v' g, e = .returned v' ∧ SH Non Non w w' [.O 5 v' xs g] := by
  have H := (SH.start w).arg hv
  refine calls_of_CW Try.func51 rfl Try.ntmps51 (Nat.le_of_ble_eq_true rfl) ?_
  simp only [argE, argFrom, Nat.reduceAdd]
  refine CW.seq (fun K1 h1 => ?_)
  refine CW.region ?_
  refine r_assign rfl ?_
  refine LW.nil ?_
  refine thenE_norm (h1 _ _ ?_); clear h1; try clear K1
  refine CW.seq (fun K2 h2 => ?_)
  refine CW.seq (fun K3 h3 => ?_)
  refine CW.region ?_
  refine r_move rfl ?_
  refine r_eqlV rfl Try.underlying22 (by simp only [upd_get, ev, Nat.reduceEqDiff, ↓reduceIte] <;> rfl) rfl (by first | assumption | exact SH.rsR H (by repeat first | exact At.here | apply At.there) | exact SH.rsO H (by repeat first | exact At.here | apply At.there) | exact Rs.toH (by first | assumption | exact SH.rsR H (by repeat first | exact At.here | apply At.there) | exact SH.rsO H (by repeat first | exact At.here | apply At.there)) (by omega) | exact Rs.toL (by first | assumption | exact SH.rsR H (by repeat first | exact At.here | apply At.there) | exact SH.rsO H (by repeat first | exact At.here | apply At.there)) (by omega) | exact Rs.toLH (by first | assumption | exact SH.rsR H (by repeat first | exact At.here | apply At.there) | exact SH.rsO H (by repeat first | exact At.here | apply At.there)) (by omega) (by omega) | exact (Rs.nil : Rs Non _ _ _)) ?_
  intro c1_1 hn1_1
  refine LW.nil ?_
  refine thenE_norm (h3 _ _ ?_); clear h3; try clear K3
  refine CW.cond rfl (fun hc1 => ?_) (fun hc1 => ?_)
  · try simp only [decide_eq_true_eq, decide_eq_false_iff_not, Bool.and_eq_true, Bool.or_eq_true, Bool.and_eq_false_iff, Bool.or_eq_false_iff, Bool.not_eq_true', Bool.not_eq_false', beq_iff_eq, bne_iff_ne, ne_eq, Decidable.not_not] at hc1
    refine CW.seq (fun K4 h4 => ?_)
    refine CW.region ?_
    refine r_assign rfl ?_
    refine LW.nil ?_
    refine thenE_norm (h4 _ _ ?_); clear h4; try clear K4
    refine CW.ret (thenE_ret (ret1 Try.results51 (by simp only [upd_get, ev, Nat.reduceEqDiff, ↓reduceIte]; rfl) ?_))
    obtain rfl := hn1_1 hc1
    exact ⟨_, _, rfl, SH.give (H.addO (α := UInt8) 5) (by repeat first | exact List.Sublist.refl _ | exact List.nil_sublist _ | apply List.Sublist.cons_cons | apply List.Sublist.cons) ⟨trivial, trivial⟩⟩
  · try simp only [decide_eq_true_eq, decide_eq_false_iff_not, Bool.and_eq_true, Bool.or_eq_true, Bool.and_eq_false_iff, Bool.or_eq_false_iff, Bool.not_eq_true', Bool.not_eq_false', beq_iff_eq, bne_iff_ne, ne_eq, Decidable.not_not] at hc1
    refine CW.skip ?_
    refine thenE_norm (h2 _ _ ?_); clear h2; try clear K2
    refine CW.seq (fun K5 h5 => ?_)
    refine CW.region ?_
    refine r_buildSlice rfl Try.underlying22 Try.sizeOf5 Try.zeroValue5 rfl rfl rfl (by simp only [List.map_cons, List.map_nil, List.toList_toArray, List.foldl_cons, List.foldl_nil, List.replicate_succ, List.replicate_zero, List.set_cons_zero, List.set_cons_succ, upd_get, ev, Nat.reduceEqDiff, ↓reduceIte] <;> rfl) ?_
    intro b3_0 w3_0 hb3_0 hs3_0 hE3_0 hB3_0
    replace H := SH.call H (SH.fromB hE3_0 hb3_0 hs3_0 hB3_0)
    clear hb3_0 hs3_0 hE3_0 hB3_0
    try dsimp only [replC, List.cons_append, List.nil_append, List.append_nil, agg, cellsL, Value.cells, List.toList_toArray, List.set_cons_zero, List.set_cons_succ, spliceL, List.take_succ_cons, List.take_zero, List.drop_succ_cons, List.drop_zero, List.length_cons, List.length_nil, Nat.reduceAdd, Row.cells, Flight.L] at H
    replace H := SH.row (b := b3_0) (xs := ([] : List UInt8)) (n := 0) (cap := 0) H (by repeat first | exact At.here | apply At.there) (by rfl) (by intro x hx; first | rfl | (simp at hx; done) | (simp only [List.mem_cons, List.not_mem_nil, or_false] at hx; rcases hx with rfl <;> first | rfl | exact (by first | rfl | exact Rs.oneC (by first | assumption | exact SH.rsR H (by repeat first | exact At.here | apply At.there) | exact SH.rsO H (by repeat first | exact At.here | apply At.there) | exact Rs.toH (by first | assumption | exact SH.rsR H (by repeat first | exact At.here | apply At.there) | exact SH.rsO H (by repeat first | exact At.here | apply At.there)) (by omega) | exact Rs.toL (by first | assumption | exact SH.rsR H (by repeat first | exact At.here | apply At.there) | exact SH.rsO H (by repeat first | exact At.here | apply At.there)) (by omega) | exact Rs.toLH (by first | assumption | exact SH.rsR H (by repeat first | exact At.here | apply At.there) | exact SH.rsO H (by repeat first | exact At.here | apply At.there)) (by omega) (by omega) | exact (Rs.nil : Rs Non _ _ _)) | (simp only [List.all_cons, List.all_nil, Bool.and_true, Bool.and_eq_true, Row.cells, Flight.L]; (repeat' constructor) <;> first | rfl | exact Rs.oneC (by first | assumption | exact SH.rsR H (by repeat first | exact At.here | apply At.there) | exact SH.rsO H (by repeat first | exact At.here | apply At.there) | exact Rs.toH (by first | assumption | exact SH.rsR H (by repeat first | exact At.here | apply At.there) | exact SH.rsO H (by repeat first | exact At.here | apply At.there)) (by omega) | exact Rs.toL (by first | assumption | exact SH.rsR H (by repeat first | exact At.here | apply At.there) | exact SH.rsO H (by repeat first | exact At.here | apply At.there)) (by omega) | exact Rs.toLH (by first | assumption | exact SH.rsR H (by repeat first | exact At.here | apply At.there) | exact SH.rsO H (by repeat first | exact At.here | apply At.there)) (by omega) (by omega) | exact (Rs.nil : Rs Non _ _ _)))))) (by rfl) rfl (by decide)
    try dsimp only [replC, List.cons_append, List.nil_append, List.append_nil, agg, cellsL, Value.cells, List.toList_toArray, List.set_cons_zero, List.set_cons_succ, spliceL, List.take_succ_cons, List.take_zero, List.drop_succ_cons, List.drop_zero, List.length_cons, List.length_nil, Nat.reduceAdd, Row.cells, Flight.L] at H
    refine r_move rfl ?_
    first
      | refine s_append H rfl Try.underlying22 Try.underlying22 Try.type5 rfl (by simp only [upd_get, ev, Nat.reduceEqDiff, ↓reduceIte] <;> rfl) (by simp only [upd_get, ev, Nat.reduceEqDiff, ↓reduceIte] <;> rfl) (by repeat first | exact At.here | apply At.there) (by first | assumption | exact SH.rsR H (by repeat first | exact At.here | apply At.there) | exact SH.rsO H (by repeat first | exact At.here | apply At.there) | exact Rs.toH (by first | assumption | exact SH.rsR H (by repeat first | exact At.here | apply At.there) | exact SH.rsO H (by repeat first | exact At.here | apply At.there)) (by omega) | exact Rs.toL (by first | assumption | exact SH.rsR H (by repeat first | exact At.here | apply At.there) | exact SH.rsO H (by repeat first | exact At.here | apply At.there)) (by omega) | exact Rs.toLH (by first | assumption | exact SH.rsR H (by repeat first | exact At.here | apply At.there) | exact SH.rsO H (by repeat first | exact At.here | apply At.there)) (by omega) (by omega) | exact (Rs.nil : Rs Non _ _ _)) (by rfl) (by rfl) (by first | omega | (simp only [Try.t5, List.length_append, List.length_cons, List.length_nil, List.length_map, maxLen]; omega) | (simp [Try.t5, maxLen]; omega)) (by first | omega | (simp only [Try.t5, List.length_append, List.length_cons, List.length_nil, List.length_map, maxLen]; omega) | (simp [Try.t5, maxLen]; omega)) ?_
      | refine s_appendNil H rfl Try.underlying22 Try.underlying22 Try.type5 rfl rfl (by simp only [upd_get, ev, Nat.reduceEqDiff, ↓reduceIte] <;> rfl) (by first | assumption | exact SH.rsR H (by repeat first | exact At.here | apply At.there) | exact SH.rsO H (by repeat first | exact At.here | apply At.there) | exact Rs.toH (by first | assumption | exact SH.rsR H (by repeat first | exact At.here | apply At.there) | exact SH.rsO H (by repeat first | exact At.here | apply At.there)) (by omega) | exact Rs.toL (by first | assumption | exact SH.rsR H (by repeat first | exact At.here | apply At.there) | exact SH.rsO H (by repeat first | exact At.here | apply At.there)) (by omega) | exact Rs.toLH (by first | assumption | exact SH.rsR H (by repeat first | exact At.here | apply At.there) | exact SH.rsO H (by repeat first | exact At.here | apply At.there)) (by omega) (by omega) | exact (Rs.nil : Rs Non _ _ _)) (by rfl) (by rfl) (by first | omega | (simp only [Try.t5, List.length_append, List.length_cons, List.length_nil, List.length_map, maxLen]; omega) | (simp [Try.t5, maxLen]; omega)) ?_
    clear H
    intro v3_2 w3_2 g3_2 H hN3_2
    try dsimp only [replC, List.cons_append, List.nil_append, List.append_nil, agg, cellsL, Value.cells, List.toList_toArray, List.set_cons_zero, List.set_cons_succ, spliceL, List.take_succ_cons, List.take_zero, List.drop_succ_cons, List.drop_zero, List.length_cons, List.length_nil, Nat.reduceAdd, Row.cells, Flight.L] at H
    refine r_assign rfl ?_
    refine LW.nil ?_
    refine thenE_norm (h5 _ _ ?_); clear h5; try clear K5
    refine CW.ret (ret1 Try.results51 (by simp only [upd_get, ev, Nat.reduceEqDiff, ↓reduceIte]; rfl) ?_)
    exact ⟨_, _, rfl, (SH.give H (by repeat first | exact List.Sublist.refl _ | exact List.nil_sublist _ | apply List.Sublist.cons_cons | apply List.Sublist.cons) (by repeat first | exact trivial | refine ⟨trivial, ?_⟩))⟩
theorem DelF_c {v : Value} {xs : List Flight} {g : Option Nat} (i j : Nat) (w : World) (hv : Ow 29 w v xs g) (hij : i < j) (hj : j ≤ xs.length) :
    Calls Try.prog 42 #[v, .int .i64 i, .int .i64 j] w fun e w' => ∃ v', e = .returned v' ∧ SH (fun b => g = some b) Non w w' [.O 29 v' (xs.take i ++ xs.drop j) g] := by
  have h63 := hv.rs.len63
  have H := SH.own1 hv
  obtain ⟨b, cap, cur, rfl, rfl, hnc, hcm, hcl, hct, hone, H⟩ := H.toB At.here (by rintro rfl; simp at hj; omega)
  try dsimp only [replC, List.append_nil, List.cons_append, List.nil_append] at H
  have hc63 : cap ≤ 9223372036854775807 := by simpa [maxLen] using hcm
  have hfl := flat_len xs
  have hs1 : i * Row.sz Flight ≤ xs.length * Row.sz Flight := Nat.mul_le_mul_right _ (by omega)
  have hs2 : xs.length * Row.sz Flight ≤ cap * Row.sz Flight := Nat.mul_le_mul_right _ hnc
  have hs3 : (i + (xs.length - j)) * Row.sz Flight ≤ xs.length * Row.sz Flight := Nat.mul_le_mul_right _ (by omega)
  have hs4 : (i + (xs.length - j)) * Row.sz Flight + (xs.length - (i + (xs.length - j))) * Row.sz Flight = xs.length * Row.sz Flight := by rw [← Nat.add_mul]; congr 1; omega
  have hdl : ((flat xs).drop (j * Row.sz Flight)).length = (xs.length - j) * Row.sz Flight := by rw [List.length_drop, hfl, ← Nat.sub_mul]
  have hs5 : i * Row.sz Flight + (xs.length - j) * Row.sz Flight = (i + (xs.length - j)) * Row.sz Flight := (Nat.add_mul _ _ _).symm
  refine calls_of_CW Try.func42 rfl Try.ntmps42 (Nat.le_of_ble_eq_true rfl) ?_
  simp only [argE, argFrom, Nat.reduceAdd]
  refine CW.seq (fun K1 h1 => ?_)
  refine CW.region ?_
  refine r_assign rfl ?_
  refine LW.nil ?_
  refine thenE_norm (h1 _ _ ?_); clear h1; try clear K1
  refine CW.seq (fun K2 h2 => ?_)
  refine CW.region ?_
  refine r_move rfl ?_
  refine r_move rfl ?_
  refine r_move rfl ?_
  refine r_move rfl ?_
  first
    | refine r_lenV rfl Try.underlying40 (by simp only [upd_get, ev, Nat.reduceEqDiff, ↓reduceIte] <;> rfl) (by first | assumption | exact SH.rsR H (by repeat first | exact At.here | apply At.there) | exact SH.rsO H (by repeat first | exact At.here | apply At.there) | exact Rs.toH (by first | assumption | exact SH.rsR H (by repeat first | exact At.here | apply At.there) | exact SH.rsO H (by repeat first | exact At.here | apply At.there)) (by omega) | exact Rs.toL (by first | assumption | exact SH.rsR H (by repeat first | exact At.here | apply At.there) | exact SH.rsO H (by repeat first | exact At.here | apply At.there)) (by omega) | exact Rs.toLH (by first | assumption | exact SH.rsR H (by repeat first | exact At.here | apply At.there) | exact SH.rsO H (by repeat first | exact At.here | apply At.there)) (by omega) (by omega) | exact (Rs.nil : Rs Non _ _ _)) ?_
    | refine r_len rfl Try.underlying40 rfl ?_
  refine r_sliceLHMc rfl Try.underlying40 Try.sizeOf29 rfl rfl rfl rfl (by omega) (by omega) (by omega) (by omega) ?_
  intro v1
  refine LW.nil ?_
  refine thenE_norm (h2 _ _ ?_); clear h2; try clear K2
  refine CW.seq (fun K3 h3 => ?_)
  refine CW.seq (fun K4 h4 => ?_)
  refine CW.region ?_
  refine r_move rfl ?_
  refine r_move rfl ?_
  refine r_eql rfl rfl rfl ?_
  refine LW.nil ?_
  refine thenE_norm ?_
  refine cut (K := K4) [0, 1, 2, 16] (fun σ => ?_)
  simp only [setL, keepE, upd_get, ev, Nat.reduceEqDiff, ↓reduceIte]
  refine h4 _ _ ?_; clear h4; try clear K4
  refine CW.condF rfl (by first | rfl | (simp only [decide_eq_true_eq, decide_eq_false_iff_not, Bool.and_eq_true, Bool.or_eq_true, Bool.and_eq_false_iff, Bool.or_eq_false_iff, Bool.not_eq_true', Bool.not_eq_false', beq_iff_eq, bne_iff_ne]; omega) | simp_all) ?_
  refine CW.skip ?_
  refine thenE_norm (h3 _ _ ?_); clear h3; try clear K3
  refine CW.seq (fun K5 h5 => ?_)
  refine CW.region ?_
  refine r_move rfl ?_
  first
    | refine r_lenV rfl Try.underlying40 (by simp only [upd_get, ev, Nat.reduceEqDiff, ↓reduceIte] <;> rfl) (by first | assumption | exact SH.rsR H (by repeat first | exact At.here | apply At.there) | exact SH.rsO H (by repeat first | exact At.here | apply At.there) | exact Rs.toH (by first | assumption | exact SH.rsR H (by repeat first | exact At.here | apply At.there) | exact SH.rsO H (by repeat first | exact At.here | apply At.there)) (by omega) | exact Rs.toL (by first | assumption | exact SH.rsR H (by repeat first | exact At.here | apply At.there) | exact SH.rsO H (by repeat first | exact At.here | apply At.there)) (by omega) | exact Rs.toLH (by first | assumption | exact SH.rsR H (by repeat first | exact At.here | apply At.there) | exact SH.rsO H (by repeat first | exact At.here | apply At.there)) (by omega) (by omega) | exact (Rs.nil : Rs Non _ _ _)) ?_
    | refine r_len rfl Try.underlying40 rfl ?_
  refine r_assign rfl ?_
  refine LW.nil ?_
  refine thenE_norm (h5 _ _ ?_); clear h5; try clear K5
  refine CW.seq (fun K6 h6 => ?_)
  refine CW.drawP [] [] H (by dsimp only [pickC, nthC] <;> rfl) (by repeat first | exact List.Sublist.refl _ | exact List.nil_sublist _ | apply List.Sublist.cons_cons | apply List.Sublist.cons) (by kernel_rfl) rfl ?_
  clear H
  intro w5d H
  refine DL.take (i := 0) [] rfl (by kernel_rfl) (by kernel_rfl) (by kernel_rfl) (by kernel_rfl) rfl rfl (fun u H => x_move ) (SH.sub H (by repeat first | exact List.Sublist.refl _ | exact List.nil_sublist _ | apply List.Sublist.cons_cons | apply List.Sublist.cons)) ?_
  refine DL.take (i := 1) [] rfl (by kernel_rfl) (by kernel_rfl) (by kernel_rfl) (by kernel_rfl) rfl rfl (fun u H => x_move ) (SH.sub H (by repeat first | exact List.Sublist.refl _ | exact List.nil_sublist _ | apply List.Sublist.cons_cons | apply List.Sublist.cons)) ?_
  refine DL.take (i := 2) [] rfl (by kernel_rfl) (by kernel_rfl) (by kernel_rfl) (by kernel_rfl) rfl rfl (fun u H => x_sliceHc Try.underlying40 Try.sizeOf29 rfl rfl (by omega) (by omega)) (SH.sub H (by repeat first | exact List.Sublist.refl _ | exact List.nil_sublist _ | apply List.Sublist.cons_cons | apply List.Sublist.cons)) ?_
  refine DL.take (i := 3) [] rfl (by kernel_rfl) (by kernel_rfl) (by kernel_rfl) (by kernel_rfl) rfl rfl (fun u H => x_move ) (SH.sub H (by repeat first | exact List.Sublist.refl _ | exact List.nil_sublist _ | apply List.Sublist.cons_cons | apply List.Sublist.cons)) ?_
  refine DL.take (i := 4) [] rfl (by kernel_rfl) (by kernel_rfl) (by kernel_rfl) (by kernel_rfl) rfl rfl (fun u H => x_move ) (SH.sub H (by repeat first | exact List.Sublist.refl _ | exact List.nil_sublist _ | apply List.Sublist.cons_cons | apply List.Sublist.cons)) ?_
  refine DL.take (i := 5) [] rfl (by kernel_rfl) (by kernel_rfl) (by kernel_rfl) (by kernel_rfl) rfl rfl (fun u H => x_sliceLc Try.underlying40 Try.sizeOf29 rfl rfl (by omega) (by omega)) (SH.sub H (by repeat first | exact List.Sublist.refl _ | exact List.nil_sublist _ | apply List.Sublist.cons_cons | apply List.Sublist.cons)) ?_
  refine DL.one (i := 6) (by kernel_rfl) rfl rfl ?_
  refine s_appendB H rfl Try.underlying40 Try.underlying40 Try.type29 rfl rfl rfl (by repeat first | exact At.here | apply At.there) (Blk.tail (H.blk At.here) hct hcl hnc hcm hone.flat hj) (by show ((i : Int)).toNat + _ ≤ cap; omega) hcm hcl ?_
  clear H
  intro w5 H
  try dsimp only [replC, List.append_nil, List.nil_append] at H
  have hcl5 : (spliceL cur (i * Row.sz Flight) ((flat xs).drop (j * Row.sz Flight))).length = cap * Row.sz Flight := by rw [splice_len (by rw [hdl, hcl]; omega), hcl]
  refine LW.nil (thenE_norm ⟨fun _ => (SH.sub H (by repeat first | exact List.Sublist.refl _ | exact List.nil_sublist _ | apply List.Sublist.cons_cons | apply List.Sublist.cons)), ?_⟩)
  refine DL.take (i := 7) [] rfl (by kernel_rfl) (by kernel_rfl) (by kernel_rfl) (by kernel_rfl) rfl rfl (fun u H => x_assign ) (SH.sub H (by repeat first | exact List.Sublist.refl _ | exact List.nil_sublist _ | apply List.Sublist.cons_cons | apply List.Sublist.cons)) ?_
  refine DL.done (by kernel_rfl) ?_
  refine thenE_norm ?_
  refine cut (K := K6) [0, 7] (fun σ => ?_)
  simp only [setL, keepE, upd_get, ev, Nat.reduceEqDiff, ↓reduceIte]
  refine h6 _ _ ?_; clear h6; try clear K6
  refine CW.seq (fun K7 h7 => ?_)
  refine CW.region ?_
  refine r_move rfl ?_
  refine r_move rfl ?_
  first
    | refine r_lenV rfl Try.underlying40 (by simp only [upd_get, ev, Nat.reduceEqDiff, ↓reduceIte] <;> rfl) (by first | assumption | exact SH.rsR H (by repeat first | exact At.here | apply At.there) | exact SH.rsO H (by repeat first | exact At.here | apply At.there) | exact Rs.toH (by first | assumption | exact SH.rsR H (by repeat first | exact At.here | apply At.there) | exact SH.rsO H (by repeat first | exact At.here | apply At.there)) (by omega) | exact Rs.toL (by first | assumption | exact SH.rsR H (by repeat first | exact At.here | apply At.there) | exact SH.rsO H (by repeat first | exact At.here | apply At.there)) (by omega) | exact Rs.toLH (by first | assumption | exact SH.rsR H (by repeat first | exact At.here | apply At.there) | exact SH.rsO H (by repeat first | exact At.here | apply At.there)) (by omega) (by omega) | exact (Rs.nil : Rs Non _ _ _)) ?_
    | refine r_len rfl Try.underlying40 rfl ?_
  refine r_move rfl ?_
  refine r_sliceLHp rfl Try.underlying40 Try.sizeOf29 rfl rfl rfl (by omega) (by omega) (by omega) (by omega) ?_
  refine s_clearB H Try.underlying40 Try.zeroValue29 rfl rfl rfl rfl (by omega) (by repeat first | exact At.here | apply At.there) (by show (i + (xs.length - j)) * Row.sz Flight + (xs.length - (i + (xs.length - j))) * Row.sz Flight ≤ _; erw [hcl5]; omega) ?_
  clear H
  intro w6 zs hzs H
  try dsimp only [replC, List.append_nil, List.nil_append] at H
  refine LW.nil ?_
  refine thenE_norm (h7 _ _ ?_); clear h7; try clear K7
  refine CW.seq (fun K8 h8 => ?_)
  refine CW.region ?_
  refine r_move rfl ?_
  refine r_assign rfl ?_
  refine LW.nil ?_
  refine thenE_norm ?_
  refine cut (K := K8) [6] (fun σ => ?_)
  simp only [setL, keepE, upd_get, ev, Nat.reduceEqDiff, ↓reduceIte]
  refine h8 _ _ ?_; clear h8; try clear K8
  refine CW.ret (ret1 Try.results42 (by simp only [upd_get, ev, Nat.reduceEqDiff, ↓reduceIte]; rfl) ?_)
  have hout := SH.ofB (cap := cap) H At.here (xs.take i ++ xs.drop j) (i + (xs.length - j)) (by simp; omega) ((hone.take i).app (hone.drop j)) (by
    erw [splice_len (by erw [hcl5, hzs]; show (i + (xs.length - j)) * Row.sz Flight + (xs.length - (i + (xs.length - j))) * Row.sz Flight ≤ _; omega)]
    exact hcl5) (by omega) hcm (by
    refine (splice_front (by erw [hcl5]; omega)).trans ?_
    have h1 := splice_upto (cur := cur) (vs := (flat xs).drop (j * Row.sz Flight)) (o := i * Row.sz Flight) (by omega)
    rw [hdl, hs5] at h1
    refine h1.trans ?_
    rw [flat_app, flat_take, flat_drop, ← hct, List.take_take, Nat.min_eq_left hs1])
  exact ⟨_, rfl, hout⟩

theorem NetNew_c (w : World) : Calls Try.prog 12 #[] w fun e w' => ∃ p FN, e = .returned (.pointer (some ⟨p, 0, none⟩)) ∧ SH Non Non w w' [.P FN (NetA p [] 0 FN)] := by
  have H := SH.start (U := Non) (G := Any) w
  refine calls_of_CW Try.func12 rfl Try.ntmps12 (Nat.le_of_ble_eq_true rfl) ?_
  simp only [argE, argFrom, Nat.reduceAdd]
  refine CW.seq (fun K1 h1 => ?_)
  refine CW.region ?_
  refine r_assign rfl ?_
  refine LW.nil ?_
  refine thenE_norm (h1 _ _ ?_); clear h1; try clear K1
  refine CW.seq (fun K2 h2 => ?_)
  refine CW.region ?_
  refine r_buildQ rfl Try.underlying71 Try.zeroValue71 rfl (pl := [(0, 1), (1, 1)]) (by intro w; simp [go_sem]) (qs := []) (cs := [.slice none 0 0, .int .i64 0]) trivial rfl ?_
  refine s_box H rfl (by simp only [upd_get, ev, Nat.reduceEqDiff, ↓reduceIte] <;> rfl) rfl ?_
  clear H
  intro b1_1 w1_1 H
  try dsimp only [replC, List.cons_append, List.nil_append, List.append_nil, agg, cellsL, Value.cells, List.toList_toArray, List.set_cons_zero, List.set_cons_succ, spliceL, List.take_succ_cons, List.take_zero, List.drop_succ_cons, List.drop_zero, List.length_cons, List.length_nil, Nat.reduceAdd, Row.cells, Flight.L] at H
  refine r_assign rfl ?_
  refine LW.nil ?_
  refine thenE_norm (h2 _ _ ?_); clear h2; try clear K2
  refine CW.ret (ret1 Try.results12 (by simp only [upd_get, ev, Nat.reduceEqDiff, ↓reduceIte]; rfl) ?_)
  have H2 := H.addO (α := Flight) 29
  have H3 : SH Non Any w w1_1 ([.B b1_1 71 [.slice none 0 0, .int .i64 0], .O 29 (.slice none 0 0) ([] : List Flight) none] ++ [.P Non (FlsA Non [] [])]) :=
    H2.call ⟨Ext.refl _ _, Val.one ⟨trivial, fls_st, fun b h => h.elim, fun _ b h => h.elim, fun b h => h.elim⟩⟩
  obtain ⟨FN, H4⟩ := NetA.mk (fun m h => by cases h) H3
  exact ⟨_, _, rfl, H4⟩
end Go.Proofs.Ytcmnhneigojpoaa
