/-
  The tables of the evaluation of awake fit the program. No statement of the claim stands here: the kernel goes through the lists
-/
import Derived.Test.YtgmmbdmdimkfjaaGreatPI15
namespace Go.Proofs.YtgmmbdmdimkfjaaGreat
set_option linter.unusedVariables false
set_option maxRecDepth 100000
open Go.V Go.RowKit
def CallL (P : Program) : List Nat → Prop
  | [] => True
  | f :: r => (∀ (l : Array Value) w, (callFunc f l).run P w = .ok (.enter f l) w) ∧ CallL P r
theorem CallL.mem {P : Program} : ∀ {L : List Nat}, CallL P L → ∀ f ∈ L, ∀ (l : Array Value) w, (callFunc f l).run P w = .ok (.enter f l) w
  | [], _, f, h => by cases h
  | g :: r, ⟨h1, h2⟩, f, h => by
    rcases List.mem_cons.1 h with rfl | h
    · exact h1
    · exact CallL.mem h2 f h
def FitL (P : Program) (L : List Nat) : Prop := (∀ f ∈ L, ∀ (l : Array Value) w, (callFunc f l).run P w = .ok (.enter f l) w) ∧ ∀ f ∈ L, fitsF P f = true
theorem FitL.of {P : Program} {L : List Nat} (h1 : CallL P L) (h2 : L.all (fitsF P) = true) : FitL P L := ⟨h1.mem, fun f hf => List.all_eq_true.1 h2 f hf⟩
theorem FitL.app {P : Program} {L M : List Nat} (h : FitL P L) (k : FitL P M) : FitL P (L ++ M) :=
  ⟨fun f hf => (List.mem_append.1 hf).elim (h.1 f) (k.1 f), fun f hf => (List.mem_append.1 hf).elim (h.2 f) (k.2 f)⟩
theorem fit0 : FitL Tryz.prog [8, 9, 11, 12, 17, 19, 20, 21, 22, 23, 24, 25, 26, 27, 28, 29, 33, 36, 37, 38] := FitL.of ⟨Tryz.call8, Tryz.call9, Tryz.call11, Tryz.call12, Tryz.call17, Tryz.call19, Tryz.call20, Tryz.call21, Tryz.call22, Tryz.call23, Tryz.call24, Tryz.call25, Tryz.call26, Tryz.call27, Tryz.call28, Tryz.call29, Tryz.call33, Tryz.call36, Tryz.call37, Tryz.call38, trivial⟩ (by kernel_rfl)
theorem fit1 : FitL Tryz.prog [39, 40, 41, 43, 44, 45, 46, 47, 48, 49, 50, 52, 53, 54, 58, 59, 60, 61, 62, 63] := FitL.of ⟨Tryz.call39, Tryz.call40, Tryz.call41, Tryz.call43, Tryz.call44, Tryz.call45, Tryz.call46, Tryz.call47, Tryz.call48, Tryz.call49, Tryz.call50, Tryz.call52, Tryz.call53, Tryz.call54, Tryz.call58, Tryz.call59, Tryz.call60, Tryz.call61, Tryz.call62, Tryz.call63, trivial⟩ (by kernel_rfl)
theorem fit2 : FitL Tryz.prog [64, 65, 66, 67, 68, 69, 70, 71, 73, 74, 75, 76, 77, 78, 85, 86, 87, 88, 89, 90] := FitL.of ⟨Tryz.call64, Tryz.call65, Tryz.call66, Tryz.call67, Tryz.call68, Tryz.call69, Tryz.call70, Tryz.call71, Tryz.call73, Tryz.call74, Tryz.call75, Tryz.call76, Tryz.call77, Tryz.call78, Tryz.call85, Tryz.call86, Tryz.call87, Tryz.call88, Tryz.call89, Tryz.call90, trivial⟩ (by kernel_rfl)
theorem fit3 : FitL Tryz.prog [91, 92, 93, 94, 95, 101, 103, 104, 105, 106, 107, 108, 109, 111, 112, 113, 114, 115, 116, 118] := FitL.of ⟨Tryz.call91, Tryz.call92, Tryz.call93, Tryz.call94, Tryz.call95, Tryz.call101, Tryz.call103, Tryz.call104, Tryz.call105, Tryz.call106, Tryz.call107, Tryz.call108, Tryz.call109, Tryz.call111, Tryz.call112, Tryz.call113, Tryz.call114, Tryz.call115, Tryz.call116, Tryz.call118, trivial⟩ (by kernel_rfl)
theorem fit4 : FitL Tryz.prog [119, 121, 122, 123, 124, 125, 127, 128, 129, 135, 136, 137, 138, 139, 140, 141, 142, 143, 144, 145] := FitL.of ⟨Tryz.call119, Tryz.call121, Tryz.call122, Tryz.call123, Tryz.call124, Tryz.call125, Tryz.call127, Tryz.call128, Tryz.call129, Tryz.call135, Tryz.call136, Tryz.call137, Tryz.call138, Tryz.call139, Tryz.call140, Tryz.call141, Tryz.call142, Tryz.call143, Tryz.call144, Tryz.call145, trivial⟩ (by kernel_rfl)
theorem fit5 : FitL Tryz.prog [146, 147, 148, 152, 153, 154, 155, 156, 157, 158, 159, 160, 161, 162, 163, 164, 165, 166, 167, 168] := FitL.of ⟨Tryz.call146, Tryz.call147, Tryz.call148, Tryz.call152, Tryz.call153, Tryz.call154, Tryz.call155, Tryz.call156, Tryz.call157, Tryz.call158, Tryz.call159, Tryz.call160, Tryz.call161, Tryz.call162, Tryz.call163, Tryz.call164, Tryz.call165, Tryz.call166, Tryz.call167, Tryz.call168, trivial⟩ (by kernel_rfl)
theorem fit6 : FitL Tryz.prog [169, 171, 172, 182, 184, 185, 186, 187, 188, 189, 190, 191, 194, 196, 197, 198, 199, 200, 201, 202] := FitL.of ⟨Tryz.call169, Tryz.call171, Tryz.call172, Tryz.call182, Tryz.call184, Tryz.call185, Tryz.call186, Tryz.call187, Tryz.call188, Tryz.call189, Tryz.call190, Tryz.call191, Tryz.call194, Tryz.call196, Tryz.call197, Tryz.call198, Tryz.call199, Tryz.call200, Tryz.call201, Tryz.call202, trivial⟩ (by kernel_rfl)
theorem fit7 : FitL Tryz.prog [203, 204, 205, 206, 207, 208, 209, 210, 211, 212, 213, 214, 215, 216, 217, 218, 219, 220, 222, 223] := FitL.of ⟨Tryz.call203, Tryz.call204, Tryz.call205, Tryz.call206, Tryz.call207, Tryz.call208, Tryz.call209, Tryz.call210, Tryz.call211, Tryz.call212, Tryz.call213, Tryz.call214, Tryz.call215, Tryz.call216, Tryz.call217, Tryz.call218, Tryz.call219, Tryz.call220, Tryz.call222, Tryz.call223, trivial⟩ (by kernel_rfl)
theorem fit8 : FitL Tryz.prog [227, 228, 229, 230, 231, 232, 233, 234, 235, 236, 237, 238, 239, 240, 241, 242, 243, 244, 245, 246] := FitL.of ⟨Tryz.call227, Tryz.call228, Tryz.call229, Tryz.call230, Tryz.call231, Tryz.call232, Tryz.call233, Tryz.call234, Tryz.call235, Tryz.call236, Tryz.call237, Tryz.call238, Tryz.call239, Tryz.call240, Tryz.call241, Tryz.call242, Tryz.call243, Tryz.call244, Tryz.call245, Tryz.call246, trivial⟩ (by kernel_rfl)
theorem fit9 : FitL Tryz.prog [247, 248, 250, 251, 252, 253, 259, 260, 261, 262, 263, 264, 267, 268, 269, 270, 271, 272, 273, 274] := FitL.of ⟨Tryz.call247, Tryz.call248, Tryz.call250, Tryz.call251, Tryz.call252, Tryz.call253, Tryz.call259, Tryz.call260, Tryz.call261, Tryz.call262, Tryz.call263, Tryz.call264, Tryz.call267, Tryz.call268, Tryz.call269, Tryz.call270, Tryz.call271, Tryz.call272, Tryz.call273, Tryz.call274, trivial⟩ (by kernel_rfl)
theorem fit10 : FitL Tryz.prog [275, 276, 277, 278, 279, 280, 281, 282, 283, 284, 285, 286, 287, 288, 289, 291, 293, 294, 295, 296] := FitL.of ⟨Tryz.call275, Tryz.call276, Tryz.call277, Tryz.call278, Tryz.call279, Tryz.call280, Tryz.call281, Tryz.call282, Tryz.call283, Tryz.call284, Tryz.call285, Tryz.call286, Tryz.call287, Tryz.call288, Tryz.call289, Tryz.call291, Tryz.call293, Tryz.call294, Tryz.call295, Tryz.call296, trivial⟩ (by kernel_rfl)
theorem fit11 : FitL Tryz.prog [297, 299, 300, 301, 302, 303, 304, 305, 308, 311, 312, 313, 314, 315, 316, 320, 324, 325, 326, 327] := FitL.of ⟨Tryz.call297, Tryz.call299, Tryz.call300, Tryz.call301, Tryz.call302, Tryz.call303, Tryz.call304, Tryz.call305, Tryz.call308, Tryz.call311, Tryz.call312, Tryz.call313, Tryz.call314, Tryz.call315, Tryz.call316, Tryz.call320, Tryz.call324, Tryz.call325, Tryz.call326, Tryz.call327, trivial⟩ (by kernel_rfl)
theorem fit12 : FitL Tryz.prog [328, 329, 330, 331, 332, 333, 334, 335, 337, 338, 339, 340, 341, 342, 343, 344, 345, 346, 351, 352] := FitL.of ⟨Tryz.call328, Tryz.call329, Tryz.call330, Tryz.call331, Tryz.call332, Tryz.call333, Tryz.call334, Tryz.call335, Tryz.call337, Tryz.call338, Tryz.call339, Tryz.call340, Tryz.call341, Tryz.call342, Tryz.call343, Tryz.call344, Tryz.call345, Tryz.call346, Tryz.call351, Tryz.call352, trivial⟩ (by kernel_rfl)
theorem fit13 : FitL Tryz.prog [353, 354, 356, 357, 360, 361, 362, 363, 364, 365, 366, 373, 374, 375, 376, 377, 378, 386, 389, 390] := FitL.of ⟨Tryz.call353, Tryz.call354, Tryz.call356, Tryz.call357, Tryz.call360, Tryz.call361, Tryz.call362, Tryz.call363, Tryz.call364, Tryz.call365, Tryz.call366, Tryz.call373, Tryz.call374, Tryz.call375, Tryz.call376, Tryz.call377, Tryz.call378, Tryz.call386, Tryz.call389, Tryz.call390, trivial⟩ (by kernel_rfl)
theorem fit14 : FitL Tryz.prog [391, 392, 393, 394, 395, 396, 403, 404, 405, 406, 407, 413, 414, 415, 416, 417, 418, 424, 425, 426] := FitL.of ⟨Tryz.call391, Tryz.call392, Tryz.call393, Tryz.call394, Tryz.call395, Tryz.call396, Tryz.call403, Tryz.call404, Tryz.call405, Tryz.call406, Tryz.call407, Tryz.call413, Tryz.call414, Tryz.call415, Tryz.call416, Tryz.call417, Tryz.call418, Tryz.call424, Tryz.call425, Tryz.call426, trivial⟩ (by kernel_rfl)
theorem fit15 : FitL Tryz.prog [433, 435, 436, 437, 440, 444, 455, 456] := FitL.of ⟨Tryz.call433, Tryz.call435, Tryz.call436, Tryz.call437, Tryz.call440, Tryz.call444, Tryz.call455, Tryz.call456, trivial⟩ (by kernel_rfl)
theorem fitAll : FitL Tryz.prog funL := (fit0.app (fit1.app (fit2.app (fit3.app (fit4.app (fit5.app (fit6.app (fit7.app (fit8.app (fit9.app (fit10.app (fit11.app (fit12.app (fit13.app (fit14.app fit15)))))))))))))))
def keysAll (p : Nat → Bool) : Tr Nat → Nat → Nat → Bool
  | .nil, _, _ => true
  | .node v l r, a, b => (match v with
    | some _ => p b
    | none => true) && (keysAll p l (2 * a) (a + b) && keysAll p r (2 * a) (2 * a + b))
theorem keysAll_ok {p : Nat → Bool} : ∀ {t : Tr Nat} {a b j m : Nat}, keysAll p t a b = true → t.get j = some m → p (a * j + b) = true
  | .nil, a, b, j, m, h, hj => by cases hj
  | .node v l r, a, b, j, m, h, hj => by
    simp only [keysAll, Bool.and_eq_true] at h
    obtain ⟨h1, h2, h3⟩ := h
    unfold Tr.get at hj
    cases h0 : Nat.beq j 0 with
    | true =>
      rw [h0] at hj
      have := beqT h0; subst this
      simp only [cond_true] at hj
      subst hj
      simpa using h1
    | false =>
      rw [h0, cond_false] at hj
      have := beqF h0
      cases hm : Nat.beq (j % 2) 1 with
      | true =>
        rw [hm, cond_true] at hj
        have hm := beqT hm
        have h4 := keysAll_ok h2 hj
        have e : j = 2 * (j / 2) + 1 := by omega
        have e2 : 2 * a * (j / 2) + (a + b) = a * j + b := by
          rw [show a * j = a * (2 * (j / 2) + 1) from by rw [← e], Nat.mul_add, Nat.mul_one, ← Nat.mul_assoc, Nat.mul_comm a 2]; omega
        rwa [e2] at h4
      | false =>
        rw [hm, cond_false] at hj
        have hm := beqF hm
        have h4 := keysAll_ok h3 hj
        have e : j = 2 * (j / 2 - 1) + 2 := by omega
        have e2 : 2 * a * (j / 2 - 1) + (2 * a + b) = a * j + b := by
          rw [show a * j = a * (2 * (j / 2 - 1) + 2) from by rw [← e], Nat.mul_add, ← Nat.mul_assoc, Nat.mul_comm a 2]; omega
        rwa [e2] at h4
theorem funT_keys : keysAll (fun k => memN k funL) funT 1 0 = true := by kernel_rfl
theorem funsOK : FunsOK Tryz.prog plansF (funF Tryz.prog) := by
  intro f fn h
  unfold funF at h
  split at h
  · rename_i m hm
    have hk := keysAll_ok funT_keys hm
    rw [Nat.one_mul, Nat.add_zero] at hk
    have hmem := memN_iff.1 hk
    refine ⟨h, fitAll.1 f hmem, fun c hc => ?_⟩
    have := fitAll.2 f hmem
    unfold fitsF at this
    rw [h] at this
    simp only [hc] at this
    exact this
  · cases h
end Go.Proofs.YtgmmbdmdimkfjaaGreat
