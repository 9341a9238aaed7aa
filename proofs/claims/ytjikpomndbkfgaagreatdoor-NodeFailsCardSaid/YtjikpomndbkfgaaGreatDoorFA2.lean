/- NodeFails: for every input that the statement's row lets in the law answers true and its arguments read as before; conditions: none beyond the row's own (part 2; joined, pruned and shortened by a program of the prover's own: names of two letters stand for longer ones.) -/
import Derived.Test.YtjikpomndbkfgaaGreatDoorFA1
import Derived.Orders
import Derived.KernelRfl
set_option linter.all false
set_option linter.unusedVariables false
set_option linter.unusedSimpArgs false
set_option linter.unusedSectionVars false
namespace Go.Proofs.YtjikpomndbkfgaaGreatDoor
open Go Go.Sx Go.Nd
set_option maxRecDepth 10000
section
variable {w0 : World} {L F : Res}
theorem slice_off {p : Nat} (a : Nat) (h : a < 128) : Value.slice (some (if 128 = a then (⟨p, 0, none⟩ : Addr) else ⟨p, 0 + a * 1, none⟩)) (128 - a) (128 - a) = .slice (some ⟨p, a, none⟩) (128 - a) (128 - a) := by
  rw [if_neg (by omega)]; simp
def jy (l : List Value) (k : Nat) (vs : List Value) : List Value := l.take k ++ vs ++ l.drop (k + vs.length)
theorem JU (l : List Value) (k : Nat) : jy l k [] = l := by simp [jy]
theorem JV {l vs : List Value} {k : Nat} (h : k + vs.length ≤ l.length) : (jy l k vs).length = l.length := by simp [jy]; omega
theorem putAt_snoc {l vs : List Value} {k : Nat} {v : Value} (h : k + vs.length < l.length) : (jy l k vs).set (k + vs.length) v = jy l k (vs ++ [v]) := by
  unfold jy
  rw [List.set_append_right _ _ (by simp; omega)]
  have : k + vs.length - (l.take k ++ vs).length = 0 := by simp; omega
  rw [this, List.drop_eq_getElem_cons h, List.set_cons_zero, List.append_assoc, List.append_assoc, List.append_assoc]
  simp [Nat.add_assoc]
theorem Vz (p : Option Addr) (n c : Nat) (a w : Int) (h : 1 ≤ w ∧ w ≤ 8 ∧ 0 ≤ a ∧ a + w ≤ n) (hn : (n : Int) ≤ 9223372036854775807) :
    FnT Tryz.prog w0 164 #[.slice p n c, .int .i64 a, .int .i64 w] L (fun v L' => v = .bool true ∧ L' = L) := by
  refine qh (E0 := [(0, _), (1, _), (2, _)]) (N := 31) Tryz.func164 rfl rfl rfl rfl ?_
  refine qP <| qD rfl <| qo <| qB rfl <| q9 (j2 rfl rfl) <| qB rfl <| qY (s := 9) rfl (fun hg1_2 => ?_) (fun hg1_2 => ?_)
  ·
   refine qE rfl rfl (qM rfl) <| qE rfl rfl (Kh rfl rfl) <| q9 (qk rfl rfl) <| qB rfl <| qY (s := 13) rfl (fun hg1_6 => ?_) (fun hg1_6 => ?_)
   ·
    refine qE rfl rfl (qM rfl) <| qE rfl rfl (j2 rfl rfl) <| q9 (qk rfl rfl) <| qB rfl <| qY (s := 17) rfl (fun hg1_10 => ?_) (fun hg1_10 => ?_)
    ·
     refine qE rfl rfl (qM rfl) <| qE rfl rfl (qM rfl) <| qE rfl rfl (wD rfl) <| qE rfl rfl (Kh rfl rfl) <| q9 (qk rfl rfl) <| qB rfl <| qY (s := 23) rfl (fun hg1_16 => ?_) (fun hg1_16 => ?_)
     ·
      refine qE rfl rfl (qM rfl) <| qE rfl rfl (wD rfl) <| qE rfl rfl (qM rfl) <| qE rfl rfl (y1 rfl rfl (by omega)) <| qE rfl rfl (qM rfl) <| qE rfl rfl (j2 rfl rfl) <| q9 (qk rfl rfl) <| qD rfl <| qF <| qz <| wF L (.inl rfl) rfl (qu rfl) ?_
      exact ⟨by simp; omega, rfl⟩
     · (exfalso; omega)
    · (exfalso; omega)
   · (exfalso; omega)
  · (exfalso; omega)
theorem Xr {l : List Value} {off i w : Nat} {a x : Int} (h1 : i < w) (hw : w ≤ 8) (hl : off + a.toNat + w ≤ l.length) :
    (jy l (off + a.toNat) (u8s (leI i x))).set (off + (a.toNat + i) * 1) (Value.int IntKind.u8 (IntKind.u8.wrap (x.fdiv (2 ^ min (8 * (i : Int)).toNat IntKind.u64.bits)))) = jy l (off + a.toNat) (u8s (leI (i + 1) x)) := by
  rw [wrap_u8, show IntKind.u64.bits = 64 from rfl, Mc x i (by omega), Jf, ym]
  have := putAt_snoc (l := l) (k := off + a.toNat) (vs := u8s (leI i x)) (v := .int .u8 (x / 256 ^ i % 256)) (by simp; omega)
  rw [Z4, KG] at this
  rw [show off + (a.toNat + i) * 1 = off + a.toNat + i from by omega, this]
  rfl
theorem VS (b off n c e : Nat) (l : List Value) (a x : Int) (w : Nat) (h : 1 ≤ w ∧ w ≤ 8 ∧ 0 ≤ a ∧ a + w ≤ n) (hn : (n : Int) ≤ 9223372036854775807) (hx : 0 ≤ x ∧ x < 256 ^ w) (hl : off + n ≤ l.length) :
    FnT Tryz.prog w0 158 #[.slice (some ⟨b, off, none⟩) n c, .int .i64 a, .int .i64 w, .int .u64 x] ([(b, .cells l.toArray e (0, 0))] :: F)
      (fun v L' => v = .int .i64 0 ∧ L' = [(b, .cells (jy l (off + a.toNat) (u8s (leI w x))).toArray e (0, 0))] :: F) := by
  have h8 : x.fdiv (2 ^ (min (8 * (w : Int)).toNat 64)) = 0 := by
    rw [Mc x w (by omega)]
    exact Int.ediv_eq_zero_of_lt hx.1 hx.2
  refine qh (E0 := [(0, _), (1, _), (2, _), (3, _)]) (N := 41) Tryz.func158 rfl rfl rfl rfl ?_
  refine qP <| qD rfl <| qF <| qO <| qP <| qB rfl <| qB rfl <| qB rfl <| q9 (wJ rfl (Vz _ n c a w (by omega) hn)) <| q9 (kN rfl) <| qB rfl <| y0 (s := 15) rfl (fun hg1_5 => ?_) (fun hg1_5 => ?_)
  · exact absurd hg1_5 (by decide)
  ·
   refine qE rfl rfl (qM rfl) <| qE rfl rfl (wL rfl rfl) <| qE rfl rfl (qM rfl) <| qY (s := 18) rfl (fun hg1_8 => ?_) (fun hg1_8 => ?_)
   ·
    refine qE rfl rfl (qM rfl) <| qE rfl rfl (qM rfl) <| qE rfl rfl (xF rfl rfl (by omega)) <| qE rfl rfl (XJ rfl rfl (by omega)) <| qE rfl rfl (wz rfl rfl) <| qE rfl rfl (qk rfl rfl) <| q9 (qU rfl rfl) <| qF <| qL rfl (fun hc1 => ?_) (fun hc1 => ?_)
    · exact absurd h8 hc1
    ·
     refine qZ <| qI <| qO <| qP <| qB rfl <| qB rfl <| qF <| qg <| wV (Γ := {pΓ : (Nat) // (fun (i : Nat) => i ≤ w) pΓ}) (fun g => (fun (i : Nat) => [(0, .slice (some ⟨b, off, none⟩) n c), (1, .int .i64 a), (3, .int .u64 x), (26, .int .i64 w), (27, .int .i64 (i : Int))]) g.1) (fun g => (fun (i : Nat) => [(b, .cells (jy l (off + a.toNat) (u8s (leI i x))).toArray e (0, 0))] :: F) g.1) (fun g => (fun (i : Nat) => w - i) g.1) ⟨0, by dsimp only; exact (by omega)⟩ (yW (by dsimp only; rw [show u8s (leI 0 x) = [] from rfl, JU])) ?_
     rintro ⟨i, hloop⟩
     replace hloop : i ≤ w := hloop
     obtain hi := hloop
     show Tr _ _ _ ([(0, .slice (some ⟨b, off, none⟩) n c), (1, .int .i64 a), (3, .int .u64 x), (26, .int .i64 w), (27, .int .i64 (i : Int))]) ([(b, .cells (jy l (off + a.toNat) (u8s (leI i x))).toArray e (0, 0))] :: F) _ _
     refine qP <| q9 (wL rfl rfl) <| qF <| qO <| qL rfl (fun hc4 => ?_) (fun hc4 => ?_)
     ·
      refine qZ <| qI <| qO <| qg <| qP <| qB rfl <| qD rfl <| qF <| qK <| qB rfl <| qB rfl <| qB rfl <| q9 (w9 rfl rfl (by omega)) <| qB rfl <| qB rfl <| q9 (xF rfl rfl (by omega)) <| q9 (XJ rfl rfl (by omega)) <| q9 (XK rfl) <| q9 (qw (j := a.toNat + i) rfl rfl (by omega) (by omega) rfl) <| qS (yA rfl rfl (by rw [JV (by simp; omega)]; omega) rfl) ?_
      refine qT <| qf <| qI <| qK <| q9 (w9 rfl rfl (by omega)) <| qB rfl <| qT <| w5 ⟨i + 1, ?_⟩ ?_ ?_
      · (try dsimp only); omega
      · (try dsimp only); omega
      · (try dsimp only); exact yW (by rw [Xr (w := w) (by omega) (by omega) (by omega)])
     ·
      refine wb <| qr <| qt <| qj <| qI <| qP <| qD rfl <| qF <| qz <| zn (.inl rfl) rfl (qu rfl) ?_
      exact ⟨rfl, by rw [show i = w from by omega]⟩
   ·
    refine qN rfl rfl rfl <| qN rfl rfl rfl <| qN rfl rfl rfl <| qN rfl rfl rfl <| qN rfl rfl rfl <| qE rfl rfl (qU rfl rfl) <| q9 (qU rfl rfl) <| qF <| wU rfl <| qZ <| qI <| qO <| qP <| qB rfl <| qB rfl <| qF <| qg <| wV (Γ := {pΓ : (Nat) // (fun (i : Nat) => i ≤ w) pΓ}) (fun g => (fun (i : Nat) => [(0, .slice (some ⟨b, off, none⟩) n c), (1, .int .i64 a), (3, .int .u64 x), (26, .int .i64 w), (27, .int .i64 (i : Int))]) g.1) (fun g => (fun (i : Nat) => [(b, .cells (jy l (off + a.toNat) (u8s (leI i x))).toArray e (0, 0))] :: F) g.1) (fun g => (fun (i : Nat) => w - i) g.1) ⟨0, by dsimp only; exact (by omega)⟩ (yW (by dsimp only; rw [show u8s (leI 0 x) = [] from rfl, JU])) ?_
    rintro ⟨i, hloop⟩
    replace hloop : i ≤ w := hloop
    obtain hi := hloop
    show Tr _ _ _ ([(0, .slice (some ⟨b, off, none⟩) n c), (1, .int .i64 a), (3, .int .u64 x), (26, .int .i64 w), (27, .int .i64 (i : Int))]) ([(b, .cells (jy l (off + a.toNat) (u8s (leI i x))).toArray e (0, 0))] :: F) _ _
    refine qP <| q9 (wL rfl rfl) <| qF <| qO <| qL rfl (fun hc4 => ?_) (fun hc4 => ?_)
    ·
     refine qZ <| qI <| qO <| qg <| qP <| qB rfl <| qD rfl <| qF <| qK <| qB rfl <| qB rfl <| qB rfl <| q9 (w9 rfl rfl (by omega)) <| qB rfl <| qB rfl <| q9 (xF rfl rfl (by omega)) <| q9 (XJ rfl rfl (by omega)) <| q9 (XK rfl) <| q9 (qw (j := a.toNat + i) rfl rfl (by omega) (by omega) rfl) <| qS (yA rfl rfl (by rw [JV (by simp; omega)]; omega) rfl) ?_
     refine qT <| qf <| qI <| qK <| q9 (w9 rfl rfl (by omega)) <| qB rfl <| qT <| w5 ⟨i + 1, ?_⟩ ?_ ?_
     · (try dsimp only); omega
     · (try dsimp only); omega
     · (try dsimp only); exact yW (by rw [Xr (w := w) (by omega) (by omega) (by omega)])
    ·
     refine wb <| qr <| qt <| qj <| qI <| qP <| qD rfl <| qF <| qz <| zn (.inl rfl) rfl (qu rfl) ?_
     exact ⟨rfl, by rw [show i = w from by omega]⟩
theorem get_step {i : Nat} {acc b : Int} (hi : i < 8) (h0 : 0 ≤ acc) (h1 : acc < 256 ^ i) (hb0 : 0 ≤ b) (hb : b < 256) :
    zH .or .u64 acc (IntKind.u64.wrap (b * 2 ^ (min (8 * (i : Int)).toNat IntKind.u64.bits))) = acc + 256 ^ i * b := by
  have e1 : min (8 * (i : Int)).toNat IntKind.u64.bits = 8 * i := by
    have : IntKind.u64.bits = 64 := rfl
    omega
  have e2 : (256 : Int) ^ i = 2 ^ (8 * i) := by rw [Int.pow_mul]; rfl
  have hp : b * 2 ^ (8 * i) < 18446744073709551616 - acc := by
    have hi8 : i = 0 ∨ i = 1 ∨ i = 2 ∨ i = 3 ∨ i = 4 ∨ i = 5 ∨ i = 6 ∨ i = 7 := by omega
    rcases hi8 with rfl | rfl | rfl | rfl | rfl | rfl | rfl | rfl <;> simp at h1 ⊢ <;> omega
  have h1' : acc < 2 ^ (8 * i) := by rw [← e2]; exact h1
  rw [e1, Xe, Int.emod_eq_of_lt (Int.mul_nonneg hb0 (Int.le_of_lt (Int.pow_pos (by omega)))) (by omega), or64 h0 h1' hb0 hp, e2, Int.mul_comm]
theorem MO (b off n c e : Nat) (fr : Nat × Nat) (l : List Value) (bs : List Int) (a : Int) (w : Nat) (h : 1 ≤ w ∧ w ≤ 8 ∧ 0 ≤ a ∧ a + w ≤ n) (hn : (n : Int) ≤ 9223372036854775807) (hbs : IsB bs) (hlen : bs.length = w)
    (hl : (l.drop (off + a.toNat)).take w = u8s bs) :
    FnT Tryz.prog w0 157 #[.slice (some ⟨b, off, none⟩) n c, .int .i64 a, .int .i64 w] ([(b, .cells l.toArray e fr)] :: F)
      (fun v L' => v = .tuple #[.int .u64 (deI bs), .int .i64 0] ∧ L' = [(b, .cells l.toArray e fr)] :: F) := by
  have hget : ∀ i : Nat, i < w → ∃ x, bs[i]? = some x ∧ 0 ≤ x ∧ x < 256 ∧ wX l (off + (a.toNat + i) * 1) = some (.int .u8 x) := by
    intro i hi
    have hlt : i < bs.length := by omega
    refine ⟨bs[i], List.getElem?_eq_getElem hlt, (hbs _ (List.getElem_mem hlt)).1, (hbs _ (List.getElem_mem hlt)).2, ?_⟩
    have h1 : ((l.drop (off + a.toNat)).take w)[i]? = some (.int .u8 bs[i]) := by rw [hl]; simp [u8s, hlt]
    rw [List.getElem?_take, if_pos hi, List.getElem?_drop] at h1
    rw [zK, ← h1]; congr 1; omega
  refine qh (E0 := [(0, _), (1, _), (2, _)]) (N := 33) Tryz.func157 rfl rfl rfl rfl ?_
  refine qP <| qD rfl <| qD rfl <| qF <| qO <| qP <| qB rfl <| qB rfl <| qB rfl <| q9 (wJ rfl (Vz _ n c a w (by omega) hn)) <| q9 (kN rfl) <| qF <| wU rfl <| qZ <| qI <| qP <| qD rfl <| qF <| qO <| qP <| qB rfl <| qB rfl <| qF <| qg <| wV (Γ := {pΓ : (Nat) // (fun (i : Nat) => i ≤ w) pΓ}) (fun g => (fun (i : Nat) => [(0, .slice (some ⟨b, off, none⟩) n c), (1, .int .i64 a), (8, .int .u64 (deI (bs.take i))), (15, .int .i64 w), (16, .int .i64 (i : Int))]) g.1) (fun g => (fun (i : Nat) => [(b, .cells l.toArray e fr)] :: F) g.1) (fun g => (fun (i : Nat) => w - i) g.1) ⟨0, by dsimp only; exact (by omega)⟩ (qX _) ?_
  rintro ⟨i, hloop⟩
  replace hloop : i ≤ w := hloop
  obtain hi := hloop
  show Tr _ _ _ ([(0, .slice (some ⟨b, off, none⟩) n c), (1, .int .i64 a), (8, .int .u64 (deI (bs.take i))), (15, .int .i64 w), (16, .int .i64 (i : Int))]) ([(b, .cells l.toArray e fr)] :: F) _ _
  refine qP <| q9 (wL rfl rfl) <| qF <| qO <| qL rfl (fun hc5 => ?_) (fun hc5 => ?_)
  ·
   refine qZ <| qI <| qO <| qg <| qP <| qB rfl <| qD rfl <| qT <| qI ?_
   obtain ⟨x, hx1, hx2, hx3, hx4⟩ := hget i (by omega)
   have hbd := deI_bound (l := bs.take i) (fun z hz => hbs z (List.mem_of_mem_take hz))
   rw [List.length_take, show min i bs.length = i from by omega] at hbd
   refine qK <| qB rfl <| qB rfl <| qB rfl <| qB rfl <| q9 (w9 rfl rfl (by omega)) <| q9 (qw (j := a.toNat + i) rfl rfl (by omega) (by omega) rfl) <| q9 (qH rfl hx4) <| q9 (zJ rfl (by first | (simp only [IntKind.min, IntKind.max, IntKind.bits, IntKind.signed, Bool.false_eq_true, if_false, if_true]; omega))) ?_
   refine qB rfl <| q9 (xF rfl rfl (by omega)) <| q9 (op_shl rfl rfl (by omega)) <| q9 (op_or rfl rfl) <| qD rfl <| qT <| qf <| qI ?_
   rw [get_step (by omega) hbd.1 hbd.2 hx2 hx3, show deI (bs.take i) + 256 ^ i * x = deI (bs.take (i + 1)) from by rw [List.take_add_one, hx1, Option.toList_some, deI_append, List.length_take, show min i bs.length = i from by omega]]
   refine qK <| q9 (w9 rfl rfl (by omega)) <| qB rfl <| qT <| w5 ⟨i + 1, ?_⟩ ?_ ?_
   · (try dsimp only); omega
   · (try dsimp only); omega
   · (try dsimp only); exact qX _
  ·
   refine wb <| qr <| qt <| qj <| qI <| qP <| qB rfl <| qD rfl <| qD rfl <| qF <| qz <| W5 (.inl rfl) rfl (qu rfl) (qu rfl) ?_
   exact ⟨by rw [show i = bs.length from by omega, List.take_length], rfl⟩
def wr (p : Nat) (s : Sec) (a : Nat) : qV := [(p, .cells (ww s ++ [Value.int .i64 a, Value.int .i64 0]).toArray 242 (0, 0))]
def rd (p : Nat) (s : Sec) (a : Nat) : qV := [(p, .cells (ww s ++ [Value.int .i64 a, Value.int .i64 0]).toArray 257 (0, 0))]
theorem YS (s : Sec) (r : List Value) (k : Nat) (m : List Int) (h : k + m.length ≤ 128) (hm : IsB m) : jy (ww s ++ r) k (u8s m) = ww (s.put k m h hm) ++ r := by
  have e1 : (ww s ++ r).take k = (ww s).take k := List.take_append_of_le_length (by simp; omega)
  have e2 : (ww s ++ r).drop (k + m.length) = (ww s).drop (k + m.length) ++ r := List.drop_append_of_le_length (by simp; omega)
  unfold jy
  rw [Z4, e1, e2]
  simp only [ww, Sec.put, Qc, ym, x9, Wb, List.append_assoc]
theorem xr (p : Nat) (s : Sec) (a : Nat) (x : Int) (w : Nat) (h : 1 ≤ w ∧ w ≤ 8 ∧ a + w ≤ 128) (hx : 0 ≤ x ∧ x < 256 ^ w) :
    FnT Tryz.prog w0 146 #[.pointer (some ⟨p, 0, none⟩), .int .i64 w, .int .u64 x] (wr p s a :: F)
      (fun v L' => v = .tuple #[] ∧ L' = wr p (s.put a (leI w x) (by simp; omega) (km _ _)) (a + w) :: F) := by
  unfold wr
  refine qh (E0 := [(0, _), (1, _), (2, _)]) (N := 38) Tryz.func146 rfl rfl rfl rfl ?_
  refine qO <| qP <| qB rfl <| q9 (qQ rfl) <| q9 (qA rfl) <| q9 (yb rfl) <| q9 (wl rfl rfl) <| qF <| zL rfl <| wQ w8 <| wE [(11, .pure _), (12, .pure _), (13, .pure _), (14, .pure _), (15, .pure _), (16, .pure _), (17, .pure _), (18, .pure _), (19, .pure _), (20, .pure _), (21, .pure _), (22, .act ([(p, .cells (ww s ++ [Value.int .i64 a, Value.int .i64 0]).toArray 242 (0, 0))]) (fun v C => v = .int .i64 0 ∧ C = [(p, .cells (jy (ww s ++ [Value.int .i64 a, Value.int .i64 0]) (0 + (a : Int).toNat) (u8s (leI w x))).toArray 242 (0, 0))]))] (by kernel_rfl) rfl rfl rfl (jT [[(p, .cells (ww s ++ [Value.int .i64 a, Value.int .i64 0]).toArray 242 (0, 0))]] rfl) (qC rfl (fun X => qM rfl) <| qC rfl (fun X => qM rfl) <| qC rfl (fun X => qQ rfl) <| qC rfl (fun X => qA rfl) <| qC rfl (fun X => kg (l := 0) (h := 128) (kl := .i64) (kh := .i64) rfl rfl rfl (by decide) (by decide)) <| qC rfl (fun X => qM rfl) <| qC rfl (fun X => qQ rfl) <| qC rfl (fun X => qA rfl) <| ParH.early 11 rfl rfl (by kernel_rfl) (by kernel_rfl) rfl (fun X => yb rfl) <| qC rfl (fun X => qM rfl) <| qC rfl (fun X => qM rfl) <| jr rfl (fun X => OpT.mono (qx rfl (VS p 0 128 128 242 _ a x w (by omega) (by omega) hx (by simp))) (fun v L h => by obtain ⟨h1, h2⟩ := h; exact ⟨_, ⟨h1, rfl⟩, h2⟩)) <| ParH.nil rfl) ?_
  rintro _ _ ⟨rfl, rfl⟩
  rw [show 0 + (a : Int).toNat = a from by omega, YS _ _ _ _ (by simp; omega) (km _ _)]
  dsimp only [zQ, List.drop, List.length]
  refine qm (by kernel_rfl) (qQ rfl) ?_
  refine qm (by kernel_rfl) (qA rfl) ?_
  refine yU (by kernel_rfl) (ws rfl rfl rfl) ?_
  refine wI <| qI <| qP <| qB rfl <| q9 (qQ rfl) <| q9 (qA rfl) <| q9 (yb rfl) <| q9 (wl rfl rfl) <| qF <| zL rfl <| qK <| qB rfl <| q9 (qQ rfl) <| q9 (qA rfl) <| q9 (yb rfl) <| qB rfl <| q9 (w9 rfl rfl (by omega)) <| q9 (qQ rfl) <| q9 (qA rfl) <| qS (ws rfl rfl rfl) <| qT <| xk (.inr rfl) rfl  ?_
  exact ⟨rfl, rfl⟩
theorem WR (p : Nat) (s : Sec) (a : Nat) :
    FnT Tryz.prog w0 147 #[.pointer (some ⟨p, 0, none⟩)] (wr p s a :: F)
      (fun v L' => v = .tuple #[.agg (ww s).toArray, .int .i64 0] ∧ L' = wr p s a :: F) := by
  unfold wr
  refine qh (E0 := [(0, _)]) (N := 18) Tryz.func147 rfl rfl rfl rfl ?_
  refine qP <| qG (qn) ?_
  rintro t2 _ ⟨b2, rfl, rfl⟩
  refine qD rfl <| qF <| qO <| qP <| qB rfl <| q9 (qQ rfl) <| q9 (qA rfl) <| q9 (yb rfl) <| q9 (wz rfl rfl) <| qF <| wU rfl <| qZ <| qI <| qP <| qB rfl <| q9 (qQ rfl) <| q9 (qA rfl) <| q9 (wZ rfl) <| qS (qq rfl rfl (by first | exact zk _ | simp) (by first | exact zk _ | simp) (by first | exact wt _ | simp [Value.oneCell'])) <| qD rfl <| qF <| qz <| wY ([(p, .cells (ww s ++ [Value.int .i64 a, Value.int .i64 0]).toArray 242 (0, 0))] :: F) (.inl rfl) rfl (zX rfl (by first | exact zk _ | simp)) (qu rfl) ?_
  exact ⟨rfl, rfl⟩
theorem reads_first {A : Res} {yv : Value} {m : Nat} {ys : List Int} (hr : Reads w0 A yv m 1 (u8s ys)) (hm : ys.length = m) (hn : yv ≠ .slice none m 0 ∨ m = 0) (w : World) (h : Own w0 A w) (P : Program) : (Builtin.firstCells 1 m yv).run P w = .ok (u8s ys).toArray w :=
  hr.firstCells h (fun e => by rcases hn with h | h; exact absurd e h; omega)
theorem writerBytes_ok (p : Nat) (s : Sec) (a n : Nat) (q : Option Addr) (c : Nat) (ys : List Int) (hy : IsB ys) (h : ys.length ≤ n ∧ a + n ≤ 128 ∧ a < 128) (hq : q = none → ys.length = 0)
    (hr : ∀ A : qV, Reads w0 (A :: F) (.slice q ys.length c) ys.length 1 (u8s ys)) :
    FnT Tryz.prog w0 162 #[.pointer (some ⟨p, 0, none⟩), .int .i64 n, .slice q ys.length c] (wr p s a :: F)
      (fun v L' => v = .tuple #[] ∧ L' = wr p (s.put a ys (by omega) hy) (a + n) :: F) := by
  unfold wr
  refine qh (E0 := [(0, _), (1, _), (2, _)]) (N := 52) Tryz.func162 rfl rfl rfl rfl ?_
  refine qO <| qP <| qB rfl <| q9 (qQ rfl) <| q9 (qA rfl) <| q9 (yb rfl) <| q9 (wl rfl rfl) <| qB rfl <| qY (s := 11) rfl (fun hg0_5 => ?_) (fun hg0_5 => ?_)
  ·
   refine qE rfl rfl (qM rfl) <| qE rfl rfl (qM rfl) <| qE rfl rfl (wD rfl) <| qE rfl rfl (wL rfl rfl) <| qE rfl rfl (qM rfl) <| qY (s := 16) rfl (fun hg0_10 => ?_) (fun hg0_10 => ?_)
   · (exfalso; omega)
   ·
    refine qE rfl rfl (qM rfl) <| qE rfl rfl (qM rfl) <| qE rfl rfl (qQ rfl) <| qE rfl rfl (qA rfl) <| qE rfl rfl (yb rfl) <| qE rfl rfl (y1 rfl rfl (by omega)) <| qE rfl rfl (y9 rfl rfl) <| qE rfl rfl (qU rfl rfl) <| q9 (qk rfl rfl) <| qF <| qL rfl (fun hc0 => ?_) (fun hc0 => ?_)
    · (exfalso; omega)
    ·
     refine qZ <| qI <| qP <| qB rfl <| q9 (qQ rfl) <| q9 (qA rfl) <| q9 (yb rfl) <| q9 (wl rfl rfl) <| qF <| zL rfl <| qO <| wQ w8 <| wE [(34, .pure _), (35, .pure _), (36, .pure _), (37, .pure _), (38, .pure _), (39, .pure _), (40, .pure _), (41, .pure _), (42, .pure _)] (by kernel_rfl) rfl rfl rfl wd (qC rfl (fun X => qM rfl) <| qC rfl (fun X => qQ rfl) <| qC rfl (fun X => qA rfl) <| qC rfl (fun X => qM rfl) <| qC rfl (fun X => qQ rfl) <| qC rfl (fun X => qA rfl) <| qC rfl (fun X => yb rfl) <| qC rfl (fun X => kg (l := a) (h := 128) (kl := .i64) (kh := .i64) rfl rfl rfl (by omega) (by decide)) <| qC rfl (fun X => qM rfl) <| ParH.nil rfl) ?_
     dsimp only [zQ, List.drop, List.length]
     refine qm (by kernel_rfl) (Vo (b := p) (off := a) (n := 128 - a) (c := 128 - a) (m := ys.length) (k := ys.length) (sz := 1) (ys := u8s ys) (r := ww (s.put a ys (by omega) hy) ++ [Value.int .i64 a, Value.int .i64 0]) (by rw [← slice_off a (by omega)]; rfl) rfl (by omega) (fun w => by simp [Builtin.lenOf]) (fun w hw => reads_first (hr _) rfl (by cases q; exact .inr (hq rfl); exact .inl (fun e => by cases e)) w hw _) (xY _) (by simp; omega) (YS s _ a ys (by omega) hy)) ?_
     refine wI <| qI ?_
     skip
     refine qK <| qB rfl <| q9 (qQ rfl) <| q9 (qA rfl) <| q9 (yb rfl) <| qB rfl <| q9 (w9 rfl rfl (by omega)) <| q9 (qQ rfl) <| q9 (qA rfl) <| qS (ws rfl rfl rfl) <| qT <| xk (.inr rfl) rfl  ?_
     exact ⟨rfl, rfl⟩
  · (exfalso; omega)
def Sec.sub (s : Sec) (a n : Nat) : List Int := (s.l.drop a).take n
theorem K8 (s : Sec) {a n : Nat} (h : a + n ≤ 128) : (Sec.sub s a n).length = n := by have := s.len; simp [Sec.sub]; omega
theorem Sec.sub_b (s : Sec) (a n : Nat) : IsB (Sec.sub s a n) := fun b hb => s.b b (List.mem_of_mem_drop (List.mem_of_mem_take hb))
theorem Xm (s : Sec) (r : List Value) {a n : Nat} (h : a + n ≤ 128) : ((ww s ++ r).drop a).take n = u8s (Sec.sub s a n) := by
  rw [List.drop_append_of_le_length (by simp; omega), List.take_append_of_le_length (by simp; omega)]
  simp [ww, Sec.sub, Wb, x9]
theorem Vh (s : Sec) : FnT Tryz.prog w0 144 #[.agg (ww s).toArray] F (fun v L' => ∃ p, v = .pointer (some ⟨p, 0, none⟩) ∧ L' = rd p s 0 :: F) := by
  refine qh (E0 := [(0, _)]) (N := 6) Tryz.func144 rfl rfl rfl rfl ?_
  refine qP <| qG (wq rfl) ?_
  rintro t1 _ ⟨b1, rfl, rfl⟩
  refine qD rfl <| qo <| q9 (wS rfl (zk s)) <| q9 (wa rfl) <| qG (wq rfl) ?_
  rintro t5 _ ⟨b5, rfl, rfl⟩
  refine qD rfl <| qF <| qz <| wF ([(b5, .cells (ww s ++ [Value.int .i64 0, Value.int .i64 0]).toArray 257 (0, 0))] :: F) (.inl rfl) rfl (qu rfl) ?_
  exact ⟨_, rfl, rfl⟩
theorem xu (p : Nat) (s : Sec) (a w : Nat) (h : 1 ≤ w ∧ w ≤ 8 ∧ a + w ≤ 128) :
    FnT Tryz.prog w0 145 #[.pointer (some ⟨p, 0, none⟩), .int .i64 w] (rd p s a :: F)
      (fun v L' => v = .int .u64 (deI (Sec.sub s a w)) ∧ L' = rd p s (a + w) :: F) := by
  unfold rd
  refine qh (E0 := [(0, _), (1, _)]) (N := 40) Tryz.func145 rfl rfl rfl rfl ?_
  refine qP <| qD rfl <| qF <| qO <| qP <| qB rfl <| q9 (qQ rfl) <| q9 (qA rfl) <| q9 (yb rfl) <| q9 (wz rfl rfl) <| qF <| wU rfl <| qZ <| qI <| qO <| wQ w8 <| wE [(13, .pure _), (14, .pure _), (15, .pure _), (16, .pure _), (17, .pure _), (18, .pure _), (19, .pure _), (20, .pure _), (21, .pure _)] (by kernel_rfl) rfl rfl rfl wd (qC rfl (fun X => qM rfl) <| qC rfl (fun X => qQ rfl) <| qC rfl (fun X => qA rfl) <| qC rfl (fun X => kg (l := 0) (h := 128) (kl := .i64) (kh := .i64) rfl rfl rfl (by decide) (by decide)) <| qC rfl (fun X => qM rfl) <| qC rfl (fun X => qQ rfl) <| qC rfl (fun X => qA rfl) <| qC rfl (fun X => yb rfl) <| qC rfl (fun X => qM rfl) <| ParH.nil rfl) ?_
  dsimp only [zQ, List.drop, List.length]
  refine qm (by kernel_rfl) (wJ rfl (MO p 0 128 128 257 (0, 0) _ (Sec.sub s a w) a w (by omega) (by omega) (Sec.sub_b s a w) (K8 s (by omega)) (by rw [show 0 + (a : Int).toNat = a from by omega]; exact Xm s _ (by omega)))) ?_
  refine qm (by kernel_rfl) (qM rfl) ?_
  refine wE [(23, .pure _), (24, .pure _), (5, .pure _)] (by kernel_rfl) rfl rfl rfl wd (qC rfl (fun X => qi rfl rfl) <| qC rfl (fun X => qi rfl rfl) <| qC rfl (fun X => z8 rfl) <| ParH.nil rfl) ?_
  dsimp only [zQ, List.drop, List.length]
  refine qm (by kernel_rfl) (z8 rfl) ?_
  refine wI <| qI <| qO <| qP <| qB rfl <| qB rfl <| q9 (qQ rfl) <| q9 (qA rfl) <| qS (ws rfl rfl rfl) <| qo <| qB rfl <| q9 (wl rfl rfl) <| qF <| zL rfl <| qK <| qB rfl <| q9 (qQ rfl) <| q9 (qA rfl) <| q9 (yb rfl) <| qB rfl <| q9 (w9 rfl rfl (by omega)) <| q9 (qQ rfl) <| q9 (qA rfl) <| qS (ws rfl rfl rfl) <| qo <| qB rfl <| qD rfl <| qF <| qz <| zn (.inl rfl) rfl (qu rfl) ?_
  exact ⟨rfl, rfl⟩
theorem readerLeft_ok (p : Nat) (s : Sec) (a : Nat) (h : a ≤ 128) :
    FnT Tryz.prog w0 161 #[.pointer (some ⟨p, 0, none⟩)] (rd p s a :: F) (fun v L' => v = .int .i64 (128 - a) ∧ L' = rd p s a :: F) := by
  unfold rd
  refine qh (E0 := [(0, _)]) (N := 8) Tryz.func161 rfl rfl rfl rfl ?_
  refine qP <| qD rfl <| qo <| qB rfl <| q9 (qQ rfl) <| q9 (qA rfl) <| q9 (yb rfl) <| q9 (y1 rfl rfl (by omega)) <| qD rfl <| qF <| qz <| zn (.inl rfl) rfl (qu rfl) ?_
  exact ⟨rfl, rfl⟩
theorem slice_offn {p : Nat} (a n : Nat) (h : a < 128) : Value.slice (some (if 128 = a then (⟨p, 0, none⟩ : Addr) else ⟨p, 0 + a * 1, none⟩)) (a + n - a) (128 - a) = .slice (some ⟨p, a, none⟩) n (128 - a) := by
  rw [if_neg (by omega), Nat.add_sub_cancel_left]; simp
theorem readerBytes_ok (p : Nat) (s : Sec) (a n : Nat) (h : a + n ≤ 128 ∧ a < 128) :
    FnT Tryz.prog w0 155 #[.pointer (some ⟨p, 0, none⟩), .int .i64 n] (rd p s a :: F)
      (fun v L' => ∃ C, SlC 5 1 v n (u8s (Sec.sub s a n)) C ∧ L' = C :: rd p s (a + n) :: F) := by
  refine qh (E0 := [(0, _), (1, _)]) (N := 51) Tryz.func155 rfl rfl rfl rfl ?_
  unfold rd
  refine qP <| qD rfl <| qF <| qO <| qP <| qB rfl <| q9 (qQ rfl) <| q9 (qA rfl) <| q9 (yb rfl) <| q9 (wl rfl rfl) <| qB rfl <| qY (s := 10) rfl (fun hg1_5 => ?_) (fun hg1_5 => ?_)
  ·
   refine qE rfl rfl (qM rfl) <| qE rfl rfl (wL rfl rfl) <| qE rfl rfl (qM rfl) <| qY (s := 13) rfl (fun hg1_8 => ?_) (fun hg1_8 => ?_)
   · (exfalso; omega)
   ·
    refine qE rfl rfl (qM rfl) <| qE rfl rfl (qM rfl) <| qE rfl rfl (wJ rfl (readerLeft_ok p s a (by omega))) <| qE rfl rfl (y9 rfl rfl) <| qE rfl rfl (qU rfl rfl) <| q9 (qk rfl rfl) <| qF <| qL rfl (fun hc1 => ?_) (fun hc1 => ?_)
    · (exfalso; omega)
    ·
     refine qZ <| qI <| qO <| qP <| qB rfl <| q9 (qQ rfl) <| q9 (qA rfl) <| q9 (yb rfl) <| q9 (wz rfl rfl) <| qF <| wU rfl <| qZ <| qI <| qP <| qB rfl <| q9 (qQ rfl) <| q9 (qA rfl) <| q9 (yb rfl) <| qB rfl <| q9 (w9 rfl rfl (by omega)) <| q9 (qQ rfl) <| q9 (qA rfl) <| qS (ws rfl rfl rfl) <| qF <| qO <| wQ w8 <| wE [(36, .pure _), (37, .pure _), (38, .pure _), (39, .pure _), (40, .pure _), (41, .pure _), (42, .pure _), (43, .pure _), (44, .pure _), (45, .pure _), (46, .pure _), (47, .pure _), (48, .pure _)] (by kernel_rfl) rfl rfl rfl wd (qC rfl (fun X => qM rfl) <| qC rfl (fun X => qQ rfl) <| qC rfl (fun X => qA rfl) <| qC rfl (fun X => qM rfl) <| qC rfl (fun X => qQ rfl) <| qC rfl (fun X => qA rfl) <| qC rfl (fun X => yb rfl) <| qC rfl (fun X => qM rfl) <| qC rfl (fun X => y1 rfl rfl (by omega)) <| qC rfl (fun X => qM rfl) <| qC rfl (fun X => qQ rfl) <| qC rfl (fun X => qA rfl) <| qC rfl (fun X => yb rfl) <| ParH.nil rfl) ?_
     dsimp only [zQ, List.drop, List.length]
     refine qm (by kernel_rfl) (kg (l := a) (h := a + n) (kl := .i64) (kh := .i64) rfl (by show some (Value.int .i64 ((a : Int) + n - n)) = _; rw [Int.add_sub_cancel]) rfl (by omega) (by omega)) ?_
     refine wu (by kernel_rfl) (wg (m := n) (sz := 1) (by rfl) (by rw [← slice_offn a n (by omega)]; rfl) (SlC.nil _ _) (wi inferInstance (by rw [Nat.mul_one]; exact Xm s _ h.1) (by simp [K8 s h.1])) (xY _) Tryz.underlying23 rfl rfl (by omega)) ?_
     rintro t50 _ ⟨C', hsl', rfl⟩
     refine qm (by kernel_rfl) (z8 rfl) ?_
     refine wI <| qI <| qz <| wF (C' :: [(p, .cells (ww s ++ [Value.int .i64 ((a : Int) + n), Value.int .i64 0]).toArray 257 (0, 0))] :: F) (.inl rfl) rfl (qu rfl) ?_
     exact ⟨C', by simpa using hsl', rfl⟩
  · (exfalso; omega)
theorem Jp (c : Int) (l : List Int) (b : Int) : Qh c (l ++ [b]) = Qx 8 (zH .xor .u32 (Qh c l) b) := by
  induction l generalizing c with
  | nil => simp only [List.nil_append, Qh]
  | cons x l ih => simp only [List.cons_append, Qh]; exact ih _
theorem shr_one (z : Int) : z.fdiv (2 ^ min (1 : Int).toNat IntKind.u32.bits) = z / 2 := by
  have : (2 : Int) ^ min (1 : Int).toNat IntKind.u32.bits = 2 := rfl
  rw [this]; exact Int.fdiv_eq_ediv_of_nonneg _ (by omega)
theorem Y6 {z : Int} (h : z % 2 = 1) : Yh z = zH .xor .u32 (z / 2) 3988292384 := by unfold Yh; rw [if_pos h]
theorem ZA {z : Int} (h : ¬ z % 2 = 1) : Yh z = z / 2 := by unfold Yh; rw [if_neg h]
theorem crc_ok (b off n c e : Nat) (fr : Nat × Nat) (l : List Value) (bs : List Int) (hn : (n : Int) ≤ 9223372036854775807) (hbs : IsB bs) (hlen : bs.length = n) (hl : (l.drop off).take n = u8s bs) :
    FnT Tryz.prog w0 163 #[.slice (some ⟨b, off, none⟩) n c] ([(b, .cells l.toArray e fr)] :: F)
      (fun v L' => v = .int .u32 (JN bs) ∧ L' = [(b, .cells l.toArray e fr)] :: F) := by
  have hget : ∀ i : Nat, i < n → ∃ x, bs[i]? = some x ∧ 0 ≤ x ∧ x < 256 ∧ wX l (off + i * 1) = some (.int .u8 x) := by
    intro i hi
    have hlt : i < bs.length := by omega
    refine ⟨bs[i], List.getElem?_eq_getElem hlt, (hbs _ (List.getElem_mem hlt)).1, (hbs _ (List.getElem_mem hlt)).2, ?_⟩
    have h1 : ((l.drop off).take n)[i]? = some (.int .u8 bs[i]) := by rw [hl]; simp [u8s, hlt]
    rw [List.getElem?_take, if_pos hi, List.getElem?_drop] at h1
    rw [zK, ← h1]; congr 1; omega
  refine qh (E0 := [(0, _)]) (N := 31) Tryz.func163 rfl rfl rfl rfl ?_
  refine qP <| qD rfl <| qo <| qD rfl <| qF <| qO <| qP <| qB rfl <| q9 (wD rfl) <| qB rfl <| qF <| qg <| wV (Γ := {pΓ : (Nat) // (fun (i : Nat) => i ≤ n) pΓ}) (fun g => (fun (i : Nat) => [(3, .int .u32 (Qh 4294967295 (bs.take i))), (7, .slice (some ⟨b, off, none⟩) n c), (8, .int .i64 n), (9, .int .i64 i)]) g.1) (fun g => (fun (i : Nat) => [(b, .cells l.toArray e fr)] :: F) g.1) (fun g => (fun (i : Nat) => n - i) g.1) ⟨0, by dsimp only; exact (by omega)⟩ (qX _) ?_
  rintro ⟨i, hloop⟩
  replace hloop : i ≤ n := hloop
  obtain hi := hloop
  show Tr _ _ _ ([(3, .int .u32 (Qh 4294967295 (bs.take i))), (7, .slice (some ⟨b, off, none⟩) n c), (8, .int .i64 n), (9, .int .i64 i)]) ([(b, .cells l.toArray e fr)] :: F) _ _
  refine qP <| q9 (wL rfl rfl) <| qF <| qO <| qL rfl (fun hc3 => ?_) (fun hc3 => ?_)
  ·
   refine qZ <| qI <| qO <| qg <| qO ?_
   obtain ⟨x, hx1, hx2, hx3, hx4⟩ := hget i (by omega)
   have hsn : bs.take (i + 1) = bs.take i ++ [x] := by rw [List.take_add_one, hx1]; rfl
   refine qK <| q9 (qw (j := i) rfl rfl (by omega) (by omega) rfl) <| q9 (qH rfl hx4) <| qD rfl <| qo <| qB rfl <| qB rfl <| q9 (zJ rfl (by first | (simp only [IntKind.min, IntKind.max, IntKind.bits, IntKind.signed, Bool.false_eq_true, if_false, if_true]; omega))) ?_
   refine q9 (XI rfl rfl) <| qD rfl <| qo <| qB rfl <| qF <| qg <| wV (Γ := {pΓ : (Nat) × (Int) // (fun (k : Nat) (z : Int) => k ≤ 8 ∧ 0 ≤ z ∧ z < 4294967296 ∧ Qx (8 - k) z = Qh 4294967295 (bs.take (i + 1))) pΓ.1 pΓ.2}) (fun g => (fun (k : Nat) (z : Int) => [(3, .int .u32 z), (7, .slice (some ⟨b, off, none⟩) n c), (8, .int .i64 n), (9, .int .i64 i), (17, .int .i64 k)]) g.1.1 g.1.2) (fun g => (fun (k : Nat) (z : Int) => [(b, .cells l.toArray e fr)] :: F) g.1.1 g.1.2) (fun g => (fun (k : Nat) (z : Int) => 8 - k) g.1.1 g.1.2) ⟨(0, zH .xor .u32 (Qh 4294967295 (bs.take i)) x), by dsimp only; exact ⟨by omega, (Z2 _ _).1, (Z2 _ _).2, by rw [hsn, Jp]⟩⟩ (qX _) ?_
   rintro ⟨⟨k, z⟩, hloop⟩
   replace hloop : k ≤ 8 ∧ 0 ≤ z ∧ z < 4294967296 ∧ Qx (8 - k) z = Qh 4294967295 (bs.take (i + 1)) := hloop
   obtain ⟨hk, hz1, hz2, hz3⟩ := hloop
   show Tr _ _ _ ([(3, .int .u32 z), (7, .slice (some ⟨b, off, none⟩) n c), (8, .int .i64 n), (9, .int .i64 i), (17, .int .i64 k)]) ([(b, .cells l.toArray e fr)] :: F) _ _
   refine qP <| q9 (wL rfl rfl) <| qF <| qO <| qL rfl (fun hc7 => ?_) (fun hc7 => ?_)
   ·
    refine qZ <| qI <| qO <| qg <| qO ?_
    obtain ⟨k', hk'⟩ : ∃ k', 8 - k = k' + 1 := ⟨7 - k, by omega⟩
    have hz4 := J4 hz1 hz2
    rw [hk', Zc] at hz3
    refine qK <| qB rfl <| q9 (xm rfl rfl) <| qD rfl <| qT ?_
    rw [and_one hz1 hz2]
    refine qI <| qP <| qB rfl <| q9 (XJ rfl rfl (by omega)) <| qD rfl <| qT ?_
    rw [shr_one]
    refine qI <| qP <| qB rfl <| q9 (wl rfl rfl) <| qF <| qL rfl (fun hc10 => ?_) (fun hc10 => ?_)
    ·
     refine qK <| qB rfl <| q9 (XI rfl rfl) <| qD rfl <| qT <| qf <| qI ?_
     first | rw [← Y6 hc10] | rw [← ZA hc10]
     refine qK <| q9 (w9 rfl rfl (by omega)) <| qB rfl <| qT <| w5 ⟨(k + 1, Yh z), ?_⟩ ?_ ?_
     · (try dsimp only); exact ⟨by omega, hz4.1, hz4.2, by rw [show 8 - (k + 1) = k' from by omega]; exact hz3⟩
     · (try dsimp only); omega
     · (try dsimp only); exact qX _
    ·
     refine qZ <| qf <| qI ?_
     first | rw [← Y6 hc10] | rw [← ZA hc10]
     refine qK <| q9 (w9 rfl rfl (by omega)) <| qB rfl <| qT <| w5 ⟨(k + 1, Yh z), ?_⟩ ?_ ?_
     · (try dsimp only); exact ⟨by omega, hz4.1, hz4.2, by rw [show 8 - (k + 1) = k' from by omega]; exact hz3⟩
     · (try dsimp only); omega
     · (try dsimp only); exact qX _
   ·
    refine wb <| qr <| qt <| qj <| qf <| qI ?_
    obtain rfl : k = 8 := by omega
    have hz5 : z = Qh 4294967295 (bs.take (i + 1)) := by rw [← hz3]; exact (Zb z).symm
    rw [hz5]
    refine qK <| q9 (w9 rfl rfl (by omega)) <| qB rfl <| qT <| w5 ⟨i + 1, ?_⟩ ?_ ?_
    · (try dsimp only); omega
    · (try dsimp only); omega
    · (try dsimp only); exact qX _
  ·
   refine wb <| qr <| qt <| qj <| qI <| qP <| qB rfl <| q9 (op_compl rfl) <| qD rfl <| qF <| qz <| zn (.inl rfl) rfl (qu rfl) ?_
   exact ⟨by rw [show i = bs.length from by omega, List.take_length]; show Value.int .u32 (zH .xor .u32 4294967295 (Qh 4294967295 bs)) = _; have := J3 bs (c := 4294967295) (by omega) (by omega); rw [compl32 this.1 this.2]; rfl, rfl⟩
theorem VT (x : Int) (w : Nat) (hw : w ≤ 8) (hx : 0 ≤ x ∧ x < 18446744073709551616) :
    FnT Tryz.prog w0 126 #[.int .u64 x, .int .i64 w] F (fun v L' => ∃ C, SlC 5 1 v w (u8s (leI w x)) C ∧ L' = C :: F) := by
  refine qh (E0 := [(0, _), (1, _)]) (N := 21) Tryz.func126 rfl rfl rfl rfl ?_
  refine qP <| qD rfl <| qo <| qD rfl <| qF <| qO <| qP <| qD rfl <| qF <| qg <| wV (Γ := {pΓ : (Nat) × (Int) × (Value) × (qV) // (fun (i : Nat) (y : Int) (u : Value) (C : qV) => i ≤ w ∧ y = x / 256 ^ i ∧ SlC 5 1 u i (u8s (leI i x)) C) pΓ.1 pΓ.2.1 pΓ.2.2.1 pΓ.2.2.2}) (fun g => (fun (i : Nat) (y : Int) (u : Value) (C : qV) => [(0, .int .u64 y), (1, .int .i64 w), (5, u), (6, .int .i64 i)]) g.1.1 g.1.2.1 g.1.2.2.1 g.1.2.2.2) (fun g => (fun (i : Nat) (y : Int) (u : Value) (C : qV) => C :: F) g.1.1 g.1.2.1 g.1.2.2.1 g.1.2.2.2) (fun g => (fun (i : Nat) (y : Int) (u : Value) (C : qV) => w - i) g.1.1 g.1.2.1 g.1.2.2.1 g.1.2.2.2) ⟨(0, x, .slice none 0 0, []), by dsimp only; exact ⟨by omega, by simp, SlC.nil _ _⟩⟩ (qX _) ?_
  rintro ⟨⟨i, y, u, C⟩, hloop⟩
  replace hloop : i ≤ w ∧ y = x / 256 ^ i ∧ SlC 5 1 u i (u8s (leI i x)) C := hloop
  obtain ⟨hi, hy, hsl⟩ := hloop
  show Tr _ _ _ ([(0, .int .u64 y), (1, .int .i64 w), (5, u), (6, .int .i64 i)]) (C :: F) _ _
  refine qO <| qP <| qB rfl <| qB rfl <| q9 (wL rfl rfl) <| qF <| qL rfl (fun hc3 => ?_) (fun hc3 => ?_)
  ·
   refine qZ <| qI <| qO <| qg <| qO ?_
   have hy0 : 0 ≤ y := by rw [hy]; exact Int.ediv_nonneg hx.1 (Int.le_of_lt (Int.pow_pos (by omega)))
   have hy1 : y ≤ x := by rw [hy]; exact Int.ediv_le_self _ hx.1
   refine qK <| qB rfl <| qB rfl <| q9 (xD rfl rfl (by omega) (by omega)) <| q9 (zJ rfl (by first | (simp only [IntKind.min, IntKind.max, IntKind.bits, IntKind.signed, Bool.false_eq_true, if_false, if_true]; omega))) ?_
   refine qG (wK rfl rfl rfl) ?_
   rintro t16 _ ⟨b16, rfl, rfl⟩
   refine qG (wg (m := 1) (sz := 1) rfl rfl hsl (wi (ys := u8s [y % 256]) inferInstance rfl rfl) rfl Tryz.underlying23 rfl rfl (by omega)) ?_
   rintro t17 _ ⟨C', hsl', rfl⟩
   refine qD rfl <| qF <| qK <| qB rfl <| q9 (Kg rfl rfl hy0 (by omega) (by simp only [IntKind.max, IntKind.bits, IntKind.signed, Bool.false_eq_true, if_false]; omega)) ?_
   refine qD rfl <| qT <| qf <| qI <| qK <| qB rfl <| q9 (w9 rfl rfl (by omega)) <| qD rfl <| qT <| w5 ⟨(i + 1, y / 256, t17, C'), ?_⟩ ?_ ?_
   ·
    try dsimp only
    refine ⟨by omega, ?_, ?_⟩
    · rw [hy, Int.pow_succ, Int.ediv_ediv_of_nonneg (Int.le_of_lt (Int.pow_pos (by omega)))]
    · rw [Jf, ym, ← hy]; exact hsl'
   · (try dsimp only); omega
   · (try dsimp only); exact qX _
  ·
   refine wb <| qr <| qt <| qj <| qI <| qP <| qB rfl <| qD rfl <| qF <| qz <| wF (C :: F) (.inl rfl) rfl (qu rfl) ?_
   exact ⟨C, by rw [show w = i from by omega]; exact hsl, rfl⟩
theorem V3 {a : List Value} {k : Nat} {z v : Value} : (a ++ List.replicate (k + 1) z).set a.length v = (a ++ [v]) ++ List.replicate k z := by
  rw [List.set_append_right _ _ (Nat.le_refl _), Nat.sub_self, List.replicate_succ, List.set_cons_zero]; simp
theorem fill_next {bs : List Int} {i n : Nat} {x : Int} {z : Value} (hx : bs[i]? = some x) (hi : i < bs.length) (hn : i < n) :
    (u8s (bs.take i) ++ List.replicate (n - i) z).set (0 + i * 1) (.int .u8 x) = u8s (bs.take (i + 1)) ++ List.replicate (n - (i + 1)) z := by
  have e : n - i = (n - (i + 1)) + 1 := by omega
  have h := V3 (a := u8s (bs.take i)) (k := n - (i + 1)) (z := z) (v := .int .u8 x)
  rw [Z4, List.length_take, show min i bs.length = i from by omega] at h
  rw [e, show 0 + i * 1 = i from by omega, h, List.take_add_one, hx, ym]; rfl
theorem Jm (s : Sec) {z : Value} : ((u8s (s.l.take 128) ++ List.replicate (128 - 128) z).drop 0).take 128 = ww s := by
  rw [List.take_of_length_le (l := s.l) (by rw [s.len]; omega)]
  simp only [Nat.sub_self, List.replicate_zero, List.append_nil, List.drop_zero]
  exact List.take_of_length_le (by simp [s.len])
theorem Vx (b n c e off : Nat) (fr : Nat × Nat) (l : List Value) (s : Sec) (hl : (l.drop off).take 128 = ww s) :
    FnT Tryz.prog w0 127 #[.slice (some ⟨b, off, none⟩) 128 c] ([(b, .cells l.toArray e fr)] :: F) (fun v L' => v = .agg (ww s).toArray ∧ L' = [(b, .cells l.toArray e fr)] :: F) := by
  have hget : ∀ i : Nat, i < 128 → ∃ x, s.l[i]? = some x ∧ wX l (off + i * 1) = some (.int .u8 x) := by
    intro i hi
    have hlt : i < s.l.length := by rw [s.len]; exact hi
    refine ⟨s.l[i], List.getElem?_eq_getElem hlt, ?_⟩
    have h1 : ((l.drop off).take 128)[i]? = some (.int .u8 s.l[i]) := by rw [hl]; simp [ww, u8s, hlt]
    rw [List.getElem?_take, if_pos hi, List.getElem?_drop] at h1
    rw [zK, ← h1]; congr 1; omega
  refine qh (E0 := [(0, _)]) (N := 22) Tryz.func127 rfl rfl rfl rfl ?_
  refine qP <| qG (qn) ?_
  rintro t2 _ ⟨b2, rfl, rfl⟩
  refine qo <| qG (qn) ?_
  rintro t3 _ ⟨b3, rfl, rfl⟩
  refine qF <| qO <| qP <| qD rfl <| qF <| qg <| wV (Γ := {pΓ : (Nat) // (fun (i : Nat) => i ≤ 128) pΓ}) (fun g => (fun (i : Nat) => [(0, .slice (some ⟨b, off, none⟩) 128 c), (2, .pointer (some ⟨b2, 0, none⟩)), (3, .pointer (some ⟨b3, 0, none⟩)), (4, .int .i64 i)]) g.1) (fun g => (fun (i : Nat) => [(b3, .cells (u8s (s.l.take i) ++ List.replicate (128 - i) (Value.int .u8 0)).toArray 54 (0, 0))] :: [(b2, .cells (ww Sec.zero).toArray 54 (0, 0))] :: [(b, .cells l.toArray e fr)] :: F) g.1) (fun g => (fun (i : Nat) => 128 - i) g.1) ⟨0, by dsimp only; exact (by omega)⟩ (yW (by rfl)) ?_
  rintro ⟨i, hloop⟩
  replace hloop : i ≤ 128 := hloop
  obtain hi := hloop
  show Tr _ _ _ ([(0, .slice (some ⟨b, off, none⟩) 128 c), (2, .pointer (some ⟨b2, 0, none⟩)), (3, .pointer (some ⟨b3, 0, none⟩)), (4, .int .i64 i)]) ([(b3, .cells (u8s (s.l.take i) ++ List.replicate (128 - i) (Value.int .u8 0)).toArray 54 (0, 0))] :: [(b2, .cells (ww Sec.zero).toArray 54 (0, 0))] :: [(b, .cells l.toArray e fr)] :: F) _ _
  refine qO <| qP <| qB rfl <| qB rfl <| q9 (wD rfl) <| q9 (wL rfl rfl) <| qB rfl <| qY (s := 9) rfl (fun hg3_4 => ?_) (fun hg3_4 => ?_)
  ·
   refine qE rfl rfl (qM rfl) <| qE rfl rfl (wL rfl rfl) <| q9 (qk rfl rfl) <| qF <| qL rfl (fun hc3 => ?_) (fun hc3 => ?_)
   ·
    refine qZ <| qI <| qO <| qg ?_
    obtain ⟨x, hx1, hx4⟩ := hget i (by omega)
    refine qK <| qB rfl <| qB rfl <| qB rfl <| q9 (qw (j := i) rfl rfl (by omega) (by omega) rfl) <| q9 (qH rfl hx4) <| q9 (wo (j := i) rfl rfl (by omega) (by omega) rfl) <| qS (yA rfl rfl (by simp [s.len]; omega) rfl) ?_
    refine qT <| qf <| qI <| qK <| qB rfl <| q9 (w9 rfl rfl (by omega)) <| qD rfl <| qT <| w5 ⟨i + 1, ?_⟩ ?_ ?_
    · (try dsimp only); omega
    · (try dsimp only); omega
    · (try dsimp only); exact yW (by rw [fill_next hx1 (by rw [s.len]; omega) (by omega)])
   ·
    refine wb <| qr <| qt <| qj <| qI <| qP <| q9 (zZ rfl (r := ww s) (by rw [show i = 128 from by omega]; exact Jm s) (by simp)) ?_
    refine qS (qq rfl rfl (by first | exact zk _ | simp) (by first | exact zk _ | simp) (by first | exact wt _ | simp [Value.oneCell'])) <| qF <| qz <| wF ([(b, .cells l.toArray e fr)] :: F) (.inl rfl) rfl (zX rfl (by first | exact zk _ | simp)) ?_
    exact ⟨rfl, rfl⟩
  ·
   refine qN rfl rfl rfl <| qN rfl rfl rfl <| q9 (qU rfl rfl) <| qF <| wU rfl <| wb <| qr <| qt <| qj <| qI <| qP <| q9 (zZ rfl (r := ww s) (by rw [show i = 128 from by omega]; exact Jm s) (by simp)) ?_
   refine qS (qq rfl rfl (by first | exact zk _ | simp) (by first | exact zk _ | simp) (by first | exact wt _ | simp [Value.oneCell'])) <| qF <| qz <| wF ([(b, .cells l.toArray e fr)] :: F) (.inl rfl) rfl (zX rfl (by first | exact zk _ | simp)) ?_
   exact ⟨rfl, rfl⟩
theorem rcrc_ok (b off n c e : Nat) (fr : Nat × Nat) (l : List Value) (bs : List Int) (hn : (n : Int) ≤ 9223372036854775807) (hbs : IsB bs) (hlen : bs.length = n) (hl : (l.drop off).take n = u8s bs) :
    FnT Tryz.prog w0 159 #[.slice (some ⟨b, off, none⟩) n c] ([(b, .cells l.toArray e fr)] :: F)
      (fun v L' => v = .int .u32 (JN bs) ∧ L' = [(b, .cells l.toArray e fr)] :: F) := by
  have hget : ∀ i : Nat, i < n → ∃ x, bs[i]? = some x ∧ 0 ≤ x ∧ x < 256 ∧ wX l (off + i * 1) = some (.int .u8 x) := by
    intro i hi
    have hlt : i < bs.length := by omega
    refine ⟨bs[i], List.getElem?_eq_getElem hlt, (hbs _ (List.getElem_mem hlt)).1, (hbs _ (List.getElem_mem hlt)).2, ?_⟩
    have h1 : ((l.drop off).take n)[i]? = some (.int .u8 bs[i]) := by rw [hl]; simp [u8s, hlt]
    rw [List.getElem?_take, if_pos hi, List.getElem?_drop] at h1
    rw [zK, ← h1]; congr 1; omega
  refine qh (E0 := [(0, _)]) (N := 33) Tryz.func159 rfl rfl rfl rfl ?_
  refine qP <| qD rfl <| qo <| qD rfl <| qF <| qO <| qP <| qD rfl <| qF <| qg <| wV (Γ := {pΓ : (Nat) // (fun (i : Nat) => i ≤ n) pΓ}) (fun g => (fun (i : Nat) => [(3, .int .u32 (Qh 4294967295 (bs.take i))), (0, .slice (some ⟨b, off, none⟩) n c), (4, .int .i64 i)]) g.1) (fun g => (fun (i : Nat) => [(b, .cells l.toArray e fr)] :: F) g.1) (fun g => (fun (i : Nat) => n - i) g.1) ⟨0, by dsimp only; exact (by omega)⟩ (qX _) ?_
  rintro ⟨i, hloop⟩
  replace hloop : i ≤ n := hloop
  obtain hi := hloop
  show Tr _ _ _ ([(3, .int .u32 (Qh 4294967295 (bs.take i))), (0, .slice (some ⟨b, off, none⟩) n c), (4, .int .i64 i)]) ([(b, .cells l.toArray e fr)] :: F) _ _
  refine qO <| qP <| qB rfl <| qB rfl <| q9 (wD rfl) <| q9 (wL rfl rfl) <| qF <| qL rfl (fun hc3 => ?_) (fun hc3 => ?_)
  ·
   refine qZ <| qI <| qO <| qg <| qO ?_
   obtain ⟨x, hx1, hx2, hx3, hx4⟩ := hget i (by omega)
   have hsn : bs.take (i + 1) = bs.take i ++ [x] := by rw [List.take_add_one, hx1]; rfl
   refine qK <| qB rfl <| qB rfl <| qB rfl <| q9 (qw (j := i) rfl rfl (by omega) (by omega) rfl) <| q9 (qH rfl hx4) <| q9 (zJ rfl (by first | (simp only [IntKind.min, IntKind.max, IntKind.bits, IntKind.signed, Bool.false_eq_true, if_false, if_true]; omega))) ?_
   refine q9 (XI rfl rfl) <| qD rfl <| qo <| qD rfl <| qF <| qg <| wV (Γ := {pΓ : (Nat) × (Int) // (fun (k : Nat) (z : Int) => k ≤ 8 ∧ 0 ≤ z ∧ z < 4294967296 ∧ Qx (8 - k) z = Qh 4294967295 (bs.take (i + 1))) pΓ.1 pΓ.2}) (fun g => (fun (k : Nat) (z : Int) => [(3, .int .u32 z), (0, .slice (some ⟨b, off, none⟩) n c), (4, .int .i64 i), (5, .int .i64 k)]) g.1.1 g.1.2) (fun g => (fun (k : Nat) (z : Int) => [(b, .cells l.toArray e fr)] :: F) g.1.1 g.1.2) (fun g => (fun (k : Nat) (z : Int) => 8 - k) g.1.1 g.1.2) ⟨(0, zH .xor .u32 (Qh 4294967295 (bs.take i)) x), by dsimp only; exact ⟨by omega, (Z2 _ _).1, (Z2 _ _).2, by rw [hsn, Jp]⟩⟩ (qX _) ?_
   rintro ⟨⟨k, z⟩, hloop⟩
   replace hloop : k ≤ 8 ∧ 0 ≤ z ∧ z < 4294967296 ∧ Qx (8 - k) z = Qh 4294967295 (bs.take (i + 1)) := hloop
   obtain ⟨hk, hz1, hz2, hz3⟩ := hloop
   show Tr _ _ _ ([(3, .int .u32 z), (0, .slice (some ⟨b, off, none⟩) n c), (4, .int .i64 i), (5, .int .i64 k)]) ([(b, .cells l.toArray e fr)] :: F) _ _
   refine qO <| qP <| qB rfl <| q9 (wL rfl rfl) <| qF <| qL rfl (fun hc7 => ?_) (fun hc7 => ?_)
   ·
    refine qZ <| qI <| qO <| qg <| qO ?_
    obtain ⟨k', hk'⟩ : ∃ k', 8 - k = k' + 1 := ⟨7 - k, by omega⟩
    have hz4 := J4 hz1 hz2
    rw [hk', Zc] at hz3
    refine qK <| qB rfl <| q9 (xD rfl rfl (by omega) (by omega)) <| q9 (wl rfl rfl) <| qF <| qL rfl (fun hc9 => ?_) (fun hc9 => ?_)
    ·
     refine qK <| qB rfl <| q9 (Kg rfl rfl hz1 (by omega) (by simp only [IntKind.max, IntKind.bits, IntKind.signed, Bool.false_eq_true, if_false]; omega)) ?_
     refine q9 (XI rfl rfl) <| qD rfl <| qT <| qf <| qI ?_
     first | rw [← Y6 hc9] | rw [← ZA hc9]
     refine qK <| qB rfl <| q9 (w9 rfl rfl (by omega)) <| qD rfl <| qT <| w5 ⟨(k + 1, Yh z), ?_⟩ ?_ ?_
     · (try dsimp only); exact ⟨by omega, hz4.1, hz4.2, by rw [show 8 - (k + 1) = k' from by omega]; exact hz3⟩
     · (try dsimp only); omega
     · (try dsimp only); exact qX _
    ·
     refine qK <| qB rfl <| q9 (Kg rfl rfl hz1 (by omega) (by simp only [IntKind.max, IntKind.bits, IntKind.signed, Bool.false_eq_true, if_false]; omega)) ?_
     refine qD rfl <| qT <| qf <| qI ?_
     first | rw [← Y6 hc9] | rw [← ZA hc9]
     refine qK <| qB rfl <| q9 (w9 rfl rfl (by omega)) <| qD rfl <| qT <| w5 ⟨(k + 1, Yh z), ?_⟩ ?_ ?_
     · (try dsimp only); exact ⟨by omega, hz4.1, hz4.2, by rw [show 8 - (k + 1) = k' from by omega]; exact hz3⟩
     · (try dsimp only); omega
     · (try dsimp only); exact qX _
   ·
    refine wb <| qr <| qt <| qj <| qf <| qI ?_
    obtain rfl : k = 8 := by omega
    have hz5 : z = Qh 4294967295 (bs.take (i + 1)) := by rw [← hz3]; exact (Zb z).symm
    rw [hz5]
    refine qK <| qB rfl <| q9 (w9 rfl rfl (by omega)) <| qD rfl <| qT <| w5 ⟨i + 1, ?_⟩ ?_ ?_
    · (try dsimp only); omega
    · (try dsimp only); omega
    · (try dsimp only); exact qX _
  ·
   refine wb <| qr <| qt <| qj <| qI <| qO ?_
   have hr := J3 (bs.take i) (c := 4294967295) (by omega) (by omega)
   refine qK <| qB rfl <| q9 (MF rfl rfl (by simp only [IntKind.min, IntKind.max, IntKind.bits, IntKind.signed, Bool.false_eq_true, if_false]; omega)) ?_
   refine qD rfl <| qF <| qz <| zn (.inl rfl) rfl (qu rfl) ?_
   exact ⟨by rw [show i = bs.length from by omega, List.take_length]; rfl, rfl⟩
def jM (k : Int) (body : List Int) : List Int := 215 :: 76 :: k :: (body.length : Int) :: (body ++ List.replicate (120 - body.length) 0)
theorem jC {k : Int} {body : List Int} (h : body.length ≤ 120) : (jM k body).length = 124 := by simp [jM]; omega
theorem XD {k : Int} {body : List Int} (h : body.length ≤ 120) (hk : 0 ≤ k ∧ k < 256) (hb : IsB body) : IsB (jM k body) := fun b hm => by
  simp only [jM, List.mem_cons, List.mem_append, List.mem_replicate] at hm
  rcases hm with rfl | rfl | rfl | rfl | hm | ⟨_, rfl⟩
  · omega
  · omega
  · exact hk
  · omega
  · exact hb b hm
  · omega
def xB (k : Int) (body : List Int) (h : body.length ≤ 120) (hk : 0 ≤ k ∧ k < 256) (hb : IsB body) : Sec :=
  ⟨jM k body ++ leI 4 (JN (jM k body)), by simp [jC h], fun b hm => by
    rcases List.mem_append.1 hm with hm | hm
    · exact XD h hk hb b hm
    · exact km _ _ b hm⟩
def Wn (s : Sec) (done : List Int) : Prop := s.l = done ++ List.replicate (128 - done.length) 0
theorem Wn.zero : Wn Sec.zero [] := rfl
theorem Wn.put {s : Sec} {done m : List Int} (h : Wn s done) (hl : done.length + m.length ≤ 128) (hm : IsB m) : Wn (s.put done.length m hl hm) (done ++ m) := by
  unfold Wn at h ⊢
  show Qc s.l done.length m = _
  unfold Qc
  rw [h, List.take_left, List.drop_append, List.drop_of_length_le (by omega), List.nil_append, List.drop_replicate, List.length_append]
  congr 2; omega
theorem rmake_ok (k : Int) (body : List Int) (q : Option Addr) (c : Nat) (h : body.length ≤ 120) (hk : 0 < k ∧ k < 256) (hb : IsB body) (hr : ∀ A : Res, Reads w0 (A ++ F) (.slice q body.length c) body.length 1 (u8s body)) :
    FnT Tryz.prog w0 150 #[.int .u8 k, .slice q body.length c] F (fun v L' => v = .tuple #[.agg (ww (xB k body h (by omega) hb)).toArray, .bool true] ∧ L' = F) := by
  refine qh (E0 := [(0, _), (1, _)]) (N := 35) Tryz.func150 rfl rfl rfl rfl ?_
  refine qP <| qG (qn) ?_
  rintro t4 _ ⟨b4, rfl, rfl⟩
  refine qD rfl <| qF <| qO <| qP <| qB rfl <| q9 (wl rfl rfl) <| qB rfl <| qY (s := 9) rfl (fun hg1_2 => ?_) (fun hg1_2 => ?_)
  · (exfalso; omega)
  ·
   refine qE rfl rfl (qM rfl) <| qE rfl rfl (wD rfl) <| qE rfl rfl (y9 rfl rfl) <| q9 (qU rfl rfl) <| qF <| qL rfl (fun hc1 => ?_) (fun hc1 => ?_)
   · (exfalso; omega)
   ·
    refine qZ <| qI <| qP <| qB rfl <| qB rfl <| q9 (wD rfl) <| q9 (zJ rfl (by first | (simp only [IntKind.min, IntKind.max, IntKind.bits, IntKind.signed, Bool.false_eq_true, if_false, if_true]; omega))) ?_
    refine qG (wK rfl rfl rfl) ?_
    rintro t19 _ ⟨b19, rfl, rfl⟩
    refine qB rfl <| qG (wg (m := body.length) (sz := 1) (cs := [.int .u8 215, .int .u8 76, .int .u8 k, .int .u8 body.length]) rfl rfl (SlC.fresh rfl) (hr [_, _]) (xY _) Tryz.underlying23 rfl rfl (by omega)) ?_
    rintro t21 _ ⟨C1, hs1, rfl⟩
    refine qD rfl <| qF <| qO <| qg <| wV (Γ := {pΓ : (Nat) × (Value) × (qV) // (fun (j : Nat) (u : Value) (C : qV) => j + body.length ≤ 120 ∧ SlC 5 1 u (4 + body.length + j) (u8s (215 :: 76 :: k :: (body.length : Int) :: (body ++ List.replicate j 0))) C) pΓ.1 pΓ.2.1 pΓ.2.2}) (fun g => (fun (j : Nat) (u : Value) (C : qV) => [(4, .pointer (some ⟨b4, 0, none⟩)), (6, u)]) g.1.1 g.1.2.1 g.1.2.2) (fun g => (fun (j : Nat) (u : Value) (C : qV) => C :: [(b4, .cells (ww Sec.zero).toArray 54 (0, 0))] :: F) g.1.1 g.1.2.1 g.1.2.2) (fun g => (fun (j : Nat) (u : Value) (C : qV) => 120 - j) g.1.1 g.1.2.1 g.1.2.2) ⟨(0, t21, C1), by dsimp only; exact ⟨by omega, by simpa [u8s] using hs1⟩⟩ (qX _) ?_
    rintro ⟨⟨j, u, C⟩, hloop⟩
    replace hloop : j + body.length ≤ 120 ∧ SlC 5 1 u (4 + body.length + j) (u8s (215 :: 76 :: k :: (body.length : Int) :: (body ++ List.replicate j 0))) C := hloop
    obtain ⟨hj, hsl⟩ := hloop
    show Tr _ _ _ ([(4, .pointer (some ⟨b4, 0, none⟩)), (6, u)]) (C :: [(b4, .cells (ww Sec.zero).toArray 54 (0, 0))] :: F) _ _
    refine qO <| qO ?_
    obtain ⟨pu, cu, hu⟩ := hsl.slice
    refine qK <| qB rfl <| q9 (wD (by rw [← hu]; rfl)) ?_
    refine q9 (wL rfl rfl) <| qF <| qL rfl (fun hc4 => ?_) (fun hc4 => ?_)
    ·
     refine qZ <| qI <| qg <| qK <| qB rfl <| qG (wK rfl rfl rfl) ?_
     rintro t26 _ ⟨b26, rfl, rfl⟩
     refine qG (wg (m := 1) (sz := 1) rfl rfl hsl (wi (ys := u8s [0]) inferInstance rfl rfl) rfl Tryz.underlying23 rfl rfl (by omega)) ?_
     rintro t27 _ ⟨C', hsl', rfl⟩
     refine qD rfl <| qT <| qf <| w5 ⟨(j + 1, t27, C'), ?_⟩ ?_ ?_
     · (try dsimp only); exact ⟨by omega, by rw [List.replicate_succ', show 4 + body.length + (j + 1) = 4 + body.length + j + 1 from by omega]; simpa [u8s] using hsl'⟩
     · (try dsimp only); omega
     · (try dsimp only); exact qX _
    ·
     refine wb <| qr <| qt <| qj <| qI <| qO ?_
     have hj' : j = 120 - body.length := by omega
     subst hj'
     rw [show 4 + body.length + (120 - body.length) = 124 from by omega] at hsl
     replace hsl : SlC 5 1 u 124 (u8s (jM k body)) C := hsl
     rcases hsl with ⟨-, hn, -⟩ | ⟨b, cap, spare, rfl, hcs, rfl, hcap, hnc⟩
     · exact absurd hn (by decide)
     refine qK <| qB rfl <| qB rfl <| q9 (wJ rfl (Zg [_] (rcrc_ok b 0 124 cap 5 (0, 0) (u8s (jM k body) ++ spare) (jM k body) (by omega) (XD h (by omega) hb) (jC h) (by rw [List.drop_zero, List.take_append_of_le_length (by simp [jC h]), List.take_of_length_le (by simp [jC h])])))) ?_
     refine q9 (zJ rfl (by have := Y5 (jM k body); simp only [IntKind.min, IntKind.max, IntKind.bits, IntKind.signed, Bool.false_eq_true, if_false]; omega)) ?_
     refine qG (qx rfl (VT (JN (jM k body)) 4 (by omega) (by have := Y5 (jM k body); omega))) ?_
     rintro t32 _ ⟨C2, hs2, rfl⟩
     refine qG (wg (m := 4) (n := 124) (sz := 1) rfl rfl (MR hcs hcap hnc) (j6 hs2) (xY _) Tryz.underlying23 rfl rfl (by omega)) ?_
     rintro t33 _ ⟨C3, hs3, rfl⟩
     replace hs3 : SlC 5 1 t33 128 (ww (xB k body h (by omega) hb)) C3 := by rw [← ym] at hs3; exact hs3
     rcases hs3 with ⟨-, hn, -⟩ | ⟨b3, cap3, spare3, rfl, hcs3, rfl, hcap3, hnc3⟩
     · exact absurd hn (by decide)
     refine q9 (wJ rfl (Zg [_] (Vx b3 128 cap3 5 0 (0, 0) (ww (xB k body h (by omega) hb) ++ spare3) (xB k body h (by omega) hb) (by rw [List.drop_zero, List.take_append_of_le_length (by simp), List.take_of_length_le (by simp)])))) ?_
     refine qS (qq rfl rfl (by first | exact zk _ | simp) (by first | exact zk _ | simp) (by first | exact wt _ | simp [Value.oneCell'])) <| qD rfl <| qT ?_
     skip
     refine qI <| qz <| wY F (.inl rfl) rfl (zX rfl (by first | exact zk _ | simp)) (qu rfl) ?_
     exact ⟨rfl, rfl⟩
theorem secV_take (s : Sec) (n : Nat) : (ww s).take n = u8s (s.l.take n) := x9 _ _
theorem KX {s : Sec} {k : Int} {body : List Int} (h : body.length ≤ 120) (hk : 0 < k ∧ k < 256) (hw : Wn s ((([] ++ leI 2 19671) ++ leI 1 k) ++ leI 1 body.length ++ body)) : s.l = jM k body ++ [0, 0, 0, 0] := by
  have e : ((([] ++ leI 2 19671) ++ leI 1 k) ++ leI 1 body.length ++ body) = 215 :: 76 :: k :: (body.length : Int) :: body := by
    have h1 : k % 256 = k := Int.emod_eq_of_lt (by omega) (by omega)
    have h2 : (body.length : Int) % 256 = body.length := Int.emod_eq_of_lt (by omega) (by omega)
    simp [leI, h1, h2]
  rw [e] at hw
  unfold Wn at hw
  have e2 : 128 - (215 :: 76 :: k :: (body.length : Int) :: body).length = (120 - body.length) + 4 := by simp; omega
  rw [hw, e2, ← List.replicate_append_replicate]
  simp [jM]
theorem sealed_put {s : Sec} {k : Int} {body : List Int} (h : body.length ≤ 120) (hk : 0 < k ∧ k < 256) (hb : IsB body) (hs : s.l = jM k body ++ [0, 0, 0, 0]) :
    jy (ww s) (0 + (124 : Int).toNat) (u8s (leI 4 (JN (jM k body)))) = ww (xB k body h (by omega) hb) := by
  have := YS s [] 124 (leI 4 (JN (jM k body))) (by simp) (km _ _)
  rw [List.append_nil, List.append_nil] at this
  rw [show 0 + (124 : Int).toNat = 124 from rfl, this]
  congr 1
  apply YK
  show Qc s.l 124 _ = _
  unfold Qc
  rw [hs, List.take_append_of_le_length (by simp [jC h]), List.take_of_length_le (by simp [jC h]), List.drop_of_length_le (by simp [jC h])]
  simp [xB]
theorem Vr (k : Int) (body : List Int) (q : Option Addr) (c : Nat) (h : body.length ≤ 120) (hk : 0 < k ∧ k < 256) (hb : IsB body) (hq : q = none → body.length = 0) (hr : ∀ A : Res, Reads w0 (A ++ F) (.slice q body.length c) body.length 1 (u8s body)) :
    FnT Tryz.prog w0 156 #[.int .u8 k, .slice q body.length c] F (fun v L' => v = .tuple #[.agg (ww (xB k body h (by omega) hb)).toArray, .int .i64 0] ∧ L' = F) := by
  have hw1 := Wn.zero.put (m := leI 2 19671) (by decide) (km _ _)
  have hw2 := hw1.put (m := leI 1 k) (by simp) (km _ _)
  have hw3 := hw2.put (m := leI 1 body.length) (by simp) (km _ _)
  have hw4 : Wn ((((Sec.zero.put 0 (leI 2 19671) (by simp) (km _ _)).put 2 (leI 1 k) (by simp) (km _ _)).put 3 (leI 1 body.length) (by simp) (km _ _)).put 4 body (by omega) hb) _ := hw3.put (m := body) (by simp; omega) hb
  refine qh (E0 := [(0, _), (1, _)]) (N := 37) Tryz.func156 rfl rfl rfl rfl ?_
  refine qP <| qG (qn) ?_
  rintro t4 _ ⟨b4, rfl, rfl⟩
  refine qD rfl <| qF <| qO <| qP <| qB rfl <| q9 (wl rfl rfl) <| qB rfl <| qY (s := 11) rfl (fun hg1_2 => ?_) (fun hg1_2 => ?_)
  · (exfalso; omega)
  ·
   refine qE rfl rfl (qM rfl) <| qE rfl rfl (wD rfl) <| qE rfl rfl (y9 rfl rfl) <| q9 (qU rfl rfl) <| qF <| qL rfl (fun hc1 => ?_) (fun hc1 => ?_)
   · (exfalso; omega)
   ·
    refine qZ <| qI <| qP <| qG (qn) ?_
    rintro t6 _ ⟨b6, rfl, rfl⟩
    refine qF <| qO <| yx (L' := wr b6 Sec.zero 0 :: _) (fun _ h => h) ?_
    refine qK <| qG (qx rfl (xr b6 _ 0 19671 2 (by omega) (by omega))) ?_
    rintro t17 _ ⟨rfl, rfl⟩
    refine qo <| qB rfl <| q9 (zJ rfl (by first | (simp only [IntKind.min, IntKind.max, IntKind.bits, IntKind.signed, Bool.false_eq_true, if_false, if_true]; omega))) ?_
    refine qG (qx rfl (xr b6 _ 2 k 1 (by omega) (by omega))) ?_
    rintro t20 _ ⟨rfl, rfl⟩
    refine qo <| qB rfl <| q9 (wD rfl) <| q9 (zJ rfl (by first | (simp only [IntKind.min, IntKind.max, IntKind.bits, IntKind.signed, Bool.false_eq_true, if_false, if_true]; omega))) ?_
    refine qG (qx rfl (xr b6 _ 3 body.length 1 (by omega) (by omega))) ?_
    rintro t24 _ ⟨rfl, rfl⟩
    refine qo <| qB rfl <| qG (qx rfl (writerBytes_ok b6 _ 4 120 q c body hb (by omega) hq (fun A => hr [A, _]))) ?_
    rintro t26 _ ⟨rfl, rfl⟩
    refine qo <| qG (qx rfl (WR b6 _ 124)) ?_
    rintro t28 _ ⟨rfl, rfl⟩
    refine qB rfl <| q9 (qi rfl rfl) <| q9 (qi rfl rfl) <| qG (qn) ?_
    rintro t7 _ ⟨b7, rfl, rfl⟩
    refine qS (qq rfl rfl (by simp) (by simp) (by exact wt _)) ?_
    refine qD rfl <| qF <| qO <| wQ w8 <| wE [(31, .pure _), (32, .pure _), (33, .pure _), (34, .pure _)] (by kernel_rfl) rfl rfl rfl wd (qC rfl (fun X => kg (l := 0) (h := 128) (kl := .i64) (kh := .i64) rfl rfl rfl (by decide) (by decide)) <| qC rfl (fun X => kg (l := 0) (h := 124) (kl := .i64) (kh := .i64) rfl rfl rfl (by decide) (by decide)) <| qC rfl (fun X => wJ rfl (Zg [_] (crc_ok b7 0 124 128 55 (0, 0) _ (jM k body) (by omega) (XD h (by omega) hb) (jC h) (by rw [List.drop_zero, secV_take, KX h hk hw4, List.take_append_of_le_length (by simp [jC h]), List.take_of_length_le (by simp [jC h])])))) <| qC rfl (fun X => zJ rfl (by have := Y5 (jM k body); simp only [IntKind.min, IntKind.max, IntKind.bits, IntKind.signed, Bool.false_eq_true, if_false]; omega)) <| ParH.nil rfl) ?_
    dsimp only [zQ, List.drop, List.length]
    refine wu (by kernel_rfl) (qx rfl (VS b7 0 128 128 55 _ 124 (JN (jM k body)) 4 (by omega) (by omega) (by have := Y5 (jM k body); omega) (by simp))) ?_
    rintro t35 _ ⟨rfl, rfl⟩
    refine wI <| qI <| qO ?_
    rw [sealed_put h hk hb (KX h hk hw4)]
    refine qK <| q9 (wS rfl (by simp)) ?_
    refine qS (qq rfl rfl (by simp) (by simp) (by exact wt _)) ?_
    refine qD rfl <| qF <| qz <| wY F (.inl rfl) rfl (zX rfl (by first | exact zk _ | simp)) (qu rfl) ?_
    exact ⟨rfl, rfl⟩
theorem seal_subs {k : Int} {body : List Int} (h : body.length ≤ 120) (hk : 0 < k ∧ k < 256) (hb : IsB body) :
    deI (Sec.sub (xB k body h (by omega) hb) (0 + 2) 1) = k ∧ deI (Sec.sub (xB k body h (by omega) hb) (0 + 2 + 1) 1) = body.length ∧ Sec.sub (xB k body h (by omega) hb) (0 + 2 + 1 + 1) body.length = body := by
  refine ⟨by simp [Sec.sub, xB, jM, deI], by simp [Sec.sub, xB, jM, deI], ?_⟩
  simp [Sec.sub, xB, jM]
theorem open_ok (k : Int) (body : List Int) (h : body.length ≤ 120) (hk : 0 < k ∧ k < 256) (hb : IsB body) :
    FnT Tryz.prog w0 142 #[.agg (ww (xB k body h (by omega) hb)).toArray] F (fun v L' => ∃ u C, v = .tuple #[.int .u8 k, u, .int .i64 0] ∧ SlC 5 1 u body.length (u8s body) C ∧ L' = C :: F) := by
  obtain ⟨e1, e2, e3⟩ := seal_subs h hk hb
  generalize hs : xB k body h (by omega) hb = s at e1 e2 e3 ⊢
  refine qh (E0 := [(0, _)]) (N := 41) Tryz.func142 rfl rfl rfl rfl ?_
  refine qP <| qG (wq rfl) ?_
  rintro t1 _ ⟨b1, rfl, rfl⟩
  refine qD rfl <| qD rfl <| qD rfl <| qo <| q9 (wS rfl (by simp)) ?_
  refine qG (qx rfl (Vh s)) ?_
  rintro t12 _ ⟨p, rfl, rfl⟩
  refine qD rfl <| qo <| qB rfl <| qG (qx rfl (xu p s 0 2 (by omega))) ?_
  rintro t14 _ ⟨rfl, rfl⟩
  refine qo <| qB rfl <| qG (qx rfl (xu p s (0 + 2) 1 (by omega))) ?_
  rintro t16 _ ⟨rfl, rfl⟩
  rw [e1]
  refine q9 (zJ rfl (by simp only [IntKind.min, IntKind.max, IntKind.bits, IntKind.signed, Bool.false_eq_true, if_false]; omega)) ?_
  refine qB rfl <| qG (qx rfl (xu p s (0 + 2 + 1) 1 (by omega))) ?_
  rintro t19 _ ⟨rfl, rfl⟩
  rw [e2]
  refine q9 (zJ rfl (by simp only [IntKind.min, IntKind.max, IntKind.bits, IntKind.signed, if_true]; omega)) ?_
  refine qD rfl <| qD rfl <| qF <| qO <| qP <| qB rfl <| q9 (y9 rfl rfl) <| qF <| qL rfl (fun hc4 => ?_) (fun hc4 => ?_)
  · (exfalso; omega)
  ·
   refine qZ <| qI <| qP <| qB rfl <| qB rfl <| qG (qx rfl (readerBytes_ok p s (0 + 2 + 1 + 1) body.length (by omega))) ?_
   rintro t25 _ ⟨C, hsl, rfl⟩
   refine qD rfl <| qF <| qO <| qO ?_
   rw [e3] at hsl
   obtain ⟨q, c, rfl⟩ := hsl.slice
   refine qK <| qB rfl <| qB rfl <| qG (qx rfl (Vr k body q c h hk hb (fun e => by subst e; rcases hsl with ⟨-, h, -⟩ | ⟨_, _, _, h, _⟩; exact h; cases h) (fun A => j6 hsl))) ?_
   rintro t29 _ ⟨rfl, rfl⟩
   refine qB rfl <| q9 (qi rfl rfl) <| q9 (qi rfl rfl) <| qG (qn) ?_
   rintro t9 _ ⟨b9, rfl, rfl⟩
   refine qS (qq rfl rfl (by simp) (by simp) (by exact wt _)) ?_
   refine qD rfl <| qo <| qB rfl <| q9 (wz rfl rfl) <| qB rfl <| qY (s := 34) rfl (fun hg8_2 => ?_) (fun hg8_2 => ?_)
   · exact absurd rfl hg8_2
   ·
    refine qE rfl rfl (wS rfl (by simp)) ?_
    refine qE rfl rfl (wS rfl (by simp)) ?_
    refine qE rfl rfl (KE rfl rfl) <| q9 (qU rfl rfl) <| qF <| qL rfl (fun hc8 => ?_) (fun hc8 => ?_)
    · exact absurd (by simp only [hs]) hc8
    ·
     refine qZ <| qI <| qP <| qB rfl <| qB rfl <| qD rfl <| qD rfl <| qD rfl <| qF <| qz <| X1 (C :: F) (.inl rfl) rfl (qu rfl) (qu rfl) (qu rfl) ?_
     exact ⟨_, C, rfl, hsl, rfl⟩
end
end Go.Proofs.YtjikpomndbkfgaaGreatDoor
namespace Go.Sx
open Go
section
variable {P : Program} {N : Nat} {w0 : World} {E : Env} {L : Res}
structure MA (P : Program) (t : TypeId) (v : Value) (name : String) (f : FuncId) : Prop where
  ahead : ∀ w, (nilAhead (P.types.size + Made.depth) t v name).run P w = .ok (some false) w
  meth : ∀ w, (method (P.types.size + Made.depth) t v name).run P w = .ok (f, v) w
  enter : ∀ args w, (callFunc f args).run P w = .ok (.enter f args) w
theorem zu {x : Operand} {ty t : TypeId} {name : String} {v : Value} {f : FuncId} {cap : List Value} (hx : opv E x = some (.func (.method name) [.iface t v].toArray cap.toArray)) (hm : MA P t v name f) :
    Op1 P N w0 E L (.nilCheck x) ty (.func (.method name) [.iface t v].toArray cap.toArray) L :=
  .of_run fun o a w h1 _ h3 h4 => ⟨w, by
    rw [execOp, h1]
    simp [h3.eval hx, program, Sem.run_bind, hm.ahead, Sem.run], h4⟩
theorem k9 {x : Operand} {ty t f : TypeId} {name : String} {v : Value} {args : List Operand} {tys : Array TypeId} {vs : List Value} {R : Value → Res → Prop} 
    (hx : opv E x = some (.iface t v)) (hargs : ji E args = some vs) (hm : MA P t v name f) (hf : FnT P w0 f (v :: vs).toArray L R) :
    OpT P N w0 E L (.call ⟨.invoke x name, args.toArray, tys⟩) ty R :=
  ⟨fun o a w h1 h2 h3 h4 K Q hK => by
    have hrun : (execOp a.eval o).run P w = .ok (.enter f (v :: vs).toArray) w := by
      rw [execOp, h1]
      simp [resolve, invoke, callMethod, h3.eval hx, QJ h3 _ _ hargs, program, Sem.run_bind]
      rw [show Sem.run P (Sem.program Sem.pure) w = .ok P w from rfl]
      simp [hm.meth, hm.enter]
    unfold Oper.wp
    rw [hrun, Oper.upon_enter]
    exact (hf.h w h4).mono fun e w' ⟨v, L', e1, hr, ho⟩ => by subst e1; exact hK v L' w' hr ho⟩
theorem Jc {x y : Operand} {t e ty len : TypeId} {k : IntKind} {i : Int} {j : Nat} {l : List Value} {v : Value} [ha : xK P t len e] [hz : TySize P e 1] [hs : TyScalar P e]
    (hx : opv E x = some (.agg l.toArray)) (hy : opv E y = some (.int k i)) (hi : i = (j : Int)) (hj : j < len) (hv : wX l j = some v) : Op1 P N w0 E L (.index t x y) ty v L :=
  .of_run fun o a w h1 _ h3 h4 => ⟨w, by
    subst hi
    rw [zK] at hv
    rw [execOp, h1]
    simp [h3.eval hx, h3.eval hy, Instr.index, asIntOf, wA ha.h, hj, hz.s, part, hs.h, hv], h4⟩
end
end Go.Sx
namespace Go.Proofs.YtjikpomndbkfgaaGreatDoor
open Go Go.Sx Go.Nd
set_option maxRecDepth 10000
section
variable {w0 : World} {L F : Res}
def wrc (p : Nat) (u : Value) : qV := [(p, .cells [u, .bool false].toArray 264 (0, 0))]
theorem mk_zero (w : Nat) : ((List.range (w * 1)).map fun i => (Value.int .u8 0).cells[i % (Value.int .u8 0).cells.size]!) = List.replicate w (Value.int .u8 0) := by
  simp [Value.cells, Nat.mod_one, List.map_const']
theorem put_whole (w : Nat) (x : Int) : jy (List.replicate w (Value.int .u8 0)) (0 + (0 : Int).toNat) (u8s (leI w x)) = u8s (leI w x) := by
  simp [jy]
theorem Vf (p : Nat) (u : Value) (C : qV) (n w q : Nat) (e : TypeId) (fr : Nat × Nat) (bs : List Int) (x : Int) (hs : SlC 5 1 u n (u8s bs) C) (hw : 1 ≤ w ∧ w ≤ 8) (hx : 0 ≤ x ∧ x < 256 ^ w) (hn : n ≤ 1000) :
    FnT Tryz.prog w0 186 #[.pointer (some ⟨p, 0, none⟩), .int .i64 w, .pointer (some ⟨q, 0, none⟩)] (wrc p u :: C :: [(q, .cells [.int .u64 x].toArray e fr)] :: F)
      (fun v L' => ∃ u' C', v = .tuple #[] ∧ SlC 5 1 u' (n + w) (u8s (bs ++ leI w x)) C' ∧ L' = wrc p u' :: C' :: [(q, .cells [.int .u64 x].toArray e fr)] :: F) := by
  unfold wrc
  refine qh (E0 := [(0, _), (1, _), (2, _)]) (N := 28) Tryz.func186 rfl rfl rfl rfl ?_
  refine qP <| qB rfl <| qG (xy (by_ := 1) (sz := 1) (n := w) (r := List.replicate w (.int .u8 0)) rfl rfl (by omega) (by omega) (mk_zero w)) ?_
  rintro t8 _ ⟨bb, rfl, rfl⟩
  refine qD rfl <| qF <| qO <| qP <| qB rfl <| qB rfl <| qB rfl <| q9 (qQ rfl) <| q9 (qH rfl rfl) <| qG (qx rfl (VS bb 0 w w 5 (List.replicate w (.int .u8 0)) 0 x w (by omega) (by omega) hx (by simp))) ?_
  rintro t14 _ ⟨rfl, rfl⟩
  refine q9 (wz rfl rfl) <| qF <| wU rfl <| qZ <| qI ?_
  rw [put_whole w x]
  refine qK <| qB rfl <| qB rfl <| q9 (qQ rfl) <| q9 (qA rfl) <| q9 (qH rfl rfl) <| qB rfl <| qG (wg (m := w) (sz := 1) rfl rfl hs (wi (ys := u8s (leI w x)) inferInstance (by simp [List.take_of_length_le]) (by simp)) (xY _) Tryz.underlying23 rfl rfl (by omega)) ?_
  rintro t25 _ ⟨C', hs', rfl⟩
  obtain ⟨pq, cq, rfl⟩ := hs'.slice
  refine q9 (qQ rfl) <| q9 (qA rfl) <| qS (ws rfl rfl rfl) <| qT <| kH ([(p, .cells [.slice pq (n + w) cq, .bool false].toArray 264 (0, 0))] :: C' :: [(q, .cells [.int .u64 x].toArray e fr)] :: F) (.inr rfl) rfl  ?_
  exact ⟨_, C', rfl, by rw [ym]; exact hs', rfl⟩
theorem X5 (p : Nat) (u : Value) (C : qV) (n w ib off : Nat) (l : List Value) (e : TypeId) (fr : Nat × Nat) (bs : List Int) (x : Int) (hs : SlC 5 1 u n (u8s bs) C) (hw : 1 ≤ w ∧ w ≤ 8) (hx : 0 ≤ x ∧ x < 256 ^ w) (hx2 : x < 4294967296) (hn : n ≤ 1000) (hv : wX l off = some (.int .u32 x)) :
    FnT Tryz.prog w0 187 #[.pointer (some ⟨p, 0, none⟩), .int .i64 w, .pointer (some ⟨ib, off, none⟩)] (wrc p u :: C :: [(ib, .cells l.toArray e fr)] :: F)
      (fun v L' => ∃ u' C', v = .tuple #[] ∧ SlC 5 1 u' (n + w) (u8s (bs ++ leI w x)) C' ∧ L' = wrc p u' :: C' :: [(ib, .cells l.toArray e fr)] :: F) := by
  refine qh (E0 := [(0, _), (1, _), (2, _)]) (N := 14) Tryz.func187 rfl rfl rfl rfl ?_
  refine qP <| qB rfl <| q9 (qQ rfl) <| q9 (qH rfl hv) <| q9 (zJ rfl (by first | (simp only [IntKind.min, IntKind.max, IntKind.bits, IntKind.signed, Bool.false_eq_true, if_false, if_true]; omega))) ?_
  refine qG (qn) ?_
  rintro t6 _ ⟨b6, rfl, rfl⟩
  refine qS (ws rfl rfl rfl) <| qF <| qK <| qB rfl <| qB rfl <| qG (qx rfl (ku (wrc p u) (C) ([(b6, .cells [Value.int .u64 x].toArray 199 (0, 0))]) (Vf p u C n w b6 199 (0, 0) bs x hs hw hx hn))) ?_
  rintro t13 _ ⟨u', C', rfl, hs', rfl⟩
  refine qT <| kH (wrc p u' :: C' :: [(ib, .cells l.toArray e fr)] :: F) (.inr rfl) rfl  ?_
  exact ⟨u', C', rfl, hs', rfl⟩
theorem Kt (p : Nat) (u : Value) (C : qV) (n w ib off : Nat) (l : List Value) (e : TypeId) (fr : Nat × Nat) (bs : List Int) (x : Int) (hs : SlC 5 1 u n (u8s bs) C) (hw : 1 ≤ w ∧ w ≤ 8) (hx : 0 ≤ x ∧ x < 256 ^ w) (hx2 : x < 9223372036854775808) (hn : n ≤ 1000) (hv : wX l off = some (.int .i64 x)) :
    FnT Tryz.prog w0 184 #[.pointer (some ⟨p, 0, none⟩), .int .i64 w, .pointer (some ⟨ib, off, none⟩)] (wrc p u :: C :: [(ib, .cells l.toArray e fr)] :: F)
      (fun v L' => ∃ u' C', v = .tuple #[] ∧ SlC 5 1 u' (n + w) (u8s (bs ++ leI w x)) C' ∧ L' = wrc p u' :: C' :: [(ib, .cells l.toArray e fr)] :: F) := by
  unfold wrc
  refine qh (E0 := [(0, _), (1, _), (2, _)]) (N := 28) Tryz.func184 rfl rfl rfl rfl ?_
  refine qP <| qB rfl <| q9 (qQ rfl) <| q9 (qH rfl hv) <| q9 (MG rfl rfl) ?_
  rw [show max x 0 = x from by omega]
  refine q9 (zJ rfl (by simp only [IntKind.min, IntKind.max, IntKind.bits, IntKind.signed, Bool.false_eq_true, if_false]; omega)) ?_
  refine qG (qn) ?_
  rintro t6 _ ⟨b6, rfl, rfl⟩
  refine qS (ws rfl rfl rfl) <| qo <| qB rfl <| qB rfl <| q9 (qQ rfl) <| q9 (qA rfl) <| q9 (qH rfl rfl) <| qB rfl <| y0 (s := 17) rfl (fun hg1_5 => ?_) (fun hg1_5 => ?_)
  · cases hg1_5
  ·
   refine qE rfl rfl (qM rfl) <| qE rfl rfl (qQ rfl) <| qE rfl rfl (qH rfl hv) <| qE rfl rfl (wL rfl rfl) ?_
   rw [show decide (x < 0) = false from decide_eq_false (by omega)]
   refine q9 (qU rfl rfl) <| q9 (qQ rfl) <| q9 (qA rfl) <| qS (ws rfl rfl rfl) <| qF <| qK <| qB rfl <| qB rfl <| qG (qx rfl (ku ([(p, .cells [u, .bool false].toArray 264 (0, 0))]) (C) ([(b6, .cells [Value.int .u64 x].toArray 199 (0, 0))]) (Vf p u C n w b6 199 (0, 0) bs x hs hw hx hn))) ?_
   rintro t27 _ ⟨u', C', rfl, hs', rfl⟩
   refine qT <| kH (wrc p u' :: C' :: [(ib, .cells l.toArray e fr)] :: F) (.inr rfl) rfl  ?_
   exact ⟨u', C', rfl, hs', rfl⟩
structure Ino where
  num : Int
  ver : Int
  kind : Int
  size : Int
  time : Int
  d : List Int
  sg : Int
  db : Int
structure Ino.Ok (x : Ino) : Prop where
  num : 0 ≤ x.num ∧ x.num < 65536
  ver : 0 ≤ x.ver ∧ x.ver < 4294967296
  kind : 1 ≤ x.kind ∧ x.kind ≤ 2
  size : 0 ≤ x.size ∧ x.size < 4294967296
  time : 0 ≤ x.time ∧ x.time < 4294967296
  len : x.d.length = 8
  d : ∀ a ∈ x.d, 0 ≤ a ∧ a < 4294967296
  sg : 0 ≤ x.sg ∧ x.sg < 4294967296
  db : 0 ≤ x.db ∧ x.db < 4294967296
def iV (l : List Int) : List Value := l.map (Value.int .i64)
@[simp] theorem iV_len (l : List Int) : (iV l).length = l.length := by simp [iV]
def yM (x : Ino) : List Value := .int .u32 x.num :: .int .u32 x.ver :: .int .i64 x.kind :: .int .i64 x.size :: .int .u32 x.time :: (iV x.d ++ [.int .i64 x.sg, .int .i64 x.db])
def ZQ (x : Ino) : List Int := leI 2 x.num ++ leI 4 x.ver ++ leI 1 x.kind ++ leI 4 x.size ++ leI 4 x.time
def jf (x : Ino) : List Int := ZQ x ++ x.d.flatMap (leI 4) ++ leI 4 x.sg ++ leI 4 x.db
theorem Z8 (x : Ino) : (ZQ x).length = 15 := by simp [ZQ]
theorem xV (d : List Int) : (d.flatMap (leI 4)).length = 4 * d.length := by
  induction d with
  | nil => rfl
  | cons a d ih => simp [ih]; omega
theorem QF {x : Ino} (h : x.Ok) : (jf x).length = 55 := by simp only [jf, List.length_append, Z8, xV, KG, h.len]
theorem QZ {a b : List Int} (ha : IsB a) (hb : IsB b) : IsB (a ++ b) := fun x hx => by
  rcases List.mem_append.1 hx with h | h
  · exact ha x h
  · exact hb x h
theorem Vy (d : List Int) : IsB (d.flatMap (leI 4)) := fun x hx => by
  obtain ⟨a, _, h⟩ := List.mem_flatMap.1 hx
  exact km _ _ x h
theorem XS (x : Ino) : IsB (jf x) :=
  QZ (QZ (QZ (QZ (QZ (QZ (QZ (km _ _) (km _ _)) (km _ _)) (km _ _)) (km _ _)) (Vy _)) (km _ _)) (km _ _)
theorem VW {x : Ino} {i : Nat} {a : Int} (h : x.d[i]? = some a) : wX (yM x) (5 + i) = some (.int .i64 a) := by
  rw [zK, Nat.add_comm]
  show (iV x.d ++ _)[i]? = _
  have hlt := (List.getElem?_eq_some_iff.1 h).1
  rw [List.getElem?_append_left (by simpa using hlt)]
  simp [iV, h]
theorem KJ {x : Ino} (h : x.d.length = 8) : wX (yM x) 13 = some (.int .i64 x.sg) ∧ wX (yM x) 14 = some (.int .i64 x.db) := by
  rw [zK, zK]
  constructor
  · show (iV x.d ++ _)[8]? = _
    rw [List.getElem?_append_right (by simp [h])]; simp [h]
  · show (iV x.d ++ _)[9]? = _
    rw [List.getElem?_append_right (by simp [h])]; simp [h]
theorem YW (a : Addr) : MA Tryz.prog 262 (.pointer (some a)) "drumlin/codec.word" 187 := ⟨fun _ => by kernel_rfl, fun _ => by kernel_rfl, Enters.h⟩
theorem ZO (a : Addr) : MA Tryz.prog 262 (.pointer (some a)) "drumlin/codec.int" 184 := ⟨fun _ => by kernel_rfl, fun _ => by kernel_rfl, Enters.h⟩
theorem YX (a : Addr) : MA Tryz.prog 228 (.pointer (some a)) "drumlin/codec.word" 182 := ⟨fun _ => by kernel_rfl, fun _ => by kernel_rfl, Enters.h⟩
theorem ZP (a : Addr) : MA Tryz.prog 228 (.pointer (some a)) "drumlin/codec.int" 180 := ⟨fun _ => by kernel_rfl, fun _ => by kernel_rfl, Enters.h⟩
theorem pass_ok (p ib : Nat) (x : Ino) (hx : x.Ok) :
    FnT Tryz.prog w0 119 #[.iface 262 (.pointer (some ⟨p, 0, none⟩)), .pointer (some ⟨ib, 0, none⟩)] (wrc p (.slice none 0 0) :: [] :: [(ib, .cells (yM x).toArray 168 (0, 0))] :: F)
      (fun v L' => ∃ u' C', v = .tuple #[] ∧ SlC 5 1 u' 55 (u8s (jf x)) C' ∧ L' = wrc p u' :: C' :: [(ib, .cells (yM x).toArray 168 (0, 0))] :: F) := by
  have h13 := KJ hx.len
  refine qh (E0 := [(0, _), (1, _)]) (N := 75) Tryz.func119 rfl rfl rfl rfl ?_
  refine qO <| wQ w8 <| wE [(5, .pure _), (6, .pure _), (7, .pure _), (8, .pure _), (9, .pure _), (10, .pure _), (11, .pure _)] (by kernel_rfl) rfl rfl rfl wd (qC rfl (fun X => qM rfl) <| qC rfl (fun X => qM rfl) <| qC rfl (fun X => qQ rfl) <| qC rfl (fun X => qA rfl) <| qC rfl (fun X => wx rfl rfl) <| qC rfl (fun X => zu rfl (YW _)) <| qC rfl (fun X => qM rfl) <| ParH.nil rfl) ?_
  dsimp only [zQ, List.drop, List.length]
  refine wu (by kernel_rfl) (k9 rfl rfl (YW _) (X5 p _ [] 0 2 ib 0 (yM x) 168 (0, 0) [] x.num (SlC.nil _ _) (by omega) hx.num (by have := hx.num; omega) (by omega) rfl)) ?_
  rintro t12 _ ⟨u1, C1, rfl, hs1, rfl⟩
  refine wI <| qI <| qO <| wQ w8 <| wE [(13, .pure _), (14, .pure _), (15, .pure _), (16, .pure _), (17, .pure _), (18, .pure _), (19, .pure _)] (by kernel_rfl) rfl rfl rfl wd (qC rfl (fun X => qM rfl) <| qC rfl (fun X => qM rfl) <| qC rfl (fun X => qQ rfl) <| qC rfl (fun X => qA rfl) <| qC rfl (fun X => wx rfl rfl) <| qC rfl (fun X => zu rfl (YW _)) <| qC rfl (fun X => qM rfl) <| ParH.nil rfl) ?_
  dsimp only [zQ, List.drop, List.length]
  refine wu (by kernel_rfl) (k9 rfl rfl (YW _) (X5 p _ C1 _ 4 ib 1 (yM x) 168 (0, 0) _ x.ver hs1 (by omega) hx.ver hx.ver.2 (by omega) rfl)) ?_
  rintro t20 _ ⟨u2, C2, rfl, hs2, rfl⟩
  refine wI <| qI <| qO <| wQ w8 <| wE [(21, .pure _), (22, .pure _), (23, .pure _), (24, .pure _), (25, .pure _), (26, .pure _), (27, .pure _)] (by kernel_rfl) rfl rfl rfl wd (qC rfl (fun X => qM rfl) <| qC rfl (fun X => qM rfl) <| qC rfl (fun X => qQ rfl) <| qC rfl (fun X => qA rfl) <| qC rfl (fun X => wx rfl rfl) <| qC rfl (fun X => zu rfl (ZO _)) <| qC rfl (fun X => qM rfl) <| ParH.nil rfl) ?_
  dsimp only [zQ, List.drop, List.length]
  refine wu (by kernel_rfl) (k9 rfl rfl (ZO _) (Kt p _ C2 _ 1 ib 2 (yM x) 168 (0, 0) _ x.kind hs2 (by omega) (by have := hx.kind; omega) (by have := hx.kind; omega) (by omega) rfl)) ?_
  rintro t28 _ ⟨u3, C3, rfl, hs3, rfl⟩
  refine wI <| qI <| qO <| wQ w8 <| wE [(29, .pure _), (30, .pure _), (31, .pure _), (32, .pure _), (33, .pure _), (34, .pure _), (35, .pure _)] (by kernel_rfl) rfl rfl rfl wd (qC rfl (fun X => qM rfl) <| qC rfl (fun X => qM rfl) <| qC rfl (fun X => qQ rfl) <| qC rfl (fun X => qA rfl) <| qC rfl (fun X => wx rfl rfl) <| qC rfl (fun X => zu rfl (ZO _)) <| qC rfl (fun X => qM rfl) <| ParH.nil rfl) ?_
  dsimp only [zQ, List.drop, List.length]
  refine wu (by kernel_rfl) (k9 rfl rfl (ZO _) (Kt p _ C3 _ 4 ib 3 (yM x) 168 (0, 0) _ x.size hs3 (by omega) hx.size (by have := hx.size; omega) (by omega) rfl)) ?_
  rintro t36 _ ⟨u4, C4, rfl, hs4, rfl⟩
  refine wI <| qI <| qO <| wQ w8 <| wE [(37, .pure _), (38, .pure _), (39, .pure _), (40, .pure _), (41, .pure _), (42, .pure _), (43, .pure _)] (by kernel_rfl) rfl rfl rfl wd (qC rfl (fun X => qM rfl) <| qC rfl (fun X => qM rfl) <| qC rfl (fun X => qQ rfl) <| qC rfl (fun X => qA rfl) <| qC rfl (fun X => wx rfl rfl) <| qC rfl (fun X => zu rfl (YW _)) <| qC rfl (fun X => qM rfl) <| ParH.nil rfl) ?_
  dsimp only [zQ, List.drop, List.length]
  refine wu (by kernel_rfl) (k9 rfl rfl (YW _) (X5 p _ C4 _ 4 ib 4 (yM x) 168 (0, 0) _ x.time hs4 (by omega) hx.time hx.time.2 (by omega) rfl)) ?_
  rintro t44 _ ⟨u5, C5, rfl, hs5, rfl⟩
  refine wI <| qI <| qO <| qP <| qB rfl <| qF <| qg <| wV (Γ := {pΓ : (Nat) × (Value) × (qV) // (fun (i : Nat) (u : Value) (C : qV) => i ≤ 8 ∧ SlC 5 1 u (15 + 4 * i) (u8s (ZQ x ++ (x.d.take i).flatMap (leI 4))) C) pΓ.1 pΓ.2.1 pΓ.2.2}) (fun g => (fun (i : Nat) (u : Value) (C : qV) => [(0, .iface 262 (.pointer (some ⟨p, 0, none⟩))), (1, .pointer (some ⟨ib, 0, none⟩)), (45, .int .i64 i)]) g.1.1 g.1.2.1 g.1.2.2) (fun g => (fun (i : Nat) (u : Value) (C : qV) => wrc p u :: C :: [(ib, .cells (yM x).toArray 168 (0, 0))] :: F) g.1.1 g.1.2.1 g.1.2.2) (fun g => (fun (i : Nat) (u : Value) (C : qV) => 8 - i) g.1.1 g.1.2.1 g.1.2.2) ⟨(0, u5, C5), by dsimp only; exact ⟨by omega, by simpa [ZQ] using hs5⟩⟩ (qX _) ?_
  rintro ⟨⟨i, u, C⟩, hloop⟩
  replace hloop : i ≤ 8 ∧ SlC 5 1 u (15 + 4 * i) (u8s (ZQ x ++ (x.d.take i).flatMap (leI 4))) C := hloop
  obtain ⟨hi, hsl⟩ := hloop
  show Tr _ _ _ ([(0, .iface 262 (.pointer (some ⟨p, 0, none⟩))), (1, .pointer (some ⟨ib, 0, none⟩)), (45, .int .i64 i)]) (wrc p u :: C :: [(ib, .cells (yM x).toArray 168 (0, 0))] :: F) _ _
  refine qP <| q9 (wL rfl rfl) <| qF <| qO <| qL rfl (fun hc6 => ?_) (fun hc6 => ?_)
  ·
   refine qZ <| qI <| qO <| qg <| qP <| qB rfl <| qD rfl <| qT <| qI ?_
   have hlt : i < x.d.length := by rw [hx.len]; omega
   obtain ⟨a, ha⟩ : ∃ a, x.d[i]? = some a := ⟨_, List.getElem?_eq_getElem hlt⟩
   have hab := hx.d a (List.mem_of_getElem? ha)
   refine wQ w8 <| wE [(48, .pure _), (49, .pure _), (50, .pure _), (51, .pure _), (52, .pure _), (53, .pure _), (54, .pure _), (55, .pure _), (56, .pure _)] (by kernel_rfl) rfl rfl rfl wd (qC rfl (fun X => qM rfl) <| qC rfl (fun X => qM rfl) <| qC rfl (fun X => qM rfl) <| qC rfl (fun X => qQ rfl) <| qC rfl (fun X => qA rfl) <| qC rfl (fun X => wo (j := i) (off := 5 + i) rfl rfl rfl (by omega) (by simp)) <| qC rfl (fun X => wx rfl rfl) <| qC rfl (fun X => zu rfl (ZO _)) <| qC rfl (fun X => qM rfl) <| ParH.nil rfl) ?_
   dsimp only [zQ, List.drop, List.length]
   refine wu (by kernel_rfl) (k9 rfl rfl (ZO _) (Kt p u C _ 4 ib (5 + i) (yM x) 168 (0, 0) _ a hsl (by omega) hab (by omega) (by omega) (VW ha))) ?_
   rintro t57 _ ⟨u', C', rfl, hs', rfl⟩
   refine wI <| qf <| qI <| qK <| q9 (w9 rfl rfl (by omega)) <| qB rfl <| qT <| w5 ⟨(i + 1, u', C'), ?_⟩ ?_ ?_
   · (try dsimp only); exact ⟨by omega, by rw [List.take_add_one, ha, Option.toList_some, List.flatMap_append, List.flatMap_singleton, ← List.append_assoc]; exact hs'⟩
   · (try dsimp only); omega
   · (try dsimp only); exact qX _
  ·
   refine wb <| qr <| qt <| qj <| qI <| qO <| wQ w8 <| wE [(59, .pure _), (60, .pure _), (61, .pure _), (62, .pure _), (63, .pure _), (64, .pure _), (65, .pure _)] (by kernel_rfl) rfl rfl rfl wd (qC rfl (fun X => qM rfl) <| qC rfl (fun X => qM rfl) <| qC rfl (fun X => qQ rfl) <| qC rfl (fun X => qA rfl) <| qC rfl (fun X => wx rfl rfl) <| qC rfl (fun X => zu rfl (ZO _)) <| qC rfl (fun X => qM rfl) <| ParH.nil rfl) ?_
   dsimp only [zQ, List.drop, List.length]
   refine wu (by kernel_rfl) (k9 rfl rfl (ZO _) (Kt p u C _ 4 ib 13 (yM x) 168 (0, 0) _ x.sg hsl (by omega) hx.sg (by have := hx.sg; omega) (by omega) h13.1)) ?_
   rintro t66 _ ⟨u6, C6, rfl, hs6, rfl⟩
   refine wI <| qI <| wQ w8 <| wE [(67, .pure _), (68, .pure _), (69, .pure _), (70, .pure _), (71, .pure _), (72, .pure _), (73, .pure _)] (by kernel_rfl) rfl rfl rfl wd (qC rfl (fun X => qM rfl) <| qC rfl (fun X => qM rfl) <| qC rfl (fun X => qQ rfl) <| qC rfl (fun X => qA rfl) <| qC rfl (fun X => wx rfl rfl) <| qC rfl (fun X => zu rfl (ZO _)) <| qC rfl (fun X => qM rfl) <| ParH.nil rfl) ?_
   dsimp only [zQ, List.drop, List.length]
   refine wu (by kernel_rfl) (k9 rfl rfl (ZO _) (Kt p u6 C6 _ 4 ib 14 (yM x) 168 (0, 0) _ x.db hs6 (by omega) hx.db (by have := hx.db; omega) (by omega) h13.2)) ?_
   rintro t74 _ ⟨u7, C7, rfl, hs7, rfl⟩
   refine wI <| xk (.inr rfl) rfl  ?_
   have hi8 : i = 8 := by omega
   subst hi8
   exact ⟨u7, C7, rfl, by rw [List.take_of_length_le (by rw [hx.len]; omega)] at hs7; exact hs7, rfl⟩
theorem VJ (n a b : Int) : FnT Tryz.prog w0 143 #[.int .i64 n, .int .i64 a, .int .i64 b] L (fun v L' => v = .bool (decide (a ≤ n ∧ n ≤ b)) ∧ L' = L) := by
  refine qh (E0 := [(0, _), (1, _), (2, _)]) (N := 15) Tryz.func143 rfl rfl rfl rfl ?_
  refine qP <| qD rfl <| qo <| qB rfl <| qB rfl <| q9 (j2 rfl rfl) <| qB rfl <| qY (s := 10) rfl (fun hg1_3 => ?_) (fun hg1_3 => ?_)
  ·
   refine qE rfl rfl (qM rfl) <| qE rfl rfl (qM rfl) <| qE rfl rfl (Kh rfl rfl) <| q9 (qk rfl rfl) <| qD rfl <| qF <| qz <| wF L (.inl rfl) rfl (qu rfl) ?_
   exact ⟨by simp [*], rfl⟩
  ·
   refine qN rfl rfl rfl <| qN rfl rfl rfl <| qN rfl rfl rfl <| q9 (qU rfl rfl) <| qD rfl <| qF <| qz <| wF L (.inl rfl) rfl (qu rfl) ?_
   exact ⟨by simp [*], rfl⟩
theorem Yv (x : Ino) (hx : x.Ok) : FnT Tryz.prog w0 120 #[.agg (yM x).toArray] F (fun v L' => v = .bool true ∧ L' = F) := by
  refine qh (E0 := [(0, _)]) (N := 6) Tryz.func120 rfl rfl rfl rfl ?_
  refine qP <| qG (wq rfl) ?_
  rintro t1 _ ⟨b1, rfl, rfl⟩
  refine qD rfl <| qo <| q9 (qA rfl) <| q9 (qH rfl rfl) <| q9 (wJ rfl (VJ x.kind 1 2)) <| qD rfl <| qF <| qz <| wF F (.inl rfl) rfl (qu rfl) ?_
  exact ⟨by rw [decide_eq_true hx.kind], rfl⟩
theorem jB {x : Ino} (h : x.Ok) : (yM x).length = 15 := by simp [yM, h.len]
theorem Ku (x : Ino) : (yM x).all (·.oneCell') = true := by simp [yM, iV, Value.oneCell']
def Zx (x : Ino) (h : x.Ok) : Sec := xB 2 (jf x) (by rw [QF h]; omega) (by omega) (XS x)
theorem write_ok (x : Ino) (hx : x.Ok) : FnT Tryz.prog w0 148 #[.int .u8 2, .agg (yM x).toArray, .func (.func 119) #[] #[], .func (.func 120) #[] #[]] F
    (fun v L' => v = .tuple #[.agg (ww (Zx x hx)).toArray, .int .i64 0] ∧ L' = F) := by
  refine qh (E0 := [(0, _), (1, _), (2, _), (3, _)]) (N := 35) Tryz.func148 rfl rfl rfl rfl ?_
  refine qP <| qG (wq rfl) ?_
  rintro t5 _ ⟨b5, rfl, rfl⟩
  refine qG (qn) ?_
  rintro t8 _ ⟨b8, rfl, rfl⟩
  refine qD rfl <| qo <| q9 (kQ rfl Tryz.underlying264 rfl (fun _ _ => ⟨_, inferInstance⟩) (fun _ _ h => by cases h)) ?_
  refine qG (wq rfl) ?_
  rintro t12 _ ⟨b12, rfl, rfl⟩
  refine qD rfl <| qF <| qO <| qP <| qB rfl <| q9 (wS rfl (jB hx)) <| q9 (kX rfl rfl (Z0 (first := []) (captured := []) (Yv x hx))) <| q9 (kN rfl) <| qF <| wU rfl <| qZ <| qI <| qO <| qP <| qB rfl <| qB rfl <| q9 (jd rfl Tryz.underlying262 rfl) <| qG (kX rfl rfl (Z0 (first := []) (captured := []) (ku [(b12, .cells [.slice none 0 0, .bool false].toArray 264 (0, 0))] [] [(b5, .cells (yM x).toArray 168 (0, 0))] (pass_ok b12 b5 x hx)))) ?_
  rintro t21 _ ⟨u, C, rfl, hs, rfl⟩
  refine qF <| qO ?_
  rw [← QF hx] at hs
  obtain ⟨q, c, rfl⟩ := hs.slice
  unfold wrc
  refine qK <| qB rfl <| q9 (qQ rfl) <| q9 (qA rfl) <| q9 (qH rfl rfl) <| qF <| wU rfl <| qZ <| qI <| qP <| qB rfl <| qB rfl <| q9 (qQ rfl) <| q9 (qA rfl) <| q9 (qH rfl rfl) <| qG (qx rfl (Vr 2 (jf x) q c (by rw [QF hx]; omega) (by omega) (XS x) (fun e => by subst e; rcases hs with ⟨-, h, -⟩ | ⟨_, _, _, h, _⟩; exact h; cases h) (fun A => j6 hs))) ?_
  rintro t32 _ ⟨rfl, rfl⟩
  refine q9 (qi rfl rfl) <| q9 (qi rfl rfl) <| qS (qq rfl rfl (by simp) (by simp) (by exact wt _)) ?_
  refine qD rfl <| qF <| qz <| wY F (.inl rfl) rfl (zX rfl (by first | exact zk _ | simp)) (qu rfl) ?_
  exact ⟨rfl, rfl⟩
theorem writeInode_ok (x : Ino) (hx : x.Ok) : FnT Tryz.prog w0 123 #[.agg (yM x).toArray] F (fun v L' => v = .tuple #[.agg (ww (Zx x hx)).toArray, .int .i64 0] ∧ L' = F) := by
  refine qh (E0 := [(0, _)]) (N := 8) Tryz.func123 rfl rfl rfl rfl ?_
  refine qP <| qG (wq rfl) ?_
  rintro t1 _ ⟨b1, rfl, rfl⟩
  refine qG (qn) ?_
  rintro t2 _ ⟨b2, rfl, rfl⟩
  refine qD rfl <| qo <| q9 (wS rfl (jB hx)) <| qG (qx rfl (write_ok x hx)) ?_
  rintro t5 _ ⟨rfl, rfl⟩
  refine q9 (qi rfl rfl) <| q9 (qi rfl rfl) <| qS (qq rfl rfl (by simp) (by simp) (by exact wt _)) ?_
  refine qD rfl <| qF <| qz <| wY F (.inl rfl) rfl (zX rfl (by first | exact zk _ | simp)) (qu rfl) ?_
  exact ⟨rfl, rfl⟩
def QI (p : Nat × Int) : List Value := [.int .i64 p.1, .int .i64 p.2]
def Yz (x : Ino) : List (Nat × Int) := [(2, x.num), (4, x.ver), (1, x.kind), (4, x.size), (4, x.time)]
def XR (x : Ino) : List (Nat × Int) := Yz x ++ x.d.map (fun a => (4, a)) ++ [(4, x.sg), (4, x.db)]
theorem inoF_len {x : Ino} (h : x.Ok) : (XR x).length = 15 := by simp [XR, Yz, h.len]
theorem fields_ok (x : Ino) (hx : x.Ok) : FnT Tryz.prog w0 125 #[.agg (yM x).toArray] F (fun v L' => ∃ C, SlC 247 2 v 15 ((XR x).flatMap QI) C ∧ L' = C :: F) := by
  have h13 := KJ hx.len
  have q1 := hx.num
  have q2 := hx.ver
  have q3 := hx.time
  refine qh (E0 := [(0, _)]) (N := 45) Tryz.func125 rfl rfl rfl rfl ?_
  refine qP <| qG (wq rfl) ?_
  rintro t1 _ ⟨b1, rfl, rfl⟩
  refine qD rfl <| qo <| q9 (qA rfl) <| q9 (qH rfl rfl) <| q9 (zJ rfl (by first | (simp only [IntKind.min, IntKind.max, IntKind.bits, IntKind.signed, Bool.false_eq_true, if_false, if_true]; omega))) ?_
  refine q9 (wa rfl) <| q9 (qA rfl) <| q9 (qH rfl rfl) <| q9 (zJ rfl (by first | (simp only [IntKind.min, IntKind.max, IntKind.bits, IntKind.signed, Bool.false_eq_true, if_false, if_true]; omega))) ?_
  refine q9 (wa rfl) <| q9 (qA rfl) <| q9 (qH rfl rfl) <| q9 (wa rfl) <| q9 (qA rfl) <| q9 (qH rfl rfl) <| q9 (wa rfl) <| q9 (qA rfl) <| q9 (qH rfl rfl) <| q9 (zJ rfl (by first | (simp only [IntKind.min, IntKind.max, IntKind.bits, IntKind.signed, Bool.false_eq_true, if_false, if_true]; omega))) ?_
  refine q9 (wa rfl) <| qG (wK rfl rfl rfl) ?_
  rintro t23 _ ⟨b23, rfl, rfl⟩
  refine qD rfl <| qF <| qO <| qP <| qD rfl <| qF <| qg <| wV (Γ := {pΓ : (Nat) × (Value) × (qV) // (fun (i : Nat) (u : Value) (C : qV) => i ≤ 8 ∧ SlC 247 2 u (5 + i) ((Yz x ++ (x.d.take i).map (fun a => (4, a))).flatMap QI) C) pΓ.1 pΓ.2.1 pΓ.2.2}) (fun g => (fun (i : Nat) (u : Value) (C : qV) => [(1, .pointer (some ⟨b1, 0, none⟩)), (3, u), (4, .int .i64 i)]) g.1.1 g.1.2.1 g.1.2.2) (fun g => (fun (i : Nat) (u : Value) (C : qV) => C :: [(b1, .cells (yM x).toArray 183 (0, 0))] :: F) g.1.1 g.1.2.1 g.1.2.2) (fun g => (fun (i : Nat) (u : Value) (C : qV) => 8 - i) g.1.1 g.1.2.1 g.1.2.2) ⟨(0, .slice (some ⟨b23, 0, none⟩) 5 5, [(b23, .cells ((Yz x).flatMap QI).toArray 247 (0, 0))]), by dsimp only; exact ⟨by omega, by rw [List.take_zero, List.map_nil, List.append_nil]; exact SlC.fresh rfl⟩⟩ (yW rfl) ?_
  rintro ⟨⟨i, u, C⟩, hloop⟩
  replace hloop : i ≤ 8 ∧ SlC 247 2 u (5 + i) ((Yz x ++ (x.d.take i).map (fun a => (4, a))).flatMap QI) C := hloop
  obtain ⟨hi, hsl⟩ := hloop
  show Tr _ _ _ ([(1, .pointer (some ⟨b1, 0, none⟩)), (3, u), (4, .int .i64 i)]) (C :: [(b1, .cells (yM x).toArray 183 (0, 0))] :: F) _ _
  refine qO <| qP <| qB rfl <| q9 (wL rfl rfl) <| qF <| qL rfl (fun hc3 => ?_) (fun hc3 => ?_)
  ·
   refine qZ <| qI <| qO <| qg ?_
   have hlt : i < x.d.length := by rw [hx.len]; omega
   obtain ⟨a, ha⟩ : ∃ a, x.d[i]? = some a := ⟨_, List.getElem?_eq_getElem hlt⟩
   refine qK <| qB rfl <| qB rfl <| q9 (qA rfl) <| q9 (wo (j := i) (off := 5 + i) rfl rfl rfl (by omega) (by simp)) ?_
   refine q9 (qH rfl (VW ha)) <| q9 (wa rfl) <| qG (wK rfl rfl rfl) ?_
   rintro t34 _ ⟨b34, rfl, rfl⟩
   refine qG (wg (m := 1) (sz := 2) rfl rfl hsl (wi (ys := QI (4, a)) inferInstance rfl rfl) rfl Tryz.underlying211 rfl rfl (by omega)) ?_
   rintro t35 _ ⟨C', hs', rfl⟩
   refine qD rfl <| qT <| qf <| qI <| qK <| qB rfl <| q9 (w9 rfl rfl (by omega)) <| qD rfl <| qT <| w5 ⟨(i + 1, t35, C'), ?_⟩ ?_ ?_
   · (try dsimp only); exact ⟨by omega, by rw [List.take_add_one, ha, Option.toList_some, List.map_append, ← List.append_assoc, List.flatMap_append]; exact hs'⟩
   · (try dsimp only); omega
   · (try dsimp only); exact qX _
  ·
   refine wb <| qr <| qt <| qj <| qI <| qP <| qB rfl <| q9 (qA rfl) <| q9 (qH rfl h13.1) <| q9 (wa rfl) <| q9 (qA rfl) <| q9 (qH rfl h13.2) <| q9 (wa rfl) <| qG (wK rfl rfl rfl) ?_
   rintro t43 _ ⟨b43, rfl, rfl⟩
   refine qG (wg (m := 2) (sz := 2) rfl rfl hsl (wi (ys := [(4, x.sg), (4, x.db)].flatMap QI) inferInstance rfl rfl) rfl Tryz.underlying211 rfl rfl (by omega)) ?_
   rintro t44 _ ⟨C', hs', rfl⟩
   refine qD rfl <| qF <| qz <| wF (C' :: F) (.inl rfl) rfl (qu rfl) ?_
   have hi8 : i = 8 := by omega
   subst hi8
   exact ⟨C', by rw [List.take_of_length_le (by rw [hx.len]; omega), ← List.flatMap_append] at hs'; exact hs', rfl⟩
theorem has_ok (w : Nat) (x : Int) (hw : 1 ≤ w ∧ w ≤ 8) (hx : 0 ≤ x ∧ x < 256 ^ w) (hx2 : x < 18446744073709551616) : FnT Tryz.prog w0 149 #[.int .i64 w, .int .u64 x] L (fun v L' => v = .bool true ∧ L' = L) := by
  refine qh (E0 := [(0, _), (1, _)]) (N := 21) Tryz.func149 rfl rfl rfl rfl ?_
  refine qP <| qD rfl <| qF <| qO <| qP <| qB rfl <| q9 (wL rfl rfl) <| qB rfl <| qY (s := 8) rfl (fun hg1_2 => ?_) (fun hg1_2 => ?_)
  · (exfalso; omega)
  ·
   refine qE rfl rfl (qM rfl) <| qE rfl rfl (y9 rfl rfl) <| q9 (qU rfl rfl) <| qF <| qL rfl (fun hc1 => ?_) (fun hc1 => ?_)
   · (exfalso; omega)
   ·
    refine qZ <| qI <| qO <| qP <| qD rfl <| qF <| qg <| wV (Γ := {pΓ : (Nat) × (Int) // (fun (i : Nat) (y : Int) => i ≤ w ∧ y = x / 256 ^ i) pΓ.1 pΓ.2}) (fun g => (fun (i : Nat) (y : Int) => [(0, .int .i64 w), (1, .int .u64 y), (5, .int .i64 i)]) g.1.1 g.1.2) (fun g => (fun (i : Nat) (y : Int) => L) g.1.1 g.1.2) (fun g => (fun (i : Nat) (y : Int) => w - i) g.1.1 g.1.2) ⟨(0, x), by dsimp only; exact ⟨by omega, by simp⟩⟩ (qX _) ?_
    rintro ⟨⟨i, y⟩, hloop⟩
    replace hloop : i ≤ w ∧ y = x / 256 ^ i := hloop
    obtain ⟨hi, hy⟩ := hloop
    show Tr _ _ _ ([(0, .int .i64 w), (1, .int .u64 y), (5, .int .i64 i)]) (L) _ _
    refine qO <| qP <| qB rfl <| qB rfl <| q9 (wL rfl rfl) <| qF <| qL rfl (fun hc4 => ?_) (fun hc4 => ?_)
    ·
     refine qZ <| qI <| qO <| qg ?_
     have hy0 : 0 ≤ y := by rw [hy]; exact Int.ediv_nonneg hx.1 (Int.le_of_lt (Int.pow_pos (by omega)))
     have hy1 : y ≤ x := by rw [hy]; exact Int.ediv_le_self _ hx.1
     refine qK <| qB rfl <| q9 (Kg rfl rfl hy0 (by omega) (by simp only [IntKind.max, IntKind.bits, IntKind.signed, Bool.false_eq_true, if_false]; omega)) ?_
     refine qD rfl <| qT <| qf <| qI <| qK <| qB rfl <| q9 (w9 rfl rfl (by omega)) <| qD rfl <| qT <| w5 ⟨(i + 1, y / 256), ?_⟩ ?_ ?_
     · (try dsimp only); exact ⟨by omega, by rw [hy, Int.pow_succ, Int.ediv_ediv_of_nonneg (Int.le_of_lt (Int.pow_pos (by omega)))]⟩
     · (try dsimp only); omega
     · (try dsimp only); exact qX _
    ·
     refine wb <| qr <| qt <| qj <| qI <| qP <| qB rfl <| q9 (wl rfl rfl) <| qD rfl <| qF <| qz <| zn (.inl rfl) rfl (qu rfl) ?_
     exact ⟨by rw [hy, show i = w from by omega, Int.ediv_eq_zero_of_lt hx.1 hx.2]; rfl, rfl⟩
def ye (fs : List (Nat × Int)) : List Int := fs.flatMap fun p => leI p.1 p.2
def Xc (p : Nat × Int) : Prop := 1 ≤ p.1 ∧ p.1 ≤ 8 ∧ 0 ≤ p.2 ∧ p.2 < 256 ^ p.1 ∧ p.2 < 9223372036854775808
theorem Jo (fs : List (Nat × Int)) : IsB (ye fs) := fun x hx => by
  obtain ⟨a, _, h⟩ := List.mem_flatMap.1 hx
  exact km _ _ x h
theorem QH (p : Nat × Int) : (QI p).length = 2 := rfl
theorem fieldsB_take {fs : List (Nat × Int)} {i : Nat} {p : Nat × Int} (h : fs[i]? = some p) : ye (fs.take (i + 1)) = ye (fs.take i) ++ leI p.1 p.2 := by
  unfold ye
  rw [List.take_add_one, h, Option.toList_some, List.flatMap_append, List.flatMap_singleton]
theorem fieldsB_le (fs : List (Nat × Int)) (i : Nat) : (ye (fs.take i)).length ≤ (ye fs).length := by
  conv => rhs; rw [← List.take_append_drop i fs]
  unfold ye
  rw [List.flatMap_append, List.length_append]; omega
theorem sealed_ok (k : Int) (fs : List (Nat × Int)) (u : Value) (n : Nat) (C : qV) (hk : 0 < k ∧ k < 256) (hf : ∀ p ∈ fs, Xc p) (hlen : fs.length = n) (hn : 0 < n ∧ n < 1000) (hb : (ye fs).length ≤ 120) (hs : SlC 247 2 u n (fs.flatMap QI) C) :
    FnT Tryz.prog w0 124 #[.int .u8 k, u] (C :: F) (fun v L' => v = .tuple #[.agg (ww (xB k (ye fs) hb (by omega) (Jo fs))).toArray, .bool true] ∧ L' = C :: F) := by
  rcases hs with ⟨-, h, -⟩ | ⟨b, cap, spare, rfl, hcs, rfl, hcap, hnc⟩
  · omega
  refine qh (E0 := [(0, _), (1, _)]) (N := 55) Tryz.func124 rfl rfl rfl rfl ?_
  refine qP <| qG (qn) ?_
  rintro t4 _ ⟨b4, rfl, rfl⟩
  refine qD rfl <| qo <| qD rfl <| qF <| qO <| qP <| qD rfl <| qF <| qg <| wV (Γ := {pΓ : (Nat) × (Value) × (qV) // (fun (i : Nat) (u : Value) (C : qV) => i ≤ n ∧ SlC 5 1 u (ye (fs.take i)).length (u8s (ye (fs.take i))) C) pΓ.1 pΓ.2.1 pΓ.2.2}) (fun g => (fun (i : Nat) (u : Value) (C : qV) => [(0, .int .u8 k), (1, .slice (some ⟨b, 0, none⟩) n cap), (4, .pointer (some ⟨b4, 0, none⟩)), (6, u), (7, .int .i64 i)]) g.1.1 g.1.2.1 g.1.2.2) (fun g => (fun (i : Nat) (u : Value) (C : qV) => C :: [(b4, .cells (ww Sec.zero).toArray 54 (0, 0))] :: [(b, .cells (fs.flatMap QI ++ spare).toArray 247 (0, 0))] :: F) g.1.1 g.1.2.1 g.1.2.2) (fun g => (fun (i : Nat) (u : Value) (C : qV) => n - i) g.1.1 g.1.2.1 g.1.2.2) ⟨(0, .slice none 0 0, []), by dsimp only; exact ⟨by omega, SlC.nil _ _⟩⟩ (qX _) ?_
  rintro ⟨⟨i, u, C⟩, hloop⟩
  replace hloop : i ≤ n ∧ SlC 5 1 u (ye (fs.take i)).length (u8s (ye (fs.take i))) C := hloop
  obtain ⟨hi, hsl⟩ := hloop
  show Tr _ _ _ ([(0, .int .u8 k), (1, .slice (some ⟨b, 0, none⟩) n cap), (4, .pointer (some ⟨b4, 0, none⟩)), (6, u), (7, .int .i64 i)]) (C :: [(b4, .cells (ww Sec.zero).toArray 54 (0, 0))] :: [(b, .cells (fs.flatMap QI ++ spare).toArray 247 (0, 0))] :: F) _ _
  refine qO <| qP <| qB rfl <| qB rfl <| q9 (wD rfl) <| q9 (wL rfl rfl) <| qF <| qL rfl (fun hc3 => ?_) (fun hc3 => ?_)
  ·
   refine qZ <| qI <| qO <| qg <| qO <| qO ?_
   have hlt : i < fs.length := by omega
   obtain ⟨p, hp⟩ : ∃ p, fs[i]? = some p := ⟨_, List.getElem?_eq_getElem hlt⟩
   obtain ⟨f1, f2, f3, f4, f5⟩ := hf p (List.mem_of_getElem? hp)
   have hle := fieldsB_le fs i
   refine wQ w8 <| wE [(14, .pure _), (15, .pure _)] (by kernel_rfl) rfl rfl rfl wd (qC rfl (fun X => qM rfl) <| qC rfl (fun X => qM rfl) <| ParH.nil rfl) ?_
   dsimp only [zQ, List.drop, List.length]
   refine qm (by kernel_rfl) (qw (j := i) (off := i * 2) rfl rfl rfl (by omega) (by omega)) ?_
   refine qm (by kernel_rfl) (w6 rfl) ?_
   refine qm (by kernel_rfl) (ze (j := i) (k := 1) QH rfl hp rfl rfl) ?_
   refine qm (by kernel_rfl) (wL rfl rfl) ?_
   refine qm (by kernel_rfl) (qM rfl) ?_
   refine zi (s := 20) rfl (fun hg5_6 => ?_) (fun hg5_6 => ?_)
   · (exfalso; omega)
   ·
    refine wE [(21, .pure _), (22, .pure _), (23, .pure _), (24, .pure _), (25, .pure _), (26, .pure _), (27, .pure _), (28, .pure _), (29, .pure _), (30, .pure _), (31, .pure _)] (by kernel_rfl) rfl rfl rfl wd (wH rfl rfl rfl (fun X => qM rfl) <| wH rfl rfl rfl (fun X => qM rfl) <| wH rfl rfl rfl (fun X => qw (j := i) (off := i * 2) rfl rfl rfl (by omega) (by omega)) <| wH rfl rfl rfl (fun X => w6 rfl) <| wH rfl rfl rfl (fun X => ze (j := i) (k := 0) QH rfl hp rfl rfl) <| wH rfl rfl rfl (fun X => qM rfl) <| wH rfl rfl rfl (fun X => qM rfl) <| wH rfl rfl rfl (fun X => qw (j := i) (off := i * 2) rfl rfl rfl (by omega) (by omega)) <| wH rfl rfl rfl (fun X => w6 rfl) <| wH rfl rfl rfl (fun X => ze (j := i) (k := 1) QH rfl hp rfl rfl) <| wH rfl rfl rfl (fun X => zJ rfl (by simp only [IntKind.min, IntKind.max, IntKind.bits, IntKind.signed, Bool.false_eq_true, if_false]; omega)) <| ParH.nil rfl) ?_
    dsimp only [zQ, List.drop, List.length]
    refine zm (by kernel_rfl) rfl rfl (wJ rfl (has_ok p.1 p.2 (by omega) ⟨f3, f4⟩ (by omega))) ?_
    refine zm (by kernel_rfl) rfl rfl (kN rfl) ?_
    refine qm (by kernel_rfl) (qU rfl rfl) ?_
    refine wI <| qI <| wU rfl <| qZ <| qI <| wQ w8 <| wE [(36, .pure _), (37, .pure _), (38, .pure _), (39, .pure _), (40, .pure _), (41, .pure _), (42, .pure _), (43, .pure _), (44, .pure _), (45, .pure _), (46, .pure _), (47, .pure _), (48, .act ([]) (fun v C => SlC 5 1 v p.1 (u8s (leI p.1 p.2)) C))] (by kernel_rfl) rfl rfl rfl (jT [[]] rfl) (qC rfl (fun X => qM rfl) <| qC rfl (fun X => qM rfl) <| qC rfl (fun X => qM rfl) <| qC rfl (fun X => qw (j := i) (off := i * 2) rfl rfl rfl (by omega) (by omega)) <| qC rfl (fun X => w6 rfl) <| qC rfl (fun X => ze (j := i) (k := 1) QH rfl hp rfl rfl) <| qC rfl (fun X => zJ rfl (by simp only [IntKind.min, IntKind.max, IntKind.bits, IntKind.signed, Bool.false_eq_true, if_false]; omega)) <| qC rfl (fun X => qM rfl) <| qC rfl (fun X => qM rfl) <| qC rfl (fun X => qw (j := i) (off := i * 2) rfl rfl rfl (by omega) (by omega)) <| qC rfl (fun X => w6 rfl) <| qC rfl (fun X => ze (j := i) (k := 0) QH rfl hp rfl rfl) <| jr rfl (fun X => OpT.mono (k8 (qx rfl (VT p.2 p.1 (by omega) (by omega))) (fun _ _ h => h) kP) (fun v L h => by obtain ⟨C, h1, h2⟩ := h; exact ⟨C, h1, h2⟩)) <| ParH.nil rfl) ?_
    rintro t48 C2 hs2
    dsimp only [zQ, List.drop, List.length]
    refine wu (by kernel_rfl) (wg (m := p.1) (sz := 1) rfl rfl hsl (j6 hs2) (xY _) Tryz.underlying23 rfl rfl (by omega)) ?_
    rintro t49 _ ⟨C', hs', rfl⟩
    refine qm (by kernel_rfl) (z8 rfl) ?_
    refine wI <| qf <| qI <| qK <| qB rfl <| q9 (w9 rfl rfl (by omega)) <| qD rfl <| qT <| w5 ⟨(i + 1, t49, C'), ?_⟩ ?_ ?_
    · (try dsimp only); exact ⟨by omega, by rw [fieldsB_take hp, List.length_append, ym, KG]; exact hs'⟩
    · (try dsimp only); omega
    · (try dsimp only); exact qX _
  ·
   refine wb <| qr <| qt <| qj <| qI <| qO ?_
   obtain rfl : i = fs.length := by omega
   rw [List.take_length] at hsl
   obtain ⟨q, c, rfl⟩ := hsl.slice
   refine qK <| qB rfl <| qB rfl <| qG (qx rfl (rmake_ok k (ye fs) q c hb (by omega) (Jo fs) (fun A => j6 hsl))) ?_
   rintro t52 _ ⟨rfl, rfl⟩
   refine q9 (qi rfl rfl) <| q9 (qi rfl rfl) <| qS (qq rfl rfl (by simp) (by simp) (by exact wt _)) ?_
   refine qD rfl <| qF <| qz <| wY ([(b, .cells (fs.flatMap QI ++ spare).toArray 247 (0, 0))] :: F) (.inl rfl) rfl (zX rfl (by first | exact zk _ | simp)) (qu rfl) ?_
   exact ⟨rfl, rfl⟩
theorem sealS_congr {k : Int} {a b : List Int} (e : a = b) (h1 : a.length ≤ 120) (h2 : b.length ≤ 120) (hk : 0 ≤ k ∧ k < 256) (b1 : IsB a) (b2 : IsB b) : xB k a h1 hk b1 = xB k b h2 hk b2 := by subst e; rfl
theorem ML (x : Ino) : ye (XR x) = jf x := by
  have h : ∀ d : List Int, ye (d.map fun a => ((4 : Nat), a)) = d.flatMap (leI 4) := by
    intro d; simp [ye, List.flatMap_map]
  have h2 : ye (XR x) = ye (Yz x) ++ ye (x.d.map fun a => ((4 : Nat), a)) ++ ye [(4, x.sg), (4, x.db)] := by simp only [XR, ye, List.flatMap_append]
  rw [h2, h]
  simp [jf, ZQ, Yz, ye]
theorem inoF_ok {x : Ino} (hx : x.Ok) : ∀ p ∈ XR x, Xc p := by
  intro p hp
  have e2 : (256 : Int) ^ 2 = 65536 := rfl
  have e4 : (256 : Int) ^ 4 = 4294967296 := rfl
  have e1 : (256 : Int) ^ 1 = 256 := rfl
  simp only [XR, Yz, List.mem_append, List.mem_map, List.mem_cons, List.not_mem_nil, or_false] at hp
  unfold Xc
  rcases hp with ((rfl | rfl | rfl | rfl | rfl) | ⟨a, ha, rfl⟩) | rfl | rfl
  · have := hx.num; dsimp only; rw [e2]; omega
  · have := hx.ver; dsimp only; rw [e4]; omega
  · have := hx.kind; dsimp only; rw [e1]; omega
  · have := hx.size; dsimp only; rw [e4]; omega
  · have := hx.time; dsimp only; rw [e4]; omega
  · have := hx.d a ha; dsimp only; rw [e4]; omega
  · have := hx.sg; dsimp only; rw [e4]; omega
  · have := hx.db; dsimp only; rw [e4]; omega
theorem rwriteInode_ok (x : Ino) (hx : x.Ok) : FnT Tryz.prog w0 103 #[.agg (yM x).toArray] F (fun v L' => v = .tuple #[.agg (ww (Zx x hx)).toArray, .bool true] ∧ L' = F) := by
  have hk := hx.kind
  refine qh (E0 := [(0, _)]) (N := 18) Tryz.func103 rfl rfl rfl rfl ?_
  refine qP <| qG (wq rfl) ?_
  rintro t1 _ ⟨b1, rfl, rfl⟩
  refine qG (qn) ?_
  rintro t2 _ ⟨b2, rfl, rfl⟩
  refine qD rfl <| qF <| qO <| qP <| q9 (qA rfl) <| q9 (qH rfl rfl) <| q9 (wL rfl rfl) <| qB rfl <| qY (s := 7) rfl (fun hg1_3 => ?_) (fun hg1_3 => ?_)
  · (exfalso; omega)
  ·
   refine qE rfl rfl (qA rfl) <| qE rfl rfl (qH rfl rfl) <| qE rfl rfl (y9 rfl rfl) <| q9 (qU rfl rfl) <| qF <| qL rfl (fun hc1 => ?_) (fun hc1 => ?_)
   · (exfalso; omega)
   ·
    refine qZ <| qI <| qP <| q9 (wS rfl (jB hx)) <| qG (qx rfl (fields_ok x hx)) ?_
    rintro t14 _ ⟨C, hs, rfl⟩
    refine qG (qx rfl (sealed_ok 2 (XR x) _ 15 C (by omega) (inoF_ok hx) (inoF_len hx) (by omega) (by rw [ML, QF hx]; omega) hs)) ?_
    rintro t15 _ ⟨rfl, rfl⟩
    refine q9 (qi rfl rfl) <| q9 (qi rfl rfl) <| qS (qq rfl rfl (by simp) (by simp) (by exact wt _)) ?_
    refine qD rfl <| qF <| qz <| wY F (.inl rfl) rfl (zX rfl (by first | exact zk _ | simp)) (qu rfl) ?_
    exact ⟨by rw [sealS_congr (ML x) _ (by rw [QF hx]; omega) _ _ (XS x)]; rfl, rfl⟩
def rdc (p : Nat) (u : Value) (a : Nat) : qV := [(p, .cells [u, .int .i64 a, .bool false].toArray 230 (0, 0))]
theorem Xn (p b a n c w q : Nat) (cs : List Value) (e : TypeId) (l : List Value) (bs : List Int) (hw : 1 ≤ w ∧ w ≤ 8) (han : a + w ≤ n) (hn : n ≤ 1000) (hbs : IsB bs) (hlen : bs.length = w) (hl : (l.drop a).take w = u8s bs) :
    FnT Tryz.prog w0 183 #[.pointer (some ⟨p, 0, none⟩), .int .i64 w, .pointer (some ⟨q, 0, none⟩)] (rdc p (.slice (some ⟨b, 0, none⟩) n c) a :: [(b, .cells l.toArray 5 (0, 0))] :: [(q, .cells [.int .u64 0].toArray e (0, 0))] :: F)
      (fun v L' => v = .tuple #[] ∧ L' = rdc p (.slice (some ⟨b, 0, none⟩) n c) (a + w) :: [(b, .cells l.toArray 5 (0, 0))] :: [(q, .cells [.int .u64 (deI bs)].toArray e (0, 0))] :: F) := by
  unfold rdc
  refine qh (E0 := [(0, _), (1, _), (2, _)]) (N := 43) Tryz.func183 rfl rfl rfl rfl ?_
  refine qO <| wQ w8 <| wE [(9, .pure _), (10, .pure _), (11, .pure _), (12, .pure _), (13, .pure _), (14, .pure _), (15, .pure _), (16, .pure _), (17, .pure _)] (by kernel_rfl) rfl rfl rfl wd (qC rfl (fun X => qM rfl) <| qC rfl (fun X => qQ rfl) <| qC rfl (fun X => qA rfl) <| qC rfl (fun X => qH rfl rfl) <| qC rfl (fun X => qM rfl) <| qC rfl (fun X => qQ rfl) <| qC rfl (fun X => qA rfl) <| qC rfl (fun X => qH rfl rfl) <| qC rfl (fun X => qM rfl) <| ParH.nil rfl) ?_
  dsimp only [zQ, List.drop, List.length]
  refine qm (by kernel_rfl) (wJ rfl (zS ([(b, .cells l.toArray 5 (0, 0))]) (MO b 0 n c 5 (0, 0) l bs a w (by omega) (by omega) hbs hlen (by rw [show 0 + (a : Int).toNat = a from by omega]; exact hl)))) ?_
  refine qm (by kernel_rfl) (qM rfl) ?_
  refine wE [(19, .pure _), (20, .pure _), (6, .pure _)] (by kernel_rfl) rfl rfl rfl wd (qC rfl (fun X => qi rfl rfl) <| qC rfl (fun X => qi rfl rfl) <| qC rfl (fun X => z8 rfl) <| ParH.nil rfl) ?_
  dsimp only [zQ, List.drop, List.length]
  refine qm (by kernel_rfl) (z8 rfl) ?_
  refine wI <| qI <| qP <| qB rfl <| qB rfl <| q9 (qQ rfl) <| qS (ws rfl rfl rfl) <| qo <| qB rfl <| qB rfl <| q9 (qQ rfl) <| q9 (qA rfl) <| q9 (qH rfl rfl) <| qB rfl <| y0 (s := 29) rfl (fun hg2_5 => ?_) (fun hg2_5 => ?_)
  · cases hg2_5
  ·
   refine qE rfl rfl (qM rfl) <| qE rfl rfl (wz rfl rfl) <| q9 (qU rfl rfl) <| q9 (qQ rfl) <| q9 (qA rfl) <| qS (ws rfl rfl rfl) <| qF <| qK <| qB rfl <| q9 (qQ rfl) <| q9 (qA rfl) <| q9 (qH rfl rfl) <| qB rfl <| q9 (w9 rfl rfl (by omega)) <| q9 (qQ rfl) <| q9 (qA rfl) <| qS (ws rfl rfl rfl) <| qT <| xk (.inr rfl) rfl  ?_
   exact ⟨rfl, rfl⟩
theorem Zm (p b a n c w ib off : Nat) (et : TypeId) (l li : List Value) (bs : List Int) (x : Int) (hw : 1 ≤ w ∧ w ≤ 8) (han : a + w ≤ n) (hn : n ≤ 1000) (hbs : IsB bs) (hlen : bs.length = w) (hx : deI bs = x) (hx2 : 0 ≤ x ∧ x < 9223372036854775808) (hl : (l.drop a).take w = u8s bs) (hoff : off < li.length) :
    FnT Tryz.prog w0 180 #[.pointer (some ⟨p, 0, none⟩), .int .i64 w, .pointer (some ⟨ib, off, none⟩)] (rdc p (.slice (some ⟨b, 0, none⟩) n c) a :: [(b, .cells l.toArray 5 (0, 0))] :: [(ib, .cells li.toArray et (0, 0))] :: F)
      (fun v L' => v = .tuple #[] ∧ L' = rdc p (.slice (some ⟨b, 0, none⟩) n c) (a + w) :: [(b, .cells l.toArray 5 (0, 0))] :: [(ib, .cells (li.set off (.int .i64 x)).toArray et (0, 0))] :: F) := by
  subst hx
  refine qh (E0 := [(0, _), (1, _), (2, _)]) (N := 14) Tryz.func180 rfl rfl rfl rfl ?_
  refine qP <| qG (qn) ?_
  rintro t6 _ ⟨b6, rfl, rfl⟩
  refine qo <| qB rfl <| qB rfl <| qG (qx rfl (ku (rdc p (.slice (some ⟨b, 0, none⟩) n c) a) ([(b, .cells l.toArray 5 (0, 0))]) ([(b6, .cells [Value.int .u64 0].toArray 199 (0, 0))]) (Xn p b a n c w b6 [] 199 l bs hw han hn hbs hlen hl))) ?_
  rintro t9 _ ⟨rfl, rfl⟩
  refine qF <| qK <| qB rfl <| q9 (qH rfl rfl) <| q9 (zJ rfl (by simp only [IntKind.min, IntKind.max, IntKind.bits, IntKind.signed, if_true]; omega)) ?_
  refine q9 (qQ rfl) <| qS (yA rfl rfl hoff rfl) <| qT <| kH (rdc p (.slice (some ⟨b, 0, none⟩) n c) (a + w) :: [(b, .cells l.toArray 5 (0, 0))] :: [(ib, .cells (li.set off (.int .i64 (deI bs))).toArray et (0, 0))] :: F) (.inr rfl) rfl  ?_
  exact ⟨rfl, rfl⟩
theorem KY (p b a n c w ib off : Nat) (et : TypeId) (l li : List Value) (bs : List Int) (x : Int) (hw : 1 ≤ w ∧ w ≤ 8) (han : a + w ≤ n) (hn : n ≤ 1000) (hbs : IsB bs) (hlen : bs.length = w) (hx : deI bs = x) (hx2 : 0 ≤ x ∧ x < 4294967296) (hl : (l.drop a).take w = u8s bs) (hoff : off < li.length) :
    FnT Tryz.prog w0 182 #[.pointer (some ⟨p, 0, none⟩), .int .i64 w, .pointer (some ⟨ib, off, none⟩)] (rdc p (.slice (some ⟨b, 0, none⟩) n c) a :: [(b, .cells l.toArray 5 (0, 0))] :: [(ib, .cells li.toArray et (0, 0))] :: F)
      (fun v L' => v = .tuple #[] ∧ L' = rdc p (.slice (some ⟨b, 0, none⟩) n c) (a + w) :: [(b, .cells l.toArray 5 (0, 0))] :: [(ib, .cells (li.set off (.int .u32 x)).toArray et (0, 0))] :: F) := by
  subst hx
  refine qh (E0 := [(0, _), (1, _), (2, _)]) (N := 14) Tryz.func182 rfl rfl rfl rfl ?_
  refine qP <| qG (qn) ?_
  rintro t6 _ ⟨b6, rfl, rfl⟩
  refine qo <| qB rfl <| qB rfl <| qG (qx rfl (ku (rdc p (.slice (some ⟨b, 0, none⟩) n c) a) ([(b, .cells l.toArray 5 (0, 0))]) ([(b6, .cells [Value.int .u64 0].toArray 199 (0, 0))]) (Xn p b a n c w b6 [] 199 l bs hw han hn hbs hlen hl))) ?_
  rintro t9 _ ⟨rfl, rfl⟩
  refine qF <| qK <| qB rfl <| q9 (qH rfl rfl) <| q9 (zJ rfl (by simp only [IntKind.min, IntKind.max, IntKind.bits, IntKind.signed, Bool.false_eq_true, if_false]; omega)) ?_
  refine q9 (qQ rfl) <| qS (yA rfl rfl hoff rfl) <| qT <| kH (rdc p (.slice (some ⟨b, 0, none⟩) n c) (a + w) :: [(b, .cells l.toArray 5 (0, 0))] :: [(ib, .cells (li.set off (.int .u32 (deI bs))).toArray et (0, 0))] :: F) (.inr rfl) rfl  ?_
  exact ⟨rfl, rfl⟩
theorem QR {pre m post : List Int} {sp : List Value} {a w : Nat} (h1 : pre.length = a) (h2 : m.length = w) : ((u8s (pre ++ m ++ post) ++ sp).drop a).take w = u8s m := by
  subst h1; subst h2
  rw [ym, ym, List.append_assoc, List.append_assoc, ← Z4 pre, List.drop_left, ← Z4 m, List.take_left]
theorem K0 {d : List Int} {i : Nat} {a : Int} (h : d[i]? = some a) : d.flatMap (leI 4) = (d.take i).flatMap (leI 4) ++ leI 4 a ++ (d.drop (i + 1)).flatMap (leI 4) := by
  have hlt := (List.getElem?_eq_some_iff.1 h).1
  have e : d = d.take i ++ a :: d.drop (i + 1) := by
    conv => lhs; rw [← List.take_append_drop i d]
    rw [List.drop_eq_getElem_cons hlt, (List.getElem?_eq_some_iff.1 h).2]
  conv => lhs; rw [e]
  rw [List.flatMap_append, List.flatMap_cons, List.append_assoc]
def MM : Ino := ⟨0, 0, 0, 0, 0, List.replicate 8 0, 0, 0⟩
theorem MD {y : Ino} {i : Nat} {a : Int} (h : i < y.d.length) : (yM y).set (5 + i) (.int .i64 a) = yM { y with d := y.d.set i a } := by
  have e : 5 + i = i + 1 + 1 + 1 + 1 + 1 := by omega
  rw [e]
  simp only [yM, List.set_cons_succ]
  rw [List.set_append_left _ _ (by simpa using h)]
  simp [iV, List.map_set]
theorem VX {d : List Int} {i : Nat} {a : Int} (h : d[i]? = some a) (hi : i < d.length) (h8 : i < 8) : (d.take i ++ List.replicate (8 - i) 0).set i a = d.take (i + 1) ++ List.replicate (8 - (i + 1)) 0 := by
  have e : 8 - i = (8 - (i + 1)) + 1 := by omega
  rw [List.set_append_right _ _ (by simp; omega), e, List.replicate_succ]
  have : i - (d.take i).length = 0 := by simp; omega
  rw [this, List.set_cons_zero, List.take_add_one, h, List.append_assoc]; rfl
theorem set_13 {y : Ino} {a : Int} (h : y.d.length = 8) : (yM y).set 13 (.int .i64 a) = yM { y with sg := a } := by
  simp only [yM, List.set_cons_succ]
  rw [List.set_append_right _ _ (by simp [h])]
  simp [h]
theorem set_14 {y : Ino} {a : Int} (h : y.d.length = 8) : (yM y).set 14 (.int .i64 a) = yM { y with db := a } := by
  simp only [yM, List.set_cons_succ]
  rw [List.set_append_right _ _ (by simp [h])]
  simp [h]
theorem rpass_ok (p ib b c : Nat) (sp : List Value) (x : Ino) (hx : x.Ok) :
    FnT Tryz.prog w0 119 #[.iface 228 (.pointer (some ⟨p, 0, none⟩)), .pointer (some ⟨ib, 0, none⟩)] (rdc p (.slice (some ⟨b, 0, none⟩) 55 c) 0 :: [(b, .cells (u8s (jf x) ++ sp).toArray 5 (0, 0))] :: [(ib, .cells (yM MM).toArray 168 (0, 0))] :: F)
      (fun v L' => v = .tuple #[] ∧ L' = rdc p (.slice (some ⟨b, 0, none⟩) 55 c) 55 :: [(b, .cells (u8s (jf x) ++ sp).toArray 5 (0, 0))] :: [(ib, .cells (yM x).toArray 168 (0, 0))] :: F) := by
  have e2 : (256 : Int) ^ 2 = 65536 := rfl
  have e4 : (256 : Int) ^ 4 = 4294967296 := rfl
  have e1 : (256 : Int) ^ 1 = 256 := rfl
  have q1 := hx.num
  have q2 := hx.ver
  have q3 := hx.kind
  have q4 := hx.size
  have q5 := hx.time
  have q6 := hx.sg
  have q7 := hx.db
  have q8 := hx.len
  have hB : jf x = leI 2 x.num ++ leI 4 x.ver ++ leI 1 x.kind ++ leI 4 x.size ++ leI 4 x.time ++ x.d.flatMap (leI 4) ++ leI 4 x.sg ++ leI 4 x.db := rfl
  have s1 : ((u8s (jf x) ++ sp).drop 0).take 2 = u8s (leI 2 x.num) := by
    rw [show jf x = [] ++ leI 2 x.num ++ (leI 4 x.ver ++ leI 1 x.kind ++ leI 4 x.size ++ leI 4 x.time ++ x.d.flatMap (leI 4) ++ leI 4 x.sg ++ leI 4 x.db) from by simp only [hB, List.append_assoc, List.nil_append]]; exact QR rfl (by simp)
  have s2 : ((u8s (jf x) ++ sp).drop (0 + 2)).take 4 = u8s (leI 4 x.ver) := by
    rw [show jf x = leI 2 x.num ++ leI 4 x.ver ++ (leI 1 x.kind ++ leI 4 x.size ++ leI 4 x.time ++ x.d.flatMap (leI 4) ++ leI 4 x.sg ++ leI 4 x.db) from by simp only [hB, List.append_assoc]]; exact QR (by simp) (by simp)
  have s3 : ((u8s (jf x) ++ sp).drop (0 + 2 + 4)).take 1 = u8s (leI 1 x.kind) := by
    rw [show jf x = (leI 2 x.num ++ leI 4 x.ver) ++ leI 1 x.kind ++ (leI 4 x.size ++ leI 4 x.time ++ x.d.flatMap (leI 4) ++ leI 4 x.sg ++ leI 4 x.db) from by simp only [hB, List.append_assoc]]; exact QR (by simp) (by simp)
  have s4 : ((u8s (jf x) ++ sp).drop (0 + 2 + 4 + 1)).take 4 = u8s (leI 4 x.size) := by
    rw [show jf x = (leI 2 x.num ++ leI 4 x.ver ++ leI 1 x.kind) ++ leI 4 x.size ++ (leI 4 x.time ++ x.d.flatMap (leI 4) ++ leI 4 x.sg ++ leI 4 x.db) from by simp only [hB, List.append_assoc]]; exact QR (by simp) (by simp)
  have s5 : ((u8s (jf x) ++ sp).drop (0 + 2 + 4 + 1 + 4)).take 4 = u8s (leI 4 x.time) := by
    rw [show jf x = (leI 2 x.num ++ leI 4 x.ver ++ leI 1 x.kind ++ leI 4 x.size) ++ leI 4 x.time ++ (x.d.flatMap (leI 4) ++ leI 4 x.sg ++ leI 4 x.db) from by simp only [hB, List.append_assoc]]; exact QR (by simp) (by simp)
  have s6 : ∀ (i : Nat) (a : Int), x.d[i]? = some a → ((u8s (jf x) ++ sp).drop (15 + 4 * i)).take 4 = u8s (leI 4 a) := by
    intro i a ha
    have hlt := (List.getElem?_eq_some_iff.1 ha).1
    rw [show jf x = (ZQ x ++ (x.d.take i).flatMap (leI 4)) ++ leI 4 a ++ ((x.d.drop (i + 1)).flatMap (leI 4) ++ leI 4 x.sg ++ leI 4 x.db) from by rw [jf, K0 ha]; simp only [List.append_assoc]]
    exact QR (by rw [List.length_append, Z8, xV, List.length_take]; omega) (by simp)
  have s7 : ((u8s (jf x) ++ sp).drop (15 + 4 * 8)).take 4 = u8s (leI 4 x.sg) := by
    rw [show jf x = (ZQ x ++ x.d.flatMap (leI 4)) ++ leI 4 x.sg ++ (leI 4 x.db) from by rw [jf]]
    exact QR (by rw [List.length_append, Z8, xV, q8]) (by simp)
  have s8 : ((u8s (jf x) ++ sp).drop (15 + 4 * 8 + 4)).take 4 = u8s (leI 4 x.db) := by
    rw [show jf x = (ZQ x ++ x.d.flatMap (leI 4) ++ leI 4 x.sg) ++ leI 4 x.db ++ [] from by rw [jf, List.append_nil]]
    exact QR (by rw [List.length_append, List.length_append, Z8, xV, q8]; simp) (by simp)
  refine qh (E0 := [(0, _), (1, _)]) (N := 75) Tryz.func119 rfl rfl rfl rfl ?_
  refine qO <| wQ w8 <| wE [(5, .pure _), (6, .pure _), (7, .pure _), (8, .pure _), (9, .pure _), (10, .pure _), (11, .pure _)] (by kernel_rfl) rfl rfl rfl wd (qC rfl (fun X => qM rfl) <| qC rfl (fun X => qM rfl) <| qC rfl (fun X => qQ rfl) <| qC rfl (fun X => qA rfl) <| qC rfl (fun X => wx rfl rfl) <| qC rfl (fun X => zu rfl (YX _)) <| qC rfl (fun X => qM rfl) <| ParH.nil rfl) ?_
  dsimp only [zQ, List.drop, List.length]
  refine wu (by kernel_rfl) (k9 rfl rfl (YX _) (KY p b 0 55 c 2 ib 0 168 _ _ _ x.num (by omega) (by omega) (by omega) (km _ _) (by simp) (Q2 2 _ q1.1 (by omega)) (by omega) s1 (by simp [yM]))) ?_
  rintro t12 _ ⟨rfl, rfl⟩
  refine wI <| qI <| qO <| wQ w8 <| wE [(13, .pure _), (14, .pure _), (15, .pure _), (16, .pure _), (17, .pure _), (18, .pure _), (19, .pure _)] (by kernel_rfl) rfl rfl rfl wd (qC rfl (fun X => qM rfl) <| qC rfl (fun X => qM rfl) <| qC rfl (fun X => qQ rfl) <| qC rfl (fun X => qA rfl) <| qC rfl (fun X => wx rfl rfl) <| qC rfl (fun X => zu rfl (YX _)) <| qC rfl (fun X => qM rfl) <| ParH.nil rfl) ?_
  dsimp only [zQ, List.drop, List.length]
  refine wu (by kernel_rfl) (k9 rfl rfl (YX _) (KY p b (0 + 2) 55 c 4 ib 1 168 _ _ _ x.ver (by omega) (by omega) (by omega) (km _ _) (by simp) (Q2 4 _ q2.1 (by omega)) (by omega) s2 (by simp [yM]))) ?_
  rintro t20 _ ⟨rfl, rfl⟩
  refine wI <| qI <| qO <| wQ w8 <| wE [(21, .pure _), (22, .pure _), (23, .pure _), (24, .pure _), (25, .pure _), (26, .pure _), (27, .pure _)] (by kernel_rfl) rfl rfl rfl wd (qC rfl (fun X => qM rfl) <| qC rfl (fun X => qM rfl) <| qC rfl (fun X => qQ rfl) <| qC rfl (fun X => qA rfl) <| qC rfl (fun X => wx rfl rfl) <| qC rfl (fun X => zu rfl (ZP _)) <| qC rfl (fun X => qM rfl) <| ParH.nil rfl) ?_
  dsimp only [zQ, List.drop, List.length]
  refine wu (by kernel_rfl) (k9 rfl rfl (ZP _) (Zm p b (0 + 2 + 4) 55 c 1 ib 2 168 _ _ _ x.kind (by omega) (by omega) (by omega) (km _ _) (by simp) (Q2 1 _ (by omega) (by omega)) (by omega) s3 (by simp [yM]))) ?_
  rintro t28 _ ⟨rfl, rfl⟩
  refine wI <| qI <| qO <| wQ w8 <| wE [(29, .pure _), (30, .pure _), (31, .pure _), (32, .pure _), (33, .pure _), (34, .pure _), (35, .pure _)] (by kernel_rfl) rfl rfl rfl wd (qC rfl (fun X => qM rfl) <| qC rfl (fun X => qM rfl) <| qC rfl (fun X => qQ rfl) <| qC rfl (fun X => qA rfl) <| qC rfl (fun X => wx rfl rfl) <| qC rfl (fun X => zu rfl (ZP _)) <| qC rfl (fun X => qM rfl) <| ParH.nil rfl) ?_
  dsimp only [zQ, List.drop, List.length]
  refine wu (by kernel_rfl) (k9 rfl rfl (ZP _) (Zm p b (0 + 2 + 4 + 1) 55 c 4 ib 3 168 _ _ _ x.size (by omega) (by omega) (by omega) (km _ _) (by simp) (Q2 4 _ q4.1 (by omega)) (by omega) s4 (by simp [yM]))) ?_
  rintro t36 _ ⟨rfl, rfl⟩
  refine wI <| qI <| qO <| wQ w8 <| wE [(37, .pure _), (38, .pure _), (39, .pure _), (40, .pure _), (41, .pure _), (42, .pure _), (43, .pure _)] (by kernel_rfl) rfl rfl rfl wd (qC rfl (fun X => qM rfl) <| qC rfl (fun X => qM rfl) <| qC rfl (fun X => qQ rfl) <| qC rfl (fun X => qA rfl) <| qC rfl (fun X => wx rfl rfl) <| qC rfl (fun X => zu rfl (YX _)) <| qC rfl (fun X => qM rfl) <| ParH.nil rfl) ?_
  dsimp only [zQ, List.drop, List.length]
  refine wu (by kernel_rfl) (k9 rfl rfl (YX _) (KY p b (0 + 2 + 4 + 1 + 4) 55 c 4 ib 4 168 _ _ _ x.time (by omega) (by omega) (by omega) (km _ _) (by simp) (Q2 4 _ q5.1 (by omega)) (by omega) s5 (by simp [yM]))) ?_
  rintro t44 _ ⟨rfl, rfl⟩
  refine wI <| qI <| qO <| qP <| qB rfl <| qF <| qg <| wV (Γ := {pΓ : (Nat) // (fun (i : Nat) => i ≤ 8) pΓ}) (fun g => (fun (i : Nat) => [(0, .iface 228 (.pointer (some ⟨p, 0, none⟩))), (1, .pointer (some ⟨ib, 0, none⟩)), (45, .int .i64 i)]) g.1) (fun g => (fun (i : Nat) => rdc p (.slice (some ⟨b, 0, none⟩) 55 c) (15 + 4 * i) :: [(b, .cells (u8s (jf x) ++ sp).toArray 5 (0, 0))] :: [(ib, .cells (yM { x with d := x.d.take i ++ List.replicate (8 - i) 0, sg := 0, db := 0 }).toArray 168 (0, 0))] :: F) g.1) (fun g => (fun (i : Nat) => 8 - i) g.1) ⟨0, by dsimp only; exact (by omega)⟩ (yW rfl) ?_
  rintro ⟨i, hloop⟩
  replace hloop : i ≤ 8 := hloop
  obtain hi := hloop
  show Tr _ _ _ ([(0, .iface 228 (.pointer (some ⟨p, 0, none⟩))), (1, .pointer (some ⟨ib, 0, none⟩)), (45, .int .i64 i)]) (rdc p (.slice (some ⟨b, 0, none⟩) 55 c) (15 + 4 * i) :: [(b, .cells (u8s (jf x) ++ sp).toArray 5 (0, 0))] :: [(ib, .cells (yM { x with d := x.d.take i ++ List.replicate (8 - i) 0, sg := 0, db := 0 }).toArray 168 (0, 0))] :: F) _ _
  refine qP <| q9 (wL rfl rfl) <| qF <| qO <| qL rfl (fun hc6 => ?_) (fun hc6 => ?_)
  ·
   refine qZ <| qI <| qO <| qg <| qP <| qB rfl <| qD rfl <| qT <| qI ?_
   have hlt : i < x.d.length := by rw [q8]; omega
   obtain ⟨a, ha⟩ : ∃ a, x.d[i]? = some a := ⟨_, List.getElem?_eq_getElem hlt⟩
   have hab := hx.d a (List.mem_of_getElem? ha)
   refine wQ w8 <| wE [(48, .pure _), (49, .pure _), (50, .pure _), (51, .pure _), (52, .pure _), (53, .pure _), (54, .pure _), (55, .pure _), (56, .pure _)] (by kernel_rfl) rfl rfl rfl wd (qC rfl (fun X => qM rfl) <| qC rfl (fun X => qM rfl) <| qC rfl (fun X => qM rfl) <| qC rfl (fun X => qQ rfl) <| qC rfl (fun X => qA rfl) <| qC rfl (fun X => wo (j := i) (off := 5 + i) rfl rfl rfl (by omega) (by simp)) <| qC rfl (fun X => wx rfl rfl) <| qC rfl (fun X => zu rfl (ZP _)) <| qC rfl (fun X => qM rfl) <| ParH.nil rfl) ?_
   dsimp only [zQ, List.drop, List.length]
   refine wu (by kernel_rfl) (k9 rfl rfl (ZP _) (Zm p b (15 + 4 * i) 55 c 4 ib (5 + i) 168 _ _ _ a (by omega) (by omega) (by omega) (km _ _) (by simp) (Q2 4 _ hab.1 (by omega)) (by omega) (s6 i a ha) (by simp [yM]; omega))) ?_
   rintro t57 _ ⟨rfl, rfl⟩
   refine wI <| qf <| qI <| qK <| q9 (w9 rfl rfl (by omega)) <| qB rfl <| qT <| w5 ⟨i + 1, ?_⟩ ?_ ?_
   · (try dsimp only); omega
   · (try dsimp only); omega
   · (try dsimp only); exact yW (by rw [MD (by simp; omega)]; dsimp only; rw [VX ha (by omega) (by omega)]; rfl)
  ·
   refine wb <| qr <| qt <| qj <| qI <| qO ?_
   obtain rfl : i = 8 := by omega
   rw [show ({ x with d := x.d.take 8 ++ List.replicate (8 - 8) 0, sg := 0, db := 0 } : Ino) = { x with sg := 0, db := 0 } from by simp [List.take_of_length_le (Nat.le_of_eq q8)]]
   refine wQ w8 <| wE [(59, .pure _), (60, .pure _), (61, .pure _), (62, .pure _), (63, .pure _), (64, .pure _), (65, .pure _)] (by kernel_rfl) rfl rfl rfl wd (qC rfl (fun X => qM rfl) <| qC rfl (fun X => qM rfl) <| qC rfl (fun X => qQ rfl) <| qC rfl (fun X => qA rfl) <| qC rfl (fun X => wx rfl rfl) <| qC rfl (fun X => zu rfl (ZP _)) <| qC rfl (fun X => qM rfl) <| ParH.nil rfl) ?_
   dsimp only [zQ, List.drop, List.length]
   refine wu (by kernel_rfl) (k9 rfl rfl (ZP _) (Zm p b (15 + 4 * 8) 55 c 4 ib 13 168 _ _ _ x.sg (by omega) (by omega) (by omega) (km _ _) (by simp) (Q2 4 _ q6.1 (by omega)) (by omega) s7 (by simp [yM, q8]))) ?_
   rintro t66 _ ⟨rfl, rfl⟩
   refine wI <| qI ?_
   rw [set_13 (by exact q8)]
   refine wQ w8 <| wE [(67, .pure _), (68, .pure _), (69, .pure _), (70, .pure _), (71, .pure _), (72, .pure _), (73, .pure _)] (by kernel_rfl) rfl rfl rfl wd (qC rfl (fun X => qM rfl) <| qC rfl (fun X => qM rfl) <| qC rfl (fun X => qQ rfl) <| qC rfl (fun X => qA rfl) <| qC rfl (fun X => wx rfl rfl) <| qC rfl (fun X => zu rfl (ZP _)) <| qC rfl (fun X => qM rfl) <| ParH.nil rfl) ?_
   dsimp only [zQ, List.drop, List.length]
   refine wu (by kernel_rfl) (k9 rfl rfl (ZP _) (Zm p b (15 + 4 * 8 + 4) 55 c 4 ib 14 168 _ _ _ x.db (by omega) (by omega) (by omega) (km _ _) (by simp) (Q2 4 _ q7.1 (by omega)) (by omega) s8 (by simp [yM, q8]))) ?_
   rintro t74 _ ⟨rfl, rfl⟩
   refine wI <| xk (.inr rfl) rfl  ?_
   rw [set_14 (by exact q8)]; exact ⟨rfl, rfl⟩
instance (priority := high) : TyZero Tryz.prog 168 (.agg (yM MM).toArray) := .of (by kernel_rfl)
theorem Wq : (yM MM).length = 15 := by decide
theorem read_spec (x : Ino) (hx : x.Ok) : FnT Tryz.prog w0 118 #[.int .u8 2, .agg (ww (Zx x hx)).toArray, .func (.func 119) #[] #[], .func (.func 120) #[] #[]] F
    (fun v L' => v = .tuple #[.agg (yM x).toArray, .int .i64 0] ∧ L' = F) := by
  refine qh (E0 := [(0, _), (1, _), (2, _), (3, _)]) (N := 58) Tryz.func118 rfl rfl rfl rfl ?_
  refine qP <| qG (wq rfl) ?_
  rintro t5 _ ⟨b5, rfl, rfl⟩
  refine qG (qn) ?_
  rintro t8 _ ⟨b8, rfl, rfl⟩
  refine qD rfl <| qo <| qG (qn) ?_
  rintro t10 _ ⟨b10, rfl, rfl⟩
  refine qG (qn) ?_
  rintro t11 _ ⟨b11, rfl, rfl⟩
  refine qo <| q9 (wS rfl (by simp)) ?_
  refine qG (qx rfl (open_ok 2 (jf x) (by rw [QF hx]; omega) (by omega) (XS x))) ?_
  rintro t18 _ ⟨u, C, rfl, hs, rfl⟩
  refine qB rfl <| q9 (qi rfl rfl) <| q9 (qi rfl rfl) <| q9 (qi rfl rfl) <| qD rfl <| qD rfl <| qD rfl <| qT ?_
  rw [QF hx] at hs
  rcases hs with ⟨-, h, -⟩ | ⟨b, cap, spare, rfl, hcs, rfl, hcap, hnc⟩
  · omega
  refine qI <| qO <| qP <| qB rfl <| q9 (wz rfl rfl) <| qB rfl <| qY (s := 24) rfl (fun hg3_2 => ?_) (fun hg3_2 => ?_)
  · exact absurd rfl hg3_2
  ·
   refine qE rfl rfl (qM rfl) <| qE rfl rfl (qM rfl) <| qE rfl rfl (wz rfl rfl) <| q9 (qU rfl rfl) <| qF <| qL rfl (fun hc3 => ?_) (fun hc3 => ?_)
   · exact absurd rfl hc3
   ·
    refine qZ <| qI <| qP <| qB rfl <| q9 (wa rfl) <| qG (wq rfl) ?_
    rintro t32 _ ⟨b32, rfl, rfl⟩
    refine qD rfl <| qF <| qO <| qP <| qB rfl <| qB rfl <| q9 (jd rfl Tryz.underlying228 rfl) <| qG (kX rfl rfl (Z0 (first := []) (captured := []) (ku [(b32, .cells [.slice (some ⟨b, 0, none⟩) 55 cap, .int .i64 0, .bool false].toArray 230 (0, 0))] [(b, .cells (u8s (jf x) ++ spare).toArray 5 (0, 0))] [(b10, .cells (yM MM).toArray 168 (0, 0))] (rpass_ok b32 b10 b cap spare x hx)))) ?_
    rintro t36 _ ⟨rfl, rfl⟩
    refine qF <| qO ?_
    unfold rdc
    refine qK <| qB rfl <| q9 (qQ rfl) <| q9 (qA rfl) <| q9 (qH rfl rfl) <| qB rfl <| y0 (s := 41) rfl (fun hg7_4 => ?_) (fun hg7_4 => ?_)
    · cases hg7_4
    ·
     refine qE rfl rfl (qM rfl) <| qE rfl rfl (qQ rfl) <| qE rfl rfl (qA rfl) <| qE rfl rfl (qH rfl rfl) <| qE rfl rfl (qM rfl) <| qE rfl rfl (wD rfl) <| qE rfl rfl (wz rfl rfl) <| q9 (qU rfl rfl) <| qB rfl <| qY (s := 50) rfl (fun hg7_13 => ?_) (fun hg7_13 => ?_)
     · exact absurd rfl hg7_13
     ·
      refine qE rfl rfl (qM rfl) <| qE rfl rfl (wS rfl (jB hx)) <| qE rfl rfl (kX rfl rfl (Z0 (first := []) (captured := []) (Yv x hx))) <| qE rfl rfl (kN rfl) <| q9 (qU rfl rfl) <| qF <| wU rfl <| qZ <| qI <| qP <| q9 (wS rfl (jB hx)) <| qS (qq rfl rfl Wq (jB hx) (Ku x)) <| qD rfl <| qF <| qz <| wY F (.inl rfl) rfl (zX rfl (jB hx)) (qu rfl) ?_
      exact ⟨rfl, rfl⟩
theorem readInode_ok (x : Ino) (hx : x.Ok) : FnT Tryz.prog w0 91 #[.agg (ww (Zx x hx)).toArray] F (fun v L' => v = .tuple #[.agg (yM x).toArray, .int .i64 0] ∧ L' = F) := by
  refine qh (E0 := [(0, _)]) (N := 8) Tryz.func91 rfl rfl rfl rfl ?_
  refine qP <| qG (wq rfl) ?_
  rintro t1 _ ⟨b1, rfl, rfl⟩
  refine qG (qn) ?_
  rintro t2 _ ⟨b2, rfl, rfl⟩
  refine qD rfl <| qo <| q9 (wS rfl (by simp)) ?_
  refine qG (qx rfl (read_spec x hx)) ?_
  rintro t5 _ ⟨rfl, rfl⟩
  refine q9 (qi rfl rfl) <| q9 (qi rfl rfl) <| qS (qq rfl rfl Wq (jB hx) (Ku x)) <| qD rfl <| qF <| qz <| wY F (.inl rfl) rfl (zX rfl (jB hx)) (qu rfl) ?_
  exact ⟨rfl, rfl⟩
structure jk (l : List Int) : Prop where
  len : l.length = 32
  rng : ∀ a ∈ l, 0 ≤ a ∧ a ≤ 65535
def xC (l : List Int) (h : jk l) : Sec := ⟨l.flatMap (leI 4), by rw [xV, h.len], Vy l⟩
theorem Ky {l : List Int} {i : Nat} {a : Int} (h : l[i]? = some a) : wX (iV l) i = some (.int .i64 a) := by rw [zK]; simp [iV, h]
theorem xH (l : List Int) : (iV l).all (·.oneCell') = true := by simp [iV, Value.oneCell']
def ZH (l : List Int) (i : Nat) : List Int := (l.take i).flatMap (leI 4)
theorem Xu {l : List Int} {i : Nat} (h : i ≤ l.length) : (ZH l i).length = 4 * i := by rw [ZH, xV, List.length_take]; omega
theorem JW {l : List Int} {i : Nat} {a : Int} (ha : l[i]? = some a) : ZH l (i + 1) = ZH l i ++ leI 4 a := by
  rw [ZH, List.take_add_one, ha, Option.toList_some, List.flatMap_append, List.flatMap_singleton]; rfl
theorem Wn_next {l : List Int} {i : Nat} {a : Int} {s : Sec} {h : 4 * i + (leI 4 a).length ≤ 128} {hb} (hw : Wn s (ZH l i)) (ha : l[i]? = some a) (hi : i ≤ l.length) : Wn (s.put (4 * i) (leI 4 a) h hb) (ZH l (i + 1)) := by
  have hl := Xu hi
  have := hw.put (m := leI 4 a) (by rw [hl]; exact h) hb
  rw [JW ha]
  have e : s.put (4 * i) (leI 4 a) h hb = s.put (ZH l i).length (leI 4 a) (by rw [hl]; exact h) hb := by
    apply YK; show Qc _ _ _ = Qc _ _ _; rw [hl]
  rw [e]; exact this
theorem writePointers_ok (l : List Int) (h : jk l) : FnT Tryz.prog w0 122 #[.agg (iV l).toArray] F (fun v L' => v = .tuple #[.agg (ww (xC l h)).toArray, .int .i64 0] ∧ L' = F) := by
  have hlen := h.len
  refine qh (E0 := [(0, _)]) (N := 22) Tryz.func122 rfl rfl rfl rfl ?_
  refine qP <| qG (wq rfl) ?_
  rintro t1 _ ⟨b1, rfl, rfl⟩
  refine qG (qn) ?_
  rintro t2 _ ⟨b2, rfl, rfl⟩
  refine qD rfl <| qo <| qG (qn) ?_
  rintro t4 _ ⟨b4, rfl, rfl⟩
  refine qF <| qO <| qP <| q9 (wS rfl (by simp [hlen])) ?_
  refine qB rfl <| qF <| qg <| wV (Γ := {pΓ : (Nat) × (Sec) // (fun (i : Nat) (s : Sec) => i ≤ 32 ∧ Wn s (ZH l i)) pΓ.1 pΓ.2}) (fun g => (fun (i : Nat) (s : Sec) => [(2, .pointer (some ⟨b2, 0, none⟩)), (4, .pointer (some ⟨b4, 0, none⟩)), (7, .agg (iV l).toArray), (8, .int .i64 i)]) g.1.1 g.1.2) (fun g => (fun (i : Nat) (s : Sec) => wr b4 s (4 * i) :: [(b2, .cells (ww Sec.zero).toArray 55 (0, 0))] :: [(b1, .cells (iV l).toArray 175 (0, 0))] :: F) g.1.1 g.1.2) (fun g => (fun (i : Nat) (s : Sec) => 32 - i) g.1.1 g.1.2) ⟨(0, Sec.zero), by dsimp only; exact ⟨by omega, Wn.zero⟩⟩ (yW rfl) ?_
  rintro ⟨⟨i, s⟩, hloop⟩
  replace hloop : i ≤ 32 ∧ Wn s (ZH l i) := hloop
  obtain ⟨hi, hw⟩ := hloop
  show Tr _ _ _ ([(2, .pointer (some ⟨b2, 0, none⟩)), (4, .pointer (some ⟨b4, 0, none⟩)), (7, .agg (iV l).toArray), (8, .int .i64 i)]) (wr b4 s (4 * i) :: [(b2, .cells (ww Sec.zero).toArray 55 (0, 0))] :: [(b1, .cells (iV l).toArray 175 (0, 0))] :: F) _ _
  refine qP <| q9 (wL rfl rfl) <| qF <| qO <| qL rfl (fun hc3 => ?_) (fun hc3 => ?_)
  ·
   refine qZ <| qI <| qO <| qg <| qO ?_
   have hlt : i < l.length := by omega
   obtain ⟨a, ha⟩ : ∃ a, l[i]? = some a := ⟨_, List.getElem?_eq_getElem hlt⟩
   have hab := h.rng a (List.mem_of_getElem? ha)
   refine qK <| q9 (Jc (j := i) rfl rfl rfl (by omega) (Ky ha)) <| qD rfl <| qF <| qO <| qP <| qB rfl <| q9 (wJ rfl (VJ a 0 65535)) ?_
   rw [decide_eq_true hab]
   refine q9 (kN rfl) <| qF <| wU rfl <| qZ <| qI <| qK <| qB rfl <| q9 (zJ rfl (by first | (simp only [IntKind.min, IntKind.max, IntKind.bits, IntKind.signed, Bool.false_eq_true, if_false, if_true]; omega))) ?_
   refine qG (qx rfl (xr b4 s (4 * i) a 4 (by omega) (by have : (256 : Int) ^ 4 = 4294967296 := rfl; omega))) ?_
   rintro t17 _ ⟨rfl, rfl⟩
   refine qT <| qf <| qI <| qK <| q9 (w9 rfl rfl (by omega)) <| qB rfl <| qT <| w5 ⟨(i + 1, s.put (4 * i) (leI 4 a) (by simp; omega) (km _ _)), ?_⟩ ?_ ?_
   · (try dsimp only); exact ⟨by omega, Wn_next hw ha (by omega)⟩
   · (try dsimp only); omega
   · (try dsimp only); exact qX _
  ·
   refine wb <| qr <| qt <| qj <| qI <| qO ?_
   obtain rfl : i = 32 := by omega
   obtain rfl : s = xC l h := by apply YK; rw [hw, Xu (by omega), show ZH l 32 = l.flatMap (leI 4) from by rw [ZH, List.take_of_length_le (by omega)]]; simp [xC]
   refine qK <| qG (qx rfl (WR b4 _ _)) ?_
   rintro t19 _ ⟨rfl, rfl⟩
   refine q9 (qi rfl rfl) <| q9 (qi rfl rfl) <| qS (qq rfl rfl (by simp) (by simp) (by exact wt _)) ?_
   refine qD rfl <| qF <| qz <| wY F (.inl rfl) rfl (zX rfl (by first | exact zk _ | simp)) (qu rfl) ?_
   exact ⟨rfl, rfl⟩
theorem ptr_sub {l : List Int} (h : jk l) {i : Nat} {a : Int} (ha : l[i]? = some a) : Sec.sub (xC l h) (4 * i) 4 = leI 4 a := by
  have hlt := (List.getElem?_eq_some_iff.1 ha).1
  show ((l.flatMap (leI 4)).drop (4 * i)).take 4 = _
  rw [K0 ha]
  have e1 : 4 * i = ((l.take i).flatMap (leI 4)).length := by rw [xV, List.length_take]; omega
  rw [List.append_assoc, e1, List.drop_left]
  have : (leI 4 a ++ (l.drop (i + 1)).flatMap (leI 4)).take (leI 4 a).length = leI 4 a := List.take_left
  rwa [KG] at this
theorem Vw {l : List Int} {i n : Nat} {x : Int} (hx : l[i]? = some x) (hn : i < n) :
    (iV (l.take i) ++ List.replicate (n - i) (Value.int .i64 0)).set (0 + i * 1) (.int .i64 x) = iV (l.take (i + 1)) ++ List.replicate (n - (i + 1)) (Value.int .i64 0) := by
  have hlt := (List.getElem?_eq_some_iff.1 hx).1
  have e : n - i = (n - (i + 1)) + 1 := by omega
  have h := V3 (a := iV (l.take i)) (k := n - (i + 1)) (z := Value.int .i64 0) (v := .int .i64 x)
  rw [iV_len, List.length_take, show min i l.length = i from by omega] at h
  rw [e, show 0 + i * 1 = i from by omega, h, List.take_add_one, hx]
  simp [iV]
theorem readPointers_ok (l : List Int) (h : jk l) : FnT Tryz.prog w0 121 #[.agg (ww (xC l h)).toArray] F (fun v L' => v = .tuple #[.agg (iV l).toArray, .int .i64 0] ∧ L' = F) := by
  have hlen := h.len
  refine qh (E0 := [(0, _)]) (N := 24) Tryz.func121 rfl rfl rfl rfl ?_
  refine qP <| qG (wq rfl) ?_
  rintro t1 _ ⟨b1, rfl, rfl⟩
  refine qG (qn) ?_
  rintro t2 _ ⟨b2, rfl, rfl⟩
  refine qD rfl <| qo <| qG (qn) ?_
  rintro t4 _ ⟨b4, rfl, rfl⟩
  refine qo <| q9 (wS rfl (by simp)) ?_
  refine qG (qx rfl (Vh _)) ?_
  rintro t9 _ ⟨p, rfl, rfl⟩
  refine qD rfl <| qF <| qO <| qP <| qB rfl <| qF <| qg <| wV (Γ := {pΓ : (Nat) // (fun (i : Nat) => i ≤ 32) pΓ}) (fun g => (fun (i : Nat) => [(2, .pointer (some ⟨b2, 0, none⟩)), (4, .pointer (some ⟨b4, 0, none⟩)), (5, .pointer (some ⟨p, 0, none⟩)), (10, .int .i64 i)]) g.1) (fun g => (fun (i : Nat) => rd p (xC l h) (4 * i) :: [(b4, .cells (iV (l.take i) ++ List.replicate (32 - i) (Value.int .i64 0)).toArray 175 (0, 0))] :: [(b2, .cells (List.replicate 32 (Value.int .i64 0)).toArray 175 (0, 0))] :: [(b1, .cells (ww (xC l h)).toArray 55 (0, 0))] :: F) g.1) (fun g => (fun (i : Nat) => 32 - i) g.1) ⟨0, by dsimp only; exact (by omega)⟩ (yW rfl) ?_
  rintro ⟨i, hloop⟩
  replace hloop : i ≤ 32 := hloop
  obtain hi := hloop
  show Tr _ _ _ ([(2, .pointer (some ⟨b2, 0, none⟩)), (4, .pointer (some ⟨b4, 0, none⟩)), (5, .pointer (some ⟨p, 0, none⟩)), (10, .int .i64 i)]) (rd p (xC l h) (4 * i) :: [(b4, .cells (iV (l.take i) ++ List.replicate (32 - i) (Value.int .i64 0)).toArray 175 (0, 0))] :: [(b2, .cells (List.replicate 32 (Value.int .i64 0)).toArray 175 (0, 0))] :: [(b1, .cells (ww (xC l h)).toArray 55 (0, 0))] :: F) _ _
  refine qP <| q9 (wL rfl rfl) <| qF <| qO <| qL rfl (fun hc4 => ?_) (fun hc4 => ?_)
  ·
   refine qZ <| qI <| qO <| qg <| qO ?_
   have hlt : i < l.length := by omega
   obtain ⟨a, ha⟩ : ∃ a, l[i]? = some a := ⟨_, List.getElem?_eq_getElem hlt⟩
   have hab := h.rng a (List.mem_of_getElem? ha)
   refine qK <| qB rfl <| qD rfl <| qo <| qB rfl <| qG (qx rfl (xu p (xC l h) (4 * i) 4 (by omega))) ?_
   rintro t14 _ ⟨rfl, rfl⟩
   refine qD rfl <| qF <| qO <| qO ?_
   rw [ptr_sub h ha, Q2 4 a hab.1 (by have : (256 : Int) ^ 4 = 4294967296 := rfl; omega)]
   refine qK <| qB rfl <| q9 (j2 rfl rfl) <| qF <| qL rfl (fun hc7 => ?_) (fun hc7 => ?_)
   · (exfalso; omega)
   ·
    refine qZ <| qI <| qK <| qB rfl <| qB rfl <| q9 (zJ rfl (by first | (simp only [IntKind.min, IntKind.max, IntKind.bits, IntKind.signed, Bool.false_eq_true, if_false, if_true]; omega))) ?_
    refine q9 (wo (j := i) rfl rfl rfl (by omega) rfl) <| qS (yA rfl rfl (by simp; omega) rfl) ?_
    refine qT <| qf <| qI <| qK <| q9 (w9 rfl rfl (by omega)) <| qB rfl <| qT <| w5 ⟨i + 1, ?_⟩ ?_ ?_
    · (try dsimp only); omega
    · (try dsimp only); omega
    · (try dsimp only); exact yW (by rw [Vw ha (by omega)]; rfl)
  ·
   refine wb <| qr <| qt <| qj <| qI <| qO ?_
   obtain rfl : i = 32 := by omega
   rw [List.take_of_length_le (by omega : l.length ≤ 32), Nat.sub_self, List.replicate_zero, List.append_nil]
   refine qK <| q9 (wS rfl (by simp [hlen])) ?_
   refine qS (qq rfl rfl (by simp) (by simp [hlen]) (by exact xH _)) ?_
   refine qD rfl <| qF <| qz <| wY F (.inl rfl) rfl (zX rfl (by simp [hlen])) (qu rfl) ?_
   exact ⟨rfl, rfl⟩
theorem rwritePointers_ok (l : List Int) (h : jk l) : FnT Tryz.prog w0 104 #[.agg (iV l).toArray] F (fun v L' => v = .tuple #[.agg (ww (xC l h)).toArray, .bool true] ∧ L' = F) := by
  have hlen := h.len
  refine qh (E0 := [(0, _)]) (N := 30) Tryz.func104 rfl rfl rfl rfl ?_
  refine qP <| qG (wq rfl) ?_
  rintro t1 _ ⟨b1, rfl, rfl⟩
  refine qG (qn) ?_
  rintro t2 _ ⟨b2, rfl, rfl⟩
  refine qD rfl <| qo <| qD rfl <| qF <| qO <| qP <| qD rfl <| qF <| qg <| wV (Γ := {pΓ : (Nat) × (Value) × (qV) // (fun (i : Nat) (u : Value) (C : qV) => i ≤ 32 ∧ SlC 5 1 u (4 * i) (u8s (ZH l i)) C) pΓ.1 pΓ.2.1 pΓ.2.2}) (fun g => (fun (i : Nat) (u : Value) (C : qV) => [(1, .pointer (some ⟨b1, 0, none⟩)), (2, .pointer (some ⟨b2, 0, none⟩)), (4, u), (5, .int .i64 i)]) g.1.1 g.1.2.1 g.1.2.2) (fun g => (fun (i : Nat) (u : Value) (C : qV) => C :: [(b2, .cells (ww Sec.zero).toArray 54 (0, 0))] :: [(b1, .cells (iV l).toArray 175 (0, 0))] :: F) g.1.1 g.1.2.1 g.1.2.2) (fun g => (fun (i : Nat) (u : Value) (C : qV) => 32 - i) g.1.1 g.1.2.1 g.1.2.2) ⟨(0, .slice none 0 0, []), by dsimp only; exact ⟨by omega, SlC.nil _ _⟩⟩ (qX _) ?_
  rintro ⟨⟨i, u, C⟩, hloop⟩
  replace hloop : i ≤ 32 ∧ SlC 5 1 u (4 * i) (u8s (ZH l i)) C := hloop
  obtain ⟨hi, hsl⟩ := hloop
  show Tr _ _ _ ([(1, .pointer (some ⟨b1, 0, none⟩)), (2, .pointer (some ⟨b2, 0, none⟩)), (4, u), (5, .int .i64 i)]) (C :: [(b2, .cells (ww Sec.zero).toArray 54 (0, 0))] :: [(b1, .cells (iV l).toArray 175 (0, 0))] :: F) _ _
  refine qO <| qP <| qB rfl <| q9 (wL rfl rfl) <| qF <| qL rfl (fun hc3 => ?_) (fun hc3 => ?_)
  ·
   refine qZ <| qI <| qO <| qg <| qO <| qO ?_
   have hlt : i < l.length := by omega
   obtain ⟨a, ha⟩ : ∃ a, l[i]? = some a := ⟨_, List.getElem?_eq_getElem hlt⟩
   have hab := h.rng a (List.mem_of_getElem? ha)
   refine qK <| qB rfl <| q9 (wo (j := i) (off := i) rfl rfl rfl (by omega) (by omega)) <| q9 (qH rfl (Ky ha)) <| q9 (wL rfl rfl) <| qB rfl <| qY (s := 14) rfl (fun hg5_4 => ?_) (fun hg5_4 => ?_)
   · (exfalso; omega)
   ·
    refine qE rfl rfl (qM rfl) <| qE rfl rfl (wo (j := i) (off := i) rfl rfl rfl (by omega) (by omega)) <| qE rfl rfl (qH rfl (Ky ha)) <| qE rfl rfl (y9 rfl rfl) <| q9 (qU rfl rfl) <| qF <| qL rfl (fun hc5 => ?_) (fun hc5 => ?_)
    · (exfalso; omega)
    ·
     refine qZ <| qI <| qK <| qB rfl <| qB rfl <| q9 (wo (j := i) (off := i) rfl rfl rfl (by omega) (by omega)) <| q9 (qH rfl (Ky ha)) <| q9 (zJ rfl (by first | (simp only [IntKind.min, IntKind.max, IntKind.bits, IntKind.signed, Bool.false_eq_true, if_false, if_true]; omega))) ?_
     refine qG (qx rfl (VT a 4 (by omega) (by omega))) ?_
     rintro t26 _ ⟨C2, hs2, rfl⟩
     refine qG (wg (m := 4) (sz := 1) rfl rfl hsl (j6 hs2) (xY _) Tryz.underlying23 rfl rfl (by omega)) ?_
     rintro t27 _ ⟨C', hs', rfl⟩
     refine qD rfl <| qT <| qf <| qI <| qK <| qB rfl <| q9 (w9 rfl rfl (by omega)) <| qD rfl <| qT <| w5 ⟨(i + 1, t27, C'), ?_⟩ ?_ ?_
     · (try dsimp only); exact ⟨by omega, by rw [JW ha, ym]; exact hs'⟩
     · (try dsimp only); omega
     · (try dsimp only); exact qX _
  ·
   refine wb <| qr <| qt <| qj <| qI <| qO ?_
   obtain rfl : i = 32 := by omega
   replace hsl : SlC 5 1 u 128 (ww (xC l h)) C := by rw [show ZH l 32 = l.flatMap (leI 4) from by rw [ZH, List.take_of_length_le (by omega)]] at hsl; exact hsl
   rcases hsl with ⟨-, hn, -⟩ | ⟨b3, cap3, spare3, rfl, hcs3, rfl, hcap3, hnc3⟩
   · exact absurd hn (by decide)
   refine qK <| qB rfl <| q9 (wJ rfl (zS ([(b3, .cells (ww (xC l h) ++ spare3).toArray 5 (0, 0))]) (Vx b3 128 cap3 5 0 (0, 0) (ww (xC l h) ++ spare3) (xC l h) (by rw [List.drop_zero, List.take_append_of_le_length (by simp), List.take_of_length_le (by simp)])))) ?_
   refine qS (qq rfl rfl (by simp) (by simp) (by exact wt _)) ?_
   refine qD rfl <| qF <| qz <| wY F (.inl rfl) rfl (zX rfl (by first | exact zk _ | simp)) (qu rfl) ?_
   exact ⟨rfl, rfl⟩
end
end Go.Proofs.YtjikpomndbkfgaaGreatDoor
namespace Go.Nd
def kq : Nat → Int → Int → List (Int × Int × Int)
  | 0, _, _ => []
  | k + 1, a, e => if a < e then (a / 128, a % 128, min 128 (a % 128 + e - a)) :: kq k (a + (min 128 (a % 128 + e - a) - a % 128)) e else []
def j3 (a n : Int) : List (Int × Int × Int) := kq n.toNat a (a + n)
theorem jG {k : Nat} {a e : Int} (h : e ≤ a) : kq k a e = [] := by
  cases k with
  | zero => rfl
  | succ k => unfold kq; rw [if_neg (by omega)]
theorem Yg : ∀ (k k' : Nat) (a e : Int), (e - a).toNat ≤ k → (e - a).toNat ≤ k' → kq k a e = kq k' a e := by
  intro k
  induction k with
  | zero => intro k' a e h h'; rw [jG (by omega), jG (by omega)]
  | succ k ih =>
    intro k' a e h h'
    cases k' with
    | zero => rw [jG (by omega), jG (by omega)]
    | succ k' =>
      unfold kq
      split
      · rename_i hlt
        congr 1
        exact ih k' _ _ (by omega) (by omega)
      · rfl
theorem cutF_step {a e : Int} (h : a < e) : kq (e - a).toNat a e = (a / 128, a % 128, min 128 (a % 128 + e - a)) :: kq (e - a).toNat (a + (min 128 (a % 128 + e - a) - a % 128)) e := by
  obtain ⟨k, hk⟩ : ∃ k, (e - a).toNat = k + 1 := ⟨(e - a).toNat - 1, by omega⟩
  rw [hk]
  conv => lhs; unfold kq
  rw [if_pos h]
  congr 1
  exact Yg _ _ _ _ (by omega) (by omega)
def xI (l : List (Int × Int × Int)) (i : Int) : List (Int × Int × Int) :=
  match l.getLast? with
  | some p => if p.1 = i / 128 then l.dropLast ++ [(p.1, p.2.1, p.2.2 + 1)] else l ++ [(i / 128, i % 128, i % 128 + 1)]
  | none => [(i / 128, i % 128, i % 128 + 1)]
theorem cutF_push : ∀ (k : Nat) (a e : Int), (e + 1 - a).toNat ≤ k → a ≤ e → kq k a (e + 1) = xI (kq k a e) e := by
  intro k
  induction k with
  | zero => intro a e h hle; omega
  | succ k ih =>
    intro a e h hle
    by_cases he : a = e
    · subst he
      rw [jG (Int.le_refl _)]
      unfold kq xI
      rw [if_pos (by omega)]
      have : min 128 (a % 128 + (a + 1) - a) = a % 128 + 1 := by omega
      rw [this, jG (by omega)]
      rfl
    · have hlt : a < e := by omega
      by_cases hsame : a / 128 = e / 128
      · -- one piece
        have h1 : kq (k + 1) a e = [(a / 128, a % 128, a % 128 + e - a)] := by
          unfold kq
          rw [if_pos hlt]
          have : min 128 (a % 128 + e - a) = a % 128 + e - a := by omega
          rw [this, jG (by omega)]
        have h2 : kq (k + 1) a (e + 1) = [(a / 128, a % 128, a % 128 + e - a + 1)] := by
          unfold kq
          rw [if_pos (by omega)]
          have : min 128 (a % 128 + (e + 1) - a) = a % 128 + e - a + 1 := by omega
          rw [this, jG (by omega)]
        rw [h1, h2]
        simp [xI, hsame]
      · have m1 : min 128 (a % 128 + e - a) = 128 := by omega
        have m2 : min 128 (a % 128 + (e + 1) - a) = 128 := by omega
        have h3 := ih (a + (128 - a % 128)) e (by omega) (by omega)
        unfold kq
        rw [if_pos hlt, if_pos (by omega), m1, m2, h3]
        unfold xI
        cases hl : (kq k (a + (128 - a % 128)) e).getLast? with
        | none =>
          have : kq k (a + (128 - a % 128)) e = [] := by simpa using hl
          rw [this]
          simp [hsame]
        | some p =>
          have hne : kq k (a + (128 - a % 128)) e ≠ [] := fun h => by rw [h] at hl; cases hl
          have : ((a / 128, a % 128, 128) :: kq k (a + (128 - a % 128)) e).getLast? = some p := by
            rw [List.getLast?_cons]; simp [hl]
          rw [this]
          simp only
          split
          · rw [List.dropLast_cons_of_ne_nil hne]; rfl
          · rfl
theorem cutL_zero (a : Int) : j3 a 0 = [] := rfl
theorem cutL_push {a n : Int} (hn : 0 ≤ n) : j3 a (n + 1) = xI (j3 a n) (a + n) := by
  unfold j3
  rw [show a + (n + 1) = a + n + 1 from by omega, cutF_push _ _ _ (by omega) (by omega)]
  congr 1
  exact Yg _ _ _ _ (by omega) (by omega)
theorem cutF_len : ∀ (k : Nat) (a e : Int), (kq k a e).length ≤ k := by
  intro k
  induction k with
  | zero => intro a e; exact Nat.le_refl _
  | succ k ih =>
    intro a e
    unfold kq
    split
    · have := ih (a + (min 128 (a % 128 + e - a) - a % 128)) e; simp; omega
    · simp
theorem J2 (a n : Int) : (j3 a n).length ≤ n.toNat := cutF_len _ _ _
def kK : List (Int × Int × Int) → Int
  | [] => 0
  | q :: l => (q.2.2 - q.2.1) + kK l
theorem cutF_sum : ∀ (k : Nat) (a e : Int), (e - a).toNat ≤ k → a ≤ e → kK (kq k a e) = e - a := by
  intro k
  induction k with
  | zero => intro a e h1 h2; simp [kq, kK]; omega
  | succ k ih =>
    intro a e h1 h2
    unfold kq
    split
    · simp only [kK]
      rw [ih _ _ (by omega) (by omega)]; omega
    · simp [kK]; omega
theorem V8 {a n : Int} (h : 0 ≤ n) : kK (j3 a n) = n := by
  unfold j3; rw [cutF_sum _ _ _ (by omega) (by omega)]; omega
theorem cutF_rng : ∀ (k : Nat) (a e : Int), 0 ≤ a → ∀ p ∈ kq k a e, 0 ≤ p.1 ∧ 128 * p.1 ≤ e ∧ 0 ≤ p.2.1 ∧ p.2.1 < p.2.2 ∧ p.2.2 ≤ 128 ∧ a ≤ 128 * p.1 + p.2.1 ∧ 128 * p.1 + p.2.2 ≤ e := by
  intro k
  induction k with
  | zero => intro a e _ p hp; cases hp
  | succ k ih =>
    intro a e ha p hp
    unfold kq at hp
    split at hp
    · rcases List.mem_cons.1 hp with rfl | hp
      · dsimp only; omega
      · have := ih _ e (by omega) p hp
        omega
    · cases hp
theorem Qw {a n : Int} (ha : 0 ≤ a) {p} (hp : p ∈ j3 a n) : 0 ≤ p.1 ∧ 128 * p.1 ≤ a + n ∧ 0 ≤ p.2.1 ∧ p.2.1 < p.2.2 ∧ p.2.2 ≤ 128 ∧ a ≤ 128 * p.1 + p.2.1 ∧ 128 * p.1 + p.2.2 ≤ a + n := cutF_rng _ _ _ ha p hp
theorem cutPush_set {l : List (Int × Int × Int)} {p} {i : Int} (hp : l[l.length - 1]? = some p) (h : p.1 = i / 128) : l.set (l.length - 1) (p.1, p.2.1, p.2.2 + 1) = xI l i := by
  have hl : l.getLast? = some p := by rw [List.getLast?_eq_getElem?]; exact hp
  have hne : l ≠ [] := fun h => by rw [h] at hl; cases hl
  unfold xI
  rw [hl]
  dsimp only
  rw [if_pos h]
  obtain ⟨l', q, rfl⟩ : ∃ l' q, l = l' ++ [q] := ⟨l.dropLast, l.getLast hne, (List.dropLast_concat_getLast hne).symm⟩
  simp
theorem K2 {l : List (Int × Int × Int)} {i : Int} (h : ∀ p, l[l.length - 1]? = some p → p.1 ≠ i / 128) : l ++ [(i / 128, i % 128, i % 128 + 1)] = xI l i := by
  unfold xI
  cases hl : l.getLast? with
  | none =>
    have : l = [] := by simpa using hl
    rw [this]; rfl
  | some p =>
    have := h p (by rw [← hl, List.getLast?_eq_getElem?])
    dsimp only
    rw [if_neg this]
def wW (i : Int) : Int × Int × Int :=
  if i < 0 then (0, 0, 0) else if i < 8 then (0, 0, i) else if i < 40 then (1, 0, i - 8) else if i < 1064 then (2, (i - 40) / 32, (i - 40) % 32) else (0, 0, 0)
def xO (i : Int) : Int := if i < 0 then 1 else if i < 1064 then 0 else 12
def zf (n : Int) : Int := if n ≤ 0 then 0 else (n - 1) / 128 + 1
end Go.Nd
namespace Go.Proofs.YtjikpomndbkfgaaGreatDoor
open Go Go.Sx Go.Nd
set_option maxRecDepth 10000
section
variable {w0 : World} {L F : Res}
def kJ (p : Int × Int × Int) : List Value := [.int .i64 p.1, .int .i64 p.2.1, .int .i64 p.2.2]
theorem blocks_spec (n : Int) (hn : n ≤ 9223372036854775807) : FnT Tryz.prog w0 40 #[.int .i64 n] L (fun v L' => v = .int .i64 (zf n) ∧ L' = L) := by
  refine qh (E0 := [(0, _)]) (N := 9) Tryz.func40 rfl rfl rfl rfl ?_
  refine qP <| qD rfl <| qF <| qO <| qP <| qB rfl <| q9 (Kh rfl rfl) <| qF <| qL rfl (fun hc1 => ?_) (fun hc1 => ?_)
  ·
   refine qP <| qD rfl <| qF <| qz <| w7 <| zn (.inl rfl) rfl (qu rfl) ?_
   exact ⟨by unfold zf; rw [if_pos hc1], rfl⟩
  ·
   refine qZ <| qI <| qP <| qB rfl <| q9 (y1 rfl rfl (by omega)) <| q9 (jU rfl rfl (by omega)) <| q9 (w9 rfl rfl (by omega)) <| qD rfl <| qF <| qz <| zn (.inl rfl) rfl (qu rfl) ?_
   exact ⟨by unfold zf; rw [if_neg hc1], rfl⟩
theorem Vp (i : Int) (hn : -9223372036854775808 ≤ i ∧ i ≤ 9223372036854775807) : FnT Tryz.prog w0 87 #[.int .i64 i] L (fun v L' => v = .tuple #[xW (wW i), .int .i64 (xO i)] ∧ L' = L) := by
  refine qh (E0 := [(0, _)]) (N := 30) Tryz.func87 rfl rfl rfl rfl ?_
  refine qP <| qG (qn) ?_
  rintro t2 _ ⟨b2, rfl, rfl⟩
  refine qD rfl <| qF <| qO <| qg <| qP <| qB rfl <| q9 (wL rfl rfl) <| qD rfl <| qF <| qL rfl (fun hc1 => ?_) (fun hc1 => ?_)
  ·
   refine qP <| q9 (kQ rfl Tryz.underlying160 rfl (fun _ _ => ⟨_, inferInstance⟩) (fun _ _ h => by cases h)) ?_
   refine qS (wj rfl rfl rfl rfl) <| qD rfl <| qF <| qz <| wN <| w7 <| wY L (.inl rfl) rfl (za rfl) (qu rfl) ?_
   exact ⟨by simp [wW, xO, xW, *], rfl⟩
  ·
   refine qP <| qB rfl <| q9 (wL rfl rfl) <| qD rfl <| qF <| qL rfl (fun hc3 => ?_) (fun hc3 => ?_)
   ·
    refine qP <| qB rfl <| q9 (wa rfl) <| qS (wj rfl rfl rfl rfl) <| qD rfl <| qF <| qz <| wN <| w7 <| wY L (.inl rfl) rfl (za rfl) (qu rfl) ?_
    have h1064 : i < 1064 := by omega
    exact ⟨by simp [wW, xO, xW, *], rfl⟩
   ·
    refine qP <| qB rfl <| q9 (wL rfl rfl) <| qD rfl <| qF <| qL rfl (fun hc5 => ?_) (fun hc5 => ?_)
    ·
     refine qP <| qB rfl <| q9 (y1 rfl rfl (by omega)) <| q9 (wa rfl) <| qS (wj rfl rfl rfl rfl) <| qD rfl <| qF <| qz <| wN <| w7 <| wY L (.inl rfl) rfl (za rfl) (qu rfl) ?_
     have h1064 : i < 1064 := by omega
     exact ⟨by simp [wW, xO, xW, *], rfl⟩
    ·
     refine qP <| qB rfl <| q9 (wL rfl rfl) <| qD rfl <| qF <| qL rfl (fun hc7 => ?_) (fun hc7 => ?_)
     ·
      refine qP <| qB rfl <| q9 (y1 rfl rfl (by omega)) <| q9 (jU rfl rfl (by omega)) <| qB rfl <| q9 (y1 rfl rfl (by omega)) <| q9 (xD rfl rfl (by omega) (by omega)) <| q9 (wa rfl) <| qS (wj rfl rfl rfl rfl) <| qD rfl <| qF <| qz <| wN <| w7 <| wY L (.inl rfl) rfl (za rfl) (qu rfl) ?_
      exact ⟨by simp [wW, xO, xW, *], rfl⟩
     ·
      refine qZ <| qf <| qI <| qP <| q9 (kQ rfl Tryz.underlying160 rfl (fun _ _ => ⟨_, inferInstance⟩) (fun _ _ h => by cases h)) ?_
      refine qS (wj rfl rfl rfl rfl) <| qD rfl <| qF <| qz <| wY L (.inl rfl) rfl (za rfl) (qu rfl) ?_
      exact ⟨by simp [wW, xO, xW, *], rfl⟩
theorem Kc (i : Int) (hn : -9223372036854775808 ≤ i ∧ i ≤ 9223372036854775807) : FnT Tryz.prog w0 72 #[.int .i64 i] L (fun v L' => v = .tuple #[xW (wW i), .int .i64 (xO i)] ∧ L' = L) := by
  refine qh (E0 := [(0, _)]) (N := 26) Tryz.func72 rfl rfl rfl rfl ?_
  refine qP <| qG (qn) ?_
  rintro t2 _ ⟨b2, rfl, rfl⟩
  refine qD rfl <| qF <| qO <| qP <| qB rfl <| q9 (wL rfl rfl) <| qF <| qL rfl (fun hc1 => ?_) (fun hc1 => ?_)
  ·
   refine qP <| q9 (kQ rfl Tryz.underlying143 rfl (fun _ _ => ⟨_, inferInstance⟩) (fun _ _ h => by cases h)) ?_
   refine qS (wj rfl rfl rfl rfl) <| qD rfl <| qF <| qz <| w7 <| wY L (.inl rfl) rfl (za rfl) (qu rfl) ?_
   exact ⟨by simp only [wW, xO, xW]; repeat (first | rw [if_pos (by omega)] | rw [if_neg (by omega)]), rfl⟩
  ·
   refine qZ <| qI <| qO <| qP <| qB rfl <| q9 (j2 rfl rfl) <| qF <| qL rfl (fun hc3 => ?_) (fun hc3 => ?_)
   ·
    refine qP <| q9 (kQ rfl Tryz.underlying143 rfl (fun _ _ => ⟨_, inferInstance⟩) (fun _ _ h => by cases h)) ?_
    refine qS (wj rfl rfl rfl rfl) <| qD rfl <| qF <| qz <| w7 <| wY L (.inl rfl) rfl (za rfl) (qu rfl) ?_
    exact ⟨by simp only [wW, xO, xW]; repeat (first | rw [if_pos (by omega)] | rw [if_neg (by omega)]), rfl⟩
   ·
    refine qZ <| qI <| qO <| qP <| qB rfl <| q9 (wL rfl rfl) <| qF <| qL rfl (fun hc5 => ?_) (fun hc5 => ?_)
    ·
     refine qP <| qB rfl <| q9 (wa rfl) <| qS (wj rfl rfl rfl rfl) <| qD rfl <| qF <| qz <| w7 <| wY L (.inl rfl) rfl (za rfl) (qu rfl) ?_
     exact ⟨by simp only [wW, xO, xW]; repeat (first | rw [if_pos (by omega)] | rw [if_neg (by omega)]), rfl⟩
    ·
     refine qZ <| qI <| qO <| qP <| qB rfl <| q9 (wL rfl rfl) <| qF <| qL rfl (fun hc7 => ?_) (fun hc7 => ?_)
     ·
      refine qP <| qB rfl <| q9 (y1 rfl rfl (by omega)) <| q9 (wa rfl) <| qS (wj rfl rfl rfl rfl) <| qD rfl <| qF <| qz <| w7 <| wY L (.inl rfl) rfl (za rfl) (qu rfl) ?_
      exact ⟨by simp only [wW, xO, xW]; repeat (first | rw [if_pos (by omega)] | rw [if_neg (by omega)]), rfl⟩
     ·
      refine qZ <| qI <| qP <| qB rfl <| q9 (y1 rfl rfl (by omega)) <| q9 (jU rfl rfl (by omega)) <| qB rfl <| q9 (y1 rfl rfl (by omega)) <| q9 (xD rfl rfl (by omega) (by omega)) <| q9 (wa rfl) <| qS (wj rfl rfl rfl rfl) <| qD rfl <| qF <| qz <| wY L (.inl rfl) rfl (za rfl) (qu rfl) ?_
      exact ⟨by simp only [wW, xO, xW]; repeat (first | rw [if_pos (by omega)] | rw [if_neg (by omega)]), rfl⟩
theorem rblocks_spec (n : Int) (hn : n ≤ 136192) : FnT Tryz.prog w0 64 #[.int .i64 n] L (fun v L' => v = .int .i64 (zf n) ∧ L' = L) := by
  refine qh (E0 := [(0, _)]) (N := 15) Tryz.func64 rfl rfl rfl rfl ?_
  refine qP <| qD rfl <| qo <| qD rfl <| qF <| qO <| qg <| wV (Γ := {pΓ : (Int) // (fun (k : Int) => 0 ≤ k ∧ (k = 0 ∨ 128 * (k - 1) < n)) pΓ}) (fun g => (fun (k : Int) => [(0, .int .i64 n), (3, .int .i64 k)]) g.1) (fun g => (fun (k : Int) => L) g.1) (fun g => (fun (k : Int) => (2000 - k).toNat) g.1) ⟨0, by dsimp only; exact (by omega)⟩ (qX _) ?_
  rintro ⟨k, hloop⟩
  replace hloop : 0 ≤ k ∧ (k = 0 ∨ 128 * (k - 1) < n) := hloop
  obtain ⟨hk0, hk⟩ := hloop
  show Tr _ _ _ ([(0, .int .i64 n), (3, .int .i64 k)]) (L) _ _
  refine qO <| qP <| qB rfl <| q9 (wL rfl rfl) <| qB rfl <| qY (s := 6) rfl (fun hg2_2 => ?_) (fun hg2_2 => ?_)
  ·
   refine qE rfl rfl (qM rfl) <| qE rfl rfl (xF rfl rfl (by omega)) <| qE rfl rfl (qM rfl) <| qE rfl rfl (wL rfl rfl) <| q9 (qk rfl rfl) <| qF <| qL rfl (fun hc2 => ?_) (fun hc2 => ?_)
   ·
    refine qZ <| qI <| qg <| qK <| qB rfl <| q9 (w9 rfl rfl (by omega)) <| qD rfl <| qT <| qf <| w5 ⟨k + 1, ?_⟩ ?_ ?_
    · (try dsimp only); omega
    · (try dsimp only); omega
    · (try dsimp only); exact qX _
   ·
    refine wb <| qr <| qt <| qj <| qI <| qP <| qB rfl <| qD rfl <| qF <| qz <| zn (.inl rfl) rfl (qu rfl) ?_
    exact ⟨by unfold zf; congr 1; split <;> omega, rfl⟩
  · (exfalso; omega)
theorem Kx (l f s : Int) (hl : 0 ≤ l ∧ l ≤ 2) (hf : 0 ≤ f ∧ (f = 0 ∨ l = 2 ∧ f < 32)) (hs : 0 ≤ s ∧ s < (if l = 0 then 8 else 32)) :
    FnT Tryz.prog w0 99 #[.agg [.int .i64 l, .int .i64 f, .int .i64 s].toArray] L (fun v L' => v = .tuple #[.int .i64 ((if l = 0 then 0 else if l = 1 then 8 else 40) + f * 32 + s), .int .i64 0] ∧ L' = L) := by
  have hl3 : l = 0 ∨ l = 1 ∨ l = 2 := by omega
  rcases hl3 with rfl | rfl | rfl
  · simp only [if_true] at hs
    refine qh (E0 := [(0, _)]) (N := 53) Tryz.func99 rfl rfl rfl rfl ?_
    refine qP <| qG (wq rfl) ?_
    rintro t1 _ ⟨b1, rfl, rfl⟩
    refine qD rfl <| qD rfl <| qo <| q9 (yh rfl rfl rfl rfl) <| q9 (yh rfl rfl rfl rfl) <| q9 (yh rfl rfl rfl rfl) <| q9 (yh rfl rfl rfl rfl) <| qG (qn) ?_
    rintro t4 _ ⟨b4, rfl, rfl⟩
    refine qS (wj rfl rfl rfl rfl) <| qF <| qO <| qP <| q9 (qA rfl) <| q9 (qH rfl rfl) <| q9 (wL rfl rfl) <| qB rfl <| qY (s := 13) rfl (fun hg2_3 => ?_) (fun hg2_3 => ?_)
    · (exfalso; omega)
    ·
     refine qE rfl rfl (qA rfl) <| qE rfl rfl (qH rfl rfl) <| qE rfl rfl (y9 rfl rfl) <| q9 (qU rfl rfl) <| qF <| qL rfl (fun hc2 => ?_) (fun hc2 => ?_)
     · (exfalso; omega)
     ·
      refine qZ <| qI <| qP <| q9 (qA rfl) <| q9 (qH rfl rfl) <| q9 (wo (j := 0) (off := 0) rfl rfl rfl (by omega) rfl) <| q9 (wZ rfl) <| qG (qn) ?_
      rintro t5 _ ⟨b5, rfl, rfl⟩
      refine qS (wj rfl rfl rfl rfl) <| qF <| qO <| qP <| q9 (qA rfl) <| q9 (qH rfl rfl) <| q9 (wL rfl rfl) <| qB rfl <| qY (s := 25) rfl (fun hg5_3 => ?_) (fun hg5_3 => ?_)
      · (exfalso; omega)
      ·
       refine qE rfl rfl (qA rfl) <| qE rfl rfl (qH rfl rfl) <| qE rfl rfl (wo (j := 1) (off := 1) rfl rfl rfl (by omega) rfl) <| qE rfl rfl (qH rfl rfl) <| qE rfl rfl (j2 rfl rfl) <| q9 (qU rfl rfl) <| qB rfl <| qY (s := 32) rfl (fun hg5_10 => ?_) (fun hg5_10 => ?_)
       · (exfalso; omega)
       ·
        refine qE rfl rfl (qA rfl) <| qE rfl rfl (qH rfl rfl) <| qE rfl rfl (wL rfl rfl) <| q9 (qU rfl rfl) <| qB rfl <| qY (s := 37) rfl (fun hg5_15 => ?_) (fun hg5_15 => ?_)
        · (exfalso; omega)
        ·
         refine qE rfl rfl (qA rfl) <| qE rfl rfl (qH rfl rfl) <| qE rfl rfl (wo (j := 2) (off := 2) rfl rfl rfl (by omega) rfl) <| qE rfl rfl (qH rfl rfl) <| qE rfl rfl (j2 rfl rfl) <| q9 (qU rfl rfl) <| qF <| qL rfl (fun hc5 => ?_) (fun hc5 => ?_)
         · (exfalso; omega)
         ·
          refine qZ <| qI <| qP <| q9 (wo (j := 0) (off := 0) rfl rfl rfl (by omega) rfl) <| q9 (qH rfl rfl) <| q9 (qA rfl) <| q9 (qH rfl rfl) <| q9 (xF rfl rfl (by omega)) <| q9 (w9 rfl rfl (by omega)) <| q9 (qA rfl) <| q9 (qH rfl rfl) <| q9 (w9 rfl rfl (by omega)) <| qD rfl <| qD rfl <| qF <| qz <| wY L (.inl rfl) rfl (qu rfl) (qu rfl) ?_
          exact ⟨by simp, rfl⟩
  · simp only [if_neg (show ¬ (1 : Int) = 0 by omega)] at hs
    refine qh (E0 := [(0, _)]) (N := 53) Tryz.func99 rfl rfl rfl rfl ?_
    refine qP <| qG (wq rfl) ?_
    rintro t1 _ ⟨b1, rfl, rfl⟩
    refine qD rfl <| qD rfl <| qo <| q9 (yh rfl rfl rfl rfl) <| q9 (yh rfl rfl rfl rfl) <| q9 (yh rfl rfl rfl rfl) <| q9 (yh rfl rfl rfl rfl) <| qG (qn) ?_
    rintro t4 _ ⟨b4, rfl, rfl⟩
    refine qS (wj rfl rfl rfl rfl) <| qF <| qO <| qP <| q9 (qA rfl) <| q9 (qH rfl rfl) <| q9 (wL rfl rfl) <| qB rfl <| qY (s := 13) rfl (fun hg2_3 => ?_) (fun hg2_3 => ?_)
    · (exfalso; omega)
    ·
     refine qE rfl rfl (qA rfl) <| qE rfl rfl (qH rfl rfl) <| qE rfl rfl (y9 rfl rfl) <| q9 (qU rfl rfl) <| qF <| qL rfl (fun hc2 => ?_) (fun hc2 => ?_)
     · (exfalso; omega)
     ·
      refine qZ <| qI <| qP <| q9 (qA rfl) <| q9 (qH rfl rfl) <| q9 (wo (j := 1) (off := 3) rfl rfl rfl (by omega) rfl) <| q9 (wZ rfl) <| qG (qn) ?_
      rintro t5 _ ⟨b5, rfl, rfl⟩
      refine qS (wj rfl rfl rfl rfl) <| qF <| qO <| qP <| q9 (qA rfl) <| q9 (qH rfl rfl) <| q9 (wL rfl rfl) <| qB rfl <| qY (s := 25) rfl (fun hg5_3 => ?_) (fun hg5_3 => ?_)
      · (exfalso; omega)
      ·
       refine qE rfl rfl (qA rfl) <| qE rfl rfl (qH rfl rfl) <| qE rfl rfl (wo (j := 1) (off := 1) rfl rfl rfl (by omega) rfl) <| qE rfl rfl (qH rfl rfl) <| qE rfl rfl (j2 rfl rfl) <| q9 (qU rfl rfl) <| qB rfl <| qY (s := 32) rfl (fun hg5_10 => ?_) (fun hg5_10 => ?_)
       · (exfalso; omega)
       ·
        refine qE rfl rfl (qA rfl) <| qE rfl rfl (qH rfl rfl) <| qE rfl rfl (wL rfl rfl) <| q9 (qU rfl rfl) <| qB rfl <| qY (s := 37) rfl (fun hg5_15 => ?_) (fun hg5_15 => ?_)
        · (exfalso; omega)
        ·
         refine qE rfl rfl (qA rfl) <| qE rfl rfl (qH rfl rfl) <| qE rfl rfl (wo (j := 2) (off := 2) rfl rfl rfl (by omega) rfl) <| qE rfl rfl (qH rfl rfl) <| qE rfl rfl (j2 rfl rfl) <| q9 (qU rfl rfl) <| qF <| qL rfl (fun hc5 => ?_) (fun hc5 => ?_)
         · (exfalso; omega)
         ·
          refine qZ <| qI <| qP <| q9 (wo (j := 0) (off := 0) rfl rfl rfl (by omega) rfl) <| q9 (qH rfl rfl) <| q9 (qA rfl) <| q9 (qH rfl rfl) <| q9 (xF rfl rfl (by omega)) <| q9 (w9 rfl rfl (by omega)) <| q9 (qA rfl) <| q9 (qH rfl rfl) <| q9 (w9 rfl rfl (by omega)) <| qD rfl <| qD rfl <| qF <| qz <| wY L (.inl rfl) rfl (qu rfl) (qu rfl) ?_
          exact ⟨by simp, rfl⟩
  · simp only [if_neg (show ¬ (2 : Int) = 0 by omega)] at hs
    refine qh (E0 := [(0, _)]) (N := 53) Tryz.func99 rfl rfl rfl rfl ?_
    refine qP <| qG (wq rfl) ?_
    rintro t1 _ ⟨b1, rfl, rfl⟩
    refine qD rfl <| qD rfl <| qo <| q9 (yh rfl rfl rfl rfl) <| q9 (yh rfl rfl rfl rfl) <| q9 (yh rfl rfl rfl rfl) <| q9 (yh rfl rfl rfl rfl) <| qG (qn) ?_
    rintro t4 _ ⟨b4, rfl, rfl⟩
    refine qS (wj rfl rfl rfl rfl) <| qF <| qO <| qP <| q9 (qA rfl) <| q9 (qH rfl rfl) <| q9 (wL rfl rfl) <| qB rfl <| qY (s := 13) rfl (fun hg2_3 => ?_) (fun hg2_3 => ?_)
    · (exfalso; omega)
    ·
     refine qE rfl rfl (qA rfl) <| qE rfl rfl (qH rfl rfl) <| qE rfl rfl (y9 rfl rfl) <| q9 (qU rfl rfl) <| qF <| qL rfl (fun hc2 => ?_) (fun hc2 => ?_)
     · (exfalso; omega)
     ·
      refine qZ <| qI <| qP <| q9 (qA rfl) <| q9 (qH rfl rfl) <| q9 (wo (j := 2) (off := 6) rfl rfl rfl (by omega) rfl) <| q9 (wZ rfl) <| qG (qn) ?_
      rintro t5 _ ⟨b5, rfl, rfl⟩
      refine qS (wj rfl rfl rfl rfl) <| qF <| qO <| qP <| q9 (qA rfl) <| q9 (qH rfl rfl) <| q9 (wL rfl rfl) <| qB rfl <| qY (s := 25) rfl (fun hg5_3 => ?_) (fun hg5_3 => ?_)
      · (exfalso; omega)
      ·
       refine qE rfl rfl (qA rfl) <| qE rfl rfl (qH rfl rfl) <| qE rfl rfl (wo (j := 1) (off := 1) rfl rfl rfl (by omega) rfl) <| qE rfl rfl (qH rfl rfl) <| qE rfl rfl (j2 rfl rfl) <| q9 (qU rfl rfl) <| qB rfl <| qY (s := 32) rfl (fun hg5_10 => ?_) (fun hg5_10 => ?_)
       · (exfalso; omega)
       ·
        refine qE rfl rfl (qA rfl) <| qE rfl rfl (qH rfl rfl) <| qE rfl rfl (wL rfl rfl) <| q9 (qU rfl rfl) <| qB rfl <| qY (s := 37) rfl (fun hg5_15 => ?_) (fun hg5_15 => ?_)
        · (exfalso; omega)
        ·
         refine qE rfl rfl (qA rfl) <| qE rfl rfl (qH rfl rfl) <| qE rfl rfl (wo (j := 2) (off := 2) rfl rfl rfl (by omega) rfl) <| qE rfl rfl (qH rfl rfl) <| qE rfl rfl (j2 rfl rfl) <| q9 (qU rfl rfl) <| qF <| qL rfl (fun hc5 => ?_) (fun hc5 => ?_)
         · (exfalso; omega)
         ·
          refine qZ <| qI <| qP <| q9 (wo (j := 0) (off := 0) rfl rfl rfl (by omega) rfl) <| q9 (qH rfl rfl) <| q9 (qA rfl) <| q9 (qH rfl rfl) <| q9 (xF rfl rfl (by omega)) <| q9 (w9 rfl rfl (by omega)) <| q9 (qA rfl) <| q9 (qH rfl rfl) <| q9 (w9 rfl rfl (by omega)) <| qD rfl <| qD rfl <| qF <| qz <| wY L (.inl rfl) rfl (qu rfl) (qu rfl) ?_
          exact ⟨by simp, rfl⟩
def kr (at_ n : Int) : Int := if at_ < 0 ∨ n < 0 then 1 else if at_ > 136192 ∨ n > 136192 - at_ then 12 else 0
theorem cut_again {out l : List (Int × Int × Int)} {a e : Int} (h : a < e) (hcut : out ++ kq (e - a).toNat a e = l) :
    (out ++ [(a / 128, a % 128, min 128 (a % 128 + e - a))]) ++ kq (e - (a + (min 128 (a % 128 + e - a) - a % 128))).toNat (a + (min 128 (a % 128 + e - a) - a % 128)) e = l := by
  have e1 := Yg (e - (a + (min 128 (a % 128 + e - a) - a % 128))).toNat (e - a).toNat (a + (min 128 (a % 128 + e - a) - a % 128)) e (by omega) (by omega)
  rw [← hcut, cutF_step h, List.append_assoc, e1]
  rfl
theorem V7 (at_ n : Int) (h1 : -9223372036854775808 ≤ at_ ∧ at_ ≤ 9223372036854775807) (h2 : -9223372036854775808 ≤ n ∧ n ≤ 9223372036854775807) :
    FnT Tryz.prog w0 37 #[.int .i64 at_, .int .i64 n] F (fun v L' => ∃ u C, v = .tuple #[u, .int .i64 (kr at_ n)] ∧ L' = C :: F ∧
      (if kr at_ n = 0 then SlC 92 3 u (j3 at_ n).length ((j3 at_ n).flatMap kJ) C else u = .slice none 0 0 ∧ C = [])) := by
  by_cases ha : at_ < 0 ∨ n < 0
  · have he : kr at_ n = 1 := by unfold kr; rw [if_pos ha]
    rw [he]
    refine qh (E0 := [(0, _), (1, _)]) (N := 54) Tryz.func37 rfl rfl rfl rfl ?_
    refine qP <| qD rfl <| qD rfl <| qF <| qO <| qg <| qP <| qB rfl <| q9 (wL rfl rfl) <| qB rfl <| qY (s := 13) rfl (fun hg1_2 => ?_) (fun hg1_2 => ?_)
    ·
     refine qN rfl rfl rfl <| qN rfl rfl rfl <| q9 (qk rfl rfl) <| qD rfl <| qF <| zL rfl <| qP <| qD rfl <| qD rfl <| qF <| qz <| wN <| w7 <| wY ([] :: F) (.inl rfl) rfl (qu rfl) (qu rfl) ?_
     exact ⟨_, [], rfl, rfl, by simp⟩
    ·
     refine qE rfl rfl (qM rfl) <| qE rfl rfl (wL rfl rfl) <| q9 (qU rfl rfl) <| qD rfl <| qF <| qL rfl (fun hc1 => ?_) (fun hc1 => ?_)
     ·
      refine qP <| qD rfl <| qD rfl <| qF <| qz <| wN <| w7 <| wY ([] :: F) (.inl rfl) rfl (qu rfl) (qu rfl) ?_
      exact ⟨_, [], rfl, rfl, by simp⟩
     · (exfalso; omega)
  · by_cases hb : at_ > 136192 ∨ n > 136192 - at_
    · have he : kr at_ n = 12 := by unfold kr; rw [if_neg ha, if_pos hb]
      rw [he]
      refine qh (E0 := [(0, _), (1, _)]) (N := 54) Tryz.func37 rfl rfl rfl rfl ?_
      refine qP <| qD rfl <| qD rfl <| qF <| qO <| qg <| qP <| qB rfl <| q9 (wL rfl rfl) <| qB rfl <| qY (s := 13) rfl (fun hg1_2 => ?_) (fun hg1_2 => ?_)
      · (exfalso; omega)
      ·
       refine qE rfl rfl (qM rfl) <| qE rfl rfl (wL rfl rfl) <| q9 (qU rfl rfl) <| qD rfl <| qF <| qL rfl (fun hc1 => ?_) (fun hc1 => ?_)
       · (exfalso; omega)
       ·
        refine qP <| qB rfl <| q9 (y9 rfl rfl) <| qB rfl <| qY (s := 20) rfl (fun hg3_2 => ?_) (fun hg3_2 => ?_)
        ·
         refine qN rfl rfl rfl <| qN rfl rfl rfl <| qN rfl rfl rfl <| qN rfl rfl rfl <| q9 (qk rfl rfl) <| qD rfl <| qF <| zL rfl <| qP <| qD rfl <| qD rfl <| qF <| qz <| wN <| w7 <| wY ([] :: F) (.inl rfl) rfl (qu rfl) (qu rfl) ?_
         exact ⟨_, [], rfl, rfl, by simp⟩
        ·
         refine qE rfl rfl (qM rfl) <| qE rfl rfl (qM rfl) <| qE rfl rfl (y1 rfl rfl (by omega)) <| qE rfl rfl (y9 rfl rfl) <| q9 (qU rfl rfl) <| qD rfl <| qF <| qL rfl (fun hc3 => ?_) (fun hc3 => ?_)
         ·
          refine qP <| qD rfl <| qD rfl <| qF <| qz <| wN <| w7 <| wY ([] :: F) (.inl rfl) rfl (qu rfl) (qu rfl) ?_
          exact ⟨_, [], rfl, rfl, by simp⟩
         · (exfalso; omega)
    · have he : kr at_ n = 0 := by unfold kr; rw [if_neg ha, if_neg hb]
      rw [he]
      refine qh (E0 := [(0, _), (1, _)]) (N := 54) Tryz.func37 rfl rfl rfl rfl ?_
      refine qP <| qD rfl <| qD rfl <| qF <| qO <| qg <| qP <| qB rfl <| q9 (wL rfl rfl) <| qB rfl <| qY (s := 13) rfl (fun hg1_2 => ?_) (fun hg1_2 => ?_)
      · (exfalso; omega)
      ·
       refine qE rfl rfl (qM rfl) <| qE rfl rfl (wL rfl rfl) <| q9 (qU rfl rfl) <| qD rfl <| qF <| qL rfl (fun hc1 => ?_) (fun hc1 => ?_)
       · (exfalso; omega)
       ·
        refine qP <| qB rfl <| q9 (y9 rfl rfl) <| qB rfl <| qY (s := 20) rfl (fun hg3_2 => ?_) (fun hg3_2 => ?_)
        · (exfalso; omega)
        ·
         refine qE rfl rfl (qM rfl) <| qE rfl rfl (qM rfl) <| qE rfl rfl (y1 rfl rfl (by omega)) <| qE rfl rfl (y9 rfl rfl) <| q9 (qU rfl rfl) <| qD rfl <| qF <| qL rfl (fun hc3 => ?_) (fun hc3 => ?_)
         · (exfalso; omega)
         ·
          refine qZ <| qf <| qI <| qP <| qD rfl <| qF <| qO <| qP <| qB rfl <| qB rfl <| q9 (w9 rfl rfl (by omega)) <| qD rfl <| qF <| qg <| wV (Γ := {pΓ : (List (Int × Int × Int)) × (Int) × (Value) × (qV) // (fun (out : List (Int × Int × Int)) (a : Int) (u : Value) (C : qV) => at_ ≤ a ∧ a ≤ at_ + n ∧ out ++ kq (at_ + n - a).toNat a (at_ + n) = j3 at_ n ∧ SlC 92 3 u out.length (out.flatMap kJ) C ∧ (out.length : Int) ≤ a - at_) pΓ.1 pΓ.2.1 pΓ.2.2.1 pΓ.2.2.2}) (fun g => (fun (out : List (Int × Int × Int)) (a : Int) (u : Value) (C : qV) => [(0, .int .i64 a), (7, .int .i64 (at_ + n)), (6, u)]) g.1.1 g.1.2.1 g.1.2.2.1 g.1.2.2.2) (fun g => (fun (out : List (Int × Int × Int)) (a : Int) (u : Value) (C : qV) => C :: F) g.1.1 g.1.2.1 g.1.2.2.1 g.1.2.2.2) (fun g => (fun (out : List (Int × Int × Int)) (a : Int) (u : Value) (C : qV) => (at_ + n - a).toNat) g.1.1 g.1.2.1 g.1.2.2.1 g.1.2.2.2) ⟨([], at_, .slice none 0 0, []), by dsimp only; exact ⟨by omega, by omega, by rw [List.nil_append]; unfold j3; congr 1; omega, SlC.nil _ _, by simp⟩⟩ (qX _) ?_
          rintro ⟨⟨out, a, u, C⟩, hloop⟩
          replace hloop : at_ ≤ a ∧ a ≤ at_ + n ∧ out ++ kq (at_ + n - a).toNat a (at_ + n) = j3 at_ n ∧ SlC 92 3 u out.length (out.flatMap kJ) C ∧ (out.length : Int) ≤ a - at_ := hloop
          obtain ⟨ha1, ha2, hcut, hsl, hlen⟩ := hloop
          show Tr _ _ _ ([(0, .int .i64 a), (7, .int .i64 (at_ + n)), (6, u)]) (C :: F) _ _
          refine qO <| qP <| qB rfl <| qB rfl <| q9 (wL rfl rfl) <| qF <| qL rfl (fun hc7 => ?_) (fun hc7 => ?_)
          ·
           refine qZ <| qI <| qg <| qP <| qB rfl <| q9 (xD rfl rfl (by omega) (by omega)) <| qD rfl <| qo <| qB rfl <| qB rfl <| q9 (w9 rfl rfl (by omega)) <| qB rfl <| q9 (y1 rfl rfl (by omega)) <| q9 (YV rfl rfl) <| qD rfl <| qo <| qB rfl <| qB rfl <| q9 (jU rfl rfl (by omega)) <| qB rfl <| qB rfl <| q9 (wa rfl) <| qG (wK rfl rfl rfl) ?_
           rintro t46 _ ⟨b46, rfl, rfl⟩
           refine qG (wg rfl rfl hsl (wi inferInstance rfl rfl) rfl Tryz.underlying85 rfl rfl (by omega)) ?_
           rintro t47 _ ⟨C', hsl', rfl⟩
           refine qD rfl <| qF <| qK <| qB rfl <| qB rfl <| qB rfl <| q9 (y1 rfl rfl (by omega)) <| q9 (w9 rfl rfl (by omega)) <| qD rfl <| qT <| qf <| w5 ⟨(out ++ [(a / 128, a % 128, min 128 (a % 128 + (at_ + n) - a))], a + (min 128 (a % 128 + (at_ + n) - a) - a % 128), t47, C'), ?_⟩ ?_ ?_
           · (try dsimp only); exact ⟨by omega, by omega, cut_again hc7 hcut, by simpa [kJ] using hsl', by simp; omega⟩
           · (try dsimp only); omega
           · (try dsimp only); exact qX _
          ·
           refine wb <| qr <| qt <| qj <| qI <| qP <| qB rfl <| qD rfl <| qD rfl <| qF <| qz <| wY (C :: F) (.inl rfl) rfl (qu rfl) (qu rfl) ?_
           exact ⟨_, C, rfl, rfl, by rw [if_pos rfl, ← hcut, jG (by omega), List.append_nil]; exact hsl⟩
theorem kI (p : Int × Int × Int) : (kJ p).length = 3 := rfl
theorem cutPush_len (l : List (Int × Int × Int)) (i : Int) : (xI l i).length ≤ l.length + 1 := by
  unfold xI
  split
  · rename_i p hp
    have hne : l ≠ [] := fun h => by rw [h] at hp; cases hp
    have : 0 < l.length := List.length_pos_iff.2 hne
    split <;> simp
  · simp
theorem rcut_spec (at_ n : Int) (h1 : -9223372036854775808 ≤ at_ ∧ at_ ≤ 9223372036854775807) (h2 : -9223372036854775808 ≤ n ∧ n ≤ 9223372036854775807) :
    FnT Tryz.prog w0 63 #[.int .i64 at_, .int .i64 n] F (fun v L' => ∃ u C, v = .tuple #[u, .int .i64 (kr at_ n)] ∧ L' = C :: F ∧
      (if kr at_ n = 0 then SlC 131 3 u (j3 at_ n).length ((j3 at_ n).flatMap kJ) C else u = .slice none 0 0 ∧ C = [])) := by
  by_cases ha : at_ < 0 ∨ n < 0
  · have he : kr at_ n = 1 := by unfold kr; rw [if_pos ha]
    rw [he]
    refine qh (E0 := [(0, _), (1, _)]) (N := 68) Tryz.func63 rfl rfl rfl rfl ?_
    refine qP <| qD rfl <| qD rfl <| qF <| qO <| qP <| qB rfl <| q9 (wL rfl rfl) <| qB rfl <| qY (s := 11) rfl (fun hg1_2 => ?_) (fun hg1_2 => ?_)
    ·
     refine qN rfl rfl rfl <| qN rfl rfl rfl <| q9 (qk rfl rfl) <| qF <| zL rfl <| qP <| qD rfl <| qD rfl <| qF <| qz <| w7 <| wY ([] :: F) (.inl rfl) rfl (qu rfl) (qu rfl) ?_
     exact ⟨_, [], rfl, rfl, by simp⟩
    ·
     refine qE rfl rfl (qM rfl) <| qE rfl rfl (wL rfl rfl) <| q9 (qU rfl rfl) <| qF <| qL rfl (fun hc1 => ?_) (fun hc1 => ?_)
     ·
      refine qP <| qD rfl <| qD rfl <| qF <| qz <| w7 <| wY ([] :: F) (.inl rfl) rfl (qu rfl) (qu rfl) ?_
      exact ⟨_, [], rfl, rfl, by simp⟩
     · (exfalso; omega)
  · by_cases hb : at_ > 136192 ∨ n > 136192 - at_
    · have he : kr at_ n = 12 := by unfold kr; rw [if_neg ha, if_pos hb]
      rw [he]
      refine qh (E0 := [(0, _), (1, _)]) (N := 68) Tryz.func63 rfl rfl rfl rfl ?_
      refine qP <| qD rfl <| qD rfl <| qF <| qO <| qP <| qB rfl <| q9 (wL rfl rfl) <| qB rfl <| qY (s := 11) rfl (fun hg1_2 => ?_) (fun hg1_2 => ?_)
      · (exfalso; omega)
      ·
       refine qE rfl rfl (qM rfl) <| qE rfl rfl (wL rfl rfl) <| q9 (qU rfl rfl) <| qF <| qL rfl (fun hc1 => ?_) (fun hc1 => ?_)
       · (exfalso; omega)
       ·
        refine qZ <| qI <| qO <| qP <| qB rfl <| q9 (y9 rfl rfl) <| qB rfl <| qY (s := 17) rfl (fun hg3_2 => ?_) (fun hg3_2 => ?_)
        ·
         refine qN rfl rfl rfl <| qN rfl rfl rfl <| qN rfl rfl rfl <| qN rfl rfl rfl <| q9 (qk rfl rfl) <| qF <| zL rfl <| qP <| qD rfl <| qD rfl <| qF <| qz <| w7 <| wY ([] :: F) (.inl rfl) rfl (qu rfl) (qu rfl) ?_
         exact ⟨_, [], rfl, rfl, by simp⟩
        ·
         refine qE rfl rfl (qM rfl) <| qE rfl rfl (qM rfl) <| qE rfl rfl (y1 rfl rfl (by omega)) <| qE rfl rfl (y9 rfl rfl) <| q9 (qU rfl rfl) <| qF <| qL rfl (fun hc3 => ?_) (fun hc3 => ?_)
         ·
          refine qP <| qD rfl <| qD rfl <| qF <| qz <| w7 <| wY ([] :: F) (.inl rfl) rfl (qu rfl) (qu rfl) ?_
          exact ⟨_, [], rfl, rfl, by simp⟩
         · (exfalso; omega)
    · have he : kr at_ n = 0 := by unfold kr; rw [if_neg ha, if_neg hb]
      rw [he]
      refine qh (E0 := [(0, _), (1, _)]) (N := 68) Tryz.func63 rfl rfl rfl rfl ?_
      refine qP <| qD rfl <| qD rfl <| qF <| qO <| qP <| qB rfl <| q9 (wL rfl rfl) <| qB rfl <| qY (s := 11) rfl (fun hg1_2 => ?_) (fun hg1_2 => ?_)
      · (exfalso; omega)
      ·
       refine qE rfl rfl (qM rfl) <| qE rfl rfl (wL rfl rfl) <| q9 (qU rfl rfl) <| qF <| qL rfl (fun hc1 => ?_) (fun hc1 => ?_)
       · (exfalso; omega)
       ·
        refine qZ <| qI <| qO <| qP <| qB rfl <| q9 (y9 rfl rfl) <| qB rfl <| qY (s := 17) rfl (fun hg3_2 => ?_) (fun hg3_2 => ?_)
        · (exfalso; omega)
        ·
         refine qE rfl rfl (qM rfl) <| qE rfl rfl (qM rfl) <| qE rfl rfl (y1 rfl rfl (by omega)) <| qE rfl rfl (y9 rfl rfl) <| q9 (qU rfl rfl) <| qF <| qL rfl (fun hc3 => ?_) (fun hc3 => ?_)
         · (exfalso; omega)
         ·
          refine qZ <| qI <| qP <| qD rfl <| qF <| qO <| qP <| qB rfl <| qD rfl <| qF <| qg <| wV (Γ := {pΓ : (Int) × (Value) × (qV) // (fun (i : Int) (u : Value) (C : qV) => at_ ≤ i ∧ i ≤ at_ + n ∧ SlC 131 3 u (j3 at_ (i - at_)).length ((j3 at_ (i - at_)).flatMap kJ) C ∧ ((j3 at_ (i - at_)).length : Int) ≤ i - at_) pΓ.1 pΓ.2.1 pΓ.2.2}) (fun g => (fun (i : Int) (u : Value) (C : qV) => [(0, .int .i64 at_), (1, .int .i64 n), (7, .int .i64 i), (6, u)]) g.1.1 g.1.2.1 g.1.2.2) (fun g => (fun (i : Int) (u : Value) (C : qV) => C :: F) g.1.1 g.1.2.1 g.1.2.2) (fun g => (fun (i : Int) (u : Value) (C : qV) => (at_ + n - i).toNat) g.1.1 g.1.2.1 g.1.2.2) ⟨(at_, .slice none 0 0, []), by dsimp only; exact ⟨by omega, by omega, by rw [Int.sub_self]; exact SlC.nil _ _, by rw [Int.sub_self, cutL_zero]; simp⟩⟩ (qX _) ?_
          rintro ⟨⟨i, u, C⟩, hloop⟩
          replace hloop : at_ ≤ i ∧ i ≤ at_ + n ∧ SlC 131 3 u (j3 at_ (i - at_)).length ((j3 at_ (i - at_)).flatMap kJ) C ∧ ((j3 at_ (i - at_)).length : Int) ≤ i - at_ := hloop
          obtain ⟨hi1, hi2, hsl, hlen⟩ := hloop
          show Tr _ _ _ ([(0, .int .i64 at_), (1, .int .i64 n), (7, .int .i64 i), (6, u)]) (C :: F) _ _
          refine qO <| qP <| qB rfl <| qB rfl <| qB rfl <| q9 (w9 rfl rfl (by omega)) <| q9 (wL rfl rfl) <| qF <| qL rfl (fun hc7 => ?_) (fun hc7 => ?_)
          ·
           refine qZ <| qI <| qO <| qg <| qO ?_
           obtain ⟨l, hl⟩ : ∃ l, j3 at_ (i - at_) = l := ⟨_, rfl⟩
           have hpush := cutL_push (a := at_) (n := i - at_) (by omega)
           rw [hl, show at_ + (i - at_) = i from by omega, show i - at_ + 1 = i + 1 - at_ from by omega] at hpush
           rw [hl] at hsl hlen
           have hpl := cutPush_len l i
           obtain ⟨pu, cu, hu⟩ := hsl.slice
           refine qK <| qB rfl <| q9 (wD (by rw [← hu]; rfl)) ?_
           refine q9 (y1 rfl rfl (by omega)) <| qD rfl <| qo <| qB rfl <| q9 (j2 rfl rfl) <| qB rfl <| qY (s := 36) rfl (fun hg10_2 => ?_) (fun hg10_2 => ?_)
           ·
            obtain ⟨p, hp⟩ : ∃ p, l[l.length - 1]? = some p := ⟨_, List.getElem?_eq_getElem (by omega)⟩
            refine qE rfl rfl (qM rfl) <| qE rfl rfl (qM rfl) <| TrOs.stepGE rfl rfl (yP (j := l.length - 1) rfl rfl hsl (by omega) (by omega)) ?_
            rintro t39 _ ⟨b, cap, spare, rfl, rfl, hcap, hnc, rfl, rfl⟩
            refine qE rfl rfl (w6 rfl) <| qE rfl rfl (ze (j := l.length - 1) (k := 0) kI rfl hp rfl rfl) <| qE rfl rfl (qM rfl) <| qE rfl rfl (jU rfl rfl (by omega)) <| qE rfl rfl (wl rfl rfl) <| q9 (qk rfl rfl) <| qF <| qL rfl (fun hc10 => ?_) (fun hc10 => ?_)
            ·
             refine qK <| qB rfl <| qB rfl <| qB rfl <| qB rfl <| q9 (qw (j := l.length - 1) rfl rfl (by omega) (by omega) rfl) <| q9 (w6 rfl) <| q9 (ze (j := l.length - 1) (k := 2) kI rfl hp (by omega) rfl) <| q9 (w9 rfl rfl (by have := Qw (n := i - at_) (show 0 ≤ at_ by omega) (hl ▸ List.mem_of_getElem? hp); omega)) ?_
             refine q9 (qw (j := l.length - 1) rfl rfl (by omega) (by omega) rfl) <| q9 (w6 rfl) <| qS (yZ (j := l.length - 1) (k := 2) (p' := (p.1, p.2.1, p.2.2 + 1)) kI rfl rfl hp (by omega) rfl rfl) <| qT <| qf <| qI <| qK <| qB rfl <| q9 (w9 rfl rfl (by omega)) <| qD rfl <| qT <| w5 ⟨(i + 1, .slice (some ⟨b, 0, none⟩) l.length cap, [(b, .cells ((l.set (l.length - 1) (p.1, p.2.1, p.2.2 + 1)).flatMap kJ ++ spare).toArray 131 (0, 0))]), ?_⟩ ?_ ?_
             · (try dsimp only); rw [hpush, ← cutPush_set hp hc10]; exact ⟨by omega, by omega, by have := MR (e := 131) (sz := 3) (b := b) (cap := cap) (n := l.length) (spare := spare) (cs := (l.set (l.length - 1) (p.1, p.2.1, p.2.2 + 1)).flatMap kJ) (by rw [ka kI, List.length_set]) (by simp only [List.length_append, ka kI, List.length_set] at hcap ⊢; exact hcap) hnc; rw [List.length_set]; exact this, by simp; omega⟩
             · (try dsimp only); omega
             · (try dsimp only); exact qX _
            ·
             have hnew : ∀ q, l[l.length - 1]? = some q → q.1 ≠ i / 128 := by
               intro q hq
               first | (rw [hp] at hq; cases hq; exact hc10) | (rw [List.getElem?_eq_none (by omega)] at hq; cases hq)
             refine qK <| qB rfl <| qB rfl <| q9 (jU rfl rfl (by omega)) <| qB rfl <| q9 (xD rfl rfl (by omega) (by omega)) <| qB rfl <| q9 (xD rfl rfl (by omega) (by omega)) <| q9 (w9 rfl rfl (by omega)) <| q9 (wa rfl) <| qG (wK rfl rfl rfl) ?_
             rintro t65 _ ⟨b65, rfl, rfl⟩
             refine qG (wg rfl rfl hsl (wi inferInstance rfl rfl) rfl Tryz.underlying128 rfl rfl (by omega)) ?_
             rintro t66 _ ⟨C', hsl', rfl⟩
             refine qD rfl <| qT <| qf <| qI <| qK <| qB rfl <| q9 (w9 rfl rfl (by omega)) <| qD rfl <| qT <| w5 ⟨(i + 1, t66, C'), ?_⟩ ?_ ?_
             · (try dsimp only); rw [hpush, ← K2 (l := l) (i := i) hnew]; exact ⟨by omega, by omega, by simpa [kJ] using hsl', by simp; omega⟩
             · (try dsimp only); omega
             · (try dsimp only); exact qX _
           ·
            refine qN rfl rfl rfl <| qN rfl rfl rfl <| qN rfl rfl rfl <| qN rfl rfl rfl <| qN rfl rfl rfl <| qN rfl rfl rfl <| qN rfl rfl rfl <| qN rfl rfl rfl <| q9 (qU rfl rfl) <| qF <| wU rfl ?_
            have hnew : ∀ q, l[l.length - 1]? = some q → q.1 ≠ i / 128 := by
              intro q hq
              first | (rw [hp] at hq; cases hq; exact hc10) | (rw [List.getElem?_eq_none (by omega)] at hq; cases hq)
            refine qK <| qB rfl <| qB rfl <| q9 (jU rfl rfl (by omega)) <| qB rfl <| q9 (xD rfl rfl (by omega) (by omega)) <| qB rfl <| q9 (xD rfl rfl (by omega) (by omega)) <| q9 (w9 rfl rfl (by omega)) <| q9 (wa rfl) <| qG (wK rfl rfl rfl) ?_
            rintro t65 _ ⟨b65, rfl, rfl⟩
            refine qG (wg rfl rfl hsl (wi inferInstance rfl rfl) rfl Tryz.underlying128 rfl rfl (by omega)) ?_
            rintro t66 _ ⟨C', hsl', rfl⟩
            refine qD rfl <| qT <| qf <| qI <| qK <| qB rfl <| q9 (w9 rfl rfl (by omega)) <| qD rfl <| qT <| w5 ⟨(i + 1, t66, C'), ?_⟩ ?_ ?_
            · (try dsimp only); rw [hpush, ← K2 (l := l) (i := i) hnew]; exact ⟨by omega, by omega, by simpa [kJ] using hsl', by simp; omega⟩
            · (try dsimp only); omega
            · (try dsimp only); exact qX _
          ·
           refine wb <| qr <| qt <| qj <| qI <| qP <| qB rfl <| qD rfl <| qD rfl <| qF <| qz <| wY (C :: F) (.inl rfl) rfl (qu rfl) (qu rfl) ?_
           have hin : i - at_ = n := by omega
           rw [hin] at hsl
           exact ⟨_, C, rfl, rfl, by rw [if_pos rfl]; exact hsl⟩
end
end Go.Proofs.YtjikpomndbkfgaaGreatDoor
namespace Go.Sx
open Go
section
variable {P : Program} {N : Nat} {w0 : World} {E : Env} {L : Res} {K V : Type} [DecidableEq K]
def upd {β : Type} (f : K → β) (q : K) (v : β) : K → β := fun k => if k = q then v else f k
theorem zW {β : Type} (f : K → β) (q : K) (v : β) : upd f q v q = v := by simp [upd]
theorem wk {β : Type} (f : K → β) {q k : K} (v : β) (h : k ≠ q) : upd f q v k = f k := by simp [upd, h]
def MapF (enc : K → Value) (val : V → Value) (f : K → Option V) (o : Obj) : Prop := ∃ al, MapOk enc val al o ∧ ∀ k, yB al k = f k
theorem kk (enc : K → Value) (val : V → Value) : MapF enc val (fun _ => none) (.map #[] 0) := ⟨[], MapOk.empty enc val, fun _ => rfl⟩
theorem MapF.congr {enc : K → Value} {val : V → Value} {f g : K → Option V} {o : Obj} (h : MapF enc val f o) (e : ∀ k, f k = g k) : MapF enc val g o := by
  obtain ⟨al, h1, h2⟩ := h; exact ⟨al, h1, fun k => (h2 k).trans (e k)⟩
theorem yQ {x y : Operand} {t kt et ty r : Nat} {enc : K → Value} {val : V → Value} {f : K → Option V} {ob : Obj} {S : Obj → Res} {z : V} {q : K} [ht : jq P t kt et] [hz : TyZero P et (val z)] [hk : KeyOf P kt enc]
    (hx : opv E x = some (.map (some r))) (hy : opv E y = some (enc q)) [ha : At L r ob S] (ho : MapF enc val f ob) :
    Op1 P N w0 E L (.lookup t x y false) ty (val ((f q).getD z)) L := by
  obtain ⟨al, h1, h2⟩ := ho
  have := op_lookup (P := P) (N := N) (w0 := w0) (E := E) (ty := ty) (ht := ht) (hz := hz) (hk := hk) hx hy (ha := ha) h1
  rw [h2 q] at this
  cases h : f q <;> simpa [h] using this
theorem yr {x y : Operand} {t kt et ty r : Nat} {enc : K → Value} {val : V → Value} {f : K → Option V} {ob : Obj} {S : Obj → Res} {z : V} {q : K} [ht : jq P t kt et] [hz : TyZero P et (val z)] [hk : KeyOf P kt enc]
    (hx : opv E x = some (.map (some r))) (hy : opv E y = some (enc q)) [ha : At L r ob S] (ho : MapF enc val f ob) :
    Op1 P N w0 E L (.lookup t x y true) ty (.tuple [val ((f q).getD z), .bool (f q).isSome].toArray) L := by
  obtain ⟨al, h1, h2⟩ := ho
  have := op_lookup2 (P := P) (N := N) (w0 := w0) (E := E) (ty := ty) (ht := ht) (hz := hz) (hk := hk) hx hy (ha := ha) h1
  rw [h2 q] at this
  cases h : f q <;> simpa [h] using this
theorem zR {x y z : Operand} {t kt et ty r : Nat} {enc : K → Value} {val : V → Value} {f : K → Option V} {ob : Obj} {S : Obj → Res} {q : K} {v : V} [ht : jq P t kt et] [hk : KeyOf P kt enc]
    (hx : opv E x = some (.map (some r))) (hy : opv E y = some (enc q)) (hv : opv E z = some (val v)) [ha : At L r ob S] (ho : MapF enc val f ob) :
    OpT P N w0 E L (.mapUpdate t x y z) ty (fun _ L' => ∃ ob', MapF enc val (upd f q (some v)) ob' ∧ L' = S ob') := by
  obtain ⟨al, h1, h2⟩ := ho
  refine OpT.mono (op_mapUpdate hx hy hv (ha := ha) h1) (fun _ L' h => ?_)
  obtain ⟨ob', h3, h4⟩ := h
  exact ⟨ob', ⟨_, h3, fun k => by rw [yn, h2]; rfl⟩, h4⟩
theorem xP {x y z : Operand} {t kt et ty r : Nat} {enc : K → Value} {val : V → Value} {f : K → Option V} {ob : Obj} {S : Obj → Res} {q : K} {v : V} [ht : jq P t kt et] [hk : KeyOf P kt enc]
    (hx : opv E x = some (.map (some r))) (hy : opv E y = some (enc q)) (hv : opv E z = some (val v)) [ha : At L r ob S] (ho : MapF enc val f ob) :
    OpT P N w0 E L (.insert t x y z) ty (fun _ L' => ∃ ob', MapF enc val (upd f q (some v)) ob' ∧ L' = S ob') := by
  obtain ⟨al, h1, h2⟩ := ho
  refine OpT.mono (op_insert hx hy hv (ha := ha) h1) (fun _ L' h => ?_)
  obtain ⟨ob', h3, h4⟩ := h
  exact ⟨ob', ⟨_, h3, fun k => by rw [yn, h2]; rfl⟩, h4⟩
theorem xQ {x y : Operand} {t t' kt et ty r : Nat} {enc : K → Value} {val : V → Value} {f : K → Option V} {ob : Obj} {S : Obj → Res} {q : K} [ht : jq P t kt et] [hk : KeyOf P kt enc]
    (hx : opv E x = some (.map (some r))) (hy : opv E y = some (enc q)) [ha : At L r ob S] (ho : MapF enc val f ob) :
    OpT P N w0 E L (.call ⟨.builtin .delete, #[x, y], #[t, t']⟩) ty (fun _ L' => ∃ ob', MapF enc val (upd f q none) ob' ∧ L' = S ob') := by
  obtain ⟨al, h1, h2⟩ := ho
  refine OpT.mono (op_delete hx hy (ha := ha) h1) (fun _ L' h => ?_)
  obtain ⟨ob', h3, h4⟩ := h
  exact ⟨ob', ⟨_, h3, fun k => by rw [alGet_del h1.nodup, h2]; rfl⟩, h4⟩
theorem IterOk.nodup {m n : Nat} {mo o : Obj} {vis : List Nat} (h : IterOk m mo n vis o) : vis.Nodup := by obtain ⟨_, _, _, _, h, _⟩ := h; exact h
theorem IterOk.lt {m n : Nat} {mo o : Obj} {vis : List Nat} (h : IterOk m mo n vis o) : ∀ i ∈ vis, i < n := by obtain ⟨_, _, _, _, _, h, _⟩ := h; exact h
theorem IterOk.full {m n : Nat} {mo o : Obj} {vis : List Nat} (h : IterOk m mo n vis o) (hl : vis.length = n) : ∀ i, i < n → i ∈ vis := fun i hi => by
  apply Classical.byContradiction
  intro hni
  have h1 : (i :: vis).Nodup := List.nodup_cons.2 ⟨hni, h.nodup⟩
  have h2 := yS (l2 := List.range n) h1 (fun x hx => by
    rcases List.mem_cons.1 hx with rfl | hx
    · exact List.mem_range.2 hi
    · exact List.mem_range.2 (h.lt x hx))
  simp at h2; omega
def ko {K V : Type} (al : List (K × V)) (vis : List Nat) (k : K) : Prop := ∃ i ∈ vis, ∃ v, al[i]? = some (k, v)
theorem Wa {K V : Type} {al : List (K × V)} {k : K} : ¬ ko al [] k := fun ⟨_, h, _⟩ => by cases h
theorem kG {K V : Type} {al : List (K × V)} {vis : List Nat} {i : Nat} {p : K × V} (hp : al[i]? = some p) (k : K) : ko al (vis ++ [i]) k ↔ ko al vis k ∨ k = p.1 := by
  constructor
  · rintro ⟨j, hj, v, hv⟩
    rcases List.mem_append.1 hj with hj | hj
    · exact .inl ⟨j, hj, v, hv⟩
    · obtain rfl := List.mem_singleton.1 hj
      rw [hp] at hv; cases hv; exact .inr rfl
  · rintro (⟨j, hj, v, hv⟩ | rfl)
    · exact ⟨j, List.mem_append_left _ hj, v, hv⟩
    · exact ⟨i, by simp, p.2, hp⟩
theorem Qk {al : List (K × V)} {m : Nat} {mo o : Obj} {vis : List Nat} (h : IterOk m mo al.length vis o) (hl : vis.length = al.length) (k : K) : ko al vis k ↔ ∃ v, yB al k = some v := by
  constructor
  · rintro ⟨i, _, v, hv⟩
    cases hg : yB al k with
    | some v => exact ⟨v, rfl⟩
    | none =>
      rw [WP] at hg
      exact absurd (List.mem_map.2 ⟨_, List.mem_of_getElem? hv, rfl⟩) hg
  · rintro ⟨v, hv⟩
    obtain ⟨i, hi, e⟩ := List.mem_iff_getElem.1 (Jy hv)
    exact ⟨i, h.full hl i hi, v, by rw [List.getElem?_eq_getElem hi, e]⟩
theorem FnT.post {f : FuncId} {args : Array Value} {R R' : Value → Res → Prop} (h : FnT P w0 f args L R) (hR : ∀ v L', R v L' → ∃ L'', R' v L'' ∧ ∀ w, Own w0 L' w → Own w0 L'' w) : FnT P w0 f args L R' :=
  ⟨fun w hw => (h.h w hw).mono fun e w' ⟨v, L', e1, hr, ho⟩ => by
    obtain ⟨L'', h1, h2⟩ := hR v L' hr
    exact ⟨v, L'', e1, h1, h2 _ ho⟩⟩
theorem we {L L' : Res} (h : L.flatten = L'.flatten) : ∀ w, Own w0 L w → Own w0 L' w := fun _ hw => hw.perm (by rw [h])
end
end Go.Sx
namespace Go.Proofs.YtjikpomndbkfgaaGreatDoor
open Go Go.Sx Go.Nd
set_option maxRecDepth 10000
section
variable {w0 : World} {L F : Res}
structure NS where
  num : Int
  ver : Int
  kind : Int
  size : Int
  time : Int
  at_ : Int × Int → Option Int
  data : Int → Option Sec
  stale : Int × Int → Option Int
  gone : List Int
def jH (s : Sec) : Value := .agg (ww s).toArray
def zI (n : NS) (ma md ms : Nat) (u : Value) : List Value := [.int .u32 n.num, .int .u32 n.ver, .int .i64 n.kind, .int .i64 n.size, .int .u32 n.time, .map (some ma), .map (some md), .map (some ms), u]
def NodeC (p : Nat) (n : NS) (Cn : qV) : Prop := ∃ ma md ms oa od os u C, Cn = (p, .cells (zI n ma md ms u).toArray 90 (0, 0)) :: (ma, oa) :: (md, od) :: (ms, os) :: C ∧
  MapF yO (Value.int .i64) n.at_ oa ∧ MapF (Value.int .i64) jH n.data od ∧ MapF yO (Value.int .i64) n.stale os ∧ SlC 3 1 u n.gone.length (iV n.gone) C
def Wz (p : Nat) (n : NS) (Cn : qV) : Prop := ∃ ma md ms oa od os u C, Cn = (p, .cells (zI n ma md ms u).toArray 90 (0, 0)) :: (ma, oa) :: (md, od) :: (ms, os) :: C ∧
  MapF yO (Value.int .i64) n.at_ oa ∧ MapF (Value.int .i64) jH n.data od ∧ MapF yO (Value.int .i64) n.stale os
theorem Je {p : Nat} {n : NS} {Cn : qV} (h : NodeC p n Cn) : Wz p n Cn := by
  obtain ⟨ma, md, ms, oa, od, os, u, C, e, h1, h2, h3, _⟩ := h
  exact ⟨ma, md, ms, oa, od, os, u, C, e, h1, h2, h3⟩
def kn (G : qV) : Prop := ∃ e0 f0 e1 f1 e2 f2, G = [(0, .cells [Value.int .i64 2, Value.int .i64 0].toArray e0 f0), (1, .cells [Value.int .i64 4, Value.int .i64 0].toArray e1 f1), (2, .cells [Value.int .i64 3, Value.int .i64 0].toArray e2 f2)]
def kM (p : Nat) (n : NS) (ma md ms : Nat) (oa od os : Obj) (u : Value) (C : qV) (F : Res) : Res :=
  [(p, .cells (zI n ma md ms u).toArray 90 (0, 0))] :: [(ma, oa)] :: [(md, od)] :: [(ms, os)] :: C :: F
structure JJ (n : NS) (oa od os : Obj) (u : Value) (C : qV) : Prop where
  a : MapF yO (Value.int .i64) n.at_ oa
  d : MapF (Value.int .i64) jH n.data od
  s : MapF yO (Value.int .i64) n.stale os
  g : SlC 3 1 u n.gone.length (iV n.gone) C
structure MT (n : NS) (oa od os : Obj) : Prop where
  a : MapF yO (Value.int .i64) n.at_ oa
  d : MapF (Value.int .i64) jH n.data od
  s : MapF yO (Value.int .i64) n.stale os
def NodeO (p : Nat) (n : NS) (F L' : Res) : Prop := ∃ ma md ms oa od os u C, JJ n oa od os u C ∧ L' = kM p n ma md ms oa od os u C F
def QG (e0 : Nat) (f0 : Nat × Nat) (e1 : Nat) (f1 : Nat × Nat) (e2 : Nat) (f2 : Nat × Nat) (F : Res) : Res :=
  [(0, .cells [Value.int .i64 2, Value.int .i64 0].toArray e0 f0)] :: [(1, .cells [Value.int .i64 4, Value.int .i64 0].toArray e1 f1)] :: [(2, .cells [Value.int .i64 3, Value.int .i64 0].toArray e2 f2)] :: F
theorem NodeO.shut {p : Nat} {n : NS} {F L' : Res} (h : NodeO p n F L') : ∃ Cn, NodeC p n Cn ∧ ∀ w, Own w0 L' w → Own w0 (Cn :: F) w := by
  obtain ⟨ma, md, ms, oa, od, os, u, C, hm, rfl⟩ := h
  exact ⟨_, ⟨ma, md, ms, oa, od, os, u, C, rfl, hm.a, hm.d, hm.s, hm.g⟩, we (by simp [kM])⟩
section
variable {p : Nat} {n : NS} {Cn : qV} {f : FuncId} {args : Array Value}
theorem Jd {R : Value → Res → Prop} (hn : NodeC p n Cn)
    (h : ∀ ma md ms oa od os u C, JJ n oa od os u C → FnT Tryz.prog w0 f args (kM p n ma md ms oa od os u C F) R) : FnT Tryz.prog w0 f args (Cn :: F) R := by
  obtain ⟨ma, md, ms, oa, od, os, u, C, rfl, h1, h2, h3, h4⟩ := hn
  exact (h ma md ms oa od os u C ⟨h1, h2, h3, h4⟩).pre (we (by simp [kM]))
theorem xR {Rv : Value → Prop} (hn : NodeC p n Cn)
    (h : ∀ ma md ms oa od os u C, JJ n oa od os u C → FnT Tryz.prog w0 f args (kM p n ma md ms oa od os u C F) (fun v L' => Rv v ∧ L' = kM p n ma md ms oa od os u C F)) : FnT Tryz.prog w0 f args (Cn :: F) (fun v L' => Rv v ∧ L' = Cn :: F) := by
  obtain ⟨ma, md, ms, oa, od, os, u, C, rfl, h1, h2, h3, h4⟩ := hn
  exact ((h ma md ms oa od os u C ⟨h1, h2, h3, h4⟩).pre (we (by simp [kM]))).post fun v L' ⟨e1, e2⟩ => ⟨_, ⟨e1, rfl⟩, by subst e2; exact we (by simp [kM])⟩
theorem Ki {Rv : Value → Prop} (hn : Wz p n Cn)
    (h : ∀ ma md ms oa od os u C, MT n oa od os → FnT Tryz.prog w0 f args (kM p n ma md ms oa od os u C F) (fun v L' => Rv v ∧ L' = kM p n ma md ms oa od os u C F)) : FnT Tryz.prog w0 f args (Cn :: F) (fun v L' => Rv v ∧ L' = Cn :: F) := by
  obtain ⟨ma, md, ms, oa, od, os, u, C, rfl, h1, h2, h3⟩ := hn
  exact ((h ma md ms oa od os u C ⟨h1, h2, h3⟩).pre (we (by simp [kM]))).post fun v L' ⟨e1, e2⟩ => ⟨_, ⟨e1, rfl⟩, by subst e2; exact we (by simp [kM])⟩
theorem nodeg_read0 {G : qV} {Rv : Value → Prop} (hn : Wz p n Cn) (hg : kn G)
    (h : ∀ ma md ms oa od os u C e0 f0 e1 f1 e2 f2, MT n oa od os → FnT Tryz.prog w0 f args (kM p n ma md ms oa od os u C (QG e0 f0 e1 f1 e2 f2 F)) (fun v L' => Rv v ∧ L' = kM p n ma md ms oa od os u C (QG e0 f0 e1 f1 e2 f2 F))) : FnT Tryz.prog w0 f args (Cn :: G :: F) (fun v L' => Rv v ∧ L' = Cn :: G :: F) := by
  obtain ⟨ma, md, ms, oa, od, os, u, C, rfl, h1, h2, h3⟩ := hn
  obtain ⟨e0, f0, e1, f1, e2, f2, rfl⟩ := hg
  exact ((h ma md ms oa od os u C e0 f0 e1 f1 e2 f2 ⟨h1, h2, h3⟩).pre (we (by simp [kM, QG]))).post fun v L' ⟨e1, e2⟩ => ⟨_, ⟨e1, rfl⟩, by subst e2; exact we (by simp [kM, QG])⟩
theorem glob_read {G : qV} {Rv : Value → Prop} (hg : kn G)
    (h : ∀ e0 f0 e1 f1 e2 f2, FnT Tryz.prog w0 f args (QG e0 f0 e1 f1 e2 f2 F) (fun v L' => Rv v ∧ L' = QG e0 f0 e1 f1 e2 f2 F)) : FnT Tryz.prog w0 f args (G :: F) (fun v L' => Rv v ∧ L' = G :: F) := by
  obtain ⟨e0, f0, e1, f1, e2, f2, rfl⟩ := hg
  exact ((h e0 f0 e1 f1 e2 f2).pre (we (by simp [QG]))).post fun v L' ⟨e1, e2⟩ => ⟨_, ⟨e1, rfl⟩, by subst e2; exact we (by simp [QG])⟩
theorem node_change {n' : NS} {Rv : Value → Prop} (hn : NodeC p n Cn)
    (h : ∀ ma md ms oa od os u C, JJ n oa od os u C → FnT Tryz.prog w0 f args (kM p n ma md ms oa od os u C F) (fun v L' => Rv v ∧ NodeO p n' F L')) : FnT Tryz.prog w0 f args (Cn :: F) (fun v L' => Rv v ∧ ∃ Cn', NodeC p n' Cn' ∧ L' = Cn' :: F) := by
  refine (Jd hn h).post fun v L' ⟨e1, e2⟩ => ?_
  obtain ⟨Cn', h1, h2⟩ := e2.shut (w0 := w0)
  exact ⟨_, ⟨e1, Cn', h1, rfl⟩, h2⟩
theorem nodeg_change {G : qV} {n' : NS} {Rv : Value → Prop} (hn : NodeC p n Cn) (hg : kn G)
    (h : ∀ ma md ms oa od os u C e0 f0 e1 f1 e2 f2, JJ n oa od os u C → FnT Tryz.prog w0 f args (kM p n ma md ms oa od os u C (QG e0 f0 e1 f1 e2 f2 F)) (fun v L' => Rv v ∧ NodeO p n' (QG e0 f0 e1 f1 e2 f2 F) L')) : FnT Tryz.prog w0 f args (Cn :: G :: F) (fun v L' => Rv v ∧ ∃ Cn', NodeC p n' Cn' ∧ L' = Cn' :: G :: F) := by
  obtain ⟨e0, f0, e1, f1, e2, f2, rfl⟩ := hg
  refine ((Jd hn fun ma md ms oa od os u C hm => h ma md ms oa od os u C e0 f0 e1 f1 e2 f2 hm).pre (we (by simp [QG]))).post fun v L' ⟨e1, e2⟩ => ?_
  obtain ⟨Cn', h1, h2⟩ := e2.shut (w0 := w0)
  exact ⟨_, ⟨e1, Cn', h1, rfl⟩, fun w hw => (we (by simp [QG])) w (h2 w hw)⟩
end
theorem XC (p : Nat) (n : NS) (Cn : qV) (hn : NodeC p n Cn) : FnT Tryz.prog w0 10 #[.pointer (some ⟨p, 0, none⟩)] (Cn :: F) (fun v L' => v = .int .i64 n.size ∧ L' = Cn :: F) := by
  refine xR hn ?_
  intro ma md ms oa od os u C hm
  unfold kM zI
  refine qh (E0 := [(0, _)]) (N := 7) Tryz.func10 rfl rfl rfl rfl ?_
  refine qP <| qD rfl <| qo <| qB rfl <| q9 (qQ rfl) <| q9 (qA rfl) <| q9 (qH rfl rfl) <| qD rfl <| qF <| qz <| zn (.inl rfl) rfl (qu rfl) ?_
  exact ⟨rfl, rfl⟩
def zF (i : Int) : Int × Int := if (wW i).1 = 1 then (3, 0) else if (wW i).1 = 2 then (5, (wW i).2.1) else (2, 0)
theorem YI (i : Int) (G : qV) (hg : kn G) (hi : -9223372036854775808 ≤ i ∧ i ≤ 9223372036854775807) : FnT Tryz.prog w0 70 #[.int .i64 i] (G :: F) (fun v L' => v = yO (zF i) ∧ L' = G :: F) := by
  refine glob_read hg ?_
  intro e0 f0 e1 f1 e2 f2
  unfold QG
  refine qh (E0 := [(0, _)]) (N := 21) Tryz.func70 rfl rfl rfl rfl ?_
  refine qP <| qG (qn) ?_
  rintro t2 _ ⟨b2, rfl, rfl⟩
  refine qF <| qO <| qP <| qB rfl <| q9 (wJ rfl (Vp i hi)) <| qB rfl <| q9 (qi rfl rfl) <| q9 (qi rfl rfl) <| qG (qn) ?_
  rintro t3 _ ⟨b3, rfl, rfl⟩
  refine qS (wj rfl rfl rfl rfl) <| qD rfl <| qo <| q9 (qA rfl) <| q9 (qH rfl rfl) <| qF <| qg <| qP <| q9 (wl rfl rfl) <| qD rfl <| qF <| qL rfl (fun hc3 => ?_) (fun hc3 => ?_)
  ·
   refine qP <| q9 (wZ rfl) <| qS (wj rfl rfl rfl rfl) <| qF <| qz <| wN <| w7 <| wF ([(0, .cells [Value.int .i64 2, Value.int .i64 0].toArray e0 f0)] :: [(1, .cells [Value.int .i64 4, Value.int .i64 0].toArray e1 f1)] :: [(2, .cells [Value.int .i64 3, Value.int .i64 0].toArray e2 f2)] :: F) (.inl rfl) rfl (za rfl) ?_
   exact ⟨by unfold zF; rw [if_pos hc3]; rfl, rfl⟩
  ·
   refine qP <| q9 (wl rfl rfl) <| qD rfl <| qF <| qL rfl (fun hc5 => ?_) (fun hc5 => ?_)
   ·
    refine qP <| q9 (qA rfl) <| q9 (qH rfl rfl) <| q9 (wa rfl) <| qS (wj rfl rfl rfl rfl) <| qF <| qz <| wN <| w7 <| wF ([(0, .cells [Value.int .i64 2, Value.int .i64 0].toArray e0 f0)] :: [(1, .cells [Value.int .i64 4, Value.int .i64 0].toArray e1 f1)] :: [(2, .cells [Value.int .i64 3, Value.int .i64 0].toArray e2 f2)] :: F) (.inl rfl) rfl (za rfl) ?_
    exact ⟨by unfold zF; rw [if_neg hc3, if_pos hc5]; rfl, rfl⟩
   ·
    refine qZ <| qf <| qI <| qP <| q9 (wZ rfl) <| qS (wj rfl rfl rfl rfl) <| qF <| qz <| wF ([(0, .cells [Value.int .i64 2, Value.int .i64 0].toArray e0 f0)] :: [(1, .cells [Value.int .i64 4, Value.int .i64 0].toArray e1 f1)] :: [(2, .cells [Value.int .i64 3, Value.int .i64 0].toArray e2 f2)] :: F) (.inl rfl) rfl (za rfl) ?_
    exact ⟨by unfold zF; rw [if_neg hc3, if_neg hc5]; rfl, rfl⟩
def blk (n : NS) (g : Int → Option Sec) (i : Int) : Option Sec :=
  match n.data i with
  | some s => some s
  | none => if (n.at_ (1, i)).getD 0 ≠ 0 then g ((n.at_ (1, i)).getD 0) else some Sec.zero
def xM (n : NS) (i : Int) : Prop := (n.data i).isSome = true ∨ (n.at_ (1, i)).getD 0 ≠ 0
instance (n : NS) (i : Int) : Decidable (xM n i) := by unfold xM; infer_instance
theorem has_spec (p : Nat) (n : NS) (Cn : qV) (hn : NodeC p n Cn) (i : Int) : FnT Tryz.prog w0 41 #[.pointer (some ⟨p, 0, none⟩), .int .i64 i] (Cn :: F) (fun v L' => v = .bool (decide (xM n i)) ∧ L' = Cn :: F) := by
  refine xR hn ?_
  intro ma md ms oa od os u C hm
  unfold kM zI
  refine qh (E0 := [(0, _), (1, _)]) (N := 27) Tryz.func41 rfl rfl rfl rfl ?_
  refine qP <| qD rfl <| qo <| qB rfl <| q9 (qQ rfl) <| q9 (qA rfl) <| q9 (qH rfl rfl) <| qB rfl <| q9 (yr (z := Sec.zero) (q := i) rfl rfl hm.d) <| qB rfl <| q9 (qi rfl rfl) <| q9 (qi rfl rfl) <| qG (qn) ?_
  rintro t5 _ ⟨b5, rfl, rfl⟩
  refine qS (qq rfl rfl (by simp) (by simp) (wt _)) ?_
  refine qD rfl <| qo <| qB rfl <| qB rfl <| y0 (s := 17) rfl (fun hg2_1 => ?_) (fun hg2_1 => ?_)
  ·
   refine qN rfl rfl rfl <| qN rfl rfl rfl <| qN rfl rfl rfl <| qN rfl rfl rfl <| qN rfl rfl rfl <| qN rfl rfl rfl <| qN rfl rfl rfl <| qN rfl rfl rfl <| q9 (qk rfl rfl) <| qD rfl <| qF <| qz <| wF ([(p, .cells [.int .u32 n.num, .int .u32 n.ver, .int .i64 n.kind, .int .i64 n.size, .int .u32 n.time, .map (some ma), .map (some md), .map (some ms), u].toArray 90 (0, 0))] :: [(ma, oa)] :: [(md, od)] :: [(ms, os)] :: C :: F) (.inl rfl) rfl (qu rfl) <| ⟨?_, rfl⟩
   first | (rw [decide_eq_true (show xM n i from .inl hg2_1)]) | (congr 1; simp [xM, hg2_1])
  ·
   refine qE rfl rfl (qM rfl) <| qE rfl rfl (qQ rfl) <| qE rfl rfl (qA rfl) <| qE rfl rfl (qH rfl rfl) <| qE rfl rfl (qM rfl) <| qE rfl rfl (wa rfl) <| qE rfl rfl (yQ (z := 0) (q := (1, i)) rfl rfl hm.a) <| qE rfl rfl (wz rfl rfl) <| q9 (qU rfl rfl) <| qD rfl <| qF <| qz <| wF ([(p, .cells [.int .u32 n.num, .int .u32 n.ver, .int .i64 n.kind, .int .i64 n.size, .int .u32 n.time, .map (some ma), .map (some md), .map (some ms), u].toArray 90 (0, 0))] :: [(ma, oa)] :: [(md, od)] :: [(ms, os)] :: C :: F) (.inl rfl) rfl (qu rfl) <| ⟨?_, rfl⟩
   first | (rw [decide_eq_true (show xM n i from .inl hg2_1)]) | (congr 1; simp [xM, hg2_1])
def KC (rv : Value) (D : qV) (g : Int → Option Sec) : Prop := ∀ (w0 : World) (F : Res) (a : Int), FnV Tryz.prog w0 rv [.int .i64 a] (D :: F) (fun v L' => v = .tuple #[jH ((g a).getD Sec.zero), .int .i64 (if (g a).isSome then 0 else 20)] ∧ L' = D :: F)
theorem YL {P : Program} {w0 : World} {L F : Res} {g : Value} {vs : List Value} {v : Value} (c1 : qV) [ht : Take L [c1] F] (h : FnV P w0 g vs (c1 :: F) (fun v' L' => v' = v ∧ L' = c1 :: F)) : FnV P w0 g vs L (fun v' L' => v' = v ∧ L' = L) := by
  obtain ⟨f, first, captured, e1, e2, e3⟩ := h.ex
  exact ⟨f, first, captured, e1, e2, zS c1 e3⟩
theorem VC {n : NS} {g : Int → Option Sec} {i : Int} {s : Sec} (h : n.data i = some s) : blk n g i = some s := by unfold blk; rw [h]
theorem VD {n : NS} {g : Int → Option Sec} {i : Int} (h : n.data i = none) (h1 : (n.at_ (1, i)).getD 0 ≠ 0) : blk n g i = g ((n.at_ (1, i)).getD 0) := by unfold blk; rw [h]; exact if_pos h1
theorem VE {n : NS} {g : Int → Option Sec} {i : Int} (h : n.data i = none) (h1 : ¬ (n.at_ (1, i)).getD 0 ≠ 0) : blk n g i = some Sec.zero := by unfold blk; rw [h]; exact if_neg h1
theorem JA (p : Nat) (n : NS) (Cn D : qV) (hn : NodeC p n Cn) (i : Int) (rv : Value) (g : Int → Option Sec) (hr : KC rv D g) :
    FnT Tryz.prog w0 38 #[.pointer (some ⟨p, 0, none⟩), .int .i64 i, rv] (Cn :: D :: F) (fun v L' => v = .tuple #[jH ((blk n g i).getD Sec.zero), .int .i64 (if (blk n g i).isSome then 0 else 20)] ∧ L' = Cn :: D :: F) := by
  refine xR (F := D :: F) (Rv := fun v => v = .tuple #[jH ((blk n g i).getD Sec.zero), .int .i64 (if (blk n g i).isSome then 0 else 20)]) hn ?_
  intro ma md ms oa od os u C hm
  unfold kM zI
  refine qh (E0 := [(0, _), (1, _), (2, _)]) (N := 37) Tryz.func38 rfl rfl rfl rfl ?_
  refine qP <| qG (qn) ?_
  rintro t6 _ ⟨b6, rfl, rfl⟩
  refine qD rfl <| qF <| qO <| qP <| qB rfl <| q9 (qQ rfl) <| q9 (qA rfl) <| q9 (qH rfl rfl) <| qB rfl <| q9 (yr (z := Sec.zero) (q := i) rfl rfl hm.d) <| qB rfl <| q9 (qi rfl rfl) <| q9 (qi rfl rfl) <| qG (qn) ?_
  rintro t8 _ ⟨b8, rfl, rfl⟩
  refine qS (qq rfl rfl (by simp) (by simp) (wt _)) ?_
  refine qD rfl <| qo <| qB rfl <| qF <| y3 rfl (fun hc2 => ?_) (fun hc2 => ?_)
  ·
   refine qP <| q9 (wS rfl (by simp)) ?_
   refine qS (qq rfl rfl (by simp) (by simp) (wt _)) ?_
   refine qD rfl <| qF <| qz <| w7 <| wY ([(p, .cells [.int .u32 n.num, .int .u32 n.ver, .int .i64 n.kind, .int .i64 n.size, .int .u32 n.time, .map (some ma), .map (some md), .map (some ms), u].toArray 90 (0, 0))] :: [(ma, oa)] :: [(md, od)] :: [(ms, os)] :: C :: D :: F) (.inl rfl) rfl (zX rfl (by first | exact zk _ | simp)) (qu rfl) ?_
   obtain ⟨s, hs⟩ := Option.isSome_iff_exists.1 hc2
   exact ⟨by rw [VC hs, hs]; rfl, rfl⟩
  ·
   refine qZ <| qI <| qO <| qP <| qB rfl <| q9 (qQ rfl) <| q9 (qA rfl) <| q9 (qH rfl rfl) <| qB rfl <| q9 (wa rfl) <| q9 (yQ (z := 0) (q := (1, i)) rfl rfl hm.a) <| qD rfl <| qo <| qB rfl <| q9 (wz rfl rfl) <| qF <| qL rfl (fun hc5 => ?_) (fun hc5 => ?_)
   ·
    refine qP <| qB rfl <| qB rfl <| q9 (kX rfl rfl (YL D (hr w0 _ _))) <| q9 (qi rfl rfl) <| q9 (qi rfl rfl) <| qS (qq rfl rfl (by simp) (by simp) (wt _)) ?_
    refine qD rfl <| qF <| qz <| w7 <| wY ([(p, .cells [.int .u32 n.num, .int .u32 n.ver, .int .i64 n.kind, .int .i64 n.size, .int .u32 n.time, .map (some ma), .map (some md), .map (some ms), u].toArray 90 (0, 0))] :: [(ma, oa)] :: [(md, od)] :: [(ms, os)] :: C :: D :: F) (.inl rfl) rfl (zX rfl (by first | exact zk _ | simp)) (qu rfl) ?_
    have h0 : n.data i = none := by simpa using hc2
    exact ⟨by rw [VD h0 hc5]; rfl, rfl⟩
   ·
    refine qZ <| qI <| qP <| q9 (kQ (z := jH Sec.zero) rfl Tryz.underlying55 rfl (fun _ h => by cases h) (fun _ _ h => by cases h; exact ⟨_, inferInstance⟩)) ?_
    refine qS (qq rfl rfl (by simp) (by simp) (wt _)) ?_
    refine qD rfl <| qF <| qz <| wY ([(p, .cells [.int .u32 n.num, .int .u32 n.ver, .int .i64 n.kind, .int .i64 n.size, .int .u32 n.time, .map (some ma), .map (some md), .map (some ms), u].toArray 90 (0, 0))] :: [(ma, oa)] :: [(md, od)] :: [(ms, os)] :: C :: D :: F) (.inl rfl) rfl (zX rfl (by first | exact zk _ | simp)) (qu rfl) ?_
    have h0 : n.data i = none := by simpa using hc2
    exact ⟨by rw [VE h0 hc5]; rfl, rfl⟩
theorem NodeC.eq {p : Nat} {n : NS} {Cn : qV} (h : NodeC p n Cn) : ∃ ma md ms oa od os u C, JJ n oa od os u C ∧ Cn = (p, .cells (zI n ma md ms u).toArray 90 (0, 0)) :: (ma, oa) :: (md, od) :: (ms, os) :: C := by
  obtain ⟨ma, md, ms, oa, od, os, u, C, e, h1, h2, h3, h4⟩ := h
  exact ⟨ma, md, ms, oa, od, os, u, C, ⟨h1, h2, h3, h4⟩, e⟩
def QP (n : NS) (g : Int → Option Sec) : List (Int × Int × Int) → Option (List Int)
  | [] => some []
  | q :: l => match blk n g q.1, QP n g l with
    | some s, some bs => some ((s.l.drop q.2.1.toNat).take (q.2.2 - q.2.1).toNat ++ bs)
    | _, _ => none
theorem readL_snoc {n : NS} {g : Int → Option Sec} {l : List (Int × Int × Int)} {bs : List Int} {q : Int × Int × Int} {s : Sec} (h : QP n g l = some bs) (hs : blk n g q.1 = some s) :
    QP n g (l ++ [q]) = some (bs ++ (s.l.drop q.2.1.toNat).take (q.2.2 - q.2.1).toNat) := by
  induction l generalizing bs with
  | nil => cases h; simp [QP, hs]
  | cons x l ih =>
    simp only [QP, List.cons_append] at h ⊢
    cases hb : blk n g x.1 with
    | none => rw [hb] at h; cases h
    | some t =>
      cases hl : QP n g l with
      | none => rw [hb, hl] at h; cases h
      | some cs =>
        rw [hb, hl] at h
        cases h
        rw [ih hl]
        simp
theorem readL_none {n : NS} {g : Int → Option Sec} {l : List (Int × Int × Int)} {q : Int × Int × Int} (h : q ∈ l) (hs : blk n g q.1 = none) : QP n g l = none := by
  induction l with
  | nil => cases h
  | cons x l ih =>
    simp only [QP]
    rcases List.mem_cons.1 h with rfl | h
    · rw [hs]
    · rw [ih h]; cases blk n g x.1 <;> rfl
theorem sec_take (s : Sec) {a b : Nat} (h1 : a ≤ b) (h2 : b ≤ 128) : ((ww s).drop a).take (b - a) = u8s ((s.l.drop a).take (b - a)) := by
  simp [ww, Wb, x9]
theorem ZR {p : Nat} (a b : Nat) (h : a < 128) : Value.slice (some (if 128 = a then (⟨p, 0, none⟩ : Addr) else ⟨p, 0 + a * 1, none⟩)) (b - a) (128 - a) = .slice (some ⟨p, a, none⟩) (b - a) (128 - a) := by
  rw [if_neg (by omega)]; simp
theorem Zn (p : Nat) (n : NS) (Cn D : qV) (hn : NodeC p n Cn) (a m : Int) (rv : Value) (g : Int → Option Sec) (hr : KC rv D g) (hsz : 0 ≤ n.size ∧ n.size ≤ 136192) (ha : 0 ≤ a ∧ a ≤ 9223372036854775807) (hm : 0 ≤ m ∧ m ≤ 9223372036854775807) :
    FnT Tryz.prog w0 9 #[.pointer (some ⟨p, 0, none⟩), .int .i64 a, .int .i64 m, rv] (Cn :: D :: F)
      (fun v L' => ∃ u2 C2, L' = C2 :: Cn :: D :: F ∧ (match QP n g (j3 (min a n.size) (min m (n.size - min a n.size))) with
        | some bs => v = .tuple #[u2, .int .i64 0] ∧ SlC 5 1 u2 bs.length (u8s bs) C2
        | none => v = .tuple #[.slice none 0 0, .int .i64 20] ∧ C2 = [])) := by
  obtain ⟨ma, md, ms, oa, od, os, u, C, hM, hCn⟩ := hn.eq
  unfold zI at hCn
  have hE : kr (min a n.size) (min m (n.size - min a n.size)) = 0 := by unfold kr; rw [if_neg (by omega), if_neg (by omega)]
  obtain ⟨l, hl⟩ : ∃ l, j3 (min a n.size) (min m (n.size - min a n.size)) = l := ⟨_, rfl⟩
  have hll := J2 (min a n.size) (min m (n.size - min a n.size))
  rw [hl] at hll ⊢
  refine qh (E0 := [(0, _), (1, _), (2, _), (3, _)]) (N := 72) Tryz.func9 rfl rfl rfl rfl ?_
  refine qP <| qD rfl <| qD rfl <| qF <| qO <| qP <| qB rfl <| q9 (wL rfl rfl) <| qB rfl <| qY (s := 19) rfl (fun hg1_2 => ?_) (fun hg1_2 => ?_)
  · (exfalso; omega)
  ·
   refine qE rfl rfl (qM rfl) <| qE rfl rfl (wL rfl rfl) <| q9 (qU rfl rfl) <| qF <| qL rfl (fun hc1 => ?_) (fun hc1 => ?_)
   · (exfalso; omega)
   ·
    refine qZ <| qI <| qO <| yx (we (L' := [(p, .cells [.int .u32 n.num, .int .u32 n.ver, .int .i64 n.kind, .int .i64 n.size, .int .u32 n.time, .map (some ma), .map (some md), .map (some ms), u].toArray 90 (0, 0))] :: [(ma, oa)] :: [(md, od)] :: [(ms, os)] :: C :: D :: F) (by rw [hCn]; simp)) ?_
    refine wQ w8 <| wE [(24, .pure _), (25, .pure _), (26, .pure _), (27, .pure _), (28, .pure _), (29, .pure _), (30, .pure _), (31, .pure _), (32, .pure _), (33, .pure _), (34, .pure _), (35, .pure _), (36, .pure _), (37, .pure _), (38, .pure _), (39, .pure _), (40, .pure _), (41, .pure _), (42, .pure _)] (by kernel_rfl) rfl rfl rfl wd (qC rfl (fun X => qM rfl) <| qC rfl (fun X => qM rfl) <| qC rfl (fun X => qQ rfl) <| qC rfl (fun X => qA rfl) <| qC rfl (fun X => qH rfl rfl) <| qC rfl (fun X => YV rfl rfl) <| qC rfl (fun X => qM rfl) <| qC rfl (fun X => qM rfl) <| qC rfl (fun X => qQ rfl) <| qC rfl (fun X => qA rfl) <| qC rfl (fun X => qH rfl rfl) <| qC rfl (fun X => qM rfl) <| qC rfl (fun X => qM rfl) <| qC rfl (fun X => qQ rfl) <| qC rfl (fun X => qA rfl) <| qC rfl (fun X => qH rfl rfl) <| qC rfl (fun X => YV rfl rfl) <| qC rfl (fun X => y1 rfl rfl (by omega)) <| qC rfl (fun X => YV rfl rfl) <| ParH.nil rfl) ?_
    dsimp only [zQ, List.drop, List.length]
    refine wu (by kernel_rfl) (qx rfl (V7 (min a n.size) (min m (n.size - min a n.size)) (by omega) (by omega))) ?_
    rintro t43 _ ⟨uc, Cc, rfl, rfl, hcu⟩
    refine qm (by kernel_rfl) (qM rfl) ?_
    refine wE [(44, .pure _), (45, .pure _), (10, .pure _)] (by kernel_rfl) rfl rfl rfl wd (qC rfl (fun X => qi rfl rfl) <| qC rfl (fun X => qi rfl rfl) <| qC rfl (fun X => z8 rfl) <| ParH.nil rfl) ?_
    dsimp only [zQ, List.drop, List.length]
    refine qm (by kernel_rfl) (z8 rfl) ?_
    refine wI ?_
    rw [hE, if_pos rfl, hl] at hcu
    refine zM (we (L' := Cc :: Cn :: D :: F) (by rw [hCn]; simp)) ?_
    obtain ⟨qc, cc, rfl⟩ := hcu.slice
    refine qI <| qP <| qD rfl <| qF <| qO <| qP <| qB rfl <| q9 (wD rfl) <| qB rfl <| qF <| qg <| wV (Γ := {pΓ : (Nat) × (Value) × (qV) × (List Int) // (fun (i : Nat) (uo : Value) (Co : qV) (bs : List Int) => i ≤ l.length ∧ QP n g (l.take i) = some bs ∧ SlC 5 1 uo bs.length (u8s bs) Co ∧ bs.length ≤ 128 * i) pΓ.1 pΓ.2.1 pΓ.2.2.1 pΓ.2.2.2}) (fun g => (fun (i : Nat) (uo : Value) (Co : qV) (bs : List Int) => [(0, .pointer (some ⟨p, 0, none⟩)), (3, rv), (12, uo), (46, .slice qc l.length cc), (47, .int .i64 l.length), (48, .int .i64 i)]) g.1.1 g.1.2.1 g.1.2.2.1 g.1.2.2.2) (fun g => (fun (i : Nat) (uo : Value) (Co : qV) (bs : List Int) => Co :: Cc :: Cn :: D :: F) g.1.1 g.1.2.1 g.1.2.2.1 g.1.2.2.2) (fun g => (fun (i : Nat) (uo : Value) (Co : qV) (bs : List Int) => l.length - i) g.1.1 g.1.2.1 g.1.2.2.1 g.1.2.2.2) ⟨(0, .slice none 0 0, [], []), by dsimp only; exact ⟨by omega, rfl, SlC.nil _ _, by simp⟩⟩ (qX _) ?_
    rintro ⟨⟨i, uo, Co, bs⟩, hloop⟩
    replace hloop : i ≤ l.length ∧ QP n g (l.take i) = some bs ∧ SlC 5 1 uo bs.length (u8s bs) Co ∧ bs.length ≤ 128 * i := hloop
    obtain ⟨hi, hrd, hsl, hbl⟩ := hloop
    show Tr _ _ _ ([(0, .pointer (some ⟨p, 0, none⟩)), (3, rv), (12, uo), (46, .slice qc l.length cc), (47, .int .i64 l.length), (48, .int .i64 i)]) (Co :: Cc :: Cn :: D :: F) _ _
    refine qP <| q9 (wL rfl rfl) <| qF <| qO <| qL rfl (fun hc6 => ?_) (fun hc6 => ?_)
    ·
     refine qZ <| qI <| qO <| qg <| qO ?_
     obtain ⟨q, hq⟩ : ∃ q, l[i]? = some q := ⟨_, List.getElem?_eq_getElem (by omega)⟩
     have hrg := Qw (a := min a n.size) (n := min m (n.size - min a n.size)) (by omega) (hl ▸ List.mem_of_getElem? hq)
     refine qK <| qG (yP (j := i) rfl rfl hcu (by omega) (by omega)) ?_
     rintro t50 _ ⟨b, cap, spare, hqc, rfl, hcap, hnc, rfl, rfl⟩
     refine q9 (zC (j := i) kI rfl hq rfl) <| qG (qn) ?_
     rintro t14 _ ⟨b14, rfl, rfl⟩
     refine qS (qq (l := [Value.int .i64 0, Value.int .i64 0, Value.int .i64 0]) rfl rfl rfl rfl rfl) <| qo <| qB rfl <| q9 (qA rfl) <| q9 (qH rfl rfl) <| qB rfl <| q9 (wJ rfl (yj (Cn) (D) (JA p n Cn D hn q.1 rv g hr))) <| qB rfl <| q9 (qi rfl rfl) <| q9 (qi rfl rfl) <| qG (qn) ?_
     rintro t15 _ ⟨b15, rfl, rfl⟩
     refine qS (qq rfl rfl (by simp) (by simp) (wt _)) ?_
     refine qD rfl <| qF <| qO <| qP <| qB rfl <| q9 (wz rfl rfl) <| qF <| qL rfl (fun hc9 => ?_) (fun hc9 => ?_)
     ·
      have hb : blk n g q.1 = none := by
        cases h : blk n g q.1 with
        | none => rfl
        | some s => rw [h] at hc9; exact absurd rfl hc9
      refine qP <| qB rfl <| qD rfl <| qD rfl <| qF <| qz <| w7 <| wN <| w7 <| kc <| wN <| w7 <| wY ([] :: Cn :: D :: F) (.inl rfl) rfl (qu rfl) (qu rfl) ?_
      exact ⟨.slice none 0 0, [], rfl, by rw [readL_none (List.mem_of_getElem? hq) hb]; exact ⟨by rw [hb]; rfl, rfl⟩⟩
     ·
      obtain ⟨s, hb⟩ : ∃ s, blk n g q.1 = some s := by
        cases h : blk n g q.1 with
        | none => rw [h] at hc9; exact absurd (by decide) hc9
        | some s => exact ⟨s, rfl⟩
      rw [hb]
      obtain ⟨qa, hqa⟩ : ∃ qa : Nat, q.2.1 = qa := ⟨q.2.1.toNat, by omega⟩
      obtain ⟨qb, hqb⟩ : ∃ qb : Nat, q.2.2 = qb := ⟨q.2.2.toNat, by omega⟩
      refine qZ <| qI <| qK <| qB rfl <| q9 (qA rfl) <| q9 (qH rfl (show wX (kJ q) 1 = some (.int .i64 qa) by rw [← hqa]; rfl)) <| q9 (qA rfl) <| q9 (qH rfl (show wX (kJ q) 2 = some (.int .i64 qb) by rw [← hqb]; rfl)) <| q9 (kg (l := qa) (h := qb) (kl := .i64) (kh := .i64) rfl rfl rfl (by omega) (by omega)) <| qG (wg (m := qb - qa) (sz := 1) rfl (by rw [← ZR qa qb (by omega)]; rfl) hsl (wi (ys := u8s ((s.l.drop qa).take (qb - qa))) inferInstance (by rw [Nat.mul_one]; exact sec_take s (by omega) (by omega)) (by simp [s.len]; omega)) (xY _) Tryz.underlying23 rfl rfl (by omega)) ?_
      rintro t69 _ ⟨C', hs', rfl⟩
      refine qD rfl <| qT <| qf <| qI <| qK <| q9 (w9 rfl rfl (by omega)) <| qB rfl <| qT <| w5 ⟨(i + 1, t69, C', bs ++ (s.l.drop qa).take (qb - qa)), ?_⟩ ?_ ?_
      ·
       try dsimp only
       have hlen : ((s.l.drop qa).take (qb - qa)).length = qb - qa := by simp [s.len]; omega
       refine ⟨by omega, ?_, by rw [List.length_append, ym, hlen]; exact hs', by rw [List.length_append, hlen]; omega⟩
       rw [List.take_add_one, hq, Option.toList_some, readL_snoc hrd hb, hqa, hqb, show (qb - qa : Int).toNat = qb - qa from by omega, Int.toNat_natCast]
      · (try dsimp only); omega
      · (try dsimp only); exact qX _
    ·
     refine wb <| qr <| qt <| qj <| qI <| qP <| qB rfl <| qD rfl <| qD rfl <| qF <| qz <| wY (Co :: Cn :: D :: F) (.inl rfl) rfl (qu rfl) (qu rfl) ?_
     exact ⟨uo, Co, rfl, by rw [List.take_of_length_le (by omega)] at hrd; rw [hrd]; exact ⟨rfl, hsl⟩⟩
def JM {β : Type} (g f : Int → Option β) : Int → Option β := fun k => match g k with | some v => some v | none => f k
theorem mapsCopy_ok (md mf : Nat) (od oof : Obj) (f g : Int → Option Sec) (hd : MapF (Value.int .i64) jH f od) (hf : MapF (Value.int .i64) jH g oof) :
    FnT Tryz.prog w0 39 #[.map (some md), .map (some mf)] ([(md, od)] :: [(mf, oof)] :: F)
      (fun v L' => v = .tuple #[] ∧ ∃ od', MapF (Value.int .i64) jH (JM g f) od' ∧ L' = [(md, od')] :: [(mf, oof)] :: F) := by
  obtain ⟨al, hal, hag⟩ := hf
  refine qh (E0 := [(0, _), (1, _)]) (N := 16) Tryz.func39 rfl rfl rfl rfl ?_
  refine qP <| qB rfl <| qG (xE (r := mf) rfl hal) ?_
  rintro t7 _ ⟨it, io, rfl, hio, rfl⟩
  refine qF <| qg <| wV (Γ := {pΓ : (List Nat) × (Obj) × (Obj) × (Int → Option Sec) // (fun (vis : List Nat) (io : Obj) (oo : Obj) (h : Int → Option Sec) => IterOk mf oof al.length vis io ∧ MapF (Value.int .i64) jH h oo ∧ (∀ k, (ko al vis k → h k = g k) ∧ (¬ ko al vis k → h k = f k))) pΓ.1 pΓ.2.1 pΓ.2.2.1 pΓ.2.2.2}) (fun g => (fun (vis : List Nat) (io : Obj) (oo : Obj) (h : Int → Option Sec) => [(0, .map (some md)), (7, .pointer (some ⟨it, 0, none⟩))]) g.1.1 g.1.2.1 g.1.2.2.1 g.1.2.2.2) (fun g => (fun (vis : List Nat) (io : Obj) (oo : Obj) (h : Int → Option Sec) => [(it, io)] :: [(md, oo)] :: [(mf, oof)] :: F) g.1.1 g.1.2.1 g.1.2.2.1 g.1.2.2.2) (fun g => (fun (vis : List Nat) (io : Obj) (oo : Obj) (h : Int → Option Sec) => al.length - vis.length) g.1.1 g.1.2.1 g.1.2.2.1 g.1.2.2.2) ⟨([], io, od, f), by dsimp only; exact ⟨hio, hd, fun k => ⟨fun h => absurd h Wa, fun _ => rfl⟩⟩⟩ (qX _) ?_
  rintro ⟨⟨vis, io, oo, h⟩, hloop⟩
  replace hloop : IterOk mf oof al.length vis io ∧ MapF (Value.int .i64) jH h oo ∧ (∀ k, (ko al vis k → h k = g k) ∧ (¬ ko al vis k → h k = f k)) := hloop
  obtain ⟨hio, hd, hk⟩ := hloop
  show Tr _ _ _ ([(0, .map (some md)), (7, .pointer (some ⟨it, 0, none⟩))]) ([(it, io)] :: [(md, oo)] :: [(mf, oof)] :: F) _ _
  refine qP <| qG (xc (r := mf) (ob := oof) (vis := vis) rfl (fun w hw => Own.get hw (inferInstance : At _ mf oof _)) hal hio) ?_
  rintro t8 _ (⟨rfl, hfin, rfl⟩ | ⟨i, q, io', rfl, hq, hni, hio', rfl⟩)
  ·
   refine q9 (qi rfl rfl) <| qF <| qO <| wU rfl <| wb <| qr <| qt <| qj <| kH ([(md, oo)] :: [(mf, oof)] :: F) (.inr rfl) rfl  <| ⟨rfl, oo, hd.congr fun k => ?_, rfl⟩
   have hsf := Qk hio hfin k
   unfold JM
   by_cases hs : ko al vis k
   · obtain ⟨v, hv⟩ := hsf.1 hs
     rw [(hk k).1 hs, ← hag, hv]
   · rw [(hk k).2 hs]
     cases hg : g k with
     | none => rfl
     | some v => exact absurd (hsf.2 ⟨v, by rw [hag, hg]⟩) hs
  ·
   refine q9 (qi rfl rfl) <| qF <| qO <| zL rfl <| qZ <| qI <| qg <| qP <| q9 (xG (r := mf) (ob := oof) (vis := vis) rfl (fun w hw => Own.get hw (inferInstance : At _ mf oof _)) hal hio' hq) ?_
   refine q9 (qi rfl rfl) <| q9 (qi rfl rfl) <| qG (qn) ?_
   rintro t5 _ ⟨b5, rfl, rfl⟩
   refine qD rfl <| qS (qq rfl rfl (by simp) (by simp) (wt _)) ?_
   refine qF <| qK <| qB rfl <| qB rfl <| q9 (wS rfl (by simp)) ?_
   refine y5 (zR (r := md) (q := q.1) (v := q.2) rfl rfl rfl hd) ?_
   rintro _ _ ⟨oo', hoo', rfl⟩
   refine qT <| qf <| w5 ⟨(vis ++ [i], io', oo', upd h q.1 (some q.2)), ?_⟩ ?_ ?_
   ·
    try dsimp only
    refine ⟨hio', hoo', fun k => ?_⟩
    rw [kG hq]
    by_cases hkq : k = q.1
    · subst hkq
      rw [zW]
      exact ⟨fun _ => by rw [← hag, xJ hal.nodup (List.mem_of_getElem? hq)], fun hn => absurd (.inr rfl) hn⟩
    · rw [wk _ _ hkq]
      exact ⟨fun hs => (hk k).1 (hs.resolve_right hkq), fun hn => (hk k).2 (fun hs => hn (.inl hs))⟩
   ·
    try dsimp only
    have := hio'.lt i (by simp)
    have h1 := yS (l2 := List.range al.length) hio'.nodup (fun x hx => List.mem_range.2 (hio'.lt x hx))
    simp at h1 ⊢
    omega
   · (try dsimp only); exact qX _
instance (l : List Int) : Decidable (IsB l) := by unfold IsB; infer_instance
def yC (s : Sec) (k : Nat) (m : List Int) : Sec := if h : k + m.length ≤ 128 ∧ IsB m then s.put k m h.1 h.2 else s
def jt (n : NS) (g : Int → Option Sec) : List (Int × Int × Int) → List Int → (Int → Option Sec) → Option (Int → Option Sec)
  | [], _, f => some f
  | q :: l, bs, f => match blk n g q.1 with
    | none => none
    | some s => jt n g l (bs.drop (q.2.2 - q.2.1).toNat) (upd f q.1 (some (yC s q.2.1.toNat (bs.take (q.2.2 - q.2.1).toNat))))
def kv (n : NS) (g : Int → Option Sec) (a : Int) (bs : List Int) : Int × NS :=
  if kr a bs.length ≠ 0 ∨ bs.length = 0 then (kr a bs.length, n)
  else match jt n g (j3 a bs.length) bs (fun _ => none) with
    | some f => (0, { n with data := JM f n.data, size := max n.size (a + bs.length) })
    | none => (20, n)
theorem Zh {n : NS} {g : Int → Option Sec} {a : Int} {bs : List Int} (h : kr a bs.length ≠ 0 ∨ bs.length = 0) : kv n g a bs = (kr a bs.length, n) := by unfold kv; rw [if_pos h]
theorem Ve {n : NS} {g : Int → Option Sec} {a : Int} {bs : List Int} {l : List (Int × Int × Int)} (h : ¬ (kr a bs.length ≠ 0 ∨ bs.length = 0)) (hl : j3 a bs.length = l) (hT : jt n g l bs (fun _ => none) = none) : kv n g a bs = (20, n) := by
  unfold kv; rw [if_neg h, hl, hT]
theorem Vd {n : NS} {g : Int → Option Sec} {a : Int} {bs : List Int} {l : List (Int × Int × Int)} {f : Int → Option Sec} (h : ¬ (kr a bs.length ≠ 0 ∨ bs.length = 0)) (hl : j3 a bs.length = l) (hT : jt n g l bs (fun _ => none) = some f) :
    kv n g a bs = (0, { n with data := JM f n.data, size := max n.size (a + bs.length) }) := by
  unfold kv; rw [if_neg h, hl, hT]
theorem x6 {s : Sec} {k : Nat} {m : List Int} (h1 : k + m.length ≤ 128) (h2 : IsB m) : yC s k m = s.put k m h1 h2 := by unfold yC; rw [dif_pos ⟨h1, h2⟩]
theorem V9 {a n : Int} (ha : 0 ≤ a) : ∀ (m : List (Int × Int × Int)), (∀ z ∈ m, z ∈ j3 a n) → 0 ≤ kK m := by
  intro m
  induction m with
  | nil => intro _; exact Int.le_refl _
  | cons q m ih =>
    intro h
    have h1 := Qw ha (h q (by simp))
    have h2 := ih (fun z hz => h z (by simp [hz]))
    simp only [kK]; omega
theorem Vi (s : Sec) (k : Nat) (m : List Int) (h : k + m.length ≤ 128) (hm : IsB m) : (ww s).take k ++ u8s m ++ (ww s).drop (k + (u8s m).length) = ww (s.put k m h hm) := by
  simp only [ww, Sec.put, Qc, ym, x9, Wb, Z4]
theorem Reads.first {L : Res} {q : Option Addr} {m c k : Nat} {ys : List Int} (h : Reads w0 L (.slice q m c) m 1 (u8s ys)) (hk : k ≤ m) (w : World) (hw : Own w0 L w) {P : Program} : (Builtin.firstCells 1 k (.slice q m c)).run P w = .ok (u8s (ys.take k)).toArray w := by
  obtain ⟨p, c', e, hlen, hor⟩ := h.h
  cases e
  rcases hor with h0 | ⟨b, off, cs, et, fr, rfl, hm, hy⟩
  · have hk0 : k = 0 := by omega
    subst hk0
    cases q <;> rfl
  · simp only [Builtin.firstCells]
    rw [Nat.mul_one]
    refine KF (hw.at_ _ hm) ?_ (by simp at hlen ⊢; omega)
    rw [← x9, ← hy, List.take_take]; congr 1; omega
theorem Reads.dropB {L : Res} {q : Option Addr} {m c k : Nat} {ys : List Value} (h : Reads w0 L (.slice q m c) m 1 ys) (hk : k ≤ m) (hc : m ≤ c) :
    Reads w0 L (.slice (if c = k then q else q.map (·.add (k * 1))) (m - k) (c - k)) (m - k) 1 (ys.drop k) := by
  obtain ⟨p, c', e, hlen, hor⟩ := h.h
  cases e
  refine ⟨_, _, rfl, by simp [hlen], ?_⟩
  rcases hor with h0 | ⟨b, off, cs, et, fr, rfl, hm, hy⟩
  · exact .inl (by omega)
  · by_cases hck : c = k
    · exact .inl (by omega)
    · refine .inr ⟨b, off + k, cs, et, fr, ?_, hm, ?_⟩
      · rw [if_neg hck]; simp [yl]
      · rw [← hy, List.drop_take, List.drop_drop]; congr 1; omega
theorem kR {α : Type} {l : List α} {i : Nat} {q : α} (h : l[i]? = some q) : l.drop i = q :: l.drop (i + 1) := by
  have hlt := (List.getElem?_eq_some_iff.1 h).1
  rw [List.drop_eq_getElem_cons hlt, (List.getElem?_eq_some_iff.1 h).2]
theorem Qa (p : Nat) (n : NS) (Cn D : qV) (hn : NodeC p n Cn) (a : Int) (q : Option Addr) (c : Nat) (bs : List Int) (rv : Value) (g : Int → Option Sec) (hr : KC rv D g) (hsz : 0 ≤ n.size ∧ n.size ≤ 136192) (ha : -9223372036854775808 ≤ a ∧ a ≤ 9223372036854775807) (hbs : IsB bs) (hlen : (bs.length : Int) ≤ 9223372036854775807) (hc : bs.length ≤ c)
    (hq : q = none → bs.length = 0) (hb : ∀ A : Res, Reads w0 (A ++ F) (.slice q bs.length c) bs.length 1 (u8s bs)) :
    FnT Tryz.prog w0 12 #[.pointer (some ⟨p, 0, none⟩), .int .i64 a, .slice q bs.length c, rv] (Cn :: D :: F)
      (fun v L' => ∃ Cn', v = .int .i64 (kv n g a bs).1 ∧ NodeC p (kv n g a bs).2 Cn' ∧ L' = Cn' :: D :: F) := by
  obtain ⟨ma, md, ms, oa, od, os, u, C, hM, hCn⟩ := hn.eq
  unfold zI at hCn
  refine qh (E0 := [(0, _), (1, _), (2, _), (3, _)]) (N := 88) Tryz.func12 rfl rfl rfl rfl ?_
  refine qP <| qD rfl <| qo <| qB rfl <| qB rfl <| q9 (wD rfl) <| qG (qx rfl (V7 a bs.length ha (by omega))) ?_
  rintro t21 _ ⟨uc, Cc, rfl, rfl, hcu⟩
  refine qB rfl <| q9 (qi rfl rfl) <| q9 (qi rfl rfl) <| qD rfl <| qD rfl <| qF <| qO <| qP <| qB rfl <| q9 (wz rfl rfl) <| qB rfl <| qY (s := 26) rfl (fun hg2_2 => ?_) (fun hg2_2 => ?_)
  ·
   refine qN rfl rfl rfl <| qN rfl rfl rfl <| qN rfl rfl rfl <| q9 (qk rfl rfl) <| qF <| zL rfl <| qP <| qB rfl <| qD rfl <| qF <| qz <| w7 <| wF (Cn :: D :: F) (.inl rfl) rfl (qu rfl) ?_
   exact ⟨Cn, by rw [Zh (by first | exact .inl hg2_2 | (exact .inr (by omega)))], by rw [Zh (by first | exact .inl hg2_2 | (exact .inr (by omega)))]; exact hn, rfl⟩
  ·
   refine qE rfl rfl (qM rfl) <| qE rfl rfl (wD rfl) <| qE rfl rfl (wl rfl rfl) <| q9 (qU rfl rfl) <| qF <| qL rfl (fun hc2 => ?_) (fun hc2 => ?_)
   ·
    refine qP <| qB rfl <| qD rfl <| qF <| qz <| w7 <| wF (Cn :: D :: F) (.inl rfl) rfl (qu rfl) ?_
    exact ⟨Cn, by rw [Zh (by first | exact .inl hg2_2 | (exact .inr (by omega)))], by rw [Zh (by first | exact .inl hg2_2 | (exact .inr (by omega)))]; exact hn, rfl⟩
   ·
    refine qZ <| qI <| qP <| qG (ki) ?_
    rintro t32 _ ⟨b32, rfl, rfl⟩
    refine qD rfl <| qT ?_
    have hE : kr a bs.length = 0 := by simpa using hg2_2
    have hne : ¬ (kr a bs.length ≠ 0 ∨ bs.length = 0) := by simp only [hE, ne_eq, not_true, false_or]; omega
    rw [hE, if_pos rfl] at hcu
    have hb0 : 0 ≤ a ∧ a + bs.length ≤ 136192 := by unfold kr at hE; split at hE <;> first | (cases hE; done) | (split at hE <;> first | (cases hE; done) | omega)
    obtain ⟨l, hl⟩ : ∃ l, j3 a bs.length = l := ⟨_, rfl⟩
    have hll := J2 a bs.length
    have hsum := V8 (a := a) (n := bs.length) (by omega)
    rw [hl] at hcu hll hsum
    obtain ⟨qc, cc, rfl⟩ := hcu.slice
    refine qI <| qP <| qB rfl <| qD rfl <| qF <| qO <| qP <| qB rfl <| q9 (wD rfl) <| qB rfl <| qF <| qg <| wV (Γ := {pΓ : (Nat) × (Obj) × (Int → Option Sec) × (List Int) × (Option Addr) × (Nat) × (Nat) // (fun (i : Nat) (mo : Obj) (f : Int → Option Sec) (rb : List Int) (ql : Option Addr) (nl : Nat) (cl : Nat) => i ≤ l.length ∧ MapF (Value.int .i64) jH f mo ∧ jt n g (l.drop i) rb f = jt n g l bs (fun _ => none) ∧ kK (l.drop i) = rb.length ∧ IsB rb ∧ rb.length = nl ∧ nl ≤ cl ∧ (∀ A : Res, Reads w0 (A ++ F) (.slice ql nl cl) nl 1 (u8s rb))) pΓ.1 pΓ.2.1 pΓ.2.2.1 pΓ.2.2.2.1 pΓ.2.2.2.2.1 pΓ.2.2.2.2.2.1 pΓ.2.2.2.2.2.2}) (fun g => (fun (i : Nat) (mo : Obj) (f : Int → Option Sec) (rb : List Int) (ql : Option Addr) (nl : Nat) (cl : Nat) => [(0, .pointer (some ⟨p, 0, none⟩)), (1, .int .i64 a), (2, .slice q bs.length c), (3, rv), (11, .map (some b32)), (12, .slice ql nl cl), (34, .slice qc l.length cc), (35, .int .i64 l.length), (36, .int .i64 i)]) g.1.1 g.1.2.1 g.1.2.2.1 g.1.2.2.2.1 g.1.2.2.2.2.1 g.1.2.2.2.2.2.1 g.1.2.2.2.2.2.2) (fun g => (fun (i : Nat) (mo : Obj) (f : Int → Option Sec) (rb : List Int) (ql : Option Addr) (nl : Nat) (cl : Nat) => [(b32, mo)] :: Cc :: Cn :: D :: F) g.1.1 g.1.2.1 g.1.2.2.1 g.1.2.2.2.1 g.1.2.2.2.2.1 g.1.2.2.2.2.2.1 g.1.2.2.2.2.2.2) (fun g => (fun (i : Nat) (mo : Obj) (f : Int → Option Sec) (rb : List Int) (ql : Option Addr) (nl : Nat) (cl : Nat) => l.length - i) g.1.1 g.1.2.1 g.1.2.2.1 g.1.2.2.2.1 g.1.2.2.2.2.1 g.1.2.2.2.2.2.1 g.1.2.2.2.2.2.2) ⟨(0, _, fun _ => none, bs, q, bs.length, c), by dsimp only; exact ⟨by omega, kk _ _, rfl, hsum, hbs, rfl, hc, hb⟩⟩ (qX _) ?_
    rintro ⟨⟨i, mo, f, rb, ql, nl, cl⟩, hloop⟩
    replace hloop : i ≤ l.length ∧ MapF (Value.int .i64) jH f mo ∧ jt n g (l.drop i) rb f = jt n g l bs (fun _ => none) ∧ kK (l.drop i) = rb.length ∧ IsB rb ∧ rb.length = nl ∧ nl ≤ cl ∧ (∀ A : Res, Reads w0 (A ++ F) (.slice ql nl cl) nl 1 (u8s rb)) := hloop
    obtain ⟨hi, hmo, hw, hps, hrb, hnl, hcl, hrl⟩ := hloop
    show Tr _ _ _ ([(0, .pointer (some ⟨p, 0, none⟩)), (1, .int .i64 a), (2, .slice q bs.length c), (3, rv), (11, .map (some b32)), (12, .slice ql nl cl), (34, .slice qc l.length cc), (35, .int .i64 l.length), (36, .int .i64 i)]) ([(b32, mo)] :: Cc :: Cn :: D :: F) _ _
    refine qP <| q9 (wL rfl rfl) <| qF <| qO <| qL rfl (fun hc7 => ?_) (fun hc7 => ?_)
    ·
     refine qZ <| qI <| qO <| qg <| qO ?_
     obtain ⟨w, hw1⟩ : ∃ w, l[i]? = some w := ⟨_, List.getElem?_eq_getElem (by omega)⟩
     have hrg := Qw (a := a) (n := bs.length) hb0.1 (hl ▸ List.mem_of_getElem? hw1)
     rw [kR hw1] at hw hps
     simp only [kK] at hps
     have hpn := V9 (a := a) (n := bs.length) hb0.1 (l.drop (i + 1)) (fun z hz => hl ▸ List.mem_of_mem_drop hz)
     refine qK <| qG (yP (j := i) rfl rfl hcu (by omega) (by omega)) ?_
     rintro t38 _ ⟨b, cap, spare, hqc, rfl, hcap, hnc, rfl, rfl⟩
     refine q9 (zC (j := i) kI rfl hw1 rfl) <| qG (qn) ?_
     rintro t14 _ ⟨b14, rfl, rfl⟩
     refine qS (qq (l := [Value.int .i64 0, Value.int .i64 0, Value.int .i64 0]) rfl rfl rfl rfl rfl) <| qo <| qB rfl <| q9 (qA rfl) <| q9 (qH rfl rfl) <| qB rfl <| q9 (wJ rfl (yj (Cn) (D) (JA p n Cn D hn w.1 rv g hr))) <| qB rfl <| q9 (qi rfl rfl) <| q9 (qi rfl rfl) <| qG (qn) ?_
     rintro t15 _ ⟨b15, rfl, rfl⟩
     refine qS (qq rfl rfl (by simp) (by simp) (wt _)) ?_
     refine qD rfl <| qF <| qO <| qP <| qB rfl <| q9 (wz rfl rfl) <| qF <| qL rfl (fun hc10 => ?_) (fun hc10 => ?_)
     ·
      have hbk : blk n g w.1 = none := by
        cases h : blk n g w.1 with
        | none => rfl
        | some s => rw [h] at hc10; exact absurd rfl hc10
      refine qP <| qB rfl <| qD rfl <| qF <| qz <| w7 <| wN <| w7 <| kc <| wN <| w7 <| wF (Cn :: D :: F) (.inl rfl) rfl (qu rfl) ?_
      have hT : jt n g l bs (fun _ => none) = none := by rw [← hw]; simp only [jt, hbk]
      exact ⟨Cn, by rw [Ve hne hl hT, hbk]; rfl, by rw [Ve hne hl hT]; exact hn, rfl⟩
     ·
      obtain ⟨s, hbk⟩ : ∃ s, blk n g w.1 = some s := by
        cases h : blk n g w.1 with
        | none => rw [h] at hc10; exact absurd (by decide) hc10
        | some s => exact ⟨s, rfl⟩
      rw [hbk]
      obtain ⟨qa, hqa⟩ : ∃ qa : Nat, w.2.1 = qa := ⟨w.2.1.toNat, by omega⟩
      obtain ⟨qb, hqb⟩ : ∃ qb : Nat, w.2.2 = qb := ⟨w.2.2.toNat, by omega⟩
      have htk : (rb.take (qb - qa)).length = qb - qa := by simp; omega
      have htb : IsB (rb.take (qb - qa)) := fun z hz => hrb z (List.mem_of_mem_take hz)
      refine qZ <| qI <| qP <| q9 (qA rfl) <| q9 (qH rfl (show wX (kJ w) 1 = some (.int .i64 qa) by rw [← hqa]; rfl)) <| q9 (qA rfl) <| q9 (qH rfl (show wX (kJ w) 2 = some (.int .i64 qb) by rw [← hqb]; rfl)) <| q9 (kg (l := qa) (h := qb) (kl := .i64) (kh := .i64) rfl rfl rfl (by omega) (by omega)) <| qB rfl <| q9 (Vo (b := b15) (off := qa) (n := qb - qa) (c := 128 - qa) (m := nl) (k := qb - qa) (sz := 1) (ys := u8s (rb.take (qb - qa))) (r := ww (s.put qa (rb.take (qb - qa)) (by omega) htb)) (by rw [← ZR qa qb (by omega)]; rfl) rfl (by omega) (fun w => by simp [Builtin.lenOf]) (fun w hw => Reads.first (hrl [_, _, _, _, _, _]) (by omega) w hw) (xY _) (by simp; omega) (Vi s qa _ (by omega) htb)) ?_
      refine qo <| qB rfl <| q9 (qA rfl) <| q9 (qH rfl (show wX (kJ w) 2 = some (.int .i64 qb) by rw [← hqb]; rfl)) <| q9 (qA rfl) <| q9 (qH rfl (show wX (kJ w) 1 = some (.int .i64 qa) by rw [← hqa]; rfl)) <| q9 (y1 rfl rfl (by omega)) <| q9 (kf (kl := .i64) (kh := .i64) (l := qb - qa) (h := nl) rfl (by show some (Value.int .i64 ((qb : Int) - qa)) = _; rw [show ((qb : Int) - qa) = ((qb - qa : Nat) : Int) from by omega]) rfl (by omega) (by omega) (by omega)) ?_
      refine qD rfl <| qF <| qK <| qB rfl <| q9 (qA rfl) <| q9 (qH rfl rfl) <| q9 (wS rfl (by simp)) ?_
      refine y5 (zR (r := b32) (q := w.1) (v := s.put qa (rb.take (qb - qa)) (by omega) htb) rfl rfl rfl hmo) ?_
      rintro _ _ ⟨mo', hmo', rfl⟩
      refine qT <| qf <| qI <| qK <| q9 (w9 rfl rfl (by omega)) <| qB rfl <| qT <| w5 ⟨(i + 1, mo', upd f w.1 (some (s.put qa (rb.take (qb - qa)) (by omega) htb)), rb.drop (qb - qa), _, nl - (qb - qa), cl - (qb - qa)), ?_⟩ ?_ ?_
      ·
       try dsimp only
       refine ⟨by omega, hmo', ?_, by rw [List.length_drop]; omega, fun z hz => hrb z (List.mem_of_mem_drop hz), by rw [List.length_drop]; omega, by omega, fun A => by have := Reads.dropB (hrl A) (k := qb - qa) (by omega) (by omega); rw [Wb] at this; exact this⟩
       rw [← hw]
       simp only [jt, hbk]
       rw [hqa, hqb, show (qb - qa : Int).toNat = qb - qa from by omega, Int.toNat_natCast, x6]
      · (try dsimp only); omega
      · (try dsimp only); exact qX _
    ·
     refine wb <| qr <| qt <| qj <| qI <| qO ?_
     rw [List.drop_of_length_le (by omega)] at hw
     refine yx (we (L' := [(b32, mo)] :: Cc :: [(p, .cells [.int .u32 n.num, .int .u32 n.ver, .int .i64 n.kind, .int .i64 n.size, .int .u32 n.time, .map (some ma), .map (some md), .map (some ms), u].toArray 90 (0, 0))] :: [(ma, oa)] :: [(md, od)] :: [(ms, os)] :: C :: D :: F) (by rw [hCn]; simp)) ?_
     refine qK <| qB rfl <| q9 (qQ rfl) <| q9 (qA rfl) <| q9 (qH rfl rfl) <| qB rfl <| qG (qx rfl (k0 ([(md, od)]) ([(b32, mo)]) (mapsCopy_ok md b32 od mo n.data f hM.d hmo))) ?_
     rintro t75 _ ⟨rfl, od', hod', rfl⟩
     refine qo <| qB rfl <| qB rfl <| q9 (qQ rfl) <| q9 (qA rfl) <| q9 (qH rfl rfl) <| qB rfl <| qB rfl <| q9 (wD rfl) <| q9 (w9 rfl rfl (by omega)) <| q9 (MG rfl rfl) <| q9 (qQ rfl) <| q9 (qA rfl) <| qS (ws rfl rfl rfl) <| qo <| qD rfl <| qT <| zM (qX ([(p, .cells [.int .u32 n.num, .int .u32 n.ver, .int .i64 n.kind, .int .i64 (max n.size (a + bs.length)), .int .u32 n.time, .map (some ma), .map (some md), .map (some ms), u].toArray 90 (0, 0))] :: [(ma, oa)] :: [(md, od')] :: [(ms, os)] :: C :: D :: F)) <| zM (we (L' := ((p, .cells [.int .u32 n.num, .int .u32 n.ver, .int .i64 n.kind, .int .i64 (max n.size (a + bs.length)), .int .u32 n.time, .map (some ma), .map (some md), .map (some ms), u].toArray 90 (0, 0)) :: (ma, oa) :: (md, od') :: (ms, os) :: C) :: D :: F) (by simp)) ?_
     refine qI <| qz <| zn (.inl rfl) rfl (qu rfl) ?_
     exact ⟨_, by rw [Vd hne hl hw.symm], by rw [Vd hne hl hw.symm]; exact ⟨ma, md, ms, oa, od', os, u, C, rfl, hM.a, hod', hM.s, hM.g⟩, rfl⟩
end
end Go.Proofs.YtjikpomndbkfgaaGreatDoor
namespace Go.Sx
open Go
def Qn (Q : Exit → Act → World → Prop) : Exit → Act → World → Prop
  | .normal, a, w => Q .normal a w
  | _, _, _ => False
theorem M5 {Q : Exit → Act → World → Prop} (h : LetsOut (Qn Q)) : False := by obtain ⟨a, w, h⟩ := h; exact h
theorem calls_endings {P : Program} {f : FuncId} {args : Array Value} {w : World} {R R' : Ending → World → Prop} (h : Calls P f args w R) (hR : ∀ e w, R e w → R' e w) : Calls P f args w R' := h.mono hR
theorem wp_qn {P : Program} {o : Oper} {a : Act} {w : World} {K K' : Act → World → Prop} {Q : Exit → Act → World → Prop} (hK : ∀ a w, K a w → K' a w) (h : o.wp P a w K (Qn Q)) : o.wp P a w K' Q := by
  unfold Oper.wp at *
  generalize (execOp a.eval o).run P w = r at *
  cases r with
  | ok n w' =>
    cases n <;> simp only [Oper.upon] at h ⊢ <;> first
      | exact hK _ _ h
      | exact h.elim
      | (refine calls_endings h fun e w'' hr => ?_
         cases e with
         | returned v => exact hK _ _ hr
         | panicked c => exact hr.elim
         | outgrown => exact (M5 hr).elim)
      | exact Rows.mono h (fun v w h => hK _ _ h)
      | exact h.mono (fun v w h => hK _ _ h)
  | halt x w' => cases x <;> simp only [Oper.upon] at h ⊢ <;> first | exact h.elim | exact h
theorem any_qn {P : Program} {ops : Array Oper} {Q : Exit → Act → World → Prop} : ∀ (fuel : Nat) (ls : Array Bool) (a : Act) (w : World), wpAny P .any ops (Qn Q) fuel ls a w → wpAny P .any ops Q fuel ls a w := by
  intro fuel
  induction fuel with
  | zero => intro ls a w h; exact ⟨h.1, h.2⟩
  | succ fuel ih =>
    intro ls a w h
    refine ⟨fun hn => h.1 hn, fun i hi => ?_⟩
    have := h.2 i hi
    unfold wpOp at this ⊢
    split
    · rename_i hn; simp only [hn] at this; exact ih _ _ _ this
    · rename_i o ho
      simp only [ho] at this
      split
      · rename_i hw
        rw [if_pos hw] at this
        rcases this with h1 | ⟨_, h2⟩
        · exact .inl (wp_qn (fun a w h => ih _ a w h) h1)
        · exact (M5 h2).elim
      · rename_i hw
        rw [if_neg hw] at this
        exact ih _ _ _ this
section
variable (P : Program) (N : Nat) (w0 : World)
structure TrS (ops : List Oper) (ls : List Bool) (E : Env) (L : Res) (Q : Exit → Act → World → Prop) : Prop where
  h : ∀ a w, EnvOk N E a → Own w0 L w → ∀ fuel, ls.count false ≤ fuel → wpAny P .any ops.toArray (Qn Q) fuel ls.toArray a w
end
section
variable {P : Program} {N : Nat} {w0 : World} {E : Env} {L : Res} {Q : Exit → Act → World → Prop}
theorem yT {id : Nat} {ops : List Oper} (hm : P.follows .mixedOrders = true) (h : TrS P N w0 ops (List.replicate ops.length false) E L Q) : Tr P N w0 E L (.region id ops.toArray true) Q :=
  ⟨fun a w ha hw => by
    refine wp_region_any hm ?_
    have := h.h a _ ha (hw.draw (w.drawn + 1) (Nat.le_succ _)) ops.length (by simp)
    have h2 := any_qn _ _ _ _ this
    simpa using h2⟩
theorem TrS.done {ops : List Oper} {ls : List Bool} (hr : Region.ready .any ops.toArray ls.toArray = []) (h : QAt N w0 .normal E L Q) : TrS P N w0 ops ls E L Q :=
  ⟨fun a w ha hw fuel _ => wpAny_done (Q := Qn Q) hr (show Qn Q .normal a w from h.h a w ha hw) fuel⟩
theorem Qy {ls : List Bool} {i : Nat} (h : ls[i]? = some false) : (ls.set i true).count false + 1 = ls.count false := by
  induction ls generalizing i with
  | nil => simp at h
  | cons b ls ih =>
    cases i with
    | zero => simp at h; subst h; simp
    | succ i =>
      have := ih (i := i) (by simpa using h)
      simp only [List.set_cons_succ, List.count_cons]
      omega
def OpY (P : Program) (N : Nat) (E : Env) (op : Op) (v : Value) : Prop := ∀ (o : Oper) (a : Act) (w : World), o.op = op → EnvOk N E a → (execOp a.eval o).run P w = .ok (.value v) w
theorem wP {x : Operand} {v : Value} (hx : opv E x = some v) : OpY P N E (.move x) v := fun o a w h1 h3 => by rw [execOp, h1]; simp [h3.eval hx]
theorem wM {x : Operand} {v : Value} (hx : opv E x = some v) : OpY P N E (.assign x) v := fun o a w h1 h3 => by rw [execOp, h1]; simp [h3.eval hx]
theorem zw {x : Operand} {a0 : Addr} (hx : opv E x = some (.pointer (some a0))) : OpY P N E (.nilCheck x) (.pointer (some a0)) := fun o a w h1 h3 => by rw [execOp, h1]; simp [h3.eval hx]
theorem qv {x : Operand} {vs : List Value} {i : Nat} {v : Value} (hx : opv E x = some (.tuple vs.toArray)) (hv : wX vs i = some v) : OpY P N E (.extract x i) v := fun o a w h1 h3 => by
  rw [zK] at hv
  rw [execOp, h1]; simp [h3.eval hx, Instr.extract, hv]
theorem wn {x : Operand} {t : TypeId} {i b off : Nat} [hf : TyField P t i off] (hx : opv E x = some (.pointer (some ⟨b, 0, none⟩))) : OpY P N E (.fieldAddr t x i) (.pointer (some ⟨b, off, none⟩)) := fun o a w h1 h3 => by
  rw [execOp, h1]; simp [h3.eval hx, hf.h]
theorem ZN {x : Operand} {t : TypeId} {i b o1 off : Nat} [hf : TyField P t i off] (hx : opv E x = some (.pointer (some ⟨b, o1, none⟩))) : OpY P N E (.fieldAddr t x i) (.pointer (some ⟨b, o1 + off, none⟩)) := fun o a w h1 h3 => by
  rw [execOp, h1]; simp [h3.eval hx, hf.h]
def VR (ops : List Oper) (ls : List Bool) (i : Nat) : Bool := Region.noSelect ops.toArray && Region.free .any ops.toArray ls.toArray i && (Region.ready .any ops.toArray ls.toArray).contains i
theorem TrS.take {ops : List Oper} {ls ls' : List Bool} (i : Nat) {d : Nat} {op : Op} {ty : TypeId} {pos : String} {af : Array Edge} {v : Value} (hi : ops[i]? = some ⟨some d, op, ty, pos, af, none⟩) (hl : ls[i]? = some false) (hc : VR ops ls i = true)
    (hls : ls.set i true = ls') (hy : OpY P N E op v) (next : TrS P N w0 ops ls' ((d, v) :: E) L Q) (hd : Nat.blt d N = true := by rfl) : TrS P N w0 ops ls E L Q :=
  ⟨fun a w ha hw fuel hf => by
    simp only [VR, Bool.and_eq_true] at hc
    have hcnt := Qy hl
    obtain ⟨f', rfl⟩ : ∃ f', fuel = f' + 1 := ⟨fuel - 1, by omega⟩
    have hset : ls.toArray.setIfInBounds i true = ls'.toArray := by rw [← hls]; simp
    refine wpAny_take (oi := ⟨some d, op, ty, pos, af, none⟩) (v := v) (by simpa using hi) hc.1.1 hc.1.2 hc.2 (fun _ _ _ h => h.elim) (.inl ⟨rfl, fun w => hy _ a w rfl ha⟩) ?_
    rw [hset]
    exact next.h _ w (ha.put (dst := some d) hd v) hw f' (by rw [← hls]; omega)⟩
structure TrB (P : Program) (N : Nat) (w0 : World) (ops : List Oper) (ls : List Bool) (i : Nat) (E : Env) (L : Res) (Q : Exit → Act → World → Prop) : Prop where
  h : ∀ a w, EnvOk N E a → Own w0 L w → ∀ fuel, ls.count false ≤ fuel + 1 → wpOp P ops.toArray (Qn Q) i (wpAny P .any ops.toArray (Qn Q) fuel (ls.toArray.setIfInBounds i true)) a w
theorem KN {ops : List Oper} {ls ls' : List Bool} {i : Nat} {dst : Option Nat} {op : Op} {ty : TypeId} {pos : String} {af : Array Edge} {G : Value → Res → Prop} (hi : ops[i]? = some ⟨dst, op, ty, pos, af, none⟩) (hl : ls[i]? = some false) (hls : ls.set i true = ls')
    (hop : OpT P N w0 E L op ty G) (next : ∀ v L', G v L' → TrS P N w0 ops ls' (MV dst v E) L' Q) (hd : V6 dst N = true := by rfl) : TrB P N w0 ops ls i E L Q :=
  ⟨fun a w ha hw fuel hf => by
    have hcnt := Qy hl
    have hset : ls.toArray.setIfInBounds i true = ls'.toArray := by rw [← hls]; simp
    unfold wpOp
    rw [show ops.toArray[i]? = some ⟨dst, op, ty, pos, af, none⟩ from by simpa using hi]
    dsimp only
    rw [if_pos (show Region.wanted (⟨dst, op, ty, pos, af, none⟩ : Oper) (yielded ops.toArray a.tmps) = true from rfl), hset]
    refine .inl (hop.h _ a w rfl rfl ha hw _ _ fun v L' w' hg ho => ?_)
    exact (next v L' hg).h _ w' (ha.put hd v) ho fuel (by rw [← hls]; omega)⟩
theorem wB {ops : List Oper} {ls ls' : List Bool} {i d : Nat} {op : Op} {ty : TypeId} {pos : String} {af : Array Edge} {G : Value → Res → Prop} (hi : ops[i]? = some ⟨some d, op, ty, pos, af, none⟩) (hl : ls[i]? = some false) (hls : ls.set i true = ls')
    (hop : OpT P N w0 E L op ty G) (next : ∀ v L', G v L' → TrS P N w0 ops ls' ((d, v) :: E) L' Q) (hd : Nat.blt d N = true := by rfl) : TrB P N w0 ops ls i E L Q := KN hi hl hls hop next hd
theorem qe {ops : List Oper} {ls ls' : List Bool} {i d : Nat} {op : Op} {ty : TypeId} {pos : String} {af : Array Edge} {v : Value} {L' : Res} (hi : ops[i]? = some ⟨some d, op, ty, pos, af, none⟩) (hl : ls[i]? = some false) (hls : ls.set i true = ls')
    (hop : Op1 P N w0 E L op ty v L') (next : TrS P N w0 ops ls' ((d, v) :: E) L' Q) (hd : Nat.blt d N = true := by rfl) : TrB P N w0 ops ls i E L Q := KN hi hl hls hop (fun _ _ ⟨e1, e2⟩ => by subst e1; subst e2; exact next) hd
theorem Q8 {ops : List Oper} {ls ls' : List Bool} {i : Nat} {op : Op} {ty : TypeId} {pos : String} {af : Array Edge} {G : Value → Res → Prop} (hi : ops[i]? = some ⟨none, op, ty, pos, af, none⟩) (hl : ls[i]? = some false) (hls : ls.set i true = ls')
    (hop : OpT P N w0 E L op ty G) (next : ∀ v L', G v L' → TrS P N w0 ops ls' E L' Q) : TrB P N w0 ops ls i E L Q := KN hi hl hls hop next rfl
theorem wR {ops : List Oper} {ls ls' : List Bool} {i : Nat} {op : Op} {ty : TypeId} {pos : String} {af : Array Edge} {v : Value} {L' : Res} (hi : ops[i]? = some ⟨none, op, ty, pos, af, none⟩) (hl : ls[i]? = some false) (hls : ls.set i true = ls')
    (hop : Op1 P N w0 E L op ty v L') (next : TrS P N w0 ops ls' E L' Q) : TrB P N w0 ops ls i E L Q := KN hi hl hls hop (fun _ _ ⟨e1, e2⟩ => by subst e1; subst e2; exact next) rfl
theorem xX {ops : List Oper} {ls : List Bool} {i j k : Nat} (hr : Region.ready .any ops.toArray ls.toArray = [i, j, k]) (hl : ls[i]? = some false) (h1 : TrB P N w0 ops ls i E L Q) (h2 : TrB P N w0 ops ls j E L Q) (h3 : TrB P N w0 ops ls k E L Q) : TrS P N w0 ops ls E L Q :=
  ⟨fun a w ha hw fuel hf => by
    have hcnt := Qy hl
    obtain ⟨f', rfl⟩ : ∃ f', fuel = f' + 1 := ⟨fuel - 1, by omega⟩
    refine wpAny_all hr (by simp) fun m hm => ?_
    simp only [List.mem_cons, List.not_mem_nil, or_false] at hm
    rcases hm with rfl | rfl | rfl
    · exact h1.h a w ha hw f' hf
    · exact h2.h a w ha hw f' hf
    · exact h3.h a w ha hw f' hf⟩
theorem TrS.one {ops : List Oper} {ls : List Bool} {i : Nat} (hr : Region.ready .any ops.toArray ls.toArray = [i]) (hl : ls[i]? = some false) (h : TrB P N w0 ops ls i E L Q) : TrS P N w0 ops ls E L Q :=
  ⟨fun a w ha hw fuel hf => by
    have hcnt := Qy hl
    obtain ⟨f', rfl⟩ : ∃ f', fuel = f' + 1 := ⟨fuel - 1, by omega⟩
    refine wpAny_all hr (by simp) fun j hj => ?_
    obtain rfl := List.mem_singleton.1 hj
    exact h.h a w ha hw f' hf⟩
theorem wG {ops : List Oper} {ls : List Bool} (h : QAt N w0 .normal E L Q) (hr : Region.ready .any ops.toArray ls.toArray = [] := by kernel_rfl) : TrS P N w0 ops ls E L Q := TrS.done hr h
theorem qJ {ops : List Oper} {ls ls' : List Bool} (i : Nat) {d : Nat} {op : Op} {ty : TypeId} {pos : String} {af : Array Edge} {v : Value} (hi : ops[i]? = some ⟨some d, op, ty, pos, af, none⟩) (hl : ls[i]? = some false)
    (hls : ls.set i true = ls') (hy : OpY P N E op v) (next : TrS P N w0 ops ls' ((d, v) :: E) L Q) (hc : VR ops ls i = true := by kernel_rfl) (hd : Nat.blt d N = true := by rfl) : TrS P N w0 ops ls E L Q := TrS.take i hi hl hc hls hy next hd
theorem qR {ops : List Oper} {ls : List Bool} (i : Nat) (hl : ls[i]? = some false) (h : TrB P N w0 ops ls i E L Q) (hr : Region.ready .any ops.toArray ls.toArray = [i] := by kernel_rfl) : TrS P N w0 ops ls E L Q := TrS.one hr hl h
theorem wy {ops : List Oper} {ls : List Bool} {i j : Nat} (hr : Region.ready .any ops.toArray ls.toArray = [i, j]) (hl : ls[i]? = some false) (h1 : TrB P N w0 ops ls i E L Q) (h2 : TrB P N w0 ops ls j E L Q) : TrS P N w0 ops ls E L Q :=
  ⟨fun a w ha hw fuel hf => by
    have hcnt := Qy hl
    obtain ⟨f', rfl⟩ : ∃ f', fuel = f' + 1 := ⟨fuel - 1, by omega⟩
    refine wpAny_all hr (by simp) fun k hk => ?_
    rcases List.mem_cons.1 hk with rfl | hk
    · exact h1.h a w ha hw f' hf
    · obtain rfl := List.mem_singleton.1 hk
      exact h2.h a w ha hw f' hf⟩
end
end Go.Sx
