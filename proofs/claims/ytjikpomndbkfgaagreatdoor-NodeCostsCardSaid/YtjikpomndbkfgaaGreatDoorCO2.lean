/- NodeCosts: for every input that the statement's row lets in the law answers true and its argument reads as before; conditions: none beyond the row's own (part 2; joined, pruned and shortened by a program of the prover's own: names of two letters stand for longer ones.) -/
import Derived.Test.YtjikpomndbkfgaaGreatDoorCO1
import Derived.Orders
import Derived.KernelRfl
set_option linter.all false
set_option linter.unusedVariables false
set_option linter.unusedSimpArgs false
set_option linter.unusedSectionVars false
namespace Go.Proofs.YtjikpomndbkfgaaGreatDoor
open Go Go.Sx Go.Nd
set_option maxRecDepth 10000
section
variable {w0 : World} {L F : Res}
theorem slice_off {p : Nat} (a : Nat) (h : a < 128) : Value.slice (some (if 128 = a then (⟨p, 0, none⟩ : Addr) else ⟨p, 0 + a * 1, none⟩)) (128 - a) (128 - a) = .slice (some ⟨p, a, none⟩) (128 - a) (128 - a) := by
  rw [if_neg (by omega)]; simp
def jo (l : List Value) (k : Nat) (vs : List Value) : List Value := l.take k ++ vs ++ l.drop (k + vs.length)
theorem J5 (l : List Value) (k : Nat) : jo l k [] = l := by simp [jo]
theorem J6 {l vs : List Value} {k : Nat} (h : k + vs.length ≤ l.length) : (jo l k vs).length = l.length := by simp [jo]; omega
theorem putAt_snoc {l vs : List Value} {k : Nat} {v : Value} (h : k + vs.length < l.length) : (jo l k vs).set (k + vs.length) v = jo l k (vs ++ [v]) := by
  unfold jo
  rw [List.set_append_right _ _ (by simp; omega)]
  have : k + vs.length - (l.take k ++ vs).length = 0 := by simp; omega
  rw [this, List.drop_eq_getElem_cons h, List.set_cons_zero, List.append_assoc, List.append_assoc, List.append_assoc]
  simp [Nat.add_assoc]
theorem VW (p : Option Addr) (n c : Nat) (a w : Int) (h : 1 ≤ w ∧ w ≤ 8 ∧ 0 ≤ a ∧ a + w ≤ n) (hn : (n : Int) ≤ 9223372036854775807) :
    FnT Tryz.prog w0 164 #[.slice p n c, .int .i64 a, .int .i64 w] L (fun v L' => v = .bool true ∧ L' = L) := by
  refine qi (E0 := [(0, _), (1, _), (2, _)]) (N := 31) Tryz.func164 rfl rfl rfl rfl ?_
  refine qO <| qE rfl <| qm <| qA rfl <| q9 (kr rfl rfl) <| qA rfl <| qY (s := 9) rfl (fun hg1_2 => ?_) (fun hg1_2 => ?_)
  ·
   refine qD rfl rfl (qP rfl) <| qD rfl rfl (KI rfl rfl) <| q9 (qq rfl rfl) <| qA rfl <| qY (s := 13) rfl (fun hg1_6 => ?_) (fun hg1_6 => ?_)
   ·
    refine qD rfl rfl (qP rfl) <| qD rfl rfl (kr rfl rfl) <| q9 (qq rfl rfl) <| qA rfl <| qY (s := 17) rfl (fun hg1_10 => ?_) (fun hg1_10 => ?_)
    ·
     refine qD rfl rfl (qP rfl) <| qD rfl rfl (qP rfl) <| qD rfl rfl (w8 rfl) <| qD rfl rfl (KI rfl rfl) <| q9 (qq rfl rfl) <| qA rfl <| qY (s := 23) rfl (fun hg1_16 => ?_) (fun hg1_16 => ?_)
     ·
      refine qD rfl rfl (qP rfl) <| qD rfl rfl (w8 rfl) <| qD rfl rfl (qP rfl) <| qD rfl rfl (zt rfl rfl (by omega)) <| qD rfl rfl (qP rfl) <| qD rfl rfl (kr rfl rfl) <| q9 (qq rfl rfl) <| qE rfl <| qF <| qy <| wC L (.inl rfl) rfl (qu rfl) ?_
      exact ⟨by simp; omega, rfl⟩
     · (exfalso; omega)
    · (exfalso; omega)
   · (exfalso; omega)
  · (exfalso; omega)
theorem XT {l : List Value} {off i w : Nat} {a x : Int} (h1 : i < w) (hw : w ≤ 8) (hl : off + a.toNat + w ≤ l.length) :
    (jo l (off + a.toNat) (u8s (leI i x))).set (off + (a.toNat + i) * 1) (Value.int IntKind.u8 (IntKind.u8.wrap (x.fdiv (2 ^ min (8 * (i : Int)).toNat IntKind.u64.bits)))) = jo l (off + a.toNat) (u8s (leI (i + 1) x)) := by
  rw [wrap_u8, show IntKind.u64.bits = 64 from rfl, M5 x i (by omega), JH, yi]
  have := putAt_snoc (l := l) (k := off + a.toNat) (vs := u8s (leI i x)) (v := .int .u8 (x / 256 ^ i % 256)) (by simp; omega)
  rw [Wr, Yp] at this
  rw [show off + (a.toNat + i) * 1 = off + a.toNat + i from by omega, this]
  rfl
theorem V3 (b off n c e : Nat) (l : List Value) (a x : Int) (w : Nat) (h : 1 ≤ w ∧ w ≤ 8 ∧ 0 ≤ a ∧ a + w ≤ n) (hn : (n : Int) ≤ 9223372036854775807) (hx : 0 ≤ x ∧ x < 256 ^ w) (hl : off + n ≤ l.length) :
    FnT Tryz.prog w0 158 #[.slice (some ⟨b, off, none⟩) n c, .int .i64 a, .int .i64 w, .int .u64 x] ([(b, .cells l.toArray e (0, 0))] :: F)
      (fun v L' => v = .int .i64 0 ∧ L' = [(b, .cells (jo l (off + a.toNat) (u8s (leI w x))).toArray e (0, 0))] :: F) := by
  have h8 : x.fdiv (2 ^ (min (8 * (w : Int)).toNat 64)) = 0 := by
    rw [M5 x w (by omega)]
    exact Int.ediv_eq_zero_of_lt hx.1 hx.2
  refine qi (E0 := [(0, _), (1, _), (2, _), (3, _)]) (N := 41) Tryz.func158 rfl rfl rfl rfl ?_
  refine qO <| qE rfl <| qF <| qN <| qO <| qA rfl <| qA rfl <| qA rfl <| q9 (wM rfl (VW _ n c a w (by omega) hn)) <| q9 (kX rfl) <| qA rfl <| zy (s := 15) rfl (fun hg1_5 => ?_) (fun hg1_5 => ?_)
  · exact absurd hg1_5 (by decide)
  ·
   refine qD rfl rfl (qP rfl) <| qD rfl rfl (wJ rfl rfl) <| qD rfl rfl (qP rfl) <| qY (s := 18) rfl (fun hg1_8 => ?_) (fun hg1_8 => ?_)
   ·
    refine qD rfl rfl (qP rfl) <| qD rfl rfl (qP rfl) <| qD rfl rfl (x3 rfl rfl (by omega)) <| qD rfl rfl (Jv rfl rfl (by omega)) <| qD rfl rfl (zE rfl rfl) <| qD rfl rfl (qq rfl rfl) <| q9 (qU rfl rfl) <| qF <| qM rfl (fun hc1 => ?_) (fun hc1 => ?_)
    · exact absurd h8 hc1
    ·
     refine qZ <| qJ <| qN <| qO <| qA rfl <| qA rfl <| qF <| qg <| wS (Γ := {pΓ : (Nat) // (fun (i : Nat) => i ≤ w) pΓ}) (fun g => (fun (i : Nat) => [(0, .slice (some ⟨b, off, none⟩) n c), (1, .int .i64 a), (3, .int .u64 x), (26, .int .i64 w), (27, .int .i64 (i : Int))]) g.1) (fun g => (fun (i : Nat) => [(b, .cells (jo l (off + a.toNat) (u8s (leI i x))).toArray e (0, 0))] :: F) g.1) (fun g => (fun (i : Nat) => w - i) g.1) ⟨0, by dsimp only; exact (by omega)⟩ (yW (by dsimp only; rw [show u8s (leI 0 x) = [] from rfl, J5])) ?_
     rintro ⟨i, hloop⟩
     replace hloop : i ≤ w := hloop
     obtain hi := hloop
     show Tr _ _ _ ([(0, .slice (some ⟨b, off, none⟩) n c), (1, .int .i64 a), (3, .int .u64 x), (26, .int .i64 w), (27, .int .i64 (i : Int))]) ([(b, .cells (jo l (off + a.toNat) (u8s (leI i x))).toArray e (0, 0))] :: F) _ _
     refine qO <| q9 (wJ rfl rfl) <| qF <| qN <| qM rfl (fun hc4 => ?_) (fun hc4 => ?_)
     ·
      refine qZ <| qJ <| qN <| qg <| qO <| qA rfl <| qE rfl <| qF <| qK <| qA rfl <| qA rfl <| qA rfl <| q9 (w9 rfl rfl (by omega)) <| qA rfl <| qA rfl <| q9 (x3 rfl rfl (by omega)) <| q9 (Jv rfl rfl (by omega)) <| q9 (Jx rfl) <| q9 (qx (j := a.toNat + i) rfl rfl (by omega) (by omega) rfl) <| qR (yM rfl rfl (by rw [J6 (by simp; omega)]; omega) rfl) ?_
      refine qT <| qe <| qJ <| qK <| q9 (w9 rfl rfl (by omega)) <| qA rfl <| qT <| w6 ⟨i + 1, ?_⟩ ?_ ?_
      · (try dsimp only); omega
      · (try dsimp only); omega
      · (try dsimp only); exact yW (by rw [XT (w := w) (by omega) (by omega) (by omega)])
     ·
      refine wa <| qr <| qt <| qh <| qJ <| qO <| qE rfl <| qF <| qy <| zq (.inl rfl) rfl (qu rfl) ?_
      exact ⟨rfl, by rw [show i = w from by omega]⟩
   ·
    refine qL rfl rfl rfl <| qL rfl rfl rfl <| qL rfl rfl rfl <| qL rfl rfl rfl <| qL rfl rfl rfl <| qD rfl rfl (qU rfl rfl) <| q9 (qU rfl rfl) <| qF <| wV rfl <| qZ <| qJ <| qN <| qO <| qA rfl <| qA rfl <| qF <| qg <| wS (Γ := {pΓ : (Nat) // (fun (i : Nat) => i ≤ w) pΓ}) (fun g => (fun (i : Nat) => [(0, .slice (some ⟨b, off, none⟩) n c), (1, .int .i64 a), (3, .int .u64 x), (26, .int .i64 w), (27, .int .i64 (i : Int))]) g.1) (fun g => (fun (i : Nat) => [(b, .cells (jo l (off + a.toNat) (u8s (leI i x))).toArray e (0, 0))] :: F) g.1) (fun g => (fun (i : Nat) => w - i) g.1) ⟨0, by dsimp only; exact (by omega)⟩ (yW (by dsimp only; rw [show u8s (leI 0 x) = [] from rfl, J5])) ?_
    rintro ⟨i, hloop⟩
    replace hloop : i ≤ w := hloop
    obtain hi := hloop
    show Tr _ _ _ ([(0, .slice (some ⟨b, off, none⟩) n c), (1, .int .i64 a), (3, .int .u64 x), (26, .int .i64 w), (27, .int .i64 (i : Int))]) ([(b, .cells (jo l (off + a.toNat) (u8s (leI i x))).toArray e (0, 0))] :: F) _ _
    refine qO <| q9 (wJ rfl rfl) <| qF <| qN <| qM rfl (fun hc4 => ?_) (fun hc4 => ?_)
    ·
     refine qZ <| qJ <| qN <| qg <| qO <| qA rfl <| qE rfl <| qF <| qK <| qA rfl <| qA rfl <| qA rfl <| q9 (w9 rfl rfl (by omega)) <| qA rfl <| qA rfl <| q9 (x3 rfl rfl (by omega)) <| q9 (Jv rfl rfl (by omega)) <| q9 (Jx rfl) <| q9 (qx (j := a.toNat + i) rfl rfl (by omega) (by omega) rfl) <| qR (yM rfl rfl (by rw [J6 (by simp; omega)]; omega) rfl) ?_
     refine qT <| qe <| qJ <| qK <| q9 (w9 rfl rfl (by omega)) <| qA rfl <| qT <| w6 ⟨i + 1, ?_⟩ ?_ ?_
     · (try dsimp only); omega
     · (try dsimp only); omega
     · (try dsimp only); exact yW (by rw [XT (w := w) (by omega) (by omega) (by omega)])
    ·
     refine wa <| qr <| qt <| qh <| qJ <| qO <| qE rfl <| qF <| qy <| zq (.inl rfl) rfl (qu rfl) ?_
     exact ⟨rfl, by rw [show i = w from by omega]⟩
theorem get_step {i : Nat} {acc b : Int} (hi : i < 8) (h0 : 0 ≤ acc) (h1 : acc < 256 ^ i) (hb0 : 0 ≤ b) (hb : b < 256) :
    zb .or .u64 acc (IntKind.u64.wrap (b * 2 ^ (min (8 * (i : Int)).toNat IntKind.u64.bits))) = acc + 256 ^ i * b := by
  have e1 : min (8 * (i : Int)).toNat IntKind.u64.bits = 8 * i := by
    have : IntKind.u64.bits = 64 := rfl
    omega
  have e2 : (256 : Int) ^ i = 2 ^ (8 * i) := by rw [Int.pow_mul]; rfl
  have hp : b * 2 ^ (8 * i) < 18446744073709551616 - acc := by
    have hi8 : i = 0 ∨ i = 1 ∨ i = 2 ∨ i = 3 ∨ i = 4 ∨ i = 5 ∨ i = 6 ∨ i = 7 := by omega
    rcases hi8 with rfl | rfl | rfl | rfl | rfl | rfl | rfl | rfl <;> simp at h1 ⊢ <;> omega
  have h1' : acc < 2 ^ (8 * i) := by rw [← e2]; exact h1
  rw [e1, XG, Int.emod_eq_of_lt (Int.mul_nonneg hb0 (Int.le_of_lt (Int.pow_pos (by omega)))) (by omega), or64 h0 h1' hb0 hp, e2, Int.mul_comm]
theorem Vs (b off n c e : Nat) (fr : Nat × Nat) (l : List Value) (bs : List Int) (a : Int) (w : Nat) (h : 1 ≤ w ∧ w ≤ 8 ∧ 0 ≤ a ∧ a + w ≤ n) (hn : (n : Int) ≤ 9223372036854775807) (hbs : IsB bs) (hlen : bs.length = w)
    (hl : (l.drop (off + a.toNat)).take w = u8s bs) :
    FnT Tryz.prog w0 157 #[.slice (some ⟨b, off, none⟩) n c, .int .i64 a, .int .i64 w] ([(b, .cells l.toArray e fr)] :: F)
      (fun v L' => v = .tuple #[.int .u64 (deI bs), .int .i64 0] ∧ L' = [(b, .cells l.toArray e fr)] :: F) := by
  have hget : ∀ i : Nat, i < w → ∃ x, bs[i]? = some x ∧ 0 ≤ x ∧ x < 256 ∧ wY l (off + (a.toNat + i) * 1) = some (.int .u8 x) := by
    intro i hi
    have hlt : i < bs.length := by omega
    refine ⟨bs[i], List.getElem?_eq_getElem hlt, (hbs _ (List.getElem_mem hlt)).1, (hbs _ (List.getElem_mem hlt)).2, ?_⟩
    have h1 : ((l.drop (off + a.toNat)).take w)[i]? = some (.int .u8 bs[i]) := by rw [hl]; simp [u8s, hlt]
    rw [List.getElem?_take, if_pos hi, List.getElem?_drop] at h1
    rw [zB, ← h1]; congr 1; omega
  refine qi (E0 := [(0, _), (1, _), (2, _)]) (N := 33) Tryz.func157 rfl rfl rfl rfl ?_
  refine qO <| qE rfl <| qE rfl <| qF <| qN <| qO <| qA rfl <| qA rfl <| qA rfl <| q9 (wM rfl (VW _ n c a w (by omega) hn)) <| q9 (kX rfl) <| qF <| wV rfl <| qZ <| qJ <| qO <| qE rfl <| qF <| qN <| qO <| qA rfl <| qA rfl <| qF <| qg <| wS (Γ := {pΓ : (Nat) // (fun (i : Nat) => i ≤ w) pΓ}) (fun g => (fun (i : Nat) => [(0, .slice (some ⟨b, off, none⟩) n c), (1, .int .i64 a), (8, .int .u64 (deI (bs.take i))), (15, .int .i64 w), (16, .int .i64 (i : Int))]) g.1) (fun g => (fun (i : Nat) => [(b, .cells l.toArray e fr)] :: F) g.1) (fun g => (fun (i : Nat) => w - i) g.1) ⟨0, by dsimp only; exact (by omega)⟩ (qX _) ?_
  rintro ⟨i, hloop⟩
  replace hloop : i ≤ w := hloop
  obtain hi := hloop
  show Tr _ _ _ ([(0, .slice (some ⟨b, off, none⟩) n c), (1, .int .i64 a), (8, .int .u64 (deI (bs.take i))), (15, .int .i64 w), (16, .int .i64 (i : Int))]) ([(b, .cells l.toArray e fr)] :: F) _ _
  refine qO <| q9 (wJ rfl rfl) <| qF <| qN <| qM rfl (fun hc5 => ?_) (fun hc5 => ?_)
  ·
   refine qZ <| qJ <| qN <| qg <| qO <| qA rfl <| qE rfl <| qT <| qJ ?_
   obtain ⟨x, hx1, hx2, hx3, hx4⟩ := hget i (by omega)
   have hbd := deI_bound (l := bs.take i) (fun z hz => hbs z (List.mem_of_mem_take hz))
   rw [List.length_take, show min i bs.length = i from by omega] at hbd
   refine qK <| qA rfl <| qA rfl <| qA rfl <| qA rfl <| q9 (w9 rfl rfl (by omega)) <| q9 (qx (j := a.toNat + i) rfl rfl (by omega) (by omega) rfl) <| q9 (qI rfl hx4) <| q9 (zG rfl (by first | (simp only [IntKind.min, IntKind.max, IntKind.bits, IntKind.signed, Bool.false_eq_true, if_false, if_true]; omega))) ?_
   refine qA rfl <| q9 (x3 rfl rfl (by omega)) <| q9 (op_shl rfl rfl (by omega)) <| q9 (op_or rfl rfl) <| qE rfl <| qT <| qe <| qJ ?_
   rw [get_step (by omega) hbd.1 hbd.2 hx2 hx3, show deI (bs.take i) + 256 ^ i * x = deI (bs.take (i + 1)) from by rw [List.take_add_one, hx1, Option.toList_some, deI_append, List.length_take, show min i bs.length = i from by omega]]
   refine qK <| q9 (w9 rfl rfl (by omega)) <| qA rfl <| qT <| w6 ⟨i + 1, ?_⟩ ?_ ?_
   · (try dsimp only); omega
   · (try dsimp only); omega
   · (try dsimp only); exact qX _
  ·
   refine wa <| qr <| qt <| qh <| qJ <| qO <| qA rfl <| qE rfl <| qE rfl <| qF <| qy <| Qs (.inl rfl) rfl (qu rfl) (qu rfl) ?_
   exact ⟨by rw [show i = bs.length from by omega, List.take_length], rfl⟩
def wr (p : Nat) (s : Sec) (a : Nat) : qV := [(p, .cells (wt s ++ [Value.int .i64 a, Value.int .i64 0]).toArray 242 (0, 0))]
def rd (p : Nat) (s : Sec) (a : Nat) : qV := [(p, .cells (wt s ++ [Value.int .i64 a, Value.int .i64 0]).toArray 257 (0, 0))]
theorem Y5 (s : Sec) (r : List Value) (k : Nat) (m : List Int) (h : k + m.length ≤ 128) (hm : IsB m) : jo (wt s ++ r) k (u8s m) = wt (s.put k m h hm) ++ r := by
  have e1 : (wt s ++ r).take k = (wt s).take k := List.take_append_of_le_length (by simp; omega)
  have e2 : (wt s ++ r).drop (k + m.length) = (wt s).drop (k + m.length) ++ r := List.drop_append_of_le_length (by simp; omega)
  unfold jo
  rw [Wr, e1, e2]
  simp only [wt, Sec.put, QS, yi, xL, WV, List.append_assoc]
theorem xd (p : Nat) (s : Sec) (a : Nat) (x : Int) (w : Nat) (h : 1 ≤ w ∧ w ≤ 8 ∧ a + w ≤ 128) (hx : 0 ≤ x ∧ x < 256 ^ w) :
    FnT Tryz.prog w0 146 #[.pointer (some ⟨p, 0, none⟩), .int .i64 w, .int .u64 x] (wr p s a :: F)
      (fun v L' => v = .tuple #[] ∧ L' = wr p (s.put a (leI w x) (by simp; omega) (kb _ _)) (a + w) :: F) := by
  unfold wr
  refine qi (E0 := [(0, _), (1, _), (2, _)]) (N := 38) Tryz.func146 rfl rfl rfl rfl ?_
  refine qN <| qO <| qA rfl <| q9 (qQ rfl) <| q9 (qB rfl) <| q9 (yX rfl) <| q9 (wn rfl rfl) <| qF <| zM rfl <| wT wB <| wD [(11, .pure _), (12, .pure _), (13, .pure _), (14, .pure _), (15, .pure _), (16, .pure _), (17, .pure _), (18, .pure _), (19, .pure _), (20, .pure _), (21, .pure _), (22, .act ([(p, .cells (wt s ++ [Value.int .i64 a, Value.int .i64 0]).toArray 242 (0, 0))]) (fun v C => v = .int .i64 0 ∧ C = [(p, .cells (jo (wt s ++ [Value.int .i64 a, Value.int .i64 0]) (0 + (a : Int).toNat) (u8s (leI w x))).toArray 242 (0, 0))]))] (by kernel_rfl) rfl rfl rfl (Qe [[(p, .cells (wt s ++ [Value.int .i64 a, Value.int .i64 0]).toArray 242 (0, 0))]] rfl) (qC rfl (fun X => qP rfl) <| qC rfl (fun X => qP rfl) <| qC rfl (fun X => qQ rfl) <| qC rfl (fun X => qB rfl) <| qC rfl (fun X => kW (l := 0) (h := 128) (kl := .i64) (kh := .i64) rfl rfl rfl (by decide) (by decide)) <| qC rfl (fun X => qP rfl) <| qC rfl (fun X => qQ rfl) <| qC rfl (fun X => qB rfl) <| ParH.early 11 rfl rfl (by kernel_rfl) (by kernel_rfl) rfl (fun X => yX rfl) <| qC rfl (fun X => qP rfl) <| qC rfl (fun X => qP rfl) <| Qt rfl (fun X => OpT.mono (w5 rfl (V3 p 0 128 128 242 _ a x w (by omega) (by omega) hx (by simp))) (fun v L h => by obtain ⟨h1, h2⟩ := h; exact ⟨_, ⟨h1, rfl⟩, h2⟩)) <| ParH.nil rfl) ?_
  rintro _ _ ⟨rfl, rfl⟩
  rw [show 0 + (a : Int).toNat = a from by omega, Y5 _ _ _ _ (by simp; omega) (kb _ _)]
  dsimp only [ze, List.drop, List.length]
  refine wE (by kernel_rfl) (qQ rfl) ?_
  refine wE (by kernel_rfl) (qB rfl) ?_
  refine kT (by kernel_rfl) (wu rfl rfl rfl) ?_
  refine wI <| qJ <| qO <| qA rfl <| q9 (qQ rfl) <| q9 (qB rfl) <| q9 (yX rfl) <| q9 (wn rfl rfl) <| qF <| zM rfl <| qK <| qA rfl <| q9 (qQ rfl) <| q9 (qB rfl) <| q9 (yX rfl) <| qA rfl <| q9 (w9 rfl rfl (by omega)) <| q9 (qQ rfl) <| q9 (qB rfl) <| qR (wu rfl rfl rfl) <| qT <| xW (.inr rfl) rfl  ?_
  exact ⟨rfl, rfl⟩
theorem WK (p : Nat) (s : Sec) (a : Nat) :
    FnT Tryz.prog w0 147 #[.pointer (some ⟨p, 0, none⟩)] (wr p s a :: F)
      (fun v L' => v = .tuple #[.agg (wt s).toArray, .int .i64 0] ∧ L' = wr p s a :: F) := by
  unfold wr
  refine qi (E0 := [(0, _)]) (N := 18) Tryz.func147 rfl rfl rfl rfl ?_
  refine qO <| qG (qj) ?_
  rintro t2 _ ⟨b2, rfl, rfl⟩
  refine qE rfl <| qF <| qN <| qO <| qA rfl <| q9 (qQ rfl) <| q9 (qB rfl) <| q9 (yX rfl) <| q9 (zE rfl rfl) <| qF <| wV rfl <| qZ <| qJ <| qO <| qA rfl <| q9 (qQ rfl) <| q9 (qB rfl) <| q9 (wW rfl) <| qR (qo rfl rfl (by first | exact zZ _ | simp) (by first | exact zZ _ | simp) (by first | exact wl _ | simp [Value.oneCell'])) <| qE rfl <| qF <| qy <| wU ([(p, .cells (wt s ++ [Value.int .i64 a, Value.int .i64 0]).toArray 242 (0, 0))] :: F) (.inl rfl) rfl (zR rfl (by first | exact zZ _ | simp)) (qu rfl) ?_
  exact ⟨rfl, rfl⟩
theorem reads_first {A : Res} {yv : Value} {m : Nat} {ys : List Int} (hr : Reads w0 A yv m 1 (u8s ys)) (hm : ys.length = m) (hn : yv ≠ .slice none m 0 ∨ m = 0) (w : World) (h : Own w0 A w) (P : Program) : (Builtin.firstCells 1 m yv).run P w = .ok (u8s ys).toArray w :=
  hr.firstCells h (fun e => by rcases hn with h | h; exact absurd e h; omega)
theorem writerBytes_ok (p : Nat) (s : Sec) (a n : Nat) (q : Option Addr) (c : Nat) (ys : List Int) (hy : IsB ys) (h : ys.length ≤ n ∧ a + n ≤ 128 ∧ a < 128) (hq : q = none → ys.length = 0)
    (hr : ∀ A : qV, Reads w0 (A :: F) (.slice q ys.length c) ys.length 1 (u8s ys)) :
    FnT Tryz.prog w0 162 #[.pointer (some ⟨p, 0, none⟩), .int .i64 n, .slice q ys.length c] (wr p s a :: F)
      (fun v L' => v = .tuple #[] ∧ L' = wr p (s.put a ys (by omega) hy) (a + n) :: F) := by
  unfold wr
  refine qi (E0 := [(0, _), (1, _), (2, _)]) (N := 52) Tryz.func162 rfl rfl rfl rfl ?_
  refine qN <| qO <| qA rfl <| q9 (qQ rfl) <| q9 (qB rfl) <| q9 (yX rfl) <| q9 (wn rfl rfl) <| qA rfl <| qY (s := 11) rfl (fun hg0_5 => ?_) (fun hg0_5 => ?_)
  ·
   refine qD rfl rfl (qP rfl) <| qD rfl rfl (qP rfl) <| qD rfl rfl (w8 rfl) <| qD rfl rfl (wJ rfl rfl) <| qD rfl rfl (qP rfl) <| qY (s := 16) rfl (fun hg0_10 => ?_) (fun hg0_10 => ?_)
   · (exfalso; omega)
   ·
    refine qD rfl rfl (qP rfl) <| qD rfl rfl (qP rfl) <| qD rfl rfl (qQ rfl) <| qD rfl rfl (qB rfl) <| qD rfl rfl (yX rfl) <| qD rfl rfl (zt rfl rfl (by omega)) <| qD rfl rfl (y8 rfl rfl) <| qD rfl rfl (qU rfl rfl) <| q9 (qq rfl rfl) <| qF <| qM rfl (fun hc0 => ?_) (fun hc0 => ?_)
    · (exfalso; omega)
    ·
     refine qZ <| qJ <| qO <| qA rfl <| q9 (qQ rfl) <| q9 (qB rfl) <| q9 (yX rfl) <| q9 (wn rfl rfl) <| qF <| zM rfl <| qN <| wT wB <| wD [(34, .pure _), (35, .pure _), (36, .pure _), (37, .pure _), (38, .pure _), (39, .pure _), (40, .pure _), (41, .pure _), (42, .pure _)] (by kernel_rfl) rfl rfl rfl wm (qC rfl (fun X => qP rfl) <| qC rfl (fun X => qQ rfl) <| qC rfl (fun X => qB rfl) <| qC rfl (fun X => qP rfl) <| qC rfl (fun X => qQ rfl) <| qC rfl (fun X => qB rfl) <| qC rfl (fun X => yX rfl) <| qC rfl (fun X => kW (l := a) (h := 128) (kl := .i64) (kh := .i64) rfl rfl rfl (by omega) (by decide)) <| qC rfl (fun X => qP rfl) <| ParH.nil rfl) ?_
     dsimp only [ze, List.drop, List.length]
     refine wE (by kernel_rfl) (VN (b := p) (off := a) (n := 128 - a) (c := 128 - a) (m := ys.length) (k := ys.length) (sz := 1) (ys := u8s ys) (r := wt (s.put a ys (by omega) hy) ++ [Value.int .i64 a, Value.int .i64 0]) (by rw [← slice_off a (by omega)]; rfl) rfl (by omega) (fun w => by simp [Builtin.lenOf]) (fun w hw => reads_first (hr _) rfl (by cases q; exact .inr (hq rfl); exact .inl (fun e => by cases e)) w hw _) (xI _) (by simp; omega) (Y5 s _ a ys (by omega) hy)) ?_
     refine wI <| qJ ?_
     skip
     refine qK <| qA rfl <| q9 (qQ rfl) <| q9 (qB rfl) <| q9 (yX rfl) <| qA rfl <| q9 (w9 rfl rfl (by omega)) <| q9 (qQ rfl) <| q9 (qB rfl) <| qR (wu rfl rfl rfl) <| qT <| xW (.inr rfl) rfl  ?_
     exact ⟨rfl, rfl⟩
  · (exfalso; omega)
def Sec.sub (s : Sec) (a n : Nat) : List Int := (s.l.drop a).take n
theorem Yj (s : Sec) {a n : Nat} (h : a + n ≤ 128) : (Sec.sub s a n).length = n := by have := s.len; simp [Sec.sub]; omega
theorem Sec.sub_b (s : Sec) (a n : Nat) : IsB (Sec.sub s a n) := fun b hb => s.b b (List.mem_of_mem_drop (List.mem_of_mem_take hb))
theorem XP (s : Sec) (r : List Value) {a n : Nat} (h : a + n ≤ 128) : ((wt s ++ r).drop a).take n = u8s (Sec.sub s a n) := by
  rw [List.drop_append_of_le_length (by simp; omega), List.take_append_of_le_length (by simp; omega)]
  simp [wt, Sec.sub, WV, xL]
theorem VG (s : Sec) : FnT Tryz.prog w0 144 #[.agg (wt s).toArray] F (fun v L' => ∃ p, v = .pointer (some ⟨p, 0, none⟩) ∧ L' = rd p s 0 :: F) := by
  refine qi (E0 := [(0, _)]) (N := 6) Tryz.func144 rfl rfl rfl rfl ?_
  refine qO <| qG (wq rfl) ?_
  rintro t1 _ ⟨b1, rfl, rfl⟩
  refine qE rfl <| qm <| q9 (wQ rfl (zZ s)) <| q9 (wX rfl) <| qG (wq rfl) ?_
  rintro t5 _ ⟨b5, rfl, rfl⟩
  refine qE rfl <| qF <| qy <| wC ([(b5, .cells (wt s ++ [Value.int .i64 0, Value.int .i64 0]).toArray 257 (0, 0))] :: F) (.inl rfl) rfl (qu rfl) ?_
  exact ⟨_, rfl, rfl⟩
theorem xf (p : Nat) (s : Sec) (a w : Nat) (h : 1 ≤ w ∧ w ≤ 8 ∧ a + w ≤ 128) :
    FnT Tryz.prog w0 145 #[.pointer (some ⟨p, 0, none⟩), .int .i64 w] (rd p s a :: F)
      (fun v L' => v = .int .u64 (deI (Sec.sub s a w)) ∧ L' = rd p s (a + w) :: F) := by
  unfold rd
  refine qi (E0 := [(0, _), (1, _)]) (N := 40) Tryz.func145 rfl rfl rfl rfl ?_
  refine qO <| qE rfl <| qF <| qN <| qO <| qA rfl <| q9 (qQ rfl) <| q9 (qB rfl) <| q9 (yX rfl) <| q9 (zE rfl rfl) <| qF <| wV rfl <| qZ <| qJ <| qN <| wT wB <| wD [(13, .pure _), (14, .pure _), (15, .pure _), (16, .pure _), (17, .pure _), (18, .pure _), (19, .pure _), (20, .pure _), (21, .pure _)] (by kernel_rfl) rfl rfl rfl wm (qC rfl (fun X => qP rfl) <| qC rfl (fun X => qQ rfl) <| qC rfl (fun X => qB rfl) <| qC rfl (fun X => kW (l := 0) (h := 128) (kl := .i64) (kh := .i64) rfl rfl rfl (by decide) (by decide)) <| qC rfl (fun X => qP rfl) <| qC rfl (fun X => qQ rfl) <| qC rfl (fun X => qB rfl) <| qC rfl (fun X => yX rfl) <| qC rfl (fun X => qP rfl) <| ParH.nil rfl) ?_
  dsimp only [ze, List.drop, List.length]
  refine wE (by kernel_rfl) (wM rfl (Vs p 0 128 128 257 (0, 0) _ (Sec.sub s a w) a w (by omega) (by omega) (Sec.sub_b s a w) (Yj s (by omega)) (by rw [show 0 + (a : Int).toNat = a from by omega]; exact XP s _ (by omega)))) ?_
  refine wE (by kernel_rfl) (qP rfl) ?_
  refine wD [(23, .pure _), (24, .pure _), (5, .pure _)] (by kernel_rfl) rfl rfl rfl wm (qC rfl (fun X => qf rfl rfl) <| qC rfl (fun X => qf rfl rfl) <| qC rfl (fun X => zS rfl) <| ParH.nil rfl) ?_
  dsimp only [ze, List.drop, List.length]
  refine wE (by kernel_rfl) (zS rfl) ?_
  refine wI <| qJ <| qN <| qO <| qA rfl <| qA rfl <| q9 (qQ rfl) <| q9 (qB rfl) <| qR (wu rfl rfl rfl) <| qm <| qA rfl <| q9 (wn rfl rfl) <| qF <| zM rfl <| qK <| qA rfl <| q9 (qQ rfl) <| q9 (qB rfl) <| q9 (yX rfl) <| qA rfl <| q9 (w9 rfl rfl (by omega)) <| q9 (qQ rfl) <| q9 (qB rfl) <| qR (wu rfl rfl rfl) <| qm <| qA rfl <| qE rfl <| qF <| qy <| zq (.inl rfl) rfl (qu rfl) ?_
  exact ⟨rfl, rfl⟩
theorem readerLeft_ok (p : Nat) (s : Sec) (a : Nat) (h : a ≤ 128) :
    FnT Tryz.prog w0 161 #[.pointer (some ⟨p, 0, none⟩)] (rd p s a :: F) (fun v L' => v = .int .i64 (128 - a) ∧ L' = rd p s a :: F) := by
  unfold rd
  refine qi (E0 := [(0, _)]) (N := 8) Tryz.func161 rfl rfl rfl rfl ?_
  refine qO <| qE rfl <| qm <| qA rfl <| q9 (qQ rfl) <| q9 (qB rfl) <| q9 (yX rfl) <| q9 (zt rfl rfl (by omega)) <| qE rfl <| qF <| qy <| zq (.inl rfl) rfl (qu rfl) ?_
  exact ⟨rfl, rfl⟩
theorem slice_offn {p : Nat} (a n : Nat) (h : a < 128) : Value.slice (some (if 128 = a then (⟨p, 0, none⟩ : Addr) else ⟨p, 0 + a * 1, none⟩)) (a + n - a) (128 - a) = .slice (some ⟨p, a, none⟩) n (128 - a) := by
  rw [if_neg (by omega), Nat.add_sub_cancel_left]; simp
theorem readerBytes_ok (p : Nat) (s : Sec) (a n : Nat) (h : a + n ≤ 128 ∧ a < 128) :
    FnT Tryz.prog w0 155 #[.pointer (some ⟨p, 0, none⟩), .int .i64 n] (rd p s a :: F)
      (fun v L' => ∃ C, SlC 5 1 v n (u8s (Sec.sub s a n)) C ∧ L' = C :: rd p s (a + n) :: F) := by
  refine qi (E0 := [(0, _), (1, _)]) (N := 51) Tryz.func155 rfl rfl rfl rfl ?_
  unfold rd
  refine qO <| qE rfl <| qF <| qN <| qO <| qA rfl <| q9 (qQ rfl) <| q9 (qB rfl) <| q9 (yX rfl) <| q9 (wn rfl rfl) <| qA rfl <| qY (s := 10) rfl (fun hg1_5 => ?_) (fun hg1_5 => ?_)
  ·
   refine qD rfl rfl (qP rfl) <| qD rfl rfl (wJ rfl rfl) <| qD rfl rfl (qP rfl) <| qY (s := 13) rfl (fun hg1_8 => ?_) (fun hg1_8 => ?_)
   · (exfalso; omega)
   ·
    refine qD rfl rfl (qP rfl) <| qD rfl rfl (qP rfl) <| qD rfl rfl (wM rfl (readerLeft_ok p s a (by omega))) <| qD rfl rfl (y8 rfl rfl) <| qD rfl rfl (qU rfl rfl) <| q9 (qq rfl rfl) <| qF <| qM rfl (fun hc1 => ?_) (fun hc1 => ?_)
    · (exfalso; omega)
    ·
     refine qZ <| qJ <| qN <| qO <| qA rfl <| q9 (qQ rfl) <| q9 (qB rfl) <| q9 (yX rfl) <| q9 (zE rfl rfl) <| qF <| wV rfl <| qZ <| qJ <| qO <| qA rfl <| q9 (qQ rfl) <| q9 (qB rfl) <| q9 (yX rfl) <| qA rfl <| q9 (w9 rfl rfl (by omega)) <| q9 (qQ rfl) <| q9 (qB rfl) <| qR (wu rfl rfl rfl) <| qF <| qN <| wT wB <| wD [(36, .pure _), (37, .pure _), (38, .pure _), (39, .pure _), (40, .pure _), (41, .pure _), (42, .pure _), (43, .pure _), (44, .pure _), (45, .pure _), (46, .pure _), (47, .pure _), (48, .pure _)] (by kernel_rfl) rfl rfl rfl wm (qC rfl (fun X => qP rfl) <| qC rfl (fun X => qQ rfl) <| qC rfl (fun X => qB rfl) <| qC rfl (fun X => qP rfl) <| qC rfl (fun X => qQ rfl) <| qC rfl (fun X => qB rfl) <| qC rfl (fun X => yX rfl) <| qC rfl (fun X => qP rfl) <| qC rfl (fun X => zt rfl rfl (by omega)) <| qC rfl (fun X => qP rfl) <| qC rfl (fun X => qQ rfl) <| qC rfl (fun X => qB rfl) <| qC rfl (fun X => yX rfl) <| ParH.nil rfl) ?_
     dsimp only [ze, List.drop, List.length]
     refine wE (by kernel_rfl) (kW (l := a) (h := a + n) (kl := .i64) (kh := .i64) rfl (by show some (Value.int .i64 ((a : Int) + n - n)) = _; rw [Int.add_sub_cancel]) rfl (by omega) (by omega)) ?_
     refine z8 (by kernel_rfl) (wg (m := n) (sz := 1) (by rfl) (by rw [← slice_offn a n (by omega)]; rfl) (SlC.nil _ _) (wk inferInstance (by rw [Nat.mul_one]; exact XP s _ h.1) (by simp [Yj s h.1])) (xI _) Tryz.underlying23 rfl rfl (by omega)) ?_
     rintro t50 _ ⟨C', hsl', rfl⟩
     refine wE (by kernel_rfl) (zS rfl) ?_
     refine wI <| qJ <| qy <| wC (C' :: [(p, .cells (wt s ++ [Value.int .i64 ((a : Int) + n), Value.int .i64 0]).toArray 257 (0, 0))] :: F) (.inl rfl) rfl (qu rfl) ?_
     exact ⟨C', by simpa using hsl', rfl⟩
  · (exfalso; omega)
theorem JR (c : Int) (l : List Int) (b : Int) : QW c (l ++ [b]) = Ql 8 (zb .xor .u32 (QW c l) b) := by
  induction l generalizing c with
  | nil => simp only [List.nil_append, QW]
  | cons x l ih => simp only [List.cons_append, QW]; exact ih _
theorem shr_one (z : Int) : z.fdiv (2 ^ min (1 : Int).toNat IntKind.u32.bits) = z / 2 := by
  have : (2 : Int) ^ min (1 : Int).toNat IntKind.u32.bits = 2 := rfl
  rw [this]; exact Int.fdiv_eq_ediv_of_nonneg _ (by omega)
theorem Zm {z : Int} (h : z % 2 = 1) : YK z = zb .xor .u32 (z / 2) 3988292384 := by unfold YK; rw [if_pos h]
theorem Wx {z : Int} (h : ¬ z % 2 = 1) : YK z = z / 2 := by unfold YK; rw [if_neg h]
theorem crc_ok (b off n c e : Nat) (fr : Nat × Nat) (l : List Value) (bs : List Int) (hn : (n : Int) ≤ 9223372036854775807) (hbs : IsB bs) (hlen : bs.length = n) (hl : (l.drop off).take n = u8s bs) :
    FnT Tryz.prog w0 163 #[.slice (some ⟨b, off, none⟩) n c] ([(b, .cells l.toArray e fr)] :: F)
      (fun v L' => v = .int .u32 (Kx bs) ∧ L' = [(b, .cells l.toArray e fr)] :: F) := by
  have hget : ∀ i : Nat, i < n → ∃ x, bs[i]? = some x ∧ 0 ≤ x ∧ x < 256 ∧ wY l (off + i * 1) = some (.int .u8 x) := by
    intro i hi
    have hlt : i < bs.length := by omega
    refine ⟨bs[i], List.getElem?_eq_getElem hlt, (hbs _ (List.getElem_mem hlt)).1, (hbs _ (List.getElem_mem hlt)).2, ?_⟩
    have h1 : ((l.drop off).take n)[i]? = some (.int .u8 bs[i]) := by rw [hl]; simp [u8s, hlt]
    rw [List.getElem?_take, if_pos hi, List.getElem?_drop] at h1
    rw [zB, ← h1]; congr 1; omega
  refine qi (E0 := [(0, _)]) (N := 31) Tryz.func163 rfl rfl rfl rfl ?_
  refine qO <| qE rfl <| qm <| qE rfl <| qF <| qN <| qO <| qA rfl <| q9 (w8 rfl) <| qA rfl <| qF <| qg <| wS (Γ := {pΓ : (Nat) // (fun (i : Nat) => i ≤ n) pΓ}) (fun g => (fun (i : Nat) => [(3, .int .u32 (QW 4294967295 (bs.take i))), (7, .slice (some ⟨b, off, none⟩) n c), (8, .int .i64 n), (9, .int .i64 i)]) g.1) (fun g => (fun (i : Nat) => [(b, .cells l.toArray e fr)] :: F) g.1) (fun g => (fun (i : Nat) => n - i) g.1) ⟨0, by dsimp only; exact (by omega)⟩ (qX _) ?_
  rintro ⟨i, hloop⟩
  replace hloop : i ≤ n := hloop
  obtain hi := hloop
  show Tr _ _ _ ([(3, .int .u32 (QW 4294967295 (bs.take i))), (7, .slice (some ⟨b, off, none⟩) n c), (8, .int .i64 n), (9, .int .i64 i)]) ([(b, .cells l.toArray e fr)] :: F) _ _
  refine qO <| q9 (wJ rfl rfl) <| qF <| qN <| qM rfl (fun hc3 => ?_) (fun hc3 => ?_)
  ·
   refine qZ <| qJ <| qN <| qg <| qN ?_
   obtain ⟨x, hx1, hx2, hx3, hx4⟩ := hget i (by omega)
   have hsn : bs.take (i + 1) = bs.take i ++ [x] := by rw [List.take_add_one, hx1]; rfl
   refine qK <| q9 (qx (j := i) rfl rfl (by omega) (by omega) rfl) <| q9 (qI rfl hx4) <| qE rfl <| qm <| qA rfl <| qA rfl <| q9 (zG rfl (by first | (simp only [IntKind.min, IntKind.max, IntKind.bits, IntKind.signed, Bool.false_eq_true, if_false, if_true]; omega))) ?_
   refine q9 (Ju rfl rfl) <| qE rfl <| qm <| qA rfl <| qF <| qg <| wS (Γ := {pΓ : (Nat) × (Int) // (fun (k : Nat) (z : Int) => k ≤ 8 ∧ 0 ≤ z ∧ z < 4294967296 ∧ Ql (8 - k) z = QW 4294967295 (bs.take (i + 1))) pΓ.1 pΓ.2}) (fun g => (fun (k : Nat) (z : Int) => [(3, .int .u32 z), (7, .slice (some ⟨b, off, none⟩) n c), (8, .int .i64 n), (9, .int .i64 i), (17, .int .i64 k)]) g.1.1 g.1.2) (fun g => (fun (k : Nat) (z : Int) => [(b, .cells l.toArray e fr)] :: F) g.1.1 g.1.2) (fun g => (fun (k : Nat) (z : Int) => 8 - k) g.1.1 g.1.2) ⟨(0, zb .xor .u32 (QW 4294967295 (bs.take i)) x), by dsimp only; exact ⟨by omega, (Wp _ _).1, (Wp _ _).2, by rw [hsn, JR]⟩⟩ (qX _) ?_
   rintro ⟨⟨k, z⟩, hloop⟩
   replace hloop : k ≤ 8 ∧ 0 ≤ z ∧ z < 4294967296 ∧ Ql (8 - k) z = QW 4294967295 (bs.take (i + 1)) := hloop
   obtain ⟨hk, hz1, hz2, hz3⟩ := hloop
   show Tr _ _ _ ([(3, .int .u32 z), (7, .slice (some ⟨b, off, none⟩) n c), (8, .int .i64 n), (9, .int .i64 i), (17, .int .i64 k)]) ([(b, .cells l.toArray e fr)] :: F) _ _
   refine qO <| q9 (wJ rfl rfl) <| qF <| qN <| qM rfl (fun hc7 => ?_) (fun hc7 => ?_)
   ·
    refine qZ <| qJ <| qN <| qg <| qN ?_
    obtain ⟨k', hk'⟩ : ∃ k', 8 - k = k' + 1 := ⟨7 - k, by omega⟩
    have hz4 := Kd hz1 hz2
    rw [hk', ZN] at hz3
    refine qK <| qA rfl <| q9 (W4 rfl rfl) <| qE rfl <| qT ?_
    rw [and_one hz1 hz2]
    refine qJ <| qO <| qA rfl <| q9 (Jv rfl rfl (by omega)) <| qE rfl <| qT ?_
    rw [shr_one]
    refine qJ <| qO <| qA rfl <| q9 (wn rfl rfl) <| qF <| qM rfl (fun hc10 => ?_) (fun hc10 => ?_)
    ·
     refine qK <| qA rfl <| q9 (Ju rfl rfl) <| qE rfl <| qT <| qe <| qJ ?_
     first | rw [← Zm hc10] | rw [← Wx hc10]
     refine qK <| q9 (w9 rfl rfl (by omega)) <| qA rfl <| qT <| w6 ⟨(k + 1, YK z), ?_⟩ ?_ ?_
     · (try dsimp only); exact ⟨by omega, hz4.1, hz4.2, by rw [show 8 - (k + 1) = k' from by omega]; exact hz3⟩
     · (try dsimp only); omega
     · (try dsimp only); exact qX _
    ·
     refine qZ <| qe <| qJ ?_
     first | rw [← Zm hc10] | rw [← Wx hc10]
     refine qK <| q9 (w9 rfl rfl (by omega)) <| qA rfl <| qT <| w6 ⟨(k + 1, YK z), ?_⟩ ?_ ?_
     · (try dsimp only); exact ⟨by omega, hz4.1, hz4.2, by rw [show 8 - (k + 1) = k' from by omega]; exact hz3⟩
     · (try dsimp only); omega
     · (try dsimp only); exact qX _
   ·
    refine wa <| qr <| qt <| qh <| qe <| qJ ?_
    obtain rfl : k = 8 := by omega
    have hz5 : z = QW 4294967295 (bs.take (i + 1)) := by rw [← hz3]; exact (ZM z).symm
    rw [hz5]
    refine qK <| q9 (w9 rfl rfl (by omega)) <| qA rfl <| qT <| w6 ⟨i + 1, ?_⟩ ?_ ?_
    · (try dsimp only); omega
    · (try dsimp only); omega
    · (try dsimp only); exact qX _
  ·
   refine wa <| qr <| qt <| qh <| qJ <| qO <| qA rfl <| q9 (op_compl rfl) <| qE rfl <| qF <| qy <| zq (.inl rfl) rfl (qu rfl) ?_
   exact ⟨by rw [show i = bs.length from by omega, List.take_length]; show Value.int .u32 (zb .xor .u32 4294967295 (QW 4294967295 bs)) = _; have := Kc bs (c := 4294967295) (by omega) (by omega); rw [compl32 this.1 this.2]; rfl, rfl⟩
theorem V4 (x : Int) (w : Nat) (hw : w ≤ 8) (hx : 0 ≤ x ∧ x < 18446744073709551616) :
    FnT Tryz.prog w0 126 #[.int .u64 x, .int .i64 w] F (fun v L' => ∃ C, SlC 5 1 v w (u8s (leI w x)) C ∧ L' = C :: F) := by
  refine qi (E0 := [(0, _), (1, _)]) (N := 21) Tryz.func126 rfl rfl rfl rfl ?_
  refine qO <| qE rfl <| qm <| qE rfl <| qF <| qN <| qO <| qE rfl <| qF <| qg <| wS (Γ := {pΓ : (Nat) × (Int) × (Value) × (qV) // (fun (i : Nat) (y : Int) (u : Value) (C : qV) => i ≤ w ∧ y = x / 256 ^ i ∧ SlC 5 1 u i (u8s (leI i x)) C) pΓ.1 pΓ.2.1 pΓ.2.2.1 pΓ.2.2.2}) (fun g => (fun (i : Nat) (y : Int) (u : Value) (C : qV) => [(0, .int .u64 y), (1, .int .i64 w), (5, u), (6, .int .i64 i)]) g.1.1 g.1.2.1 g.1.2.2.1 g.1.2.2.2) (fun g => (fun (i : Nat) (y : Int) (u : Value) (C : qV) => C :: F) g.1.1 g.1.2.1 g.1.2.2.1 g.1.2.2.2) (fun g => (fun (i : Nat) (y : Int) (u : Value) (C : qV) => w - i) g.1.1 g.1.2.1 g.1.2.2.1 g.1.2.2.2) ⟨(0, x, .slice none 0 0, []), by dsimp only; exact ⟨by omega, by simp, SlC.nil _ _⟩⟩ (qX _) ?_
  rintro ⟨⟨i, y, u, C⟩, hloop⟩
  replace hloop : i ≤ w ∧ y = x / 256 ^ i ∧ SlC 5 1 u i (u8s (leI i x)) C := hloop
  obtain ⟨hi, hy, hsl⟩ := hloop
  show Tr _ _ _ ([(0, .int .u64 y), (1, .int .i64 w), (5, u), (6, .int .i64 i)]) (C :: F) _ _
  refine qN <| qO <| qA rfl <| qA rfl <| q9 (wJ rfl rfl) <| qF <| qM rfl (fun hc3 => ?_) (fun hc3 => ?_)
  ·
   refine qZ <| qJ <| qN <| qg <| qN ?_
   have hy0 : 0 ≤ y := by rw [hy]; exact Int.ediv_nonneg hx.1 (Int.le_of_lt (Int.pow_pos (by omega)))
   have hy1 : y ≤ x := by rw [hy]; exact Int.ediv_le_self _ hx.1
   refine qK <| qA rfl <| qA rfl <| q9 (jz rfl rfl (by omega) (by omega)) <| q9 (zG rfl (by first | (simp only [IntKind.min, IntKind.max, IntKind.bits, IntKind.signed, Bool.false_eq_true, if_false, if_true]; omega))) ?_
   refine qG (wK rfl rfl rfl) ?_
   rintro t16 _ ⟨b16, rfl, rfl⟩
   refine qG (wg (m := 1) (sz := 1) rfl rfl hsl (wk (ys := u8s [y % 256]) inferInstance rfl rfl) rfl Tryz.underlying23 rfl rfl (by omega)) ?_
   rintro t17 _ ⟨C', hsl', rfl⟩
   refine qE rfl <| qF <| qK <| qA rfl <| q9 (KG rfl rfl hy0 (by omega) (by simp only [IntKind.max, IntKind.bits, IntKind.signed, Bool.false_eq_true, if_false]; omega)) ?_
   refine qE rfl <| qT <| qe <| qJ <| qK <| qA rfl <| q9 (w9 rfl rfl (by omega)) <| qE rfl <| qT <| w6 ⟨(i + 1, y / 256, t17, C'), ?_⟩ ?_ ?_
   ·
    try dsimp only
    refine ⟨by omega, ?_, ?_⟩
    · rw [hy, Int.pow_succ, Int.ediv_ediv_of_nonneg (Int.le_of_lt (Int.pow_pos (by omega)))]
    · rw [JH, yi, ← hy]; exact hsl'
   · (try dsimp only); omega
   · (try dsimp only); exact qX _
  ·
   refine wa <| qr <| qt <| qh <| qJ <| qO <| qA rfl <| qE rfl <| qF <| qy <| wC (C :: F) (.inl rfl) rfl (qu rfl) ?_
   exact ⟨C, by rw [show w = i from by omega]; exact hsl, rfl⟩
theorem Xg {a : List Value} {k : Nat} {z v : Value} : (a ++ List.replicate (k + 1) z).set a.length v = (a ++ [v]) ++ List.replicate k z := by
  rw [List.set_append_right _ _ (Nat.le_refl _), Nat.sub_self, List.replicate_succ, List.set_cons_zero]; simp
theorem fill_next {bs : List Int} {i n : Nat} {x : Int} {z : Value} (hx : bs[i]? = some x) (hi : i < bs.length) (hn : i < n) :
    (u8s (bs.take i) ++ List.replicate (n - i) z).set (0 + i * 1) (.int .u8 x) = u8s (bs.take (i + 1)) ++ List.replicate (n - (i + 1)) z := by
  have e : n - i = (n - (i + 1)) + 1 := by omega
  have h := Xg (a := u8s (bs.take i)) (k := n - (i + 1)) (z := z) (v := .int .u8 x)
  rw [Wr, List.length_take, show min i bs.length = i from by omega] at h
  rw [e, show 0 + i * 1 = i from by omega, h, List.take_add_one, hx, yi]; rfl
theorem JO (s : Sec) {z : Value} : ((u8s (s.l.take 128) ++ List.replicate (128 - 128) z).drop 0).take 128 = wt s := by
  rw [List.take_of_length_le (l := s.l) (by rw [s.len]; omega)]
  simp only [Nat.sub_self, List.replicate_zero, List.append_nil, List.drop_zero]
  exact List.take_of_length_le (by simp [s.len])
theorem VU (b n c e off : Nat) (fr : Nat × Nat) (l : List Value) (s : Sec) (hl : (l.drop off).take 128 = wt s) :
    FnT Tryz.prog w0 127 #[.slice (some ⟨b, off, none⟩) 128 c] ([(b, .cells l.toArray e fr)] :: F) (fun v L' => v = .agg (wt s).toArray ∧ L' = [(b, .cells l.toArray e fr)] :: F) := by
  have hget : ∀ i : Nat, i < 128 → ∃ x, s.l[i]? = some x ∧ wY l (off + i * 1) = some (.int .u8 x) := by
    intro i hi
    have hlt : i < s.l.length := by rw [s.len]; exact hi
    refine ⟨s.l[i], List.getElem?_eq_getElem hlt, ?_⟩
    have h1 : ((l.drop off).take 128)[i]? = some (.int .u8 s.l[i]) := by rw [hl]; simp [wt, u8s, hlt]
    rw [List.getElem?_take, if_pos hi, List.getElem?_drop] at h1
    rw [zB, ← h1]; congr 1; omega
  refine qi (E0 := [(0, _)]) (N := 22) Tryz.func127 rfl rfl rfl rfl ?_
  refine qO <| qG (qj) ?_
  rintro t2 _ ⟨b2, rfl, rfl⟩
  refine qm <| qG (qj) ?_
  rintro t3 _ ⟨b3, rfl, rfl⟩
  refine qF <| qN <| qO <| qE rfl <| qF <| qg <| wS (Γ := {pΓ : (Nat) // (fun (i : Nat) => i ≤ 128) pΓ}) (fun g => (fun (i : Nat) => [(0, .slice (some ⟨b, off, none⟩) 128 c), (2, .pointer (some ⟨b2, 0, none⟩)), (3, .pointer (some ⟨b3, 0, none⟩)), (4, .int .i64 i)]) g.1) (fun g => (fun (i : Nat) => [(b3, .cells (u8s (s.l.take i) ++ List.replicate (128 - i) (Value.int .u8 0)).toArray 54 (0, 0))] :: [(b2, .cells (wt Sec.zero).toArray 54 (0, 0))] :: [(b, .cells l.toArray e fr)] :: F) g.1) (fun g => (fun (i : Nat) => 128 - i) g.1) ⟨0, by dsimp only; exact (by omega)⟩ (yW (by rfl)) ?_
  rintro ⟨i, hloop⟩
  replace hloop : i ≤ 128 := hloop
  obtain hi := hloop
  show Tr _ _ _ ([(0, .slice (some ⟨b, off, none⟩) 128 c), (2, .pointer (some ⟨b2, 0, none⟩)), (3, .pointer (some ⟨b3, 0, none⟩)), (4, .int .i64 i)]) ([(b3, .cells (u8s (s.l.take i) ++ List.replicate (128 - i) (Value.int .u8 0)).toArray 54 (0, 0))] :: [(b2, .cells (wt Sec.zero).toArray 54 (0, 0))] :: [(b, .cells l.toArray e fr)] :: F) _ _
  refine qN <| qO <| qA rfl <| qA rfl <| q9 (w8 rfl) <| q9 (wJ rfl rfl) <| qA rfl <| qY (s := 9) rfl (fun hg3_4 => ?_) (fun hg3_4 => ?_)
  ·
   refine qD rfl rfl (qP rfl) <| qD rfl rfl (wJ rfl rfl) <| q9 (qq rfl rfl) <| qF <| qM rfl (fun hc3 => ?_) (fun hc3 => ?_)
   ·
    refine qZ <| qJ <| qN <| qg ?_
    obtain ⟨x, hx1, hx4⟩ := hget i (by omega)
    refine qK <| qA rfl <| qA rfl <| qA rfl <| q9 (qx (j := i) rfl rfl (by omega) (by omega) rfl) <| q9 (qI rfl hx4) <| q9 (wj (j := i) rfl rfl (by omega) (by omega) rfl) <| qR (yM rfl rfl (by simp [s.len]; omega) rfl) ?_
    refine qT <| qe <| qJ <| qK <| qA rfl <| q9 (w9 rfl rfl (by omega)) <| qE rfl <| qT <| w6 ⟨i + 1, ?_⟩ ?_ ?_
    · (try dsimp only); omega
    · (try dsimp only); omega
    · (try dsimp only); exact yW (by rw [fill_next hx1 (by rw [s.len]; omega) (by omega)])
   ·
    refine wa <| qr <| qt <| qh <| qJ <| qO <| q9 (zp rfl (r := wt s) (by rw [show i = 128 from by omega]; exact JO s) (by simp)) ?_
    refine qR (qo rfl rfl (by first | exact zZ _ | simp) (by first | exact zZ _ | simp) (by first | exact wl _ | simp [Value.oneCell'])) <| qF <| qy <| wC ([(b, .cells l.toArray e fr)] :: F) (.inl rfl) rfl (zR rfl (by first | exact zZ _ | simp)) ?_
    exact ⟨rfl, rfl⟩
  ·
   refine qL rfl rfl rfl <| qL rfl rfl rfl <| q9 (qU rfl rfl) <| qF <| wV rfl <| wa <| qr <| qt <| qh <| qJ <| qO <| q9 (zp rfl (r := wt s) (by rw [show i = 128 from by omega]; exact JO s) (by simp)) ?_
   refine qR (qo rfl rfl (by first | exact zZ _ | simp) (by first | exact zZ _ | simp) (by first | exact wl _ | simp [Value.oneCell'])) <| qF <| qy <| wC ([(b, .cells l.toArray e fr)] :: F) (.inl rfl) rfl (zR rfl (by first | exact zZ _ | simp)) ?_
   exact ⟨rfl, rfl⟩
theorem rcrc_ok (b off n c e : Nat) (fr : Nat × Nat) (l : List Value) (bs : List Int) (hn : (n : Int) ≤ 9223372036854775807) (hbs : IsB bs) (hlen : bs.length = n) (hl : (l.drop off).take n = u8s bs) :
    FnT Tryz.prog w0 159 #[.slice (some ⟨b, off, none⟩) n c] ([(b, .cells l.toArray e fr)] :: F)
      (fun v L' => v = .int .u32 (Kx bs) ∧ L' = [(b, .cells l.toArray e fr)] :: F) := by
  have hget : ∀ i : Nat, i < n → ∃ x, bs[i]? = some x ∧ 0 ≤ x ∧ x < 256 ∧ wY l (off + i * 1) = some (.int .u8 x) := by
    intro i hi
    have hlt : i < bs.length := by omega
    refine ⟨bs[i], List.getElem?_eq_getElem hlt, (hbs _ (List.getElem_mem hlt)).1, (hbs _ (List.getElem_mem hlt)).2, ?_⟩
    have h1 : ((l.drop off).take n)[i]? = some (.int .u8 bs[i]) := by rw [hl]; simp [u8s, hlt]
    rw [List.getElem?_take, if_pos hi, List.getElem?_drop] at h1
    rw [zB, ← h1]; congr 1; omega
  refine qi (E0 := [(0, _)]) (N := 33) Tryz.func159 rfl rfl rfl rfl ?_
  refine qO <| qE rfl <| qm <| qE rfl <| qF <| qN <| qO <| qE rfl <| qF <| qg <| wS (Γ := {pΓ : (Nat) // (fun (i : Nat) => i ≤ n) pΓ}) (fun g => (fun (i : Nat) => [(3, .int .u32 (QW 4294967295 (bs.take i))), (0, .slice (some ⟨b, off, none⟩) n c), (4, .int .i64 i)]) g.1) (fun g => (fun (i : Nat) => [(b, .cells l.toArray e fr)] :: F) g.1) (fun g => (fun (i : Nat) => n - i) g.1) ⟨0, by dsimp only; exact (by omega)⟩ (qX _) ?_
  rintro ⟨i, hloop⟩
  replace hloop : i ≤ n := hloop
  obtain hi := hloop
  show Tr _ _ _ ([(3, .int .u32 (QW 4294967295 (bs.take i))), (0, .slice (some ⟨b, off, none⟩) n c), (4, .int .i64 i)]) ([(b, .cells l.toArray e fr)] :: F) _ _
  refine qN <| qO <| qA rfl <| qA rfl <| q9 (w8 rfl) <| q9 (wJ rfl rfl) <| qF <| qM rfl (fun hc3 => ?_) (fun hc3 => ?_)
  ·
   refine qZ <| qJ <| qN <| qg <| qN ?_
   obtain ⟨x, hx1, hx2, hx3, hx4⟩ := hget i (by omega)
   have hsn : bs.take (i + 1) = bs.take i ++ [x] := by rw [List.take_add_one, hx1]; rfl
   refine qK <| qA rfl <| qA rfl <| qA rfl <| q9 (qx (j := i) rfl rfl (by omega) (by omega) rfl) <| q9 (qI rfl hx4) <| q9 (zG rfl (by first | (simp only [IntKind.min, IntKind.max, IntKind.bits, IntKind.signed, Bool.false_eq_true, if_false, if_true]; omega))) ?_
   refine q9 (Ju rfl rfl) <| qE rfl <| qm <| qE rfl <| qF <| qg <| wS (Γ := {pΓ : (Nat) × (Int) // (fun (k : Nat) (z : Int) => k ≤ 8 ∧ 0 ≤ z ∧ z < 4294967296 ∧ Ql (8 - k) z = QW 4294967295 (bs.take (i + 1))) pΓ.1 pΓ.2}) (fun g => (fun (k : Nat) (z : Int) => [(3, .int .u32 z), (0, .slice (some ⟨b, off, none⟩) n c), (4, .int .i64 i), (5, .int .i64 k)]) g.1.1 g.1.2) (fun g => (fun (k : Nat) (z : Int) => [(b, .cells l.toArray e fr)] :: F) g.1.1 g.1.2) (fun g => (fun (k : Nat) (z : Int) => 8 - k) g.1.1 g.1.2) ⟨(0, zb .xor .u32 (QW 4294967295 (bs.take i)) x), by dsimp only; exact ⟨by omega, (Wp _ _).1, (Wp _ _).2, by rw [hsn, JR]⟩⟩ (qX _) ?_
   rintro ⟨⟨k, z⟩, hloop⟩
   replace hloop : k ≤ 8 ∧ 0 ≤ z ∧ z < 4294967296 ∧ Ql (8 - k) z = QW 4294967295 (bs.take (i + 1)) := hloop
   obtain ⟨hk, hz1, hz2, hz3⟩ := hloop
   show Tr _ _ _ ([(3, .int .u32 z), (0, .slice (some ⟨b, off, none⟩) n c), (4, .int .i64 i), (5, .int .i64 k)]) ([(b, .cells l.toArray e fr)] :: F) _ _
   refine qN <| qO <| qA rfl <| q9 (wJ rfl rfl) <| qF <| qM rfl (fun hc7 => ?_) (fun hc7 => ?_)
   ·
    refine qZ <| qJ <| qN <| qg <| qN ?_
    obtain ⟨k', hk'⟩ : ∃ k', 8 - k = k' + 1 := ⟨7 - k, by omega⟩
    have hz4 := Kd hz1 hz2
    rw [hk', ZN] at hz3
    refine qK <| qA rfl <| q9 (jz rfl rfl (by omega) (by omega)) <| q9 (wn rfl rfl) <| qF <| qM rfl (fun hc9 => ?_) (fun hc9 => ?_)
    ·
     refine qK <| qA rfl <| q9 (KG rfl rfl hz1 (by omega) (by simp only [IntKind.max, IntKind.bits, IntKind.signed, Bool.false_eq_true, if_false]; omega)) ?_
     refine q9 (Ju rfl rfl) <| qE rfl <| qT <| qe <| qJ ?_
     first | rw [← Zm hc9] | rw [← Wx hc9]
     refine qK <| qA rfl <| q9 (w9 rfl rfl (by omega)) <| qE rfl <| qT <| w6 ⟨(k + 1, YK z), ?_⟩ ?_ ?_
     · (try dsimp only); exact ⟨by omega, hz4.1, hz4.2, by rw [show 8 - (k + 1) = k' from by omega]; exact hz3⟩
     · (try dsimp only); omega
     · (try dsimp only); exact qX _
    ·
     refine qK <| qA rfl <| q9 (KG rfl rfl hz1 (by omega) (by simp only [IntKind.max, IntKind.bits, IntKind.signed, Bool.false_eq_true, if_false]; omega)) ?_
     refine qE rfl <| qT <| qe <| qJ ?_
     first | rw [← Zm hc9] | rw [← Wx hc9]
     refine qK <| qA rfl <| q9 (w9 rfl rfl (by omega)) <| qE rfl <| qT <| w6 ⟨(k + 1, YK z), ?_⟩ ?_ ?_
     · (try dsimp only); exact ⟨by omega, hz4.1, hz4.2, by rw [show 8 - (k + 1) = k' from by omega]; exact hz3⟩
     · (try dsimp only); omega
     · (try dsimp only); exact qX _
   ·
    refine wa <| qr <| qt <| qh <| qe <| qJ ?_
    obtain rfl : k = 8 := by omega
    have hz5 : z = QW 4294967295 (bs.take (i + 1)) := by rw [← hz3]; exact (ZM z).symm
    rw [hz5]
    refine qK <| qA rfl <| q9 (w9 rfl rfl (by omega)) <| qE rfl <| qT <| w6 ⟨i + 1, ?_⟩ ?_ ?_
    · (try dsimp only); omega
    · (try dsimp only); omega
    · (try dsimp only); exact qX _
  ·
   refine wa <| qr <| qt <| qh <| qJ <| qN ?_
   have hr := Kc (bs.take i) (c := 4294967295) (by omega) (by omega)
   refine qK <| qA rfl <| q9 (Vk rfl rfl (by simp only [IntKind.min, IntKind.max, IntKind.bits, IntKind.signed, Bool.false_eq_true, if_false]; omega)) ?_
   refine qE rfl <| qF <| qy <| zq (.inl rfl) rfl (qu rfl) ?_
   exact ⟨by rw [show i = bs.length from by omega, List.take_length]; rfl, rfl⟩
def jA (k : Int) (body : List Int) : List Int := 215 :: 76 :: k :: (body.length : Int) :: (body ++ List.replicate (120 - body.length) 0)
theorem j4 {k : Int} {body : List Int} (h : body.length ≤ 120) : (jA k body).length = 124 := by simp [jA]; omega
theorem Jo {k : Int} {body : List Int} (h : body.length ≤ 120) (hk : 0 ≤ k ∧ k < 256) (hb : IsB body) : IsB (jA k body) := fun b hm => by
  simp only [jA, List.mem_cons, List.mem_append, List.mem_replicate] at hm
  rcases hm with rfl | rfl | rfl | rfl | hm | ⟨_, rfl⟩
  · omega
  · omega
  · exact hk
  · omega
  · exact hb b hm
  · omega
def jx (k : Int) (body : List Int) (h : body.length ≤ 120) (hk : 0 ≤ k ∧ k < 256) (hb : IsB body) : Sec :=
  ⟨jA k body ++ leI 4 (Kx (jA k body)), by simp [j4 h], fun b hm => by
    rcases List.mem_append.1 hm with hm | hm
    · exact Jo h hk hb b hm
    · exact kb _ _ b hm⟩
def Wn (s : Sec) (done : List Int) : Prop := s.l = done ++ List.replicate (128 - done.length) 0
theorem Wn.zero : Wn Sec.zero [] := rfl
theorem Wn.put {s : Sec} {done m : List Int} (h : Wn s done) (hl : done.length + m.length ≤ 128) (hm : IsB m) : Wn (s.put done.length m hl hm) (done ++ m) := by
  unfold Wn at h ⊢
  show QS s.l done.length m = _
  unfold QS
  rw [h, List.take_left, List.drop_append, List.drop_of_length_le (by omega), List.nil_append, List.drop_replicate, List.length_append]
  congr 2; omega
theorem rmake_ok (k : Int) (body : List Int) (q : Option Addr) (c : Nat) (h : body.length ≤ 120) (hk : 0 < k ∧ k < 256) (hb : IsB body) (hr : ∀ A : Res, Reads w0 (A ++ F) (.slice q body.length c) body.length 1 (u8s body)) :
    FnT Tryz.prog w0 150 #[.int .u8 k, .slice q body.length c] F (fun v L' => v = .tuple #[.agg (wt (jx k body h (by omega) hb)).toArray, .bool true] ∧ L' = F) := by
  refine qi (E0 := [(0, _), (1, _)]) (N := 35) Tryz.func150 rfl rfl rfl rfl ?_
  refine qO <| qG (qj) ?_
  rintro t4 _ ⟨b4, rfl, rfl⟩
  refine qE rfl <| qF <| qN <| qO <| qA rfl <| q9 (wn rfl rfl) <| qA rfl <| qY (s := 9) rfl (fun hg1_2 => ?_) (fun hg1_2 => ?_)
  · (exfalso; omega)
  ·
   refine qD rfl rfl (qP rfl) <| qD rfl rfl (w8 rfl) <| qD rfl rfl (y8 rfl rfl) <| q9 (qU rfl rfl) <| qF <| qM rfl (fun hc1 => ?_) (fun hc1 => ?_)
   · (exfalso; omega)
   ·
    refine qZ <| qJ <| qO <| qA rfl <| qA rfl <| q9 (w8 rfl) <| q9 (zG rfl (by first | (simp only [IntKind.min, IntKind.max, IntKind.bits, IntKind.signed, Bool.false_eq_true, if_false, if_true]; omega))) ?_
    refine qG (wK rfl rfl rfl) ?_
    rintro t19 _ ⟨b19, rfl, rfl⟩
    refine qA rfl <| qG (wg (m := body.length) (sz := 1) (cs := [.int .u8 215, .int .u8 76, .int .u8 k, .int .u8 body.length]) rfl rfl (SlC.fresh rfl) (hr [_, _]) (xI _) Tryz.underlying23 rfl rfl (by omega)) ?_
    rintro t21 _ ⟨C1, hs1, rfl⟩
    refine qE rfl <| qF <| qN <| qg <| wS (Γ := {pΓ : (Nat) × (Value) × (qV) // (fun (j : Nat) (u : Value) (C : qV) => j + body.length ≤ 120 ∧ SlC 5 1 u (4 + body.length + j) (u8s (215 :: 76 :: k :: (body.length : Int) :: (body ++ List.replicate j 0))) C) pΓ.1 pΓ.2.1 pΓ.2.2}) (fun g => (fun (j : Nat) (u : Value) (C : qV) => [(4, .pointer (some ⟨b4, 0, none⟩)), (6, u)]) g.1.1 g.1.2.1 g.1.2.2) (fun g => (fun (j : Nat) (u : Value) (C : qV) => C :: [(b4, .cells (wt Sec.zero).toArray 54 (0, 0))] :: F) g.1.1 g.1.2.1 g.1.2.2) (fun g => (fun (j : Nat) (u : Value) (C : qV) => 120 - j) g.1.1 g.1.2.1 g.1.2.2) ⟨(0, t21, C1), by dsimp only; exact ⟨by omega, by simpa [u8s] using hs1⟩⟩ (qX _) ?_
    rintro ⟨⟨j, u, C⟩, hloop⟩
    replace hloop : j + body.length ≤ 120 ∧ SlC 5 1 u (4 + body.length + j) (u8s (215 :: 76 :: k :: (body.length : Int) :: (body ++ List.replicate j 0))) C := hloop
    obtain ⟨hj, hsl⟩ := hloop
    show Tr _ _ _ ([(4, .pointer (some ⟨b4, 0, none⟩)), (6, u)]) (C :: [(b4, .cells (wt Sec.zero).toArray 54 (0, 0))] :: F) _ _
    refine qN <| qN ?_
    obtain ⟨pu, cu, hu⟩ := hsl.slice
    refine qK <| qA rfl <| q9 (w8 (by rw [← hu]; rfl)) ?_
    refine q9 (wJ rfl rfl) <| qF <| qM rfl (fun hc4 => ?_) (fun hc4 => ?_)
    ·
     refine qZ <| qJ <| qg <| qK <| qA rfl <| qG (wK rfl rfl rfl) ?_
     rintro t26 _ ⟨b26, rfl, rfl⟩
     refine qG (wg (m := 1) (sz := 1) rfl rfl hsl (wk (ys := u8s [0]) inferInstance rfl rfl) rfl Tryz.underlying23 rfl rfl (by omega)) ?_
     rintro t27 _ ⟨C', hsl', rfl⟩
     refine qE rfl <| qT <| qe <| w6 ⟨(j + 1, t27, C'), ?_⟩ ?_ ?_
     · (try dsimp only); exact ⟨by omega, by rw [List.replicate_succ', show 4 + body.length + (j + 1) = 4 + body.length + j + 1 from by omega]; simpa [u8s] using hsl'⟩
     · (try dsimp only); omega
     · (try dsimp only); exact qX _
    ·
     refine wa <| qr <| qt <| qh <| qJ <| qN ?_
     have hj' : j = 120 - body.length := by omega
     subst hj'
     rw [show 4 + body.length + (120 - body.length) = 124 from by omega] at hsl
     replace hsl : SlC 5 1 u 124 (u8s (jA k body)) C := hsl
     rcases hsl with ⟨-, hn, -⟩ | ⟨b, cap, spare, rfl, hcs, rfl, hcap, hnc⟩
     · exact absurd hn (by decide)
     refine qK <| qA rfl <| qA rfl <| q9 (wM rfl (YQ [_] (rcrc_ok b 0 124 cap 5 (0, 0) (u8s (jA k body) ++ spare) (jA k body) (by omega) (Jo h (by omega) hb) (j4 h) (by rw [List.drop_zero, List.take_append_of_le_length (by simp [j4 h]), List.take_of_length_le (by simp [j4 h])])))) ?_
     refine q9 (zG rfl (by have := Zl (jA k body); simp only [IntKind.min, IntKind.max, IntKind.bits, IntKind.signed, Bool.false_eq_true, if_false]; omega)) ?_
     refine qG (w5 rfl (V4 (Kx (jA k body)) 4 (by omega) (by have := Zl (jA k body); omega))) ?_
     rintro t32 _ ⟨C2, hs2, rfl⟩
     refine qG (wg (m := 4) (n := 124) (sz := 1) rfl rfl (Vu hcs hcap hnc) (jM hs2) (xI _) Tryz.underlying23 rfl rfl (by omega)) ?_
     rintro t33 _ ⟨C3, hs3, rfl⟩
     replace hs3 : SlC 5 1 t33 128 (wt (jx k body h (by omega) hb)) C3 := by rw [← yi] at hs3; exact hs3
     rcases hs3 with ⟨-, hn, -⟩ | ⟨b3, cap3, spare3, rfl, hcs3, rfl, hcap3, hnc3⟩
     · exact absurd hn (by decide)
     refine q9 (wM rfl (YQ [_] (VU b3 128 cap3 5 0 (0, 0) (wt (jx k body h (by omega) hb) ++ spare3) (jx k body h (by omega) hb) (by rw [List.drop_zero, List.take_append_of_le_length (by simp), List.take_of_length_le (by simp)])))) ?_
     refine qR (qo rfl rfl (by first | exact zZ _ | simp) (by first | exact zZ _ | simp) (by first | exact wl _ | simp [Value.oneCell'])) <| qE rfl <| qT ?_
     skip
     refine qJ <| qy <| wU F (.inl rfl) rfl (zR rfl (by first | exact zZ _ | simp)) (qu rfl) ?_
     exact ⟨rfl, rfl⟩
theorem secV_take (s : Sec) (n : Nat) : (wt s).take n = u8s (s.l.take n) := xL _ _
theorem K5 {s : Sec} {k : Int} {body : List Int} (h : body.length ≤ 120) (hk : 0 < k ∧ k < 256) (hw : Wn s ((([] ++ leI 2 19671) ++ leI 1 k) ++ leI 1 body.length ++ body)) : s.l = jA k body ++ [0, 0, 0, 0] := by
  have e : ((([] ++ leI 2 19671) ++ leI 1 k) ++ leI 1 body.length ++ body) = 215 :: 76 :: k :: (body.length : Int) :: body := by
    have h1 : k % 256 = k := Int.emod_eq_of_lt (by omega) (by omega)
    have h2 : (body.length : Int) % 256 = body.length := Int.emod_eq_of_lt (by omega) (by omega)
    simp [leI, h1, h2]
  rw [e] at hw
  unfold Wn at hw
  have e2 : 128 - (215 :: 76 :: k :: (body.length : Int) :: body).length = (120 - body.length) + 4 := by simp; omega
  rw [hw, e2, ← List.replicate_append_replicate]
  simp [jA]
theorem sealed_put {s : Sec} {k : Int} {body : List Int} (h : body.length ≤ 120) (hk : 0 < k ∧ k < 256) (hb : IsB body) (hs : s.l = jA k body ++ [0, 0, 0, 0]) :
    jo (wt s) (0 + (124 : Int).toNat) (u8s (leI 4 (Kx (jA k body)))) = wt (jx k body h (by omega) hb) := by
  have := Y5 s [] 124 (leI 4 (Kx (jA k body))) (by simp) (kb _ _)
  rw [List.append_nil, List.append_nil] at this
  rw [show 0 + (124 : Int).toNat = 124 from rfl, this]
  congr 1
  apply Zz
  show QS s.l 124 _ = _
  unfold QS
  rw [hs, List.take_append_of_le_length (by simp [j4 h]), List.take_of_length_le (by simp [j4 h]), List.drop_of_length_le (by simp [j4 h])]
  simp [jx]
theorem VP (k : Int) (body : List Int) (q : Option Addr) (c : Nat) (h : body.length ≤ 120) (hk : 0 < k ∧ k < 256) (hb : IsB body) (hq : q = none → body.length = 0) (hr : ∀ A : Res, Reads w0 (A ++ F) (.slice q body.length c) body.length 1 (u8s body)) :
    FnT Tryz.prog w0 156 #[.int .u8 k, .slice q body.length c] F (fun v L' => v = .tuple #[.agg (wt (jx k body h (by omega) hb)).toArray, .int .i64 0] ∧ L' = F) := by
  have hw1 := Wn.zero.put (m := leI 2 19671) (by decide) (kb _ _)
  have hw2 := hw1.put (m := leI 1 k) (by simp) (kb _ _)
  have hw3 := hw2.put (m := leI 1 body.length) (by simp) (kb _ _)
  have hw4 : Wn ((((Sec.zero.put 0 (leI 2 19671) (by simp) (kb _ _)).put 2 (leI 1 k) (by simp) (kb _ _)).put 3 (leI 1 body.length) (by simp) (kb _ _)).put 4 body (by omega) hb) _ := hw3.put (m := body) (by simp; omega) hb
  refine qi (E0 := [(0, _), (1, _)]) (N := 37) Tryz.func156 rfl rfl rfl rfl ?_
  refine qO <| qG (qj) ?_
  rintro t4 _ ⟨b4, rfl, rfl⟩
  refine qE rfl <| qF <| qN <| qO <| qA rfl <| q9 (wn rfl rfl) <| qA rfl <| qY (s := 11) rfl (fun hg1_2 => ?_) (fun hg1_2 => ?_)
  · (exfalso; omega)
  ·
   refine qD rfl rfl (qP rfl) <| qD rfl rfl (w8 rfl) <| qD rfl rfl (y8 rfl rfl) <| q9 (qU rfl rfl) <| qF <| qM rfl (fun hc1 => ?_) (fun hc1 => ?_)
   · (exfalso; omega)
   ·
    refine qZ <| qJ <| qO <| qG (qj) ?_
    rintro t6 _ ⟨b6, rfl, rfl⟩
    refine qF <| qN <| yy (L' := wr b6 Sec.zero 0 :: _) (fun _ h => h) ?_
    refine qK <| qG (w5 rfl (xd b6 _ 0 19671 2 (by omega) (by omega))) ?_
    rintro t17 _ ⟨rfl, rfl⟩
    refine qm <| qA rfl <| q9 (zG rfl (by first | (simp only [IntKind.min, IntKind.max, IntKind.bits, IntKind.signed, Bool.false_eq_true, if_false, if_true]; omega))) ?_
    refine qG (w5 rfl (xd b6 _ 2 k 1 (by omega) (by omega))) ?_
    rintro t20 _ ⟨rfl, rfl⟩
    refine qm <| qA rfl <| q9 (w8 rfl) <| q9 (zG rfl (by first | (simp only [IntKind.min, IntKind.max, IntKind.bits, IntKind.signed, Bool.false_eq_true, if_false, if_true]; omega))) ?_
    refine qG (w5 rfl (xd b6 _ 3 body.length 1 (by omega) (by omega))) ?_
    rintro t24 _ ⟨rfl, rfl⟩
    refine qm <| qA rfl <| qG (w5 rfl (writerBytes_ok b6 _ 4 120 q c body hb (by omega) hq (fun A => hr [A, _]))) ?_
    rintro t26 _ ⟨rfl, rfl⟩
    refine qm <| qG (w5 rfl (WK b6 _ 124)) ?_
    rintro t28 _ ⟨rfl, rfl⟩
    refine qA rfl <| q9 (qf rfl rfl) <| q9 (qf rfl rfl) <| qG (qj) ?_
    rintro t7 _ ⟨b7, rfl, rfl⟩
    refine qR (qo rfl rfl (by simp) (by simp) (by exact wl _)) ?_
    refine qE rfl <| qF <| qN <| wT wB <| wD [(31, .pure _), (32, .pure _), (33, .pure _), (34, .pure _)] (by kernel_rfl) rfl rfl rfl wm (qC rfl (fun X => kW (l := 0) (h := 128) (kl := .i64) (kh := .i64) rfl rfl rfl (by decide) (by decide)) <| qC rfl (fun X => kW (l := 0) (h := 124) (kl := .i64) (kh := .i64) rfl rfl rfl (by decide) (by decide)) <| qC rfl (fun X => wM rfl (YQ [_] (crc_ok b7 0 124 128 55 (0, 0) _ (jA k body) (by omega) (Jo h (by omega) hb) (j4 h) (by rw [List.drop_zero, secV_take, K5 h hk hw4, List.take_append_of_le_length (by simp [j4 h]), List.take_of_length_le (by simp [j4 h])])))) <| qC rfl (fun X => zG rfl (by have := Zl (jA k body); simp only [IntKind.min, IntKind.max, IntKind.bits, IntKind.signed, Bool.false_eq_true, if_false]; omega)) <| ParH.nil rfl) ?_
    dsimp only [ze, List.drop, List.length]
    refine z8 (by kernel_rfl) (w5 rfl (V3 b7 0 128 128 55 _ 124 (Kx (jA k body)) 4 (by omega) (by omega) (by have := Zl (jA k body); omega) (by simp))) ?_
    rintro t35 _ ⟨rfl, rfl⟩
    refine wI <| qJ <| qN ?_
    rw [sealed_put h hk hb (K5 h hk hw4)]
    refine qK <| q9 (wQ rfl (by simp)) ?_
    refine qR (qo rfl rfl (by simp) (by simp) (by exact wl _)) ?_
    refine qE rfl <| qF <| qy <| wU F (.inl rfl) rfl (zR rfl (by first | exact zZ _ | simp)) (qu rfl) ?_
    exact ⟨rfl, rfl⟩
theorem seal_subs {k : Int} {body : List Int} (h : body.length ≤ 120) (hk : 0 < k ∧ k < 256) (hb : IsB body) :
    deI (Sec.sub (jx k body h (by omega) hb) (0 + 2) 1) = k ∧ deI (Sec.sub (jx k body h (by omega) hb) (0 + 2 + 1) 1) = body.length ∧ Sec.sub (jx k body h (by omega) hb) (0 + 2 + 1 + 1) body.length = body := by
  refine ⟨by simp [Sec.sub, jx, jA, deI], by simp [Sec.sub, jx, jA, deI], ?_⟩
  simp [Sec.sub, jx, jA]
theorem open_ok (k : Int) (body : List Int) (h : body.length ≤ 120) (hk : 0 < k ∧ k < 256) (hb : IsB body) :
    FnT Tryz.prog w0 142 #[.agg (wt (jx k body h (by omega) hb)).toArray] F (fun v L' => ∃ u C, v = .tuple #[.int .u8 k, u, .int .i64 0] ∧ SlC 5 1 u body.length (u8s body) C ∧ L' = C :: F) := by
  obtain ⟨e1, e2, e3⟩ := seal_subs h hk hb
  generalize hs : jx k body h (by omega) hb = s at e1 e2 e3 ⊢
  refine qi (E0 := [(0, _)]) (N := 41) Tryz.func142 rfl rfl rfl rfl ?_
  refine qO <| qG (wq rfl) ?_
  rintro t1 _ ⟨b1, rfl, rfl⟩
  refine qE rfl <| qE rfl <| qE rfl <| qm <| q9 (wQ rfl (by simp)) ?_
  refine qG (w5 rfl (VG s)) ?_
  rintro t12 _ ⟨p, rfl, rfl⟩
  refine qE rfl <| qm <| qA rfl <| qG (w5 rfl (xf p s 0 2 (by omega))) ?_
  rintro t14 _ ⟨rfl, rfl⟩
  refine qm <| qA rfl <| qG (w5 rfl (xf p s (0 + 2) 1 (by omega))) ?_
  rintro t16 _ ⟨rfl, rfl⟩
  rw [e1]
  refine q9 (zG rfl (by simp only [IntKind.min, IntKind.max, IntKind.bits, IntKind.signed, Bool.false_eq_true, if_false]; omega)) ?_
  refine qA rfl <| qG (w5 rfl (xf p s (0 + 2 + 1) 1 (by omega))) ?_
  rintro t19 _ ⟨rfl, rfl⟩
  rw [e2]
  refine q9 (zG rfl (by simp only [IntKind.min, IntKind.max, IntKind.bits, IntKind.signed, if_true]; omega)) ?_
  refine qE rfl <| qE rfl <| qF <| qN <| qO <| qA rfl <| q9 (y8 rfl rfl) <| qF <| qM rfl (fun hc4 => ?_) (fun hc4 => ?_)
  · (exfalso; omega)
  ·
   refine qZ <| qJ <| qO <| qA rfl <| qA rfl <| qG (w5 rfl (readerBytes_ok p s (0 + 2 + 1 + 1) body.length (by omega))) ?_
   rintro t25 _ ⟨C, hsl, rfl⟩
   refine qE rfl <| qF <| qN <| qN ?_
   rw [e3] at hsl
   obtain ⟨q, c, rfl⟩ := hsl.slice
   refine qK <| qA rfl <| qA rfl <| qG (w5 rfl (VP k body q c h hk hb (fun e => by subst e; rcases hsl with ⟨-, h, -⟩ | ⟨_, _, _, h, _⟩; exact h; cases h) (fun A => jM hsl))) ?_
   rintro t29 _ ⟨rfl, rfl⟩
   refine qA rfl <| q9 (qf rfl rfl) <| q9 (qf rfl rfl) <| qG (qj) ?_
   rintro t9 _ ⟨b9, rfl, rfl⟩
   refine qR (qo rfl rfl (by simp) (by simp) (by exact wl _)) ?_
   refine qE rfl <| qm <| qA rfl <| q9 (zE rfl rfl) <| qA rfl <| qY (s := 34) rfl (fun hg8_2 => ?_) (fun hg8_2 => ?_)
   · exact absurd rfl hg8_2
   ·
    refine qD rfl rfl (wQ rfl (by simp)) ?_
    refine qD rfl rfl (wQ rfl (by simp)) ?_
    refine qD rfl rfl (Jw rfl rfl) <| q9 (qU rfl rfl) <| qF <| qM rfl (fun hc8 => ?_) (fun hc8 => ?_)
    · exact absurd (by simp only [hs]) hc8
    ·
     refine qZ <| qJ <| qO <| qA rfl <| qA rfl <| qE rfl <| qE rfl <| qE rfl <| qF <| qy <| Jf (C :: F) (.inl rfl) rfl (qu rfl) (qu rfl) (qu rfl) ?_
     exact ⟨_, C, rfl, hsl, rfl⟩
end
end Go.Proofs.YtjikpomndbkfgaaGreatDoor
namespace Go.Sx
open Go
section
variable {P : Program} {N : Nat} {w0 : World} {E : Env} {L : Res}
structure Vh (P : Program) (t : TypeId) (v : Value) (name : String) (f : FuncId) : Prop where
  ahead : ∀ w, (nilAhead (P.types.size + Made.depth) t v name).run P w = .ok (some false) w
  meth : ∀ w, (method (P.types.size + Made.depth) t v name).run P w = .ok (f, v) w
  enter : ∀ args w, (callFunc f args).run P w = .ok (.enter f args) w
theorem zm {x : Operand} {ty t : TypeId} {name : String} {v : Value} {f : FuncId} {cap : List Value} (hx : opv E x = some (.func (.method name) [.iface t v].toArray cap.toArray)) (hm : Vh P t v name f) :
    Op1 P N w0 E L (.nilCheck x) ty (.func (.method name) [.iface t v].toArray cap.toArray) L :=
  .of_run fun o a w h1 _ h3 h4 => ⟨w, by
    rw [execOp, h1]
    simp [h3.eval hx, program, Sem.run_bind, hm.ahead, Sem.run], h4⟩
theorem yz {x : Operand} {ty t f : TypeId} {name : String} {v : Value} {args : List Operand} {tys : Array TypeId} {vs : List Value} {R : Value → Res → Prop} 
    (hx : opv E x = some (.iface t v)) (hargs : jW E args = some vs) (hm : Vh P t v name f) (hf : FnT P w0 f (v :: vs).toArray L R) :
    OpT P N w0 E L (.call ⟨.invoke x name, args.toArray, tys⟩) ty R :=
  ⟨fun o a w h1 h2 h3 h4 K Q hK => by
    have hrun : (execOp a.eval o).run P w = .ok (.enter f (v :: vs).toArray) w := by
      rw [execOp, h1]
      simp [resolve, invoke, callMethod, h3.eval hx, Q6 h3 _ _ hargs, program, Sem.run_bind]
      rw [show Sem.run P (Sem.program Sem.pure) w = .ok P w from rfl]
      simp [hm.meth, hm.enter]
    unfold Oper.wp
    rw [hrun, Oper.upon_enter]
    exact (hf.h w h4).mono fun e w' ⟨v, L', e1, hr, ho⟩ => by subst e1; exact hK v L' w' hr ho⟩
theorem JD {x y : Operand} {t e ty len : TypeId} {k : IntKind} {i : Int} {j : Nat} {l : List Value} {v : Value} [ha : x7 P t len e] [hz : TySize P e 1] [hs : TyScalar P e]
    (hx : opv E x = some (.agg l.toArray)) (hy : opv E y = some (.int k i)) (hi : i = (j : Int)) (hj : j < len) (hv : wY l j = some v) : Op1 P N w0 E L (.index t x y) ty v L :=
  .of_run fun o a w h1 _ h3 h4 => ⟨w, by
    subst hi
    rw [zB] at hv
    rw [execOp, h1]
    simp [h3.eval hx, h3.eval hy, Instr.index, asIntOf, qz ha.h, hj, hz.s, part, hs.h, hv], h4⟩
end
end Go.Sx
namespace Go.Proofs.YtjikpomndbkfgaaGreatDoor
open Go Go.Sx Go.Nd
set_option maxRecDepth 10000
section
variable {w0 : World} {L F : Res}
def wrc (p : Nat) (u : Value) : qV := [(p, .cells [u, .bool false].toArray 264 (0, 0))]
theorem mk_zero (w : Nat) : ((List.range (w * 1)).map fun i => (Value.int .u8 0).cells[i % (Value.int .u8 0).cells.size]!) = List.replicate w (Value.int .u8 0) := by
  simp [Value.cells, Nat.mod_one, List.map_const']
theorem put_whole (w : Nat) (x : Int) : jo (List.replicate w (Value.int .u8 0)) (0 + (0 : Int).toNat) (u8s (leI w x)) = u8s (leI w x) := by
  simp [jo]
theorem VF (p : Nat) (u : Value) (C : qV) (n w q : Nat) (e : TypeId) (fr : Nat × Nat) (bs : List Int) (x : Int) (hs : SlC 5 1 u n (u8s bs) C) (hw : 1 ≤ w ∧ w ≤ 8) (hx : 0 ≤ x ∧ x < 256 ^ w) (hn : n ≤ 1000) :
    FnT Tryz.prog w0 186 #[.pointer (some ⟨p, 0, none⟩), .int .i64 w, .pointer (some ⟨q, 0, none⟩)] (wrc p u :: C :: [(q, .cells [.int .u64 x].toArray e fr)] :: F)
      (fun v L' => ∃ u' C', v = .tuple #[] ∧ SlC 5 1 u' (n + w) (u8s (bs ++ leI w x)) C' ∧ L' = wrc p u' :: C' :: [(q, .cells [.int .u64 x].toArray e fr)] :: F) := by
  unfold wrc
  refine qi (E0 := [(0, _), (1, _), (2, _)]) (N := 28) Tryz.func186 rfl rfl rfl rfl ?_
  refine qO <| qA rfl <| qG (xj (by_ := 1) (sz := 1) (n := w) (r := List.replicate w (.int .u8 0)) rfl rfl (by omega) (by omega) (mk_zero w)) ?_
  rintro t8 _ ⟨bb, rfl, rfl⟩
  refine qE rfl <| qF <| qN <| qO <| qA rfl <| qA rfl <| qA rfl <| q9 (qQ rfl) <| q9 (qI rfl rfl) <| qG (w5 rfl (V3 bb 0 w w 5 (List.replicate w (.int .u8 0)) 0 x w (by omega) (by omega) hx (by simp))) ?_
  rintro t14 _ ⟨rfl, rfl⟩
  refine q9 (zE rfl rfl) <| qF <| wV rfl <| qZ <| qJ ?_
  rw [put_whole w x]
  refine qK <| qA rfl <| qA rfl <| q9 (qQ rfl) <| q9 (qB rfl) <| q9 (qI rfl rfl) <| qA rfl <| qG (wg (m := w) (sz := 1) rfl rfl hs (wk (ys := u8s (leI w x)) inferInstance (by simp [List.take_of_length_le]) (by simp)) (xI _) Tryz.underlying23 rfl rfl (by omega)) ?_
  rintro t25 _ ⟨C', hs', rfl⟩
  obtain ⟨pq, cq, rfl⟩ := hs'.slice
  refine q9 (qQ rfl) <| q9 (qB rfl) <| qR (wu rfl rfl rfl) <| qT <| kA ([(p, .cells [.slice pq (n + w) cq, .bool false].toArray 264 (0, 0))] :: C' :: [(q, .cells [.int .u64 x].toArray e fr)] :: F) (.inr rfl) rfl  ?_
  exact ⟨_, C', rfl, by rw [yi]; exact hs', rfl⟩
theorem Jh (p : Nat) (u : Value) (C : qV) (n w ib off : Nat) (l : List Value) (e : TypeId) (fr : Nat × Nat) (bs : List Int) (x : Int) (hs : SlC 5 1 u n (u8s bs) C) (hw : 1 ≤ w ∧ w ≤ 8) (hx : 0 ≤ x ∧ x < 256 ^ w) (hx2 : x < 4294967296) (hn : n ≤ 1000) (hv : wY l off = some (.int .u32 x)) :
    FnT Tryz.prog w0 187 #[.pointer (some ⟨p, 0, none⟩), .int .i64 w, .pointer (some ⟨ib, off, none⟩)] (wrc p u :: C :: [(ib, .cells l.toArray e fr)] :: F)
      (fun v L' => ∃ u' C', v = .tuple #[] ∧ SlC 5 1 u' (n + w) (u8s (bs ++ leI w x)) C' ∧ L' = wrc p u' :: C' :: [(ib, .cells l.toArray e fr)] :: F) := by
  refine qi (E0 := [(0, _), (1, _), (2, _)]) (N := 14) Tryz.func187 rfl rfl rfl rfl ?_
  refine qO <| qA rfl <| q9 (qQ rfl) <| q9 (qI rfl hv) <| q9 (zG rfl (by first | (simp only [IntKind.min, IntKind.max, IntKind.bits, IntKind.signed, Bool.false_eq_true, if_false, if_true]; omega))) ?_
  refine qG (qj) ?_
  rintro t6 _ ⟨b6, rfl, rfl⟩
  refine qR (wu rfl rfl rfl) <| qF <| qK <| qA rfl <| qA rfl <| qG (w5 rfl (jD (wrc p u) (C) ([(b6, .cells [Value.int .u64 x].toArray 199 (0, 0))]) (VF p u C n w b6 199 (0, 0) bs x hs hw hx hn))) ?_
  rintro t13 _ ⟨u', C', rfl, hs', rfl⟩
  refine qT <| kA (wrc p u' :: C' :: [(ib, .cells l.toArray e fr)] :: F) (.inr rfl) rfl  ?_
  exact ⟨u', C', rfl, hs', rfl⟩
theorem KS (p : Nat) (u : Value) (C : qV) (n w ib off : Nat) (l : List Value) (e : TypeId) (fr : Nat × Nat) (bs : List Int) (x : Int) (hs : SlC 5 1 u n (u8s bs) C) (hw : 1 ≤ w ∧ w ≤ 8) (hx : 0 ≤ x ∧ x < 256 ^ w) (hx2 : x < 9223372036854775808) (hn : n ≤ 1000) (hv : wY l off = some (.int .i64 x)) :
    FnT Tryz.prog w0 184 #[.pointer (some ⟨p, 0, none⟩), .int .i64 w, .pointer (some ⟨ib, off, none⟩)] (wrc p u :: C :: [(ib, .cells l.toArray e fr)] :: F)
      (fun v L' => ∃ u' C', v = .tuple #[] ∧ SlC 5 1 u' (n + w) (u8s (bs ++ leI w x)) C' ∧ L' = wrc p u' :: C' :: [(ib, .cells l.toArray e fr)] :: F) := by
  unfold wrc
  refine qi (E0 := [(0, _), (1, _), (2, _)]) (N := 28) Tryz.func184 rfl rfl rfl rfl ?_
  refine qO <| qA rfl <| q9 (qQ rfl) <| q9 (qI rfl hv) <| q9 (Vl rfl rfl) ?_
  rw [show max x 0 = x from by omega]
  refine q9 (zG rfl (by simp only [IntKind.min, IntKind.max, IntKind.bits, IntKind.signed, Bool.false_eq_true, if_false]; omega)) ?_
  refine qG (qj) ?_
  rintro t6 _ ⟨b6, rfl, rfl⟩
  refine qR (wu rfl rfl rfl) <| qm <| qA rfl <| qA rfl <| q9 (qQ rfl) <| q9 (qB rfl) <| q9 (qI rfl rfl) <| qA rfl <| zy (s := 17) rfl (fun hg1_5 => ?_) (fun hg1_5 => ?_)
  · cases hg1_5
  ·
   refine qD rfl rfl (qP rfl) <| qD rfl rfl (qQ rfl) <| qD rfl rfl (qI rfl hv) <| qD rfl rfl (wJ rfl rfl) ?_
   rw [show decide (x < 0) = false from decide_eq_false (by omega)]
   refine q9 (qU rfl rfl) <| q9 (qQ rfl) <| q9 (qB rfl) <| qR (wu rfl rfl rfl) <| qF <| qK <| qA rfl <| qA rfl <| qG (w5 rfl (jD ([(p, .cells [u, .bool false].toArray 264 (0, 0))]) (C) ([(b6, .cells [Value.int .u64 x].toArray 199 (0, 0))]) (VF p u C n w b6 199 (0, 0) bs x hs hw hx hn))) ?_
   rintro t27 _ ⟨u', C', rfl, hs', rfl⟩
   refine qT <| kA (wrc p u' :: C' :: [(ib, .cells l.toArray e fr)] :: F) (.inr rfl) rfl  ?_
   exact ⟨u', C', rfl, hs', rfl⟩
structure Ino where
  num : Int
  ver : Int
  kind : Int
  size : Int
  time : Int
  d : List Int
  sg : Int
  db : Int
structure Ino.Ok (x : Ino) : Prop where
  num : 0 ≤ x.num ∧ x.num < 65536
  ver : 0 ≤ x.ver ∧ x.ver < 4294967296
  kind : 1 ≤ x.kind ∧ x.kind ≤ 2
  size : 0 ≤ x.size ∧ x.size < 4294967296
  time : 0 ≤ x.time ∧ x.time < 4294967296
  len : x.d.length = 8
  d : ∀ a ∈ x.d, 0 ≤ a ∧ a < 4294967296
  sg : 0 ≤ x.sg ∧ x.sg < 4294967296
  db : 0 ≤ x.db ∧ x.db < 4294967296
def iV (l : List Int) : List Value := l.map (Value.int .i64)
@[simp] theorem iV_len (l : List Int) : (iV l).length = l.length := by simp [iV]
def yL (x : Ino) : List Value := .int .u32 x.num :: .int .u32 x.ver :: .int .i64 x.kind :: .int .i64 x.size :: .int .u32 x.time :: (iV x.d ++ [.int .i64 x.sg, .int .i64 x.db])
def ZD (x : Ino) : List Int := leI 2 x.num ++ leI 4 x.ver ++ leI 1 x.kind ++ leI 4 x.size ++ leI 4 x.time
def jS (x : Ino) : List Int := ZD x ++ x.d.flatMap (leI 4) ++ leI 4 x.sg ++ leI 4 x.db
theorem Wv (x : Ino) : (ZD x).length = 15 := by simp [ZD]
theorem xG (d : List Int) : (d.flatMap (leI 4)).length = 4 * d.length := by
  induction d with
  | nil => rfl
  | cons a d ih => simp [ih]; omega
theorem Q2 {x : Ino} (h : x.Ok) : (jS x).length = 55 := by simp only [jS, List.length_append, Wv, xG, Yp, h.len]
theorem QR {a b : List Int} (ha : IsB a) (hb : IsB b) : IsB (a ++ b) := fun x hx => by
  rcases List.mem_append.1 hx with h | h
  · exact ha x h
  · exact hb x h
theorem VV (d : List Int) : IsB (d.flatMap (leI 4)) := fun x hx => by
  obtain ⟨a, _, h⟩ := List.mem_flatMap.1 hx
  exact kb _ _ x h
theorem X3 (x : Ino) : IsB (jS x) :=
  QR (QR (QR (QR (QR (QR (QR (kb _ _) (kb _ _)) (kb _ _)) (kb _ _)) (kb _ _)) (VV _)) (kb _ _)) (kb _ _)
theorem V7 {x : Ino} {i : Nat} {a : Int} (h : x.d[i]? = some a) : wY (yL x) (5 + i) = some (.int .i64 a) := by
  rw [zB, Nat.add_comm]
  show (iV x.d ++ _)[i]? = _
  have hlt := (List.getElem?_eq_some_iff.1 h).1
  rw [List.getElem?_append_left (by simpa using hlt)]
  simp [iV, h]
theorem Yr {x : Ino} (h : x.d.length = 8) : wY (yL x) 13 = some (.int .i64 x.sg) ∧ wY (yL x) 14 = some (.int .i64 x.db) := by
  rw [zB, zB]
  constructor
  · show (iV x.d ++ _)[8]? = _
    rw [List.getElem?_append_right (by simp [h])]; simp [h]
  · show (iV x.d ++ _)[9]? = _
    rw [List.getElem?_append_right (by simp [h])]; simp [h]
theorem Y9 (a : Addr) : Vh Tryz.prog 262 (.pointer (some a)) "drumlin/codec.word" 187 := ⟨fun _ => by kernel_rfl, fun _ => by kernel_rfl, Enters.h⟩
theorem ZB (a : Addr) : Vh Tryz.prog 262 (.pointer (some a)) "drumlin/codec.int" 184 := ⟨fun _ => by kernel_rfl, fun _ => by kernel_rfl, Enters.h⟩
theorem YA (a : Addr) : Vh Tryz.prog 228 (.pointer (some a)) "drumlin/codec.word" 182 := ⟨fun _ => by kernel_rfl, fun _ => by kernel_rfl, Enters.h⟩
theorem ZC (a : Addr) : Vh Tryz.prog 228 (.pointer (some a)) "drumlin/codec.int" 180 := ⟨fun _ => by kernel_rfl, fun _ => by kernel_rfl, Enters.h⟩
theorem pass_ok (p ib : Nat) (x : Ino) (hx : x.Ok) :
    FnT Tryz.prog w0 119 #[.iface 262 (.pointer (some ⟨p, 0, none⟩)), .pointer (some ⟨ib, 0, none⟩)] (wrc p (.slice none 0 0) :: [] :: [(ib, .cells (yL x).toArray 168 (0, 0))] :: F)
      (fun v L' => ∃ u' C', v = .tuple #[] ∧ SlC 5 1 u' 55 (u8s (jS x)) C' ∧ L' = wrc p u' :: C' :: [(ib, .cells (yL x).toArray 168 (0, 0))] :: F) := by
  have h13 := Yr hx.len
  refine qi (E0 := [(0, _), (1, _)]) (N := 75) Tryz.func119 rfl rfl rfl rfl ?_
  refine qN <| wT wB <| wD [(5, .pure _), (6, .pure _), (7, .pure _), (8, .pure _), (9, .pure _), (10, .pure _), (11, .pure _)] (by kernel_rfl) rfl rfl rfl wm (qC rfl (fun X => qP rfl) <| qC rfl (fun X => qP rfl) <| qC rfl (fun X => qQ rfl) <| qC rfl (fun X => qB rfl) <| qC rfl (fun X => z6 rfl rfl) <| qC rfl (fun X => zm rfl (Y9 _)) <| qC rfl (fun X => qP rfl) <| ParH.nil rfl) ?_
  dsimp only [ze, List.drop, List.length]
  refine z8 (by kernel_rfl) (yz rfl rfl (Y9 _) (Jh p _ [] 0 2 ib 0 (yL x) 168 (0, 0) [] x.num (SlC.nil _ _) (by omega) hx.num (by have := hx.num; omega) (by omega) rfl)) ?_
  rintro t12 _ ⟨u1, C1, rfl, hs1, rfl⟩
  refine wI <| qJ <| qN <| wT wB <| wD [(13, .pure _), (14, .pure _), (15, .pure _), (16, .pure _), (17, .pure _), (18, .pure _), (19, .pure _)] (by kernel_rfl) rfl rfl rfl wm (qC rfl (fun X => qP rfl) <| qC rfl (fun X => qP rfl) <| qC rfl (fun X => qQ rfl) <| qC rfl (fun X => qB rfl) <| qC rfl (fun X => z6 rfl rfl) <| qC rfl (fun X => zm rfl (Y9 _)) <| qC rfl (fun X => qP rfl) <| ParH.nil rfl) ?_
  dsimp only [ze, List.drop, List.length]
  refine z8 (by kernel_rfl) (yz rfl rfl (Y9 _) (Jh p _ C1 _ 4 ib 1 (yL x) 168 (0, 0) _ x.ver hs1 (by omega) hx.ver hx.ver.2 (by omega) rfl)) ?_
  rintro t20 _ ⟨u2, C2, rfl, hs2, rfl⟩
  refine wI <| qJ <| qN <| wT wB <| wD [(21, .pure _), (22, .pure _), (23, .pure _), (24, .pure _), (25, .pure _), (26, .pure _), (27, .pure _)] (by kernel_rfl) rfl rfl rfl wm (qC rfl (fun X => qP rfl) <| qC rfl (fun X => qP rfl) <| qC rfl (fun X => qQ rfl) <| qC rfl (fun X => qB rfl) <| qC rfl (fun X => z6 rfl rfl) <| qC rfl (fun X => zm rfl (ZB _)) <| qC rfl (fun X => qP rfl) <| ParH.nil rfl) ?_
  dsimp only [ze, List.drop, List.length]
  refine z8 (by kernel_rfl) (yz rfl rfl (ZB _) (KS p _ C2 _ 1 ib 2 (yL x) 168 (0, 0) _ x.kind hs2 (by omega) (by have := hx.kind; omega) (by have := hx.kind; omega) (by omega) rfl)) ?_
  rintro t28 _ ⟨u3, C3, rfl, hs3, rfl⟩
  refine wI <| qJ <| qN <| wT wB <| wD [(29, .pure _), (30, .pure _), (31, .pure _), (32, .pure _), (33, .pure _), (34, .pure _), (35, .pure _)] (by kernel_rfl) rfl rfl rfl wm (qC rfl (fun X => qP rfl) <| qC rfl (fun X => qP rfl) <| qC rfl (fun X => qQ rfl) <| qC rfl (fun X => qB rfl) <| qC rfl (fun X => z6 rfl rfl) <| qC rfl (fun X => zm rfl (ZB _)) <| qC rfl (fun X => qP rfl) <| ParH.nil rfl) ?_
  dsimp only [ze, List.drop, List.length]
  refine z8 (by kernel_rfl) (yz rfl rfl (ZB _) (KS p _ C3 _ 4 ib 3 (yL x) 168 (0, 0) _ x.size hs3 (by omega) hx.size (by have := hx.size; omega) (by omega) rfl)) ?_
  rintro t36 _ ⟨u4, C4, rfl, hs4, rfl⟩
  refine wI <| qJ <| qN <| wT wB <| wD [(37, .pure _), (38, .pure _), (39, .pure _), (40, .pure _), (41, .pure _), (42, .pure _), (43, .pure _)] (by kernel_rfl) rfl rfl rfl wm (qC rfl (fun X => qP rfl) <| qC rfl (fun X => qP rfl) <| qC rfl (fun X => qQ rfl) <| qC rfl (fun X => qB rfl) <| qC rfl (fun X => z6 rfl rfl) <| qC rfl (fun X => zm rfl (Y9 _)) <| qC rfl (fun X => qP rfl) <| ParH.nil rfl) ?_
  dsimp only [ze, List.drop, List.length]
  refine z8 (by kernel_rfl) (yz rfl rfl (Y9 _) (Jh p _ C4 _ 4 ib 4 (yL x) 168 (0, 0) _ x.time hs4 (by omega) hx.time hx.time.2 (by omega) rfl)) ?_
  rintro t44 _ ⟨u5, C5, rfl, hs5, rfl⟩
  refine wI <| qJ <| qN <| qO <| qA rfl <| qF <| qg <| wS (Γ := {pΓ : (Nat) × (Value) × (qV) // (fun (i : Nat) (u : Value) (C : qV) => i ≤ 8 ∧ SlC 5 1 u (15 + 4 * i) (u8s (ZD x ++ (x.d.take i).flatMap (leI 4))) C) pΓ.1 pΓ.2.1 pΓ.2.2}) (fun g => (fun (i : Nat) (u : Value) (C : qV) => [(0, .iface 262 (.pointer (some ⟨p, 0, none⟩))), (1, .pointer (some ⟨ib, 0, none⟩)), (45, .int .i64 i)]) g.1.1 g.1.2.1 g.1.2.2) (fun g => (fun (i : Nat) (u : Value) (C : qV) => wrc p u :: C :: [(ib, .cells (yL x).toArray 168 (0, 0))] :: F) g.1.1 g.1.2.1 g.1.2.2) (fun g => (fun (i : Nat) (u : Value) (C : qV) => 8 - i) g.1.1 g.1.2.1 g.1.2.2) ⟨(0, u5, C5), by dsimp only; exact ⟨by omega, by simpa [ZD] using hs5⟩⟩ (qX _) ?_
  rintro ⟨⟨i, u, C⟩, hloop⟩
  replace hloop : i ≤ 8 ∧ SlC 5 1 u (15 + 4 * i) (u8s (ZD x ++ (x.d.take i).flatMap (leI 4))) C := hloop
  obtain ⟨hi, hsl⟩ := hloop
  show Tr _ _ _ ([(0, .iface 262 (.pointer (some ⟨p, 0, none⟩))), (1, .pointer (some ⟨ib, 0, none⟩)), (45, .int .i64 i)]) (wrc p u :: C :: [(ib, .cells (yL x).toArray 168 (0, 0))] :: F) _ _
  refine qO <| q9 (wJ rfl rfl) <| qF <| qN <| qM rfl (fun hc6 => ?_) (fun hc6 => ?_)
  ·
   refine qZ <| qJ <| qN <| qg <| qO <| qA rfl <| qE rfl <| qT <| qJ ?_
   have hlt : i < x.d.length := by rw [hx.len]; omega
   obtain ⟨a, ha⟩ : ∃ a, x.d[i]? = some a := ⟨_, List.getElem?_eq_getElem hlt⟩
   have hab := hx.d a (List.mem_of_getElem? ha)
   refine wT wB <| wD [(48, .pure _), (49, .pure _), (50, .pure _), (51, .pure _), (52, .pure _), (53, .pure _), (54, .pure _), (55, .pure _), (56, .pure _)] (by kernel_rfl) rfl rfl rfl wm (qC rfl (fun X => qP rfl) <| qC rfl (fun X => qP rfl) <| qC rfl (fun X => qP rfl) <| qC rfl (fun X => qQ rfl) <| qC rfl (fun X => qB rfl) <| qC rfl (fun X => wj (j := i) (off := 5 + i) rfl rfl rfl (by omega) (by simp)) <| qC rfl (fun X => z6 rfl rfl) <| qC rfl (fun X => zm rfl (ZB _)) <| qC rfl (fun X => qP rfl) <| ParH.nil rfl) ?_
   dsimp only [ze, List.drop, List.length]
   refine z8 (by kernel_rfl) (yz rfl rfl (ZB _) (KS p u C _ 4 ib (5 + i) (yL x) 168 (0, 0) _ a hsl (by omega) hab (by omega) (by omega) (V7 ha))) ?_
   rintro t57 _ ⟨u', C', rfl, hs', rfl⟩
   refine wI <| qe <| qJ <| qK <| q9 (w9 rfl rfl (by omega)) <| qA rfl <| qT <| w6 ⟨(i + 1, u', C'), ?_⟩ ?_ ?_
   · (try dsimp only); exact ⟨by omega, by rw [List.take_add_one, ha, Option.toList_some, List.flatMap_append, List.flatMap_singleton, ← List.append_assoc]; exact hs'⟩
   · (try dsimp only); omega
   · (try dsimp only); exact qX _
  ·
   refine wa <| qr <| qt <| qh <| qJ <| qN <| wT wB <| wD [(59, .pure _), (60, .pure _), (61, .pure _), (62, .pure _), (63, .pure _), (64, .pure _), (65, .pure _)] (by kernel_rfl) rfl rfl rfl wm (qC rfl (fun X => qP rfl) <| qC rfl (fun X => qP rfl) <| qC rfl (fun X => qQ rfl) <| qC rfl (fun X => qB rfl) <| qC rfl (fun X => z6 rfl rfl) <| qC rfl (fun X => zm rfl (ZB _)) <| qC rfl (fun X => qP rfl) <| ParH.nil rfl) ?_
   dsimp only [ze, List.drop, List.length]
   refine z8 (by kernel_rfl) (yz rfl rfl (ZB _) (KS p u C _ 4 ib 13 (yL x) 168 (0, 0) _ x.sg hsl (by omega) hx.sg (by have := hx.sg; omega) (by omega) h13.1)) ?_
   rintro t66 _ ⟨u6, C6, rfl, hs6, rfl⟩
   refine wI <| qJ <| wT wB <| wD [(67, .pure _), (68, .pure _), (69, .pure _), (70, .pure _), (71, .pure _), (72, .pure _), (73, .pure _)] (by kernel_rfl) rfl rfl rfl wm (qC rfl (fun X => qP rfl) <| qC rfl (fun X => qP rfl) <| qC rfl (fun X => qQ rfl) <| qC rfl (fun X => qB rfl) <| qC rfl (fun X => z6 rfl rfl) <| qC rfl (fun X => zm rfl (ZB _)) <| qC rfl (fun X => qP rfl) <| ParH.nil rfl) ?_
   dsimp only [ze, List.drop, List.length]
   refine z8 (by kernel_rfl) (yz rfl rfl (ZB _) (KS p u6 C6 _ 4 ib 14 (yL x) 168 (0, 0) _ x.db hs6 (by omega) hx.db (by have := hx.db; omega) (by omega) h13.2)) ?_
   rintro t74 _ ⟨u7, C7, rfl, hs7, rfl⟩
   refine wI <| xW (.inr rfl) rfl  ?_
   have hi8 : i = 8 := by omega
   subst hi8
   exact ⟨u7, C7, rfl, by rw [List.take_of_length_le (by rw [hx.len]; omega)] at hs7; exact hs7, rfl⟩
theorem Xw (n a b : Int) : FnT Tryz.prog w0 143 #[.int .i64 n, .int .i64 a, .int .i64 b] L (fun v L' => v = .bool (decide (a ≤ n ∧ n ≤ b)) ∧ L' = L) := by
  refine qi (E0 := [(0, _), (1, _), (2, _)]) (N := 15) Tryz.func143 rfl rfl rfl rfl ?_
  refine qO <| qE rfl <| qm <| qA rfl <| qA rfl <| q9 (kr rfl rfl) <| qA rfl <| qY (s := 10) rfl (fun hg1_3 => ?_) (fun hg1_3 => ?_)
  ·
   refine qD rfl rfl (qP rfl) <| qD rfl rfl (qP rfl) <| qD rfl rfl (KI rfl rfl) <| q9 (qq rfl rfl) <| qE rfl <| qF <| qy <| wC L (.inl rfl) rfl (qu rfl) ?_
   exact ⟨by simp [*], rfl⟩
  ·
   refine qL rfl rfl rfl <| qL rfl rfl rfl <| qL rfl rfl rfl <| q9 (qU rfl rfl) <| qE rfl <| qF <| qy <| wC L (.inl rfl) rfl (qu rfl) ?_
   exact ⟨by simp [*], rfl⟩
theorem YX (x : Ino) (hx : x.Ok) : FnT Tryz.prog w0 120 #[.agg (yL x).toArray] F (fun v L' => v = .bool true ∧ L' = F) := by
  refine qi (E0 := [(0, _)]) (N := 6) Tryz.func120 rfl rfl rfl rfl ?_
  refine qO <| qG (wq rfl) ?_
  rintro t1 _ ⟨b1, rfl, rfl⟩
  refine qE rfl <| qm <| q9 (qB rfl) <| q9 (qI rfl rfl) <| q9 (wM rfl (Xw x.kind 1 2)) <| qE rfl <| qF <| qy <| wC F (.inl rfl) rfl (qu rfl) ?_
  exact ⟨by rw [decide_eq_true hx.kind], rfl⟩
theorem j3 {x : Ino} (h : x.Ok) : (yL x).length = 15 := by simp [yL, h.len]
theorem KT (x : Ino) : (yL x).all (·.oneCell') = true := by simp [yL, iV, Value.oneCell']
def Zd (x : Ino) (h : x.Ok) : Sec := jx 2 (jS x) (by rw [Q2 h]; omega) (by omega) (X3 x)
theorem write_ok (x : Ino) (hx : x.Ok) : FnT Tryz.prog w0 148 #[.int .u8 2, .agg (yL x).toArray, .func (.func 119) #[] #[], .func (.func 120) #[] #[]] F
    (fun v L' => v = .tuple #[.agg (wt (Zd x hx)).toArray, .int .i64 0] ∧ L' = F) := by
  refine qi (E0 := [(0, _), (1, _), (2, _), (3, _)]) (N := 35) Tryz.func148 rfl rfl rfl rfl ?_
  refine qO <| qG (wq rfl) ?_
  rintro t5 _ ⟨b5, rfl, rfl⟩
  refine qG (qj) ?_
  rintro t8 _ ⟨b8, rfl, rfl⟩
  refine qE rfl <| qm <| q9 (kI rfl Tryz.underlying264 rfl (fun _ _ => ⟨_, inferInstance⟩) (fun _ _ h => by cases h)) ?_
  refine qG (wq rfl) ?_
  rintro t12 _ ⟨b12, rfl, rfl⟩
  refine qE rfl <| qF <| qN <| qO <| qA rfl <| q9 (wQ rfl (j3 hx)) <| q9 (kP rfl rfl (Wo (first := []) (captured := []) (YX x hx))) <| q9 (kX rfl) <| qF <| wV rfl <| qZ <| qJ <| qN <| qO <| qA rfl <| qA rfl <| q9 (xB rfl Tryz.underlying262 rfl) <| qG (kP rfl rfl (Wo (first := []) (captured := []) (jD [(b12, .cells [.slice none 0 0, .bool false].toArray 264 (0, 0))] [] [(b5, .cells (yL x).toArray 168 (0, 0))] (pass_ok b12 b5 x hx)))) ?_
  rintro t21 _ ⟨u, C, rfl, hs, rfl⟩
  refine qF <| qN ?_
  rw [← Q2 hx] at hs
  obtain ⟨q, c, rfl⟩ := hs.slice
  unfold wrc
  refine qK <| qA rfl <| q9 (qQ rfl) <| q9 (qB rfl) <| q9 (qI rfl rfl) <| qF <| wV rfl <| qZ <| qJ <| qO <| qA rfl <| qA rfl <| q9 (qQ rfl) <| q9 (qB rfl) <| q9 (qI rfl rfl) <| qG (w5 rfl (VP 2 (jS x) q c (by rw [Q2 hx]; omega) (by omega) (X3 x) (fun e => by subst e; rcases hs with ⟨-, h, -⟩ | ⟨_, _, _, h, _⟩; exact h; cases h) (fun A => jM hs))) ?_
  rintro t32 _ ⟨rfl, rfl⟩
  refine q9 (qf rfl rfl) <| q9 (qf rfl rfl) <| qR (qo rfl rfl (by simp) (by simp) (by exact wl _)) ?_
  refine qE rfl <| qF <| qy <| wU F (.inl rfl) rfl (zR rfl (by first | exact zZ _ | simp)) (qu rfl) ?_
  exact ⟨rfl, rfl⟩
theorem writeInode_ok (x : Ino) (hx : x.Ok) : FnT Tryz.prog w0 123 #[.agg (yL x).toArray] F (fun v L' => v = .tuple #[.agg (wt (Zd x hx)).toArray, .int .i64 0] ∧ L' = F) := by
  refine qi (E0 := [(0, _)]) (N := 8) Tryz.func123 rfl rfl rfl rfl ?_
  refine qO <| qG (wq rfl) ?_
  rintro t1 _ ⟨b1, rfl, rfl⟩
  refine qG (qj) ?_
  rintro t2 _ ⟨b2, rfl, rfl⟩
  refine qE rfl <| qm <| q9 (wQ rfl (j3 hx)) <| qG (w5 rfl (write_ok x hx)) ?_
  rintro t5 _ ⟨rfl, rfl⟩
  refine q9 (qf rfl rfl) <| q9 (qf rfl rfl) <| qR (qo rfl rfl (by simp) (by simp) (by exact wl _)) ?_
  refine qE rfl <| qF <| qy <| wU F (.inl rfl) rfl (zR rfl (by first | exact zZ _ | simp)) (qu rfl) ?_
  exact ⟨rfl, rfl⟩
def Q5 (p : Nat × Int) : List Value := [.int .i64 p.1, .int .i64 p.2]
def Yb (x : Ino) : List (Nat × Int) := [(2, x.num), (4, x.ver), (1, x.kind), (4, x.size), (4, x.time)]
def X1 (x : Ino) : List (Nat × Int) := Yb x ++ x.d.map (fun a => (4, a)) ++ [(4, x.sg), (4, x.db)]
theorem inoF_len {x : Ino} (h : x.Ok) : (X1 x).length = 15 := by simp [X1, Yb, h.len]
theorem fields_ok (x : Ino) (hx : x.Ok) : FnT Tryz.prog w0 125 #[.agg (yL x).toArray] F (fun v L' => ∃ C, SlC 247 2 v 15 ((X1 x).flatMap Q5) C ∧ L' = C :: F) := by
  have h13 := Yr hx.len
  have q1 := hx.num
  have q2 := hx.ver
  have q3 := hx.time
  refine qi (E0 := [(0, _)]) (N := 45) Tryz.func125 rfl rfl rfl rfl ?_
  refine qO <| qG (wq rfl) ?_
  rintro t1 _ ⟨b1, rfl, rfl⟩
  refine qE rfl <| qm <| q9 (qB rfl) <| q9 (qI rfl rfl) <| q9 (zG rfl (by first | (simp only [IntKind.min, IntKind.max, IntKind.bits, IntKind.signed, Bool.false_eq_true, if_false, if_true]; omega))) ?_
  refine q9 (wX rfl) <| q9 (qB rfl) <| q9 (qI rfl rfl) <| q9 (zG rfl (by first | (simp only [IntKind.min, IntKind.max, IntKind.bits, IntKind.signed, Bool.false_eq_true, if_false, if_true]; omega))) ?_
  refine q9 (wX rfl) <| q9 (qB rfl) <| q9 (qI rfl rfl) <| q9 (wX rfl) <| q9 (qB rfl) <| q9 (qI rfl rfl) <| q9 (wX rfl) <| q9 (qB rfl) <| q9 (qI rfl rfl) <| q9 (zG rfl (by first | (simp only [IntKind.min, IntKind.max, IntKind.bits, IntKind.signed, Bool.false_eq_true, if_false, if_true]; omega))) ?_
  refine q9 (wX rfl) <| qG (wK rfl rfl rfl) ?_
  rintro t23 _ ⟨b23, rfl, rfl⟩
  refine qE rfl <| qF <| qN <| qO <| qE rfl <| qF <| qg <| wS (Γ := {pΓ : (Nat) × (Value) × (qV) // (fun (i : Nat) (u : Value) (C : qV) => i ≤ 8 ∧ SlC 247 2 u (5 + i) ((Yb x ++ (x.d.take i).map (fun a => (4, a))).flatMap Q5) C) pΓ.1 pΓ.2.1 pΓ.2.2}) (fun g => (fun (i : Nat) (u : Value) (C : qV) => [(1, .pointer (some ⟨b1, 0, none⟩)), (3, u), (4, .int .i64 i)]) g.1.1 g.1.2.1 g.1.2.2) (fun g => (fun (i : Nat) (u : Value) (C : qV) => C :: [(b1, .cells (yL x).toArray 183 (0, 0))] :: F) g.1.1 g.1.2.1 g.1.2.2) (fun g => (fun (i : Nat) (u : Value) (C : qV) => 8 - i) g.1.1 g.1.2.1 g.1.2.2) ⟨(0, .slice (some ⟨b23, 0, none⟩) 5 5, [(b23, .cells ((Yb x).flatMap Q5).toArray 247 (0, 0))]), by dsimp only; exact ⟨by omega, by rw [List.take_zero, List.map_nil, List.append_nil]; exact SlC.fresh rfl⟩⟩ (yW rfl) ?_
  rintro ⟨⟨i, u, C⟩, hloop⟩
  replace hloop : i ≤ 8 ∧ SlC 247 2 u (5 + i) ((Yb x ++ (x.d.take i).map (fun a => (4, a))).flatMap Q5) C := hloop
  obtain ⟨hi, hsl⟩ := hloop
  show Tr _ _ _ ([(1, .pointer (some ⟨b1, 0, none⟩)), (3, u), (4, .int .i64 i)]) (C :: [(b1, .cells (yL x).toArray 183 (0, 0))] :: F) _ _
  refine qN <| qO <| qA rfl <| q9 (wJ rfl rfl) <| qF <| qM rfl (fun hc3 => ?_) (fun hc3 => ?_)
  ·
   refine qZ <| qJ <| qN <| qg ?_
   have hlt : i < x.d.length := by rw [hx.len]; omega
   obtain ⟨a, ha⟩ : ∃ a, x.d[i]? = some a := ⟨_, List.getElem?_eq_getElem hlt⟩
   refine qK <| qA rfl <| qA rfl <| q9 (qB rfl) <| q9 (wj (j := i) (off := 5 + i) rfl rfl rfl (by omega) (by simp)) ?_
   refine q9 (qI rfl (V7 ha)) <| q9 (wX rfl) <| qG (wK rfl rfl rfl) ?_
   rintro t34 _ ⟨b34, rfl, rfl⟩
   refine qG (wg (m := 1) (sz := 2) rfl rfl hsl (wk (ys := Q5 (4, a)) inferInstance rfl rfl) rfl Tryz.underlying211 rfl rfl (by omega)) ?_
   rintro t35 _ ⟨C', hs', rfl⟩
   refine qE rfl <| qT <| qe <| qJ <| qK <| qA rfl <| q9 (w9 rfl rfl (by omega)) <| qE rfl <| qT <| w6 ⟨(i + 1, t35, C'), ?_⟩ ?_ ?_
   · (try dsimp only); exact ⟨by omega, by rw [List.take_add_one, ha, Option.toList_some, List.map_append, ← List.append_assoc, List.flatMap_append]; exact hs'⟩
   · (try dsimp only); omega
   · (try dsimp only); exact qX _
  ·
   refine wa <| qr <| qt <| qh <| qJ <| qO <| qA rfl <| q9 (qB rfl) <| q9 (qI rfl h13.1) <| q9 (wX rfl) <| q9 (qB rfl) <| q9 (qI rfl h13.2) <| q9 (wX rfl) <| qG (wK rfl rfl rfl) ?_
   rintro t43 _ ⟨b43, rfl, rfl⟩
   refine qG (wg (m := 2) (sz := 2) rfl rfl hsl (wk (ys := [(4, x.sg), (4, x.db)].flatMap Q5) inferInstance rfl rfl) rfl Tryz.underlying211 rfl rfl (by omega)) ?_
   rintro t44 _ ⟨C', hs', rfl⟩
   refine qE rfl <| qF <| qy <| wC (C' :: F) (.inl rfl) rfl (qu rfl) ?_
   have hi8 : i = 8 := by omega
   subst hi8
   exact ⟨C', by rw [List.take_of_length_le (by rw [hx.len]; omega), ← List.flatMap_append] at hs'; exact hs', rfl⟩
theorem has_ok (w : Nat) (x : Int) (hw : 1 ≤ w ∧ w ≤ 8) (hx : 0 ≤ x ∧ x < 256 ^ w) (hx2 : x < 18446744073709551616) : FnT Tryz.prog w0 149 #[.int .i64 w, .int .u64 x] L (fun v L' => v = .bool true ∧ L' = L) := by
  refine qi (E0 := [(0, _), (1, _)]) (N := 21) Tryz.func149 rfl rfl rfl rfl ?_
  refine qO <| qE rfl <| qF <| qN <| qO <| qA rfl <| q9 (wJ rfl rfl) <| qA rfl <| qY (s := 8) rfl (fun hg1_2 => ?_) (fun hg1_2 => ?_)
  · (exfalso; omega)
  ·
   refine qD rfl rfl (qP rfl) <| qD rfl rfl (y8 rfl rfl) <| q9 (qU rfl rfl) <| qF <| qM rfl (fun hc1 => ?_) (fun hc1 => ?_)
   · (exfalso; omega)
   ·
    refine qZ <| qJ <| qN <| qO <| qE rfl <| qF <| qg <| wS (Γ := {pΓ : (Nat) × (Int) // (fun (i : Nat) (y : Int) => i ≤ w ∧ y = x / 256 ^ i) pΓ.1 pΓ.2}) (fun g => (fun (i : Nat) (y : Int) => [(0, .int .i64 w), (1, .int .u64 y), (5, .int .i64 i)]) g.1.1 g.1.2) (fun g => (fun (i : Nat) (y : Int) => L) g.1.1 g.1.2) (fun g => (fun (i : Nat) (y : Int) => w - i) g.1.1 g.1.2) ⟨(0, x), by dsimp only; exact ⟨by omega, by simp⟩⟩ (qX _) ?_
    rintro ⟨⟨i, y⟩, hloop⟩
    replace hloop : i ≤ w ∧ y = x / 256 ^ i := hloop
    obtain ⟨hi, hy⟩ := hloop
    show Tr _ _ _ ([(0, .int .i64 w), (1, .int .u64 y), (5, .int .i64 i)]) (L) _ _
    refine qN <| qO <| qA rfl <| qA rfl <| q9 (wJ rfl rfl) <| qF <| qM rfl (fun hc4 => ?_) (fun hc4 => ?_)
    ·
     refine qZ <| qJ <| qN <| qg ?_
     have hy0 : 0 ≤ y := by rw [hy]; exact Int.ediv_nonneg hx.1 (Int.le_of_lt (Int.pow_pos (by omega)))
     have hy1 : y ≤ x := by rw [hy]; exact Int.ediv_le_self _ hx.1
     refine qK <| qA rfl <| q9 (KG rfl rfl hy0 (by omega) (by simp only [IntKind.max, IntKind.bits, IntKind.signed, Bool.false_eq_true, if_false]; omega)) ?_
     refine qE rfl <| qT <| qe <| qJ <| qK <| qA rfl <| q9 (w9 rfl rfl (by omega)) <| qE rfl <| qT <| w6 ⟨(i + 1, y / 256), ?_⟩ ?_ ?_
     · (try dsimp only); exact ⟨by omega, by rw [hy, Int.pow_succ, Int.ediv_ediv_of_nonneg (Int.le_of_lt (Int.pow_pos (by omega)))]⟩
     · (try dsimp only); omega
     · (try dsimp only); exact qX _
    ·
     refine wa <| qr <| qt <| qh <| qJ <| qO <| qA rfl <| q9 (wn rfl rfl) <| qE rfl <| qF <| qy <| zq (.inl rfl) rfl (qu rfl) ?_
     exact ⟨by rw [hy, show i = w from by omega, Int.ediv_eq_zero_of_lt hx.1 hx.2]; rfl, rfl⟩
def yZ (fs : List (Nat × Int)) : List Int := fs.flatMap fun p => leI p.1 p.2
def XE (p : Nat × Int) : Prop := 1 ≤ p.1 ∧ p.1 ≤ 8 ∧ 0 ≤ p.2 ∧ p.2 < 256 ^ p.1 ∧ p.2 < 9223372036854775808
theorem JQ (fs : List (Nat × Int)) : IsB (yZ fs) := fun x hx => by
  obtain ⟨a, _, h⟩ := List.mem_flatMap.1 hx
  exact kb _ _ x h
theorem Q4 (p : Nat × Int) : (Q5 p).length = 2 := rfl
theorem fieldsB_take {fs : List (Nat × Int)} {i : Nat} {p : Nat × Int} (h : fs[i]? = some p) : yZ (fs.take (i + 1)) = yZ (fs.take i) ++ leI p.1 p.2 := by
  unfold yZ
  rw [List.take_add_one, h, Option.toList_some, List.flatMap_append, List.flatMap_singleton]
theorem fieldsB_le (fs : List (Nat × Int)) (i : Nat) : (yZ (fs.take i)).length ≤ (yZ fs).length := by
  conv => rhs; rw [← List.take_append_drop i fs]
  unfold yZ
  rw [List.flatMap_append, List.length_append]; omega
theorem sealed_ok (k : Int) (fs : List (Nat × Int)) (u : Value) (n : Nat) (C : qV) (hk : 0 < k ∧ k < 256) (hf : ∀ p ∈ fs, XE p) (hlen : fs.length = n) (hn : 0 < n ∧ n < 1000) (hb : (yZ fs).length ≤ 120) (hs : SlC 247 2 u n (fs.flatMap Q5) C) :
    FnT Tryz.prog w0 124 #[.int .u8 k, u] (C :: F) (fun v L' => v = .tuple #[.agg (wt (jx k (yZ fs) hb (by omega) (JQ fs))).toArray, .bool true] ∧ L' = C :: F) := by
  rcases hs with ⟨-, h, -⟩ | ⟨b, cap, spare, rfl, hcs, rfl, hcap, hnc⟩
  · omega
  refine qi (E0 := [(0, _), (1, _)]) (N := 55) Tryz.func124 rfl rfl rfl rfl ?_
  refine qO <| qG (qj) ?_
  rintro t4 _ ⟨b4, rfl, rfl⟩
  refine qE rfl <| qm <| qE rfl <| qF <| qN <| qO <| qE rfl <| qF <| qg <| wS (Γ := {pΓ : (Nat) × (Value) × (qV) // (fun (i : Nat) (u : Value) (C : qV) => i ≤ n ∧ SlC 5 1 u (yZ (fs.take i)).length (u8s (yZ (fs.take i))) C) pΓ.1 pΓ.2.1 pΓ.2.2}) (fun g => (fun (i : Nat) (u : Value) (C : qV) => [(0, .int .u8 k), (1, .slice (some ⟨b, 0, none⟩) n cap), (4, .pointer (some ⟨b4, 0, none⟩)), (6, u), (7, .int .i64 i)]) g.1.1 g.1.2.1 g.1.2.2) (fun g => (fun (i : Nat) (u : Value) (C : qV) => C :: [(b4, .cells (wt Sec.zero).toArray 54 (0, 0))] :: [(b, .cells (fs.flatMap Q5 ++ spare).toArray 247 (0, 0))] :: F) g.1.1 g.1.2.1 g.1.2.2) (fun g => (fun (i : Nat) (u : Value) (C : qV) => n - i) g.1.1 g.1.2.1 g.1.2.2) ⟨(0, .slice none 0 0, []), by dsimp only; exact ⟨by omega, SlC.nil _ _⟩⟩ (qX _) ?_
  rintro ⟨⟨i, u, C⟩, hloop⟩
  replace hloop : i ≤ n ∧ SlC 5 1 u (yZ (fs.take i)).length (u8s (yZ (fs.take i))) C := hloop
  obtain ⟨hi, hsl⟩ := hloop
  show Tr _ _ _ ([(0, .int .u8 k), (1, .slice (some ⟨b, 0, none⟩) n cap), (4, .pointer (some ⟨b4, 0, none⟩)), (6, u), (7, .int .i64 i)]) (C :: [(b4, .cells (wt Sec.zero).toArray 54 (0, 0))] :: [(b, .cells (fs.flatMap Q5 ++ spare).toArray 247 (0, 0))] :: F) _ _
  refine qN <| qO <| qA rfl <| qA rfl <| q9 (w8 rfl) <| q9 (wJ rfl rfl) <| qF <| qM rfl (fun hc3 => ?_) (fun hc3 => ?_)
  ·
   refine qZ <| qJ <| qN <| qg <| qN <| qN ?_
   have hlt : i < fs.length := by omega
   obtain ⟨p, hp⟩ : ∃ p, fs[i]? = some p := ⟨_, List.getElem?_eq_getElem hlt⟩
   obtain ⟨f1, f2, f3, f4, f5⟩ := hf p (List.mem_of_getElem? hp)
   have hle := fieldsB_le fs i
   refine wT wB <| wD [(14, .pure _), (15, .pure _)] (by kernel_rfl) rfl rfl rfl wm (qC rfl (fun X => qP rfl) <| qC rfl (fun X => qP rfl) <| ParH.nil rfl) ?_
   dsimp only [ze, List.drop, List.length]
   refine wE (by kernel_rfl) (qx (j := i) (off := i * 2) rfl rfl rfl (by omega) (by omega)) ?_
   refine wE (by kernel_rfl) (wA rfl) ?_
   refine wE (by kernel_rfl) (za (j := i) (k := 1) Q4 rfl hp rfl rfl) ?_
   refine wE (by kernel_rfl) (wJ rfl rfl) ?_
   refine wE (by kernel_rfl) (qP rfl) ?_
   refine kK (s := 20) rfl (fun hg5_6 => ?_) (fun hg5_6 => ?_)
   · (exfalso; omega)
   ·
    refine wD [(21, .pure _), (22, .pure _), (23, .pure _), (24, .pure _), (25, .pure _), (26, .pure _), (27, .pure _), (28, .pure _), (29, .pure _), (30, .pure _), (31, .pure _)] (by kernel_rfl) rfl rfl rfl wm (wi rfl rfl rfl (fun X => qP rfl) <| wi rfl rfl rfl (fun X => qP rfl) <| wi rfl rfl rfl (fun X => qx (j := i) (off := i * 2) rfl rfl rfl (by omega) (by omega)) <| wi rfl rfl rfl (fun X => wA rfl) <| wi rfl rfl rfl (fun X => za (j := i) (k := 0) Q4 rfl hp rfl rfl) <| wi rfl rfl rfl (fun X => qP rfl) <| wi rfl rfl rfl (fun X => qP rfl) <| wi rfl rfl rfl (fun X => qx (j := i) (off := i * 2) rfl rfl rfl (by omega) (by omega)) <| wi rfl rfl rfl (fun X => wA rfl) <| wi rfl rfl rfl (fun X => za (j := i) (k := 1) Q4 rfl hp rfl rfl) <| wi rfl rfl rfl (fun X => zG rfl (by simp only [IntKind.min, IntKind.max, IntKind.bits, IntKind.signed, Bool.false_eq_true, if_false]; omega)) <| ParH.nil rfl) ?_
    dsimp only [ze, List.drop, List.length]
    refine kn (by kernel_rfl) rfl rfl (wM rfl (has_ok p.1 p.2 (by omega) ⟨f3, f4⟩ (by omega))) ?_
    refine kn (by kernel_rfl) rfl rfl (kX rfl) ?_
    refine wE (by kernel_rfl) (qU rfl rfl) ?_
    refine wI <| qJ <| wV rfl <| qZ <| qJ <| wT wB <| wD [(36, .pure _), (37, .pure _), (38, .pure _), (39, .pure _), (40, .pure _), (41, .pure _), (42, .pure _), (43, .pure _), (44, .pure _), (45, .pure _), (46, .pure _), (47, .pure _), (48, .act ([]) (fun v C => SlC 5 1 v p.1 (u8s (leI p.1 p.2)) C))] (by kernel_rfl) rfl rfl rfl (Qe [[]] rfl) (qC rfl (fun X => qP rfl) <| qC rfl (fun X => qP rfl) <| qC rfl (fun X => qP rfl) <| qC rfl (fun X => qx (j := i) (off := i * 2) rfl rfl rfl (by omega) (by omega)) <| qC rfl (fun X => wA rfl) <| qC rfl (fun X => za (j := i) (k := 1) Q4 rfl hp rfl rfl) <| qC rfl (fun X => zG rfl (by simp only [IntKind.min, IntKind.max, IntKind.bits, IntKind.signed, Bool.false_eq_true, if_false]; omega)) <| qC rfl (fun X => qP rfl) <| qC rfl (fun X => qP rfl) <| qC rfl (fun X => qx (j := i) (off := i * 2) rfl rfl rfl (by omega) (by omega)) <| qC rfl (fun X => wA rfl) <| qC rfl (fun X => za (j := i) (k := 0) Q4 rfl hp rfl rfl) <| Qt rfl (fun X => OpT.mono (QB (w5 rfl (V4 p.2 p.1 (by omega) (by omega))) (fun _ _ h => h) Qd) (fun v L h => by obtain ⟨C, h1, h2⟩ := h; exact ⟨C, h1, h2⟩)) <| ParH.nil rfl) ?_
    rintro t48 C2 hs2
    dsimp only [ze, List.drop, List.length]
    refine z8 (by kernel_rfl) (wg (m := p.1) (sz := 1) rfl rfl hsl (jM hs2) (xI _) Tryz.underlying23 rfl rfl (by omega)) ?_
    rintro t49 _ ⟨C', hs', rfl⟩
    refine wE (by kernel_rfl) (zS rfl) ?_
    refine wI <| qe <| qJ <| qK <| qA rfl <| q9 (w9 rfl rfl (by omega)) <| qE rfl <| qT <| w6 ⟨(i + 1, t49, C'), ?_⟩ ?_ ?_
    · (try dsimp only); exact ⟨by omega, by rw [fieldsB_take hp, List.length_append, yi, Yp]; exact hs'⟩
    · (try dsimp only); omega
    · (try dsimp only); exact qX _
  ·
   refine wa <| qr <| qt <| qh <| qJ <| qN ?_
   obtain rfl : i = fs.length := by omega
   rw [List.take_length] at hsl
   obtain ⟨q, c, rfl⟩ := hsl.slice
   refine qK <| qA rfl <| qA rfl <| qG (w5 rfl (rmake_ok k (yZ fs) q c hb (by omega) (JQ fs) (fun A => jM hsl))) ?_
   rintro t52 _ ⟨rfl, rfl⟩
   refine q9 (qf rfl rfl) <| q9 (qf rfl rfl) <| qR (qo rfl rfl (by simp) (by simp) (by exact wl _)) ?_
   refine qE rfl <| qF <| qy <| wU ([(b, .cells (fs.flatMap Q5 ++ spare).toArray 247 (0, 0))] :: F) (.inl rfl) rfl (zR rfl (by first | exact zZ _ | simp)) (qu rfl) ?_
   exact ⟨rfl, rfl⟩
theorem sealS_congr {k : Int} {a b : List Int} (e : a = b) (h1 : a.length ≤ 120) (h2 : b.length ≤ 120) (hk : 0 ≤ k ∧ k < 256) (b1 : IsB a) (b2 : IsB b) : jx k a h1 hk b1 = jx k b h2 hk b2 := by subst e; rfl
theorem Vp (x : Ino) : yZ (X1 x) = jS x := by
  have h : ∀ d : List Int, yZ (d.map fun a => ((4 : Nat), a)) = d.flatMap (leI 4) := by
    intro d; simp [yZ, List.flatMap_map]
  have h2 : yZ (X1 x) = yZ (Yb x) ++ yZ (x.d.map fun a => ((4 : Nat), a)) ++ yZ [(4, x.sg), (4, x.db)] := by simp only [X1, yZ, List.flatMap_append]
  rw [h2, h]
  simp [jS, ZD, Yb, yZ]
theorem inoF_ok {x : Ino} (hx : x.Ok) : ∀ p ∈ X1 x, XE p := by
  intro p hp
  have e2 : (256 : Int) ^ 2 = 65536 := rfl
  have e4 : (256 : Int) ^ 4 = 4294967296 := rfl
  have e1 : (256 : Int) ^ 1 = 256 := rfl
  simp only [X1, Yb, List.mem_append, List.mem_map, List.mem_cons, List.not_mem_nil, or_false] at hp
  unfold XE
  rcases hp with ((rfl | rfl | rfl | rfl | rfl) | ⟨a, ha, rfl⟩) | rfl | rfl
  · have := hx.num; dsimp only; rw [e2]; omega
  · have := hx.ver; dsimp only; rw [e4]; omega
  · have := hx.kind; dsimp only; rw [e1]; omega
  · have := hx.size; dsimp only; rw [e4]; omega
  · have := hx.time; dsimp only; rw [e4]; omega
  · have := hx.d a ha; dsimp only; rw [e4]; omega
  · have := hx.sg; dsimp only; rw [e4]; omega
  · have := hx.db; dsimp only; rw [e4]; omega
theorem rwriteInode_ok (x : Ino) (hx : x.Ok) : FnT Tryz.prog w0 103 #[.agg (yL x).toArray] F (fun v L' => v = .tuple #[.agg (wt (Zd x hx)).toArray, .bool true] ∧ L' = F) := by
  have hk := hx.kind
  refine qi (E0 := [(0, _)]) (N := 18) Tryz.func103 rfl rfl rfl rfl ?_
  refine qO <| qG (wq rfl) ?_
  rintro t1 _ ⟨b1, rfl, rfl⟩
  refine qG (qj) ?_
  rintro t2 _ ⟨b2, rfl, rfl⟩
  refine qE rfl <| qF <| qN <| qO <| q9 (qB rfl) <| q9 (qI rfl rfl) <| q9 (wJ rfl rfl) <| qA rfl <| qY (s := 7) rfl (fun hg1_3 => ?_) (fun hg1_3 => ?_)
  · (exfalso; omega)
  ·
   refine qD rfl rfl (qB rfl) <| qD rfl rfl (qI rfl rfl) <| qD rfl rfl (y8 rfl rfl) <| q9 (qU rfl rfl) <| qF <| qM rfl (fun hc1 => ?_) (fun hc1 => ?_)
   · (exfalso; omega)
   ·
    refine qZ <| qJ <| qO <| q9 (wQ rfl (j3 hx)) <| qG (w5 rfl (fields_ok x hx)) ?_
    rintro t14 _ ⟨C, hs, rfl⟩
    refine qG (w5 rfl (sealed_ok 2 (X1 x) _ 15 C (by omega) (inoF_ok hx) (inoF_len hx) (by omega) (by rw [Vp, Q2 hx]; omega) hs)) ?_
    rintro t15 _ ⟨rfl, rfl⟩
    refine q9 (qf rfl rfl) <| q9 (qf rfl rfl) <| qR (qo rfl rfl (by simp) (by simp) (by exact wl _)) ?_
    refine qE rfl <| qF <| qy <| wU F (.inl rfl) rfl (zR rfl (by first | exact zZ _ | simp)) (qu rfl) ?_
    exact ⟨by rw [sealS_congr (Vp x) _ (by rw [Q2 hx]; omega) _ _ (X3 x)]; rfl, rfl⟩
def rdc (p : Nat) (u : Value) (a : Nat) : qV := [(p, .cells [u, .int .i64 a, .bool false].toArray 230 (0, 0))]
theorem XQ (p b a n c w q : Nat) (cs : List Value) (e : TypeId) (l : List Value) (bs : List Int) (hw : 1 ≤ w ∧ w ≤ 8) (han : a + w ≤ n) (hn : n ≤ 1000) (hbs : IsB bs) (hlen : bs.length = w) (hl : (l.drop a).take w = u8s bs) :
    FnT Tryz.prog w0 183 #[.pointer (some ⟨p, 0, none⟩), .int .i64 w, .pointer (some ⟨q, 0, none⟩)] (rdc p (.slice (some ⟨b, 0, none⟩) n c) a :: [(b, .cells l.toArray 5 (0, 0))] :: [(q, .cells [.int .u64 0].toArray e (0, 0))] :: F)
      (fun v L' => v = .tuple #[] ∧ L' = rdc p (.slice (some ⟨b, 0, none⟩) n c) (a + w) :: [(b, .cells l.toArray 5 (0, 0))] :: [(q, .cells [.int .u64 (deI bs)].toArray e (0, 0))] :: F) := by
  unfold rdc
  refine qi (E0 := [(0, _), (1, _), (2, _)]) (N := 43) Tryz.func183 rfl rfl rfl rfl ?_
  refine qN <| wT wB <| wD [(9, .pure _), (10, .pure _), (11, .pure _), (12, .pure _), (13, .pure _), (14, .pure _), (15, .pure _), (16, .pure _), (17, .pure _)] (by kernel_rfl) rfl rfl rfl wm (qC rfl (fun X => qP rfl) <| qC rfl (fun X => qQ rfl) <| qC rfl (fun X => qB rfl) <| qC rfl (fun X => qI rfl rfl) <| qC rfl (fun X => qP rfl) <| qC rfl (fun X => qQ rfl) <| qC rfl (fun X => qB rfl) <| qC rfl (fun X => qI rfl rfl) <| qC rfl (fun X => qP rfl) <| ParH.nil rfl) ?_
  dsimp only [ze, List.drop, List.length]
  refine wE (by kernel_rfl) (wM rfl (zk ([(b, .cells l.toArray 5 (0, 0))]) (Vs b 0 n c 5 (0, 0) l bs a w (by omega) (by omega) hbs hlen (by rw [show 0 + (a : Int).toNat = a from by omega]; exact hl)))) ?_
  refine wE (by kernel_rfl) (qP rfl) ?_
  refine wD [(19, .pure _), (20, .pure _), (6, .pure _)] (by kernel_rfl) rfl rfl rfl wm (qC rfl (fun X => qf rfl rfl) <| qC rfl (fun X => qf rfl rfl) <| qC rfl (fun X => zS rfl) <| ParH.nil rfl) ?_
  dsimp only [ze, List.drop, List.length]
  refine wE (by kernel_rfl) (zS rfl) ?_
  refine wI <| qJ <| qO <| qA rfl <| qA rfl <| q9 (qQ rfl) <| qR (wu rfl rfl rfl) <| qm <| qA rfl <| qA rfl <| q9 (qQ rfl) <| q9 (qB rfl) <| q9 (qI rfl rfl) <| qA rfl <| zy (s := 29) rfl (fun hg2_5 => ?_) (fun hg2_5 => ?_)
  · cases hg2_5
  ·
   refine qD rfl rfl (qP rfl) <| qD rfl rfl (zE rfl rfl) <| q9 (qU rfl rfl) <| q9 (qQ rfl) <| q9 (qB rfl) <| qR (wu rfl rfl rfl) <| qF <| qK <| qA rfl <| q9 (qQ rfl) <| q9 (qB rfl) <| q9 (qI rfl rfl) <| qA rfl <| q9 (w9 rfl rfl (by omega)) <| q9 (qQ rfl) <| q9 (qB rfl) <| qR (wu rfl rfl rfl) <| qT <| xW (.inr rfl) rfl  ?_
   exact ⟨rfl, rfl⟩
theorem ZV (p b a n c w ib off : Nat) (et : TypeId) (l li : List Value) (bs : List Int) (x : Int) (hw : 1 ≤ w ∧ w ≤ 8) (han : a + w ≤ n) (hn : n ≤ 1000) (hbs : IsB bs) (hlen : bs.length = w) (hx : deI bs = x) (hx2 : 0 ≤ x ∧ x < 9223372036854775808) (hl : (l.drop a).take w = u8s bs) (hoff : off < li.length) :
    FnT Tryz.prog w0 180 #[.pointer (some ⟨p, 0, none⟩), .int .i64 w, .pointer (some ⟨ib, off, none⟩)] (rdc p (.slice (some ⟨b, 0, none⟩) n c) a :: [(b, .cells l.toArray 5 (0, 0))] :: [(ib, .cells li.toArray et (0, 0))] :: F)
      (fun v L' => v = .tuple #[] ∧ L' = rdc p (.slice (some ⟨b, 0, none⟩) n c) (a + w) :: [(b, .cells l.toArray 5 (0, 0))] :: [(ib, .cells (li.set off (.int .i64 x)).toArray et (0, 0))] :: F) := by
  subst hx
  refine qi (E0 := [(0, _), (1, _), (2, _)]) (N := 14) Tryz.func180 rfl rfl rfl rfl ?_
  refine qO <| qG (qj) ?_
  rintro t6 _ ⟨b6, rfl, rfl⟩
  refine qm <| qA rfl <| qA rfl <| qG (w5 rfl (jD (rdc p (.slice (some ⟨b, 0, none⟩) n c) a) ([(b, .cells l.toArray 5 (0, 0))]) ([(b6, .cells [Value.int .u64 0].toArray 199 (0, 0))]) (XQ p b a n c w b6 [] 199 l bs hw han hn hbs hlen hl))) ?_
  rintro t9 _ ⟨rfl, rfl⟩
  refine qF <| qK <| qA rfl <| q9 (qI rfl rfl) <| q9 (zG rfl (by simp only [IntKind.min, IntKind.max, IntKind.bits, IntKind.signed, if_true]; omega)) ?_
  refine q9 (qQ rfl) <| qR (yM rfl rfl hoff rfl) <| qT <| kA (rdc p (.slice (some ⟨b, 0, none⟩) n c) (a + w) :: [(b, .cells l.toArray 5 (0, 0))] :: [(ib, .cells (li.set off (.int .i64 (deI bs))).toArray et (0, 0))] :: F) (.inr rfl) rfl  ?_
  exact ⟨rfl, rfl⟩
theorem K6 (p b a n c w ib off : Nat) (et : TypeId) (l li : List Value) (bs : List Int) (x : Int) (hw : 1 ≤ w ∧ w ≤ 8) (han : a + w ≤ n) (hn : n ≤ 1000) (hbs : IsB bs) (hlen : bs.length = w) (hx : deI bs = x) (hx2 : 0 ≤ x ∧ x < 4294967296) (hl : (l.drop a).take w = u8s bs) (hoff : off < li.length) :
    FnT Tryz.prog w0 182 #[.pointer (some ⟨p, 0, none⟩), .int .i64 w, .pointer (some ⟨ib, off, none⟩)] (rdc p (.slice (some ⟨b, 0, none⟩) n c) a :: [(b, .cells l.toArray 5 (0, 0))] :: [(ib, .cells li.toArray et (0, 0))] :: F)
      (fun v L' => v = .tuple #[] ∧ L' = rdc p (.slice (some ⟨b, 0, none⟩) n c) (a + w) :: [(b, .cells l.toArray 5 (0, 0))] :: [(ib, .cells (li.set off (.int .u32 x)).toArray et (0, 0))] :: F) := by
  subst hx
  refine qi (E0 := [(0, _), (1, _), (2, _)]) (N := 14) Tryz.func182 rfl rfl rfl rfl ?_
  refine qO <| qG (qj) ?_
  rintro t6 _ ⟨b6, rfl, rfl⟩
  refine qm <| qA rfl <| qA rfl <| qG (w5 rfl (jD (rdc p (.slice (some ⟨b, 0, none⟩) n c) a) ([(b, .cells l.toArray 5 (0, 0))]) ([(b6, .cells [Value.int .u64 0].toArray 199 (0, 0))]) (XQ p b a n c w b6 [] 199 l bs hw han hn hbs hlen hl))) ?_
  rintro t9 _ ⟨rfl, rfl⟩
  refine qF <| qK <| qA rfl <| q9 (qI rfl rfl) <| q9 (zG rfl (by simp only [IntKind.min, IntKind.max, IntKind.bits, IntKind.signed, Bool.false_eq_true, if_false]; omega)) ?_
  refine q9 (qQ rfl) <| qR (yM rfl rfl hoff rfl) <| qT <| kA (rdc p (.slice (some ⟨b, 0, none⟩) n c) (a + w) :: [(b, .cells l.toArray 5 (0, 0))] :: [(ib, .cells (li.set off (.int .u32 (deI bs))).toArray et (0, 0))] :: F) (.inr rfl) rfl  ?_
  exact ⟨rfl, rfl⟩
theorem QJ {pre m post : List Int} {sp : List Value} {a w : Nat} (h1 : pre.length = a) (h2 : m.length = w) : ((u8s (pre ++ m ++ post) ++ sp).drop a).take w = u8s m := by
  subst h1; subst h2
  rw [yi, yi, List.append_assoc, List.append_assoc, ← Wr pre, List.drop_left, ← Wr m, List.take_left]
theorem Yc {d : List Int} {i : Nat} {a : Int} (h : d[i]? = some a) : d.flatMap (leI 4) = (d.take i).flatMap (leI 4) ++ leI 4 a ++ (d.drop (i + 1)).flatMap (leI 4) := by
  have hlt := (List.getElem?_eq_some_iff.1 h).1
  have e : d = d.take i ++ a :: d.drop (i + 1) := by
    conv => lhs; rw [← List.take_append_drop i d]
    rw [List.drop_eq_getElem_cons hlt, (List.getElem?_eq_some_iff.1 h).2]
  conv => lhs; rw [e]
  rw [List.flatMap_append, List.flatMap_cons, List.append_assoc]
def Vq : Ino := ⟨0, 0, 0, 0, 0, List.replicate 8 0, 0, 0⟩
theorem Vj {y : Ino} {i : Nat} {a : Int} (h : i < y.d.length) : (yL y).set (5 + i) (.int .i64 a) = yL { y with d := y.d.set i a } := by
  have e : 5 + i = i + 1 + 1 + 1 + 1 + 1 := by omega
  rw [e]
  simp only [yL, List.set_cons_succ]
  rw [List.set_append_left _ _ (by simpa using h)]
  simp [iV, List.map_set]
theorem V8 {d : List Int} {i : Nat} {a : Int} (h : d[i]? = some a) (hi : i < d.length) (h8 : i < 8) : (d.take i ++ List.replicate (8 - i) 0).set i a = d.take (i + 1) ++ List.replicate (8 - (i + 1)) 0 := by
  have e : 8 - i = (8 - (i + 1)) + 1 := by omega
  rw [List.set_append_right _ _ (by simp; omega), e, List.replicate_succ]
  have : i - (d.take i).length = 0 := by simp; omega
  rw [this, List.set_cons_zero, List.take_add_one, h, List.append_assoc]; rfl
theorem set_13 {y : Ino} {a : Int} (h : y.d.length = 8) : (yL y).set 13 (.int .i64 a) = yL { y with sg := a } := by
  simp only [yL, List.set_cons_succ]
  rw [List.set_append_right _ _ (by simp [h])]
  simp [h]
theorem set_14 {y : Ino} {a : Int} (h : y.d.length = 8) : (yL y).set 14 (.int .i64 a) = yL { y with db := a } := by
  simp only [yL, List.set_cons_succ]
  rw [List.set_append_right _ _ (by simp [h])]
  simp [h]
theorem rpass_ok (p ib b c : Nat) (sp : List Value) (x : Ino) (hx : x.Ok) :
    FnT Tryz.prog w0 119 #[.iface 228 (.pointer (some ⟨p, 0, none⟩)), .pointer (some ⟨ib, 0, none⟩)] (rdc p (.slice (some ⟨b, 0, none⟩) 55 c) 0 :: [(b, .cells (u8s (jS x) ++ sp).toArray 5 (0, 0))] :: [(ib, .cells (yL Vq).toArray 168 (0, 0))] :: F)
      (fun v L' => v = .tuple #[] ∧ L' = rdc p (.slice (some ⟨b, 0, none⟩) 55 c) 55 :: [(b, .cells (u8s (jS x) ++ sp).toArray 5 (0, 0))] :: [(ib, .cells (yL x).toArray 168 (0, 0))] :: F) := by
  have e2 : (256 : Int) ^ 2 = 65536 := rfl
  have e4 : (256 : Int) ^ 4 = 4294967296 := rfl
  have e1 : (256 : Int) ^ 1 = 256 := rfl
  have q1 := hx.num
  have q2 := hx.ver
  have q3 := hx.kind
  have q4 := hx.size
  have q5 := hx.time
  have q6 := hx.sg
  have q7 := hx.db
  have q8 := hx.len
  have hB : jS x = leI 2 x.num ++ leI 4 x.ver ++ leI 1 x.kind ++ leI 4 x.size ++ leI 4 x.time ++ x.d.flatMap (leI 4) ++ leI 4 x.sg ++ leI 4 x.db := rfl
  have s1 : ((u8s (jS x) ++ sp).drop 0).take 2 = u8s (leI 2 x.num) := by
    rw [show jS x = [] ++ leI 2 x.num ++ (leI 4 x.ver ++ leI 1 x.kind ++ leI 4 x.size ++ leI 4 x.time ++ x.d.flatMap (leI 4) ++ leI 4 x.sg ++ leI 4 x.db) from by simp only [hB, List.append_assoc, List.nil_append]]; exact QJ rfl (by simp)
  have s2 : ((u8s (jS x) ++ sp).drop (0 + 2)).take 4 = u8s (leI 4 x.ver) := by
    rw [show jS x = leI 2 x.num ++ leI 4 x.ver ++ (leI 1 x.kind ++ leI 4 x.size ++ leI 4 x.time ++ x.d.flatMap (leI 4) ++ leI 4 x.sg ++ leI 4 x.db) from by simp only [hB, List.append_assoc]]; exact QJ (by simp) (by simp)
  have s3 : ((u8s (jS x) ++ sp).drop (0 + 2 + 4)).take 1 = u8s (leI 1 x.kind) := by
    rw [show jS x = (leI 2 x.num ++ leI 4 x.ver) ++ leI 1 x.kind ++ (leI 4 x.size ++ leI 4 x.time ++ x.d.flatMap (leI 4) ++ leI 4 x.sg ++ leI 4 x.db) from by simp only [hB, List.append_assoc]]; exact QJ (by simp) (by simp)
  have s4 : ((u8s (jS x) ++ sp).drop (0 + 2 + 4 + 1)).take 4 = u8s (leI 4 x.size) := by
    rw [show jS x = (leI 2 x.num ++ leI 4 x.ver ++ leI 1 x.kind) ++ leI 4 x.size ++ (leI 4 x.time ++ x.d.flatMap (leI 4) ++ leI 4 x.sg ++ leI 4 x.db) from by simp only [hB, List.append_assoc]]; exact QJ (by simp) (by simp)
  have s5 : ((u8s (jS x) ++ sp).drop (0 + 2 + 4 + 1 + 4)).take 4 = u8s (leI 4 x.time) := by
    rw [show jS x = (leI 2 x.num ++ leI 4 x.ver ++ leI 1 x.kind ++ leI 4 x.size) ++ leI 4 x.time ++ (x.d.flatMap (leI 4) ++ leI 4 x.sg ++ leI 4 x.db) from by simp only [hB, List.append_assoc]]; exact QJ (by simp) (by simp)
  have s6 : ∀ (i : Nat) (a : Int), x.d[i]? = some a → ((u8s (jS x) ++ sp).drop (15 + 4 * i)).take 4 = u8s (leI 4 a) := by
    intro i a ha
    have hlt := (List.getElem?_eq_some_iff.1 ha).1
    rw [show jS x = (ZD x ++ (x.d.take i).flatMap (leI 4)) ++ leI 4 a ++ ((x.d.drop (i + 1)).flatMap (leI 4) ++ leI 4 x.sg ++ leI 4 x.db) from by rw [jS, Yc ha]; simp only [List.append_assoc]]
    exact QJ (by rw [List.length_append, Wv, xG, List.length_take]; omega) (by simp)
  have s7 : ((u8s (jS x) ++ sp).drop (15 + 4 * 8)).take 4 = u8s (leI 4 x.sg) := by
    rw [show jS x = (ZD x ++ x.d.flatMap (leI 4)) ++ leI 4 x.sg ++ (leI 4 x.db) from by rw [jS]]
    exact QJ (by rw [List.length_append, Wv, xG, q8]) (by simp)
  have s8 : ((u8s (jS x) ++ sp).drop (15 + 4 * 8 + 4)).take 4 = u8s (leI 4 x.db) := by
    rw [show jS x = (ZD x ++ x.d.flatMap (leI 4) ++ leI 4 x.sg) ++ leI 4 x.db ++ [] from by rw [jS, List.append_nil]]
    exact QJ (by rw [List.length_append, List.length_append, Wv, xG, q8]; simp) (by simp)
  refine qi (E0 := [(0, _), (1, _)]) (N := 75) Tryz.func119 rfl rfl rfl rfl ?_
  refine qN <| wT wB <| wD [(5, .pure _), (6, .pure _), (7, .pure _), (8, .pure _), (9, .pure _), (10, .pure _), (11, .pure _)] (by kernel_rfl) rfl rfl rfl wm (qC rfl (fun X => qP rfl) <| qC rfl (fun X => qP rfl) <| qC rfl (fun X => qQ rfl) <| qC rfl (fun X => qB rfl) <| qC rfl (fun X => z6 rfl rfl) <| qC rfl (fun X => zm rfl (YA _)) <| qC rfl (fun X => qP rfl) <| ParH.nil rfl) ?_
  dsimp only [ze, List.drop, List.length]
  refine z8 (by kernel_rfl) (yz rfl rfl (YA _) (K6 p b 0 55 c 2 ib 0 168 _ _ _ x.num (by omega) (by omega) (by omega) (kb _ _) (by simp) (xn 2 _ q1.1 (by omega)) (by omega) s1 (by simp [yL]))) ?_
  rintro t12 _ ⟨rfl, rfl⟩
  refine wI <| qJ <| qN <| wT wB <| wD [(13, .pure _), (14, .pure _), (15, .pure _), (16, .pure _), (17, .pure _), (18, .pure _), (19, .pure _)] (by kernel_rfl) rfl rfl rfl wm (qC rfl (fun X => qP rfl) <| qC rfl (fun X => qP rfl) <| qC rfl (fun X => qQ rfl) <| qC rfl (fun X => qB rfl) <| qC rfl (fun X => z6 rfl rfl) <| qC rfl (fun X => zm rfl (YA _)) <| qC rfl (fun X => qP rfl) <| ParH.nil rfl) ?_
  dsimp only [ze, List.drop, List.length]
  refine z8 (by kernel_rfl) (yz rfl rfl (YA _) (K6 p b (0 + 2) 55 c 4 ib 1 168 _ _ _ x.ver (by omega) (by omega) (by omega) (kb _ _) (by simp) (xn 4 _ q2.1 (by omega)) (by omega) s2 (by simp [yL]))) ?_
  rintro t20 _ ⟨rfl, rfl⟩
  refine wI <| qJ <| qN <| wT wB <| wD [(21, .pure _), (22, .pure _), (23, .pure _), (24, .pure _), (25, .pure _), (26, .pure _), (27, .pure _)] (by kernel_rfl) rfl rfl rfl wm (qC rfl (fun X => qP rfl) <| qC rfl (fun X => qP rfl) <| qC rfl (fun X => qQ rfl) <| qC rfl (fun X => qB rfl) <| qC rfl (fun X => z6 rfl rfl) <| qC rfl (fun X => zm rfl (ZC _)) <| qC rfl (fun X => qP rfl) <| ParH.nil rfl) ?_
  dsimp only [ze, List.drop, List.length]
  refine z8 (by kernel_rfl) (yz rfl rfl (ZC _) (ZV p b (0 + 2 + 4) 55 c 1 ib 2 168 _ _ _ x.kind (by omega) (by omega) (by omega) (kb _ _) (by simp) (xn 1 _ (by omega) (by omega)) (by omega) s3 (by simp [yL]))) ?_
  rintro t28 _ ⟨rfl, rfl⟩
  refine wI <| qJ <| qN <| wT wB <| wD [(29, .pure _), (30, .pure _), (31, .pure _), (32, .pure _), (33, .pure _), (34, .pure _), (35, .pure _)] (by kernel_rfl) rfl rfl rfl wm (qC rfl (fun X => qP rfl) <| qC rfl (fun X => qP rfl) <| qC rfl (fun X => qQ rfl) <| qC rfl (fun X => qB rfl) <| qC rfl (fun X => z6 rfl rfl) <| qC rfl (fun X => zm rfl (ZC _)) <| qC rfl (fun X => qP rfl) <| ParH.nil rfl) ?_
  dsimp only [ze, List.drop, List.length]
  refine z8 (by kernel_rfl) (yz rfl rfl (ZC _) (ZV p b (0 + 2 + 4 + 1) 55 c 4 ib 3 168 _ _ _ x.size (by omega) (by omega) (by omega) (kb _ _) (by simp) (xn 4 _ q4.1 (by omega)) (by omega) s4 (by simp [yL]))) ?_
  rintro t36 _ ⟨rfl, rfl⟩
  refine wI <| qJ <| qN <| wT wB <| wD [(37, .pure _), (38, .pure _), (39, .pure _), (40, .pure _), (41, .pure _), (42, .pure _), (43, .pure _)] (by kernel_rfl) rfl rfl rfl wm (qC rfl (fun X => qP rfl) <| qC rfl (fun X => qP rfl) <| qC rfl (fun X => qQ rfl) <| qC rfl (fun X => qB rfl) <| qC rfl (fun X => z6 rfl rfl) <| qC rfl (fun X => zm rfl (YA _)) <| qC rfl (fun X => qP rfl) <| ParH.nil rfl) ?_
  dsimp only [ze, List.drop, List.length]
  refine z8 (by kernel_rfl) (yz rfl rfl (YA _) (K6 p b (0 + 2 + 4 + 1 + 4) 55 c 4 ib 4 168 _ _ _ x.time (by omega) (by omega) (by omega) (kb _ _) (by simp) (xn 4 _ q5.1 (by omega)) (by omega) s5 (by simp [yL]))) ?_
  rintro t44 _ ⟨rfl, rfl⟩
  refine wI <| qJ <| qN <| qO <| qA rfl <| qF <| qg <| wS (Γ := {pΓ : (Nat) // (fun (i : Nat) => i ≤ 8) pΓ}) (fun g => (fun (i : Nat) => [(0, .iface 228 (.pointer (some ⟨p, 0, none⟩))), (1, .pointer (some ⟨ib, 0, none⟩)), (45, .int .i64 i)]) g.1) (fun g => (fun (i : Nat) => rdc p (.slice (some ⟨b, 0, none⟩) 55 c) (15 + 4 * i) :: [(b, .cells (u8s (jS x) ++ sp).toArray 5 (0, 0))] :: [(ib, .cells (yL { x with d := x.d.take i ++ List.replicate (8 - i) 0, sg := 0, db := 0 }).toArray 168 (0, 0))] :: F) g.1) (fun g => (fun (i : Nat) => 8 - i) g.1) ⟨0, by dsimp only; exact (by omega)⟩ (yW rfl) ?_
  rintro ⟨i, hloop⟩
  replace hloop : i ≤ 8 := hloop
  obtain hi := hloop
  show Tr _ _ _ ([(0, .iface 228 (.pointer (some ⟨p, 0, none⟩))), (1, .pointer (some ⟨ib, 0, none⟩)), (45, .int .i64 i)]) (rdc p (.slice (some ⟨b, 0, none⟩) 55 c) (15 + 4 * i) :: [(b, .cells (u8s (jS x) ++ sp).toArray 5 (0, 0))] :: [(ib, .cells (yL { x with d := x.d.take i ++ List.replicate (8 - i) 0, sg := 0, db := 0 }).toArray 168 (0, 0))] :: F) _ _
  refine qO <| q9 (wJ rfl rfl) <| qF <| qN <| qM rfl (fun hc6 => ?_) (fun hc6 => ?_)
  ·
   refine qZ <| qJ <| qN <| qg <| qO <| qA rfl <| qE rfl <| qT <| qJ ?_
   have hlt : i < x.d.length := by rw [q8]; omega
   obtain ⟨a, ha⟩ : ∃ a, x.d[i]? = some a := ⟨_, List.getElem?_eq_getElem hlt⟩
   have hab := hx.d a (List.mem_of_getElem? ha)
   refine wT wB <| wD [(48, .pure _), (49, .pure _), (50, .pure _), (51, .pure _), (52, .pure _), (53, .pure _), (54, .pure _), (55, .pure _), (56, .pure _)] (by kernel_rfl) rfl rfl rfl wm (qC rfl (fun X => qP rfl) <| qC rfl (fun X => qP rfl) <| qC rfl (fun X => qP rfl) <| qC rfl (fun X => qQ rfl) <| qC rfl (fun X => qB rfl) <| qC rfl (fun X => wj (j := i) (off := 5 + i) rfl rfl rfl (by omega) (by simp)) <| qC rfl (fun X => z6 rfl rfl) <| qC rfl (fun X => zm rfl (ZC _)) <| qC rfl (fun X => qP rfl) <| ParH.nil rfl) ?_
   dsimp only [ze, List.drop, List.length]
   refine z8 (by kernel_rfl) (yz rfl rfl (ZC _) (ZV p b (15 + 4 * i) 55 c 4 ib (5 + i) 168 _ _ _ a (by omega) (by omega) (by omega) (kb _ _) (by simp) (xn 4 _ hab.1 (by omega)) (by omega) (s6 i a ha) (by simp [yL]; omega))) ?_
   rintro t57 _ ⟨rfl, rfl⟩
   refine wI <| qe <| qJ <| qK <| q9 (w9 rfl rfl (by omega)) <| qA rfl <| qT <| w6 ⟨i + 1, ?_⟩ ?_ ?_
   · (try dsimp only); omega
   · (try dsimp only); omega
   · (try dsimp only); exact yW (by rw [Vj (by simp; omega)]; dsimp only; rw [V8 ha (by omega) (by omega)]; rfl)
  ·
   refine wa <| qr <| qt <| qh <| qJ <| qN ?_
   obtain rfl : i = 8 := by omega
   rw [show ({ x with d := x.d.take 8 ++ List.replicate (8 - 8) 0, sg := 0, db := 0 } : Ino) = { x with sg := 0, db := 0 } from by simp [List.take_of_length_le (Nat.le_of_eq q8)]]
   refine wT wB <| wD [(59, .pure _), (60, .pure _), (61, .pure _), (62, .pure _), (63, .pure _), (64, .pure _), (65, .pure _)] (by kernel_rfl) rfl rfl rfl wm (qC rfl (fun X => qP rfl) <| qC rfl (fun X => qP rfl) <| qC rfl (fun X => qQ rfl) <| qC rfl (fun X => qB rfl) <| qC rfl (fun X => z6 rfl rfl) <| qC rfl (fun X => zm rfl (ZC _)) <| qC rfl (fun X => qP rfl) <| ParH.nil rfl) ?_
   dsimp only [ze, List.drop, List.length]
   refine z8 (by kernel_rfl) (yz rfl rfl (ZC _) (ZV p b (15 + 4 * 8) 55 c 4 ib 13 168 _ _ _ x.sg (by omega) (by omega) (by omega) (kb _ _) (by simp) (xn 4 _ q6.1 (by omega)) (by omega) s7 (by simp [yL, q8]))) ?_
   rintro t66 _ ⟨rfl, rfl⟩
   refine wI <| qJ ?_
   rw [set_13 (by exact q8)]
   refine wT wB <| wD [(67, .pure _), (68, .pure _), (69, .pure _), (70, .pure _), (71, .pure _), (72, .pure _), (73, .pure _)] (by kernel_rfl) rfl rfl rfl wm (qC rfl (fun X => qP rfl) <| qC rfl (fun X => qP rfl) <| qC rfl (fun X => qQ rfl) <| qC rfl (fun X => qB rfl) <| qC rfl (fun X => z6 rfl rfl) <| qC rfl (fun X => zm rfl (ZC _)) <| qC rfl (fun X => qP rfl) <| ParH.nil rfl) ?_
   dsimp only [ze, List.drop, List.length]
   refine z8 (by kernel_rfl) (yz rfl rfl (ZC _) (ZV p b (15 + 4 * 8 + 4) 55 c 4 ib 14 168 _ _ _ x.db (by omega) (by omega) (by omega) (kb _ _) (by simp) (xn 4 _ q7.1 (by omega)) (by omega) s8 (by simp [yL, q8]))) ?_
   rintro t74 _ ⟨rfl, rfl⟩
   refine wI <| xW (.inr rfl) rfl  ?_
   rw [set_14 (by exact q8)]; exact ⟨rfl, rfl⟩
instance (priority := high) : TyZero Tryz.prog 168 (.agg (yL Vq).toArray) := .of (by kernel_rfl)
theorem Wf : (yL Vq).length = 15 := by decide
theorem read_spec (x : Ino) (hx : x.Ok) : FnT Tryz.prog w0 118 #[.int .u8 2, .agg (wt (Zd x hx)).toArray, .func (.func 119) #[] #[], .func (.func 120) #[] #[]] F
    (fun v L' => v = .tuple #[.agg (yL x).toArray, .int .i64 0] ∧ L' = F) := by
  refine qi (E0 := [(0, _), (1, _), (2, _), (3, _)]) (N := 58) Tryz.func118 rfl rfl rfl rfl ?_
  refine qO <| qG (wq rfl) ?_
  rintro t5 _ ⟨b5, rfl, rfl⟩
  refine qG (qj) ?_
  rintro t8 _ ⟨b8, rfl, rfl⟩
  refine qE rfl <| qm <| qG (qj) ?_
  rintro t10 _ ⟨b10, rfl, rfl⟩
  refine qG (qj) ?_
  rintro t11 _ ⟨b11, rfl, rfl⟩
  refine qm <| q9 (wQ rfl (by simp)) ?_
  refine qG (w5 rfl (open_ok 2 (jS x) (by rw [Q2 hx]; omega) (by omega) (X3 x))) ?_
  rintro t18 _ ⟨u, C, rfl, hs, rfl⟩
  refine qA rfl <| q9 (qf rfl rfl) <| q9 (qf rfl rfl) <| q9 (qf rfl rfl) <| qE rfl <| qE rfl <| qE rfl <| qT ?_
  rw [Q2 hx] at hs
  rcases hs with ⟨-, h, -⟩ | ⟨b, cap, spare, rfl, hcs, rfl, hcap, hnc⟩
  · omega
  refine qJ <| qN <| qO <| qA rfl <| q9 (zE rfl rfl) <| qA rfl <| qY (s := 24) rfl (fun hg3_2 => ?_) (fun hg3_2 => ?_)
  · exact absurd rfl hg3_2
  ·
   refine qD rfl rfl (qP rfl) <| qD rfl rfl (qP rfl) <| qD rfl rfl (zE rfl rfl) <| q9 (qU rfl rfl) <| qF <| qM rfl (fun hc3 => ?_) (fun hc3 => ?_)
   · exact absurd rfl hc3
   ·
    refine qZ <| qJ <| qO <| qA rfl <| q9 (wX rfl) <| qG (wq rfl) ?_
    rintro t32 _ ⟨b32, rfl, rfl⟩
    refine qE rfl <| qF <| qN <| qO <| qA rfl <| qA rfl <| q9 (xB rfl Tryz.underlying228 rfl) <| qG (kP rfl rfl (Wo (first := []) (captured := []) (jD [(b32, .cells [.slice (some ⟨b, 0, none⟩) 55 cap, .int .i64 0, .bool false].toArray 230 (0, 0))] [(b, .cells (u8s (jS x) ++ spare).toArray 5 (0, 0))] [(b10, .cells (yL Vq).toArray 168 (0, 0))] (rpass_ok b32 b10 b cap spare x hx)))) ?_
    rintro t36 _ ⟨rfl, rfl⟩
    refine qF <| qN ?_
    unfold rdc
    refine qK <| qA rfl <| q9 (qQ rfl) <| q9 (qB rfl) <| q9 (qI rfl rfl) <| qA rfl <| zy (s := 41) rfl (fun hg7_4 => ?_) (fun hg7_4 => ?_)
    · cases hg7_4
    ·
     refine qD rfl rfl (qP rfl) <| qD rfl rfl (qQ rfl) <| qD rfl rfl (qB rfl) <| qD rfl rfl (qI rfl rfl) <| qD rfl rfl (qP rfl) <| qD rfl rfl (w8 rfl) <| qD rfl rfl (zE rfl rfl) <| q9 (qU rfl rfl) <| qA rfl <| qY (s := 50) rfl (fun hg7_13 => ?_) (fun hg7_13 => ?_)
     · exact absurd rfl hg7_13
     ·
      refine qD rfl rfl (qP rfl) <| qD rfl rfl (wQ rfl (j3 hx)) <| qD rfl rfl (kP rfl rfl (Wo (first := []) (captured := []) (YX x hx))) <| qD rfl rfl (kX rfl) <| q9 (qU rfl rfl) <| qF <| wV rfl <| qZ <| qJ <| qO <| q9 (wQ rfl (j3 hx)) <| qR (qo rfl rfl Wf (j3 hx) (KT x)) <| qE rfl <| qF <| qy <| wU F (.inl rfl) rfl (zR rfl (j3 hx)) (qu rfl) ?_
      exact ⟨rfl, rfl⟩
theorem readInode_ok (x : Ino) (hx : x.Ok) : FnT Tryz.prog w0 91 #[.agg (wt (Zd x hx)).toArray] F (fun v L' => v = .tuple #[.agg (yL x).toArray, .int .i64 0] ∧ L' = F) := by
  refine qi (E0 := [(0, _)]) (N := 8) Tryz.func91 rfl rfl rfl rfl ?_
  refine qO <| qG (wq rfl) ?_
  rintro t1 _ ⟨b1, rfl, rfl⟩
  refine qG (qj) ?_
  rintro t2 _ ⟨b2, rfl, rfl⟩
  refine qE rfl <| qm <| q9 (wQ rfl (by simp)) ?_
  refine qG (w5 rfl (read_spec x hx)) ?_
  rintro t5 _ ⟨rfl, rfl⟩
  refine q9 (qf rfl rfl) <| q9 (qf rfl rfl) <| qR (qo rfl rfl Wf (j3 hx) (KT x)) <| qE rfl <| qF <| qy <| wU F (.inl rfl) rfl (zR rfl (j3 hx)) (qu rfl) ?_
  exact ⟨rfl, rfl⟩
structure jY (l : List Int) : Prop where
  len : l.length = 32
  rng : ∀ a ∈ l, 0 ≤ a ∧ a ≤ 65535
def jy (l : List Int) (h : jY l) : Sec := ⟨l.flatMap (leI 4), by rw [xG, h.len], VV l⟩
theorem KX {l : List Int} {i : Nat} {a : Int} (h : l[i]? = some a) : wY (iV l) i = some (.int .i64 a) := by rw [zB]; simp [iV, h]
theorem xY (l : List Int) : (iV l).all (·.oneCell') = true := by simp [iV, Value.oneCell']
def Z2 (l : List Int) (i : Nat) : List Int := (l.take i).flatMap (leI 4)
theorem XW {l : List Int} {i : Nat} (h : i ≤ l.length) : (Z2 l i).length = 4 * i := by rw [Z2, xG, List.length_take]; omega
theorem J7 {l : List Int} {i : Nat} {a : Int} (ha : l[i]? = some a) : Z2 l (i + 1) = Z2 l i ++ leI 4 a := by
  rw [Z2, List.take_add_one, ha, Option.toList_some, List.flatMap_append, List.flatMap_singleton]; rfl
theorem Wn_next {l : List Int} {i : Nat} {a : Int} {s : Sec} {h : 4 * i + (leI 4 a).length ≤ 128} {hb} (hw : Wn s (Z2 l i)) (ha : l[i]? = some a) (hi : i ≤ l.length) : Wn (s.put (4 * i) (leI 4 a) h hb) (Z2 l (i + 1)) := by
  have hl := XW hi
  have := hw.put (m := leI 4 a) (by rw [hl]; exact h) hb
  rw [J7 ha]
  have e : s.put (4 * i) (leI 4 a) h hb = s.put (Z2 l i).length (leI 4 a) (by rw [hl]; exact h) hb := by
    apply Zz; show QS _ _ _ = QS _ _ _; rw [hl]
  rw [e]; exact this
theorem writePointers_ok (l : List Int) (h : jY l) : FnT Tryz.prog w0 122 #[.agg (iV l).toArray] F (fun v L' => v = .tuple #[.agg (wt (jy l h)).toArray, .int .i64 0] ∧ L' = F) := by
  have hlen := h.len
  refine qi (E0 := [(0, _)]) (N := 22) Tryz.func122 rfl rfl rfl rfl ?_
  refine qO <| qG (wq rfl) ?_
  rintro t1 _ ⟨b1, rfl, rfl⟩
  refine qG (qj) ?_
  rintro t2 _ ⟨b2, rfl, rfl⟩
  refine qE rfl <| qm <| qG (qj) ?_
  rintro t4 _ ⟨b4, rfl, rfl⟩
  refine qF <| qN <| qO <| q9 (wQ rfl (by simp [hlen])) ?_
  refine qA rfl <| qF <| qg <| wS (Γ := {pΓ : (Nat) × (Sec) // (fun (i : Nat) (s : Sec) => i ≤ 32 ∧ Wn s (Z2 l i)) pΓ.1 pΓ.2}) (fun g => (fun (i : Nat) (s : Sec) => [(2, .pointer (some ⟨b2, 0, none⟩)), (4, .pointer (some ⟨b4, 0, none⟩)), (7, .agg (iV l).toArray), (8, .int .i64 i)]) g.1.1 g.1.2) (fun g => (fun (i : Nat) (s : Sec) => wr b4 s (4 * i) :: [(b2, .cells (wt Sec.zero).toArray 55 (0, 0))] :: [(b1, .cells (iV l).toArray 175 (0, 0))] :: F) g.1.1 g.1.2) (fun g => (fun (i : Nat) (s : Sec) => 32 - i) g.1.1 g.1.2) ⟨(0, Sec.zero), by dsimp only; exact ⟨by omega, Wn.zero⟩⟩ (yW rfl) ?_
  rintro ⟨⟨i, s⟩, hloop⟩
  replace hloop : i ≤ 32 ∧ Wn s (Z2 l i) := hloop
  obtain ⟨hi, hw⟩ := hloop
  show Tr _ _ _ ([(2, .pointer (some ⟨b2, 0, none⟩)), (4, .pointer (some ⟨b4, 0, none⟩)), (7, .agg (iV l).toArray), (8, .int .i64 i)]) (wr b4 s (4 * i) :: [(b2, .cells (wt Sec.zero).toArray 55 (0, 0))] :: [(b1, .cells (iV l).toArray 175 (0, 0))] :: F) _ _
  refine qO <| q9 (wJ rfl rfl) <| qF <| qN <| qM rfl (fun hc3 => ?_) (fun hc3 => ?_)
  ·
   refine qZ <| qJ <| qN <| qg <| qN ?_
   have hlt : i < l.length := by omega
   obtain ⟨a, ha⟩ : ∃ a, l[i]? = some a := ⟨_, List.getElem?_eq_getElem hlt⟩
   have hab := h.rng a (List.mem_of_getElem? ha)
   refine qK <| q9 (JD (j := i) rfl rfl rfl (by omega) (KX ha)) <| qE rfl <| qF <| qN <| qO <| qA rfl <| q9 (wM rfl (Xw a 0 65535)) ?_
   rw [decide_eq_true hab]
   refine q9 (kX rfl) <| qF <| wV rfl <| qZ <| qJ <| qK <| qA rfl <| q9 (zG rfl (by first | (simp only [IntKind.min, IntKind.max, IntKind.bits, IntKind.signed, Bool.false_eq_true, if_false, if_true]; omega))) ?_
   refine qG (w5 rfl (xd b4 s (4 * i) a 4 (by omega) (by have : (256 : Int) ^ 4 = 4294967296 := rfl; omega))) ?_
   rintro t17 _ ⟨rfl, rfl⟩
   refine qT <| qe <| qJ <| qK <| q9 (w9 rfl rfl (by omega)) <| qA rfl <| qT <| w6 ⟨(i + 1, s.put (4 * i) (leI 4 a) (by simp; omega) (kb _ _)), ?_⟩ ?_ ?_
   · (try dsimp only); exact ⟨by omega, Wn_next hw ha (by omega)⟩
   · (try dsimp only); omega
   · (try dsimp only); exact qX _
  ·
   refine wa <| qr <| qt <| qh <| qJ <| qN ?_
   obtain rfl : i = 32 := by omega
   obtain rfl : s = jy l h := by apply Zz; rw [hw, XW (by omega), show Z2 l 32 = l.flatMap (leI 4) from by rw [Z2, List.take_of_length_le (by omega)]]; simp [jy]
   refine qK <| qG (w5 rfl (WK b4 _ _)) ?_
   rintro t19 _ ⟨rfl, rfl⟩
   refine q9 (qf rfl rfl) <| q9 (qf rfl rfl) <| qR (qo rfl rfl (by simp) (by simp) (by exact wl _)) ?_
   refine qE rfl <| qF <| qy <| wU F (.inl rfl) rfl (zR rfl (by first | exact zZ _ | simp)) (qu rfl) ?_
   exact ⟨rfl, rfl⟩
theorem ptr_sub {l : List Int} (h : jY l) {i : Nat} {a : Int} (ha : l[i]? = some a) : Sec.sub (jy l h) (4 * i) 4 = leI 4 a := by
  have hlt := (List.getElem?_eq_some_iff.1 ha).1
  show ((l.flatMap (leI 4)).drop (4 * i)).take 4 = _
  rw [Yc ha]
  have e1 : 4 * i = ((l.take i).flatMap (leI 4)).length := by rw [xG, List.length_take]; omega
  rw [List.append_assoc, e1, List.drop_left]
  have : (leI 4 a ++ (l.drop (i + 1)).flatMap (leI 4)).take (leI 4 a).length = leI 4 a := List.take_left
  rwa [Yp] at this
theorem VT {l : List Int} {i n : Nat} {x : Int} (hx : l[i]? = some x) (hn : i < n) :
    (iV (l.take i) ++ List.replicate (n - i) (Value.int .i64 0)).set (0 + i * 1) (.int .i64 x) = iV (l.take (i + 1)) ++ List.replicate (n - (i + 1)) (Value.int .i64 0) := by
  have hlt := (List.getElem?_eq_some_iff.1 hx).1
  have e : n - i = (n - (i + 1)) + 1 := by omega
  have h := Xg (a := iV (l.take i)) (k := n - (i + 1)) (z := Value.int .i64 0) (v := .int .i64 x)
  rw [iV_len, List.length_take, show min i l.length = i from by omega] at h
  rw [e, show 0 + i * 1 = i from by omega, h, List.take_add_one, hx]
  simp [iV]
theorem readPointers_ok (l : List Int) (h : jY l) : FnT Tryz.prog w0 121 #[.agg (wt (jy l h)).toArray] F (fun v L' => v = .tuple #[.agg (iV l).toArray, .int .i64 0] ∧ L' = F) := by
  have hlen := h.len
  refine qi (E0 := [(0, _)]) (N := 24) Tryz.func121 rfl rfl rfl rfl ?_
  refine qO <| qG (wq rfl) ?_
  rintro t1 _ ⟨b1, rfl, rfl⟩
  refine qG (qj) ?_
  rintro t2 _ ⟨b2, rfl, rfl⟩
  refine qE rfl <| qm <| qG (qj) ?_
  rintro t4 _ ⟨b4, rfl, rfl⟩
  refine qm <| q9 (wQ rfl (by simp)) ?_
  refine qG (w5 rfl (VG _)) ?_
  rintro t9 _ ⟨p, rfl, rfl⟩
  refine qE rfl <| qF <| qN <| qO <| qA rfl <| qF <| qg <| wS (Γ := {pΓ : (Nat) // (fun (i : Nat) => i ≤ 32) pΓ}) (fun g => (fun (i : Nat) => [(2, .pointer (some ⟨b2, 0, none⟩)), (4, .pointer (some ⟨b4, 0, none⟩)), (5, .pointer (some ⟨p, 0, none⟩)), (10, .int .i64 i)]) g.1) (fun g => (fun (i : Nat) => rd p (jy l h) (4 * i) :: [(b4, .cells (iV (l.take i) ++ List.replicate (32 - i) (Value.int .i64 0)).toArray 175 (0, 0))] :: [(b2, .cells (List.replicate 32 (Value.int .i64 0)).toArray 175 (0, 0))] :: [(b1, .cells (wt (jy l h)).toArray 55 (0, 0))] :: F) g.1) (fun g => (fun (i : Nat) => 32 - i) g.1) ⟨0, by dsimp only; exact (by omega)⟩ (yW rfl) ?_
  rintro ⟨i, hloop⟩
  replace hloop : i ≤ 32 := hloop
  obtain hi := hloop
  show Tr _ _ _ ([(2, .pointer (some ⟨b2, 0, none⟩)), (4, .pointer (some ⟨b4, 0, none⟩)), (5, .pointer (some ⟨p, 0, none⟩)), (10, .int .i64 i)]) (rd p (jy l h) (4 * i) :: [(b4, .cells (iV (l.take i) ++ List.replicate (32 - i) (Value.int .i64 0)).toArray 175 (0, 0))] :: [(b2, .cells (List.replicate 32 (Value.int .i64 0)).toArray 175 (0, 0))] :: [(b1, .cells (wt (jy l h)).toArray 55 (0, 0))] :: F) _ _
  refine qO <| q9 (wJ rfl rfl) <| qF <| qN <| qM rfl (fun hc4 => ?_) (fun hc4 => ?_)
  ·
   refine qZ <| qJ <| qN <| qg <| qN ?_
   have hlt : i < l.length := by omega
   obtain ⟨a, ha⟩ : ∃ a, l[i]? = some a := ⟨_, List.getElem?_eq_getElem hlt⟩
   have hab := h.rng a (List.mem_of_getElem? ha)
   refine qK <| qA rfl <| qE rfl <| qm <| qA rfl <| qG (w5 rfl (xf p (jy l h) (4 * i) 4 (by omega))) ?_
   rintro t14 _ ⟨rfl, rfl⟩
   refine qE rfl <| qF <| qN <| qN ?_
   rw [ptr_sub h ha, xn 4 a hab.1 (by have : (256 : Int) ^ 4 = 4294967296 := rfl; omega)]
   refine qK <| qA rfl <| q9 (kr rfl rfl) <| qF <| qM rfl (fun hc7 => ?_) (fun hc7 => ?_)
   · (exfalso; omega)
   ·
    refine qZ <| qJ <| qK <| qA rfl <| qA rfl <| q9 (zG rfl (by first | (simp only [IntKind.min, IntKind.max, IntKind.bits, IntKind.signed, Bool.false_eq_true, if_false, if_true]; omega))) ?_
    refine q9 (wj (j := i) rfl rfl rfl (by omega) rfl) <| qR (yM rfl rfl (by simp; omega) rfl) ?_
    refine qT <| qe <| qJ <| qK <| q9 (w9 rfl rfl (by omega)) <| qA rfl <| qT <| w6 ⟨i + 1, ?_⟩ ?_ ?_
    · (try dsimp only); omega
    · (try dsimp only); omega
    · (try dsimp only); exact yW (by rw [VT ha (by omega)]; rfl)
  ·
   refine wa <| qr <| qt <| qh <| qJ <| qN ?_
   obtain rfl : i = 32 := by omega
   rw [List.take_of_length_le (by omega : l.length ≤ 32), Nat.sub_self, List.replicate_zero, List.append_nil]
   refine qK <| q9 (wQ rfl (by simp [hlen])) ?_
   refine qR (qo rfl rfl (by simp) (by simp [hlen]) (by exact xY _)) ?_
   refine qE rfl <| qF <| qy <| wU F (.inl rfl) rfl (zR rfl (by simp [hlen])) (qu rfl) ?_
   exact ⟨rfl, rfl⟩
theorem rwritePointers_ok (l : List Int) (h : jY l) : FnT Tryz.prog w0 104 #[.agg (iV l).toArray] F (fun v L' => v = .tuple #[.agg (wt (jy l h)).toArray, .bool true] ∧ L' = F) := by
  have hlen := h.len
  refine qi (E0 := [(0, _)]) (N := 30) Tryz.func104 rfl rfl rfl rfl ?_
  refine qO <| qG (wq rfl) ?_
  rintro t1 _ ⟨b1, rfl, rfl⟩
  refine qG (qj) ?_
  rintro t2 _ ⟨b2, rfl, rfl⟩
  refine qE rfl <| qm <| qE rfl <| qF <| qN <| qO <| qE rfl <| qF <| qg <| wS (Γ := {pΓ : (Nat) × (Value) × (qV) // (fun (i : Nat) (u : Value) (C : qV) => i ≤ 32 ∧ SlC 5 1 u (4 * i) (u8s (Z2 l i)) C) pΓ.1 pΓ.2.1 pΓ.2.2}) (fun g => (fun (i : Nat) (u : Value) (C : qV) => [(1, .pointer (some ⟨b1, 0, none⟩)), (2, .pointer (some ⟨b2, 0, none⟩)), (4, u), (5, .int .i64 i)]) g.1.1 g.1.2.1 g.1.2.2) (fun g => (fun (i : Nat) (u : Value) (C : qV) => C :: [(b2, .cells (wt Sec.zero).toArray 54 (0, 0))] :: [(b1, .cells (iV l).toArray 175 (0, 0))] :: F) g.1.1 g.1.2.1 g.1.2.2) (fun g => (fun (i : Nat) (u : Value) (C : qV) => 32 - i) g.1.1 g.1.2.1 g.1.2.2) ⟨(0, .slice none 0 0, []), by dsimp only; exact ⟨by omega, SlC.nil _ _⟩⟩ (qX _) ?_
  rintro ⟨⟨i, u, C⟩, hloop⟩
  replace hloop : i ≤ 32 ∧ SlC 5 1 u (4 * i) (u8s (Z2 l i)) C := hloop
  obtain ⟨hi, hsl⟩ := hloop
  show Tr _ _ _ ([(1, .pointer (some ⟨b1, 0, none⟩)), (2, .pointer (some ⟨b2, 0, none⟩)), (4, u), (5, .int .i64 i)]) (C :: [(b2, .cells (wt Sec.zero).toArray 54 (0, 0))] :: [(b1, .cells (iV l).toArray 175 (0, 0))] :: F) _ _
  refine qN <| qO <| qA rfl <| q9 (wJ rfl rfl) <| qF <| qM rfl (fun hc3 => ?_) (fun hc3 => ?_)
  ·
   refine qZ <| qJ <| qN <| qg <| qN <| qN ?_
   have hlt : i < l.length := by omega
   obtain ⟨a, ha⟩ : ∃ a, l[i]? = some a := ⟨_, List.getElem?_eq_getElem hlt⟩
   have hab := h.rng a (List.mem_of_getElem? ha)
   refine qK <| qA rfl <| q9 (wj (j := i) (off := i) rfl rfl rfl (by omega) (by omega)) <| q9 (qI rfl (KX ha)) <| q9 (wJ rfl rfl) <| qA rfl <| qY (s := 14) rfl (fun hg5_4 => ?_) (fun hg5_4 => ?_)
   · (exfalso; omega)
   ·
    refine qD rfl rfl (qP rfl) <| qD rfl rfl (wj (j := i) (off := i) rfl rfl rfl (by omega) (by omega)) <| qD rfl rfl (qI rfl (KX ha)) <| qD rfl rfl (y8 rfl rfl) <| q9 (qU rfl rfl) <| qF <| qM rfl (fun hc5 => ?_) (fun hc5 => ?_)
    · (exfalso; omega)
    ·
     refine qZ <| qJ <| qK <| qA rfl <| qA rfl <| q9 (wj (j := i) (off := i) rfl rfl rfl (by omega) (by omega)) <| q9 (qI rfl (KX ha)) <| q9 (zG rfl (by first | (simp only [IntKind.min, IntKind.max, IntKind.bits, IntKind.signed, Bool.false_eq_true, if_false, if_true]; omega))) ?_
     refine qG (w5 rfl (V4 a 4 (by omega) (by omega))) ?_
     rintro t26 _ ⟨C2, hs2, rfl⟩
     refine qG (wg (m := 4) (sz := 1) rfl rfl hsl (jM hs2) (xI _) Tryz.underlying23 rfl rfl (by omega)) ?_
     rintro t27 _ ⟨C', hs', rfl⟩
     refine qE rfl <| qT <| qe <| qJ <| qK <| qA rfl <| q9 (w9 rfl rfl (by omega)) <| qE rfl <| qT <| w6 ⟨(i + 1, t27, C'), ?_⟩ ?_ ?_
     · (try dsimp only); exact ⟨by omega, by rw [J7 ha, yi]; exact hs'⟩
     · (try dsimp only); omega
     · (try dsimp only); exact qX _
  ·
   refine wa <| qr <| qt <| qh <| qJ <| qN ?_
   obtain rfl : i = 32 := by omega
   replace hsl : SlC 5 1 u 128 (wt (jy l h)) C := by rw [show Z2 l 32 = l.flatMap (leI 4) from by rw [Z2, List.take_of_length_le (by omega)]] at hsl; exact hsl
   rcases hsl with ⟨-, hn, -⟩ | ⟨b3, cap3, spare3, rfl, hcs3, rfl, hcap3, hnc3⟩
   · exact absurd hn (by decide)
   refine qK <| qA rfl <| q9 (wM rfl (zk ([(b3, .cells (wt (jy l h) ++ spare3).toArray 5 (0, 0))]) (VU b3 128 cap3 5 0 (0, 0) (wt (jy l h) ++ spare3) (jy l h) (by rw [List.drop_zero, List.take_append_of_le_length (by simp), List.take_of_length_le (by simp)])))) ?_
   refine qR (qo rfl rfl (by simp) (by simp) (by exact wl _)) ?_
   refine qE rfl <| qF <| qy <| wU F (.inl rfl) rfl (zR rfl (by first | exact zZ _ | simp)) (qu rfl) ?_
   exact ⟨rfl, rfl⟩
end
end Go.Proofs.YtjikpomndbkfgaaGreatDoor
namespace Go.Nd
def ke : Nat → Int → Int → List (Int × Int × Int)
  | 0, _, _ => []
  | k + 1, a, e => if a < e then (a / 128, a % 128, min 128 (a % 128 + e - a)) :: ke k (a + (min 128 (a % 128 + e - a) - a % 128)) e else []
def ku (a n : Int) : List (Int × Int × Int) := ke n.toNat a (a + n)
theorem j7 {k : Nat} {a e : Int} (h : e ≤ a) : ke k a e = [] := by
  cases k with
  | zero => rfl
  | succ k => unfold ke; rw [if_neg (by omega)]
theorem YJ : ∀ (k k' : Nat) (a e : Int), (e - a).toNat ≤ k → (e - a).toNat ≤ k' → ke k a e = ke k' a e := by
  intro k
  induction k with
  | zero => intro k' a e h h'; rw [j7 (by omega), j7 (by omega)]
  | succ k ih =>
    intro k' a e h h'
    cases k' with
    | zero => rw [j7 (by omega), j7 (by omega)]
    | succ k' =>
      unfold ke
      split
      · rename_i hlt
        congr 1
        exact ih k' _ _ (by omega) (by omega)
      · rfl
theorem cutF_step {a e : Int} (h : a < e) : ke (e - a).toNat a e = (a / 128, a % 128, min 128 (a % 128 + e - a)) :: ke (e - a).toNat (a + (min 128 (a % 128 + e - a) - a % 128)) e := by
  obtain ⟨k, hk⟩ : ∃ k, (e - a).toNat = k + 1 := ⟨(e - a).toNat - 1, by omega⟩
  rw [hk]
  conv => lhs; unfold ke
  rw [if_pos h]
  congr 1
  exact YJ _ _ _ _ (by omega) (by omega)
def x5 (l : List (Int × Int × Int)) (i : Int) : List (Int × Int × Int) :=
  match l.getLast? with
  | some p => if p.1 = i / 128 then l.dropLast ++ [(p.1, p.2.1, p.2.2 + 1)] else l ++ [(i / 128, i % 128, i % 128 + 1)]
  | none => [(i / 128, i % 128, i % 128 + 1)]
theorem cutF_push : ∀ (k : Nat) (a e : Int), (e + 1 - a).toNat ≤ k → a ≤ e → ke k a (e + 1) = x5 (ke k a e) e := by
  intro k
  induction k with
  | zero => intro a e h hle; omega
  | succ k ih =>
    intro a e h hle
    by_cases he : a = e
    · subst he
      rw [j7 (Int.le_refl _)]
      unfold ke x5
      rw [if_pos (by omega)]
      have : min 128 (a % 128 + (a + 1) - a) = a % 128 + 1 := by omega
      rw [this, j7 (by omega)]
      rfl
    · have hlt : a < e := by omega
      by_cases hsame : a / 128 = e / 128
      · -- one piece
        have h1 : ke (k + 1) a e = [(a / 128, a % 128, a % 128 + e - a)] := by
          unfold ke
          rw [if_pos hlt]
          have : min 128 (a % 128 + e - a) = a % 128 + e - a := by omega
          rw [this, j7 (by omega)]
        have h2 : ke (k + 1) a (e + 1) = [(a / 128, a % 128, a % 128 + e - a + 1)] := by
          unfold ke
          rw [if_pos (by omega)]
          have : min 128 (a % 128 + (e + 1) - a) = a % 128 + e - a + 1 := by omega
          rw [this, j7 (by omega)]
        rw [h1, h2]
        simp [x5, hsame]
      · have m1 : min 128 (a % 128 + e - a) = 128 := by omega
        have m2 : min 128 (a % 128 + (e + 1) - a) = 128 := by omega
        have h3 := ih (a + (128 - a % 128)) e (by omega) (by omega)
        unfold ke
        rw [if_pos hlt, if_pos (by omega), m1, m2, h3]
        unfold x5
        cases hl : (ke k (a + (128 - a % 128)) e).getLast? with
        | none =>
          have : ke k (a + (128 - a % 128)) e = [] := by simpa using hl
          rw [this]
          simp [hsame]
        | some p =>
          have hne : ke k (a + (128 - a % 128)) e ≠ [] := fun h => by rw [h] at hl; cases hl
          have : ((a / 128, a % 128, 128) :: ke k (a + (128 - a % 128)) e).getLast? = some p := by
            rw [List.getLast?_cons]; simp [hl]
          rw [this]
          simp only
          split
          · rw [List.dropLast_cons_of_ne_nil hne]; rfl
          · rfl
theorem cutL_zero (a : Int) : ku a 0 = [] := rfl
theorem cutL_push {a n : Int} (hn : 0 ≤ n) : ku a (n + 1) = x5 (ku a n) (a + n) := by
  unfold ku
  rw [show a + (n + 1) = a + n + 1 from by omega, cutF_push _ _ _ (by omega) (by omega)]
  congr 1
  exact YJ _ _ _ _ (by omega) (by omega)
theorem cutF_len : ∀ (k : Nat) (a e : Int), (ke k a e).length ≤ k := by
  intro k
  induction k with
  | zero => intro a e; exact Nat.le_refl _
  | succ k ih =>
    intro a e
    unfold ke
    split
    · have := ih (a + (min 128 (a % 128 + e - a) - a % 128)) e; simp; omega
    · simp
theorem Kb (a n : Int) : (ku a n).length ≤ n.toNat := cutF_len _ _ _
def kE : List (Int × Int × Int) → Int
  | [] => 0
  | q :: l => (q.2.2 - q.2.1) + kE l
theorem cutF_sum : ∀ (k : Nat) (a e : Int), (e - a).toNat ≤ k → a ≤ e → kE (ke k a e) = e - a := by
  intro k
  induction k with
  | zero => intro a e h1 h2; simp [ke, kE]; omega
  | succ k ih =>
    intro a e h1 h2
    unfold ke
    split
    · simp only [kE]
      rw [ih _ _ (by omega) (by omega)]; omega
    · simp [kE]; omega
theorem Xl {a n : Int} (h : 0 ≤ n) : kE (ku a n) = n := by
  unfold ku; rw [cutF_sum _ _ _ (by omega) (by omega)]; omega
theorem cutF_rng : ∀ (k : Nat) (a e : Int), 0 ≤ a → ∀ p ∈ ke k a e, 0 ≤ p.1 ∧ 128 * p.1 ≤ e ∧ 0 ≤ p.2.1 ∧ p.2.1 < p.2.2 ∧ p.2.2 ≤ 128 ∧ a ≤ 128 * p.1 + p.2.1 ∧ 128 * p.1 + p.2.2 ≤ e := by
  intro k
  induction k with
  | zero => intro a e _ p hp; cases hp
  | succ k ih =>
    intro a e ha p hp
    unfold ke at hp
    split at hp
    · rcases List.mem_cons.1 hp with rfl | hp
      · dsimp only; omega
      · have := ih _ e (by omega) p hp
        omega
    · cases hp
theorem Qk {a n : Int} (ha : 0 ≤ a) {p} (hp : p ∈ ku a n) : 0 ≤ p.1 ∧ 128 * p.1 ≤ a + n ∧ 0 ≤ p.2.1 ∧ p.2.1 < p.2.2 ∧ p.2.2 ≤ 128 ∧ a ≤ 128 * p.1 + p.2.1 ∧ 128 * p.1 + p.2.2 ≤ a + n := cutF_rng _ _ _ ha p hp
theorem cutPush_set {l : List (Int × Int × Int)} {p} {i : Int} (hp : l[l.length - 1]? = some p) (h : p.1 = i / 128) : l.set (l.length - 1) (p.1, p.2.1, p.2.2 + 1) = x5 l i := by
  have hl : l.getLast? = some p := by rw [List.getLast?_eq_getElem?]; exact hp
  have hne : l ≠ [] := fun h => by rw [h] at hl; cases hl
  unfold x5
  rw [hl]
  dsimp only
  rw [if_pos h]
  obtain ⟨l', q, rfl⟩ : ∃ l' q, l = l' ++ [q] := ⟨l.dropLast, l.getLast hne, (List.dropLast_concat_getLast hne).symm⟩
  simp
theorem Yd {l : List (Int × Int × Int)} {i : Int} (h : ∀ p, l[l.length - 1]? = some p → p.1 ≠ i / 128) : l ++ [(i / 128, i % 128, i % 128 + 1)] = x5 l i := by
  unfold x5
  cases hl : l.getLast? with
  | none =>
    have : l = [] := by simpa using hl
    rw [this]; rfl
  | some p =>
    have := h p (by rw [← hl, List.getLast?_eq_getElem?])
    dsimp only
    rw [if_neg this]
def wG (i : Int) : Int × Int × Int :=
  if i < 0 then (0, 0, 0) else if i < 8 then (0, 0, i) else if i < 40 then (1, 0, i - 8) else if i < 1064 then (2, (i - 40) / 32, (i - 40) % 32) else (0, 0, 0)
def xA (i : Int) : Int := if i < 0 then 1 else if i < 1064 then 0 else 12
def zW (n : Int) : Int := if n ≤ 0 then 0 else (n - 1) / 128 + 1
end Go.Nd
namespace Go.Proofs.YtjikpomndbkfgaaGreatDoor
open Go Go.Sx Go.Nd
set_option maxRecDepth 10000
section
variable {w0 : World} {L F : Res}
def kD (p : Int × Int × Int) : List Value := [.int .i64 p.1, .int .i64 p.2.1, .int .i64 p.2.2]
theorem blocks_spec (n : Int) (hn : n ≤ 9223372036854775807) : FnT Tryz.prog w0 40 #[.int .i64 n] L (fun v L' => v = .int .i64 (zW n) ∧ L' = L) := by
  refine qi (E0 := [(0, _)]) (N := 9) Tryz.func40 rfl rfl rfl rfl ?_
  refine qO <| qE rfl <| qF <| qN <| qO <| qA rfl <| q9 (KI rfl rfl) <| qF <| qM rfl (fun hc1 => ?_) (fun hc1 => ?_)
  ·
   refine qO <| qE rfl <| qF <| qy <| qv <| zq (.inl rfl) rfl (qu rfl) ?_
   exact ⟨by unfold zW; rw [if_pos hc1], rfl⟩
  ·
   refine qZ <| qJ <| qO <| qA rfl <| q9 (zt rfl rfl (by omega)) <| q9 (jI rfl rfl (by omega)) <| q9 (w9 rfl rfl (by omega)) <| qE rfl <| qF <| qy <| zq (.inl rfl) rfl (qu rfl) ?_
   exact ⟨by unfold zW; rw [if_neg hc1], rfl⟩
theorem VO (i : Int) (hn : -9223372036854775808 ≤ i ∧ i ≤ 9223372036854775807) : FnT Tryz.prog w0 87 #[.int .i64 i] L (fun v L' => v = .tuple #[xH (wG i), .int .i64 (xA i)] ∧ L' = L) := by
  refine qi (E0 := [(0, _)]) (N := 30) Tryz.func87 rfl rfl rfl rfl ?_
  refine qO <| qG (qj) ?_
  rintro t2 _ ⟨b2, rfl, rfl⟩
  refine qE rfl <| qF <| qN <| qg <| qO <| qA rfl <| q9 (wJ rfl rfl) <| qE rfl <| qF <| qM rfl (fun hc1 => ?_) (fun hc1 => ?_)
  ·
   refine qO <| q9 (kI rfl Tryz.underlying160 rfl (fun _ _ => ⟨_, inferInstance⟩) (fun _ _ h => by cases h)) ?_
   refine qR (wc rfl rfl rfl rfl) <| qE rfl <| qF <| qy <| wH <| qv <| wU L (.inl rfl) rfl (zU rfl) (qu rfl) ?_
   exact ⟨by simp [wG, xA, xH, *], rfl⟩
  ·
   refine qO <| qA rfl <| q9 (wJ rfl rfl) <| qE rfl <| qF <| qM rfl (fun hc3 => ?_) (fun hc3 => ?_)
   ·
    refine qO <| qA rfl <| q9 (wX rfl) <| qR (wc rfl rfl rfl rfl) <| qE rfl <| qF <| qy <| wH <| qv <| wU L (.inl rfl) rfl (zU rfl) (qu rfl) ?_
    have h1064 : i < 1064 := by omega
    exact ⟨by simp [wG, xA, xH, *], rfl⟩
   ·
    refine qO <| qA rfl <| q9 (wJ rfl rfl) <| qE rfl <| qF <| qM rfl (fun hc5 => ?_) (fun hc5 => ?_)
    ·
     refine qO <| qA rfl <| q9 (zt rfl rfl (by omega)) <| q9 (wX rfl) <| qR (wc rfl rfl rfl rfl) <| qE rfl <| qF <| qy <| wH <| qv <| wU L (.inl rfl) rfl (zU rfl) (qu rfl) ?_
     have h1064 : i < 1064 := by omega
     exact ⟨by simp [wG, xA, xH, *], rfl⟩
    ·
     refine qO <| qA rfl <| q9 (wJ rfl rfl) <| qE rfl <| qF <| qM rfl (fun hc7 => ?_) (fun hc7 => ?_)
     ·
      refine qO <| qA rfl <| q9 (zt rfl rfl (by omega)) <| q9 (jI rfl rfl (by omega)) <| qA rfl <| q9 (zt rfl rfl (by omega)) <| q9 (jz rfl rfl (by omega) (by omega)) <| q9 (wX rfl) <| qR (wc rfl rfl rfl rfl) <| qE rfl <| qF <| qy <| wH <| qv <| wU L (.inl rfl) rfl (zU rfl) (qu rfl) ?_
      exact ⟨by simp [wG, xA, xH, *], rfl⟩
     ·
      refine qZ <| qe <| qJ <| qO <| q9 (kI rfl Tryz.underlying160 rfl (fun _ _ => ⟨_, inferInstance⟩) (fun _ _ h => by cases h)) ?_
      refine qR (wc rfl rfl rfl rfl) <| qE rfl <| qF <| qy <| wU L (.inl rfl) rfl (zU rfl) (qu rfl) ?_
      exact ⟨by simp [wG, xA, xH, *], rfl⟩
theorem KB (i : Int) (hn : -9223372036854775808 ≤ i ∧ i ≤ 9223372036854775807) : FnT Tryz.prog w0 72 #[.int .i64 i] L (fun v L' => v = .tuple #[xH (wG i), .int .i64 (xA i)] ∧ L' = L) := by
  refine qi (E0 := [(0, _)]) (N := 26) Tryz.func72 rfl rfl rfl rfl ?_
  refine qO <| qG (qj) ?_
  rintro t2 _ ⟨b2, rfl, rfl⟩
  refine qE rfl <| qF <| qN <| qO <| qA rfl <| q9 (wJ rfl rfl) <| qF <| qM rfl (fun hc1 => ?_) (fun hc1 => ?_)
  ·
   refine qO <| q9 (kI rfl Tryz.underlying143 rfl (fun _ _ => ⟨_, inferInstance⟩) (fun _ _ h => by cases h)) ?_
   refine qR (wc rfl rfl rfl rfl) <| qE rfl <| qF <| qy <| qv <| wU L (.inl rfl) rfl (zU rfl) (qu rfl) ?_
   exact ⟨by simp only [wG, xA, xH]; repeat (first | rw [if_pos (by omega)] | rw [if_neg (by omega)]), rfl⟩
  ·
   refine qZ <| qJ <| qN <| qO <| qA rfl <| q9 (kr rfl rfl) <| qF <| qM rfl (fun hc3 => ?_) (fun hc3 => ?_)
   ·
    refine qO <| q9 (kI rfl Tryz.underlying143 rfl (fun _ _ => ⟨_, inferInstance⟩) (fun _ _ h => by cases h)) ?_
    refine qR (wc rfl rfl rfl rfl) <| qE rfl <| qF <| qy <| qv <| wU L (.inl rfl) rfl (zU rfl) (qu rfl) ?_
    exact ⟨by simp only [wG, xA, xH]; repeat (first | rw [if_pos (by omega)] | rw [if_neg (by omega)]), rfl⟩
   ·
    refine qZ <| qJ <| qN <| qO <| qA rfl <| q9 (wJ rfl rfl) <| qF <| qM rfl (fun hc5 => ?_) (fun hc5 => ?_)
    ·
     refine qO <| qA rfl <| q9 (wX rfl) <| qR (wc rfl rfl rfl rfl) <| qE rfl <| qF <| qy <| qv <| wU L (.inl rfl) rfl (zU rfl) (qu rfl) ?_
     exact ⟨by simp only [wG, xA, xH]; repeat (first | rw [if_pos (by omega)] | rw [if_neg (by omega)]), rfl⟩
    ·
     refine qZ <| qJ <| qN <| qO <| qA rfl <| q9 (wJ rfl rfl) <| qF <| qM rfl (fun hc7 => ?_) (fun hc7 => ?_)
     ·
      refine qO <| qA rfl <| q9 (zt rfl rfl (by omega)) <| q9 (wX rfl) <| qR (wc rfl rfl rfl rfl) <| qE rfl <| qF <| qy <| qv <| wU L (.inl rfl) rfl (zU rfl) (qu rfl) ?_
      exact ⟨by simp only [wG, xA, xH]; repeat (first | rw [if_pos (by omega)] | rw [if_neg (by omega)]), rfl⟩
     ·
      refine qZ <| qJ <| qO <| qA rfl <| q9 (zt rfl rfl (by omega)) <| q9 (jI rfl rfl (by omega)) <| qA rfl <| q9 (zt rfl rfl (by omega)) <| q9 (jz rfl rfl (by omega) (by omega)) <| q9 (wX rfl) <| qR (wc rfl rfl rfl rfl) <| qE rfl <| qF <| qy <| wU L (.inl rfl) rfl (zU rfl) (qu rfl) ?_
      exact ⟨by simp only [wG, xA, xH]; repeat (first | rw [if_pos (by omega)] | rw [if_neg (by omega)]), rfl⟩
theorem rblocks_spec (n : Int) (hn : n ≤ 136192) : FnT Tryz.prog w0 64 #[.int .i64 n] L (fun v L' => v = .int .i64 (zW n) ∧ L' = L) := by
  refine qi (E0 := [(0, _)]) (N := 15) Tryz.func64 rfl rfl rfl rfl ?_
  refine qO <| qE rfl <| qm <| qE rfl <| qF <| qN <| qg <| wS (Γ := {pΓ : (Int) // (fun (k : Int) => 0 ≤ k ∧ (k = 0 ∨ 128 * (k - 1) < n)) pΓ}) (fun g => (fun (k : Int) => [(0, .int .i64 n), (3, .int .i64 k)]) g.1) (fun g => (fun (k : Int) => L) g.1) (fun g => (fun (k : Int) => (2000 - k).toNat) g.1) ⟨0, by dsimp only; exact (by omega)⟩ (qX _) ?_
  rintro ⟨k, hloop⟩
  replace hloop : 0 ≤ k ∧ (k = 0 ∨ 128 * (k - 1) < n) := hloop
  obtain ⟨hk0, hk⟩ := hloop
  show Tr _ _ _ ([(0, .int .i64 n), (3, .int .i64 k)]) (L) _ _
  refine qN <| qO <| qA rfl <| q9 (wJ rfl rfl) <| qA rfl <| qY (s := 6) rfl (fun hg2_2 => ?_) (fun hg2_2 => ?_)
  ·
   refine qD rfl rfl (qP rfl) <| qD rfl rfl (x3 rfl rfl (by omega)) <| qD rfl rfl (qP rfl) <| qD rfl rfl (wJ rfl rfl) <| q9 (qq rfl rfl) <| qF <| qM rfl (fun hc2 => ?_) (fun hc2 => ?_)
   ·
    refine qZ <| qJ <| qg <| qK <| qA rfl <| q9 (w9 rfl rfl (by omega)) <| qE rfl <| qT <| qe <| w6 ⟨k + 1, ?_⟩ ?_ ?_
    · (try dsimp only); omega
    · (try dsimp only); omega
    · (try dsimp only); exact qX _
   ·
    refine wa <| qr <| qt <| qh <| qJ <| qO <| qA rfl <| qE rfl <| qF <| qy <| zq (.inl rfl) rfl (qu rfl) ?_
    exact ⟨by unfold zW; congr 1; split <;> omega, rfl⟩
  · (exfalso; omega)
theorem KW (l f s : Int) (hl : 0 ≤ l ∧ l ≤ 2) (hf : 0 ≤ f ∧ (f = 0 ∨ l = 2 ∧ f < 32)) (hs : 0 ≤ s ∧ s < (if l = 0 then 8 else 32)) :
    FnT Tryz.prog w0 99 #[.agg [.int .i64 l, .int .i64 f, .int .i64 s].toArray] L (fun v L' => v = .tuple #[.int .i64 ((if l = 0 then 0 else if l = 1 then 8 else 40) + f * 32 + s), .int .i64 0] ∧ L' = L) := by
  have hl3 : l = 0 ∨ l = 1 ∨ l = 2 := by omega
  rcases hl3 with rfl | rfl | rfl
  · simp only [if_true] at hs
    refine qi (E0 := [(0, _)]) (N := 53) Tryz.func99 rfl rfl rfl rfl ?_
    refine qO <| qG (wq rfl) ?_
    rintro t1 _ ⟨b1, rfl, rfl⟩
    refine qE rfl <| qE rfl <| qm <| q9 (yf rfl rfl rfl rfl) <| q9 (yf rfl rfl rfl rfl) <| q9 (yf rfl rfl rfl rfl) <| q9 (yf rfl rfl rfl rfl) <| qG (qj) ?_
    rintro t4 _ ⟨b4, rfl, rfl⟩
    refine qR (wc rfl rfl rfl rfl) <| qF <| qN <| qO <| q9 (qB rfl) <| q9 (qI rfl rfl) <| q9 (wJ rfl rfl) <| qA rfl <| qY (s := 13) rfl (fun hg2_3 => ?_) (fun hg2_3 => ?_)
    · (exfalso; omega)
    ·
     refine qD rfl rfl (qB rfl) <| qD rfl rfl (qI rfl rfl) <| qD rfl rfl (y8 rfl rfl) <| q9 (qU rfl rfl) <| qF <| qM rfl (fun hc2 => ?_) (fun hc2 => ?_)
     · (exfalso; omega)
     ·
      refine qZ <| qJ <| qO <| q9 (qB rfl) <| q9 (qI rfl rfl) <| q9 (wj (j := 0) (off := 0) rfl rfl rfl (by omega) rfl) <| q9 (wW rfl) <| qG (qj) ?_
      rintro t5 _ ⟨b5, rfl, rfl⟩
      refine qR (wc rfl rfl rfl rfl) <| qF <| qN <| qO <| q9 (qB rfl) <| q9 (qI rfl rfl) <| q9 (wJ rfl rfl) <| qA rfl <| qY (s := 25) rfl (fun hg5_3 => ?_) (fun hg5_3 => ?_)
      · (exfalso; omega)
      ·
       refine qD rfl rfl (qB rfl) <| qD rfl rfl (qI rfl rfl) <| qD rfl rfl (wj (j := 1) (off := 1) rfl rfl rfl (by omega) rfl) <| qD rfl rfl (qI rfl rfl) <| qD rfl rfl (kr rfl rfl) <| q9 (qU rfl rfl) <| qA rfl <| qY (s := 32) rfl (fun hg5_10 => ?_) (fun hg5_10 => ?_)
       · (exfalso; omega)
       ·
        refine qD rfl rfl (qB rfl) <| qD rfl rfl (qI rfl rfl) <| qD rfl rfl (wJ rfl rfl) <| q9 (qU rfl rfl) <| qA rfl <| qY (s := 37) rfl (fun hg5_15 => ?_) (fun hg5_15 => ?_)
        · (exfalso; omega)
        ·
         refine qD rfl rfl (qB rfl) <| qD rfl rfl (qI rfl rfl) <| qD rfl rfl (wj (j := 2) (off := 2) rfl rfl rfl (by omega) rfl) <| qD rfl rfl (qI rfl rfl) <| qD rfl rfl (kr rfl rfl) <| q9 (qU rfl rfl) <| qF <| qM rfl (fun hc5 => ?_) (fun hc5 => ?_)
         · (exfalso; omega)
         ·
          refine qZ <| qJ <| qO <| q9 (wj (j := 0) (off := 0) rfl rfl rfl (by omega) rfl) <| q9 (qI rfl rfl) <| q9 (qB rfl) <| q9 (qI rfl rfl) <| q9 (x3 rfl rfl (by omega)) <| q9 (w9 rfl rfl (by omega)) <| q9 (qB rfl) <| q9 (qI rfl rfl) <| q9 (w9 rfl rfl (by omega)) <| qE rfl <| qE rfl <| qF <| qy <| wU L (.inl rfl) rfl (qu rfl) (qu rfl) ?_
          exact ⟨by simp, rfl⟩
  · simp only [if_neg (show ¬ (1 : Int) = 0 by omega)] at hs
    refine qi (E0 := [(0, _)]) (N := 53) Tryz.func99 rfl rfl rfl rfl ?_
    refine qO <| qG (wq rfl) ?_
    rintro t1 _ ⟨b1, rfl, rfl⟩
    refine qE rfl <| qE rfl <| qm <| q9 (yf rfl rfl rfl rfl) <| q9 (yf rfl rfl rfl rfl) <| q9 (yf rfl rfl rfl rfl) <| q9 (yf rfl rfl rfl rfl) <| qG (qj) ?_
    rintro t4 _ ⟨b4, rfl, rfl⟩
    refine qR (wc rfl rfl rfl rfl) <| qF <| qN <| qO <| q9 (qB rfl) <| q9 (qI rfl rfl) <| q9 (wJ rfl rfl) <| qA rfl <| qY (s := 13) rfl (fun hg2_3 => ?_) (fun hg2_3 => ?_)
    · (exfalso; omega)
    ·
     refine qD rfl rfl (qB rfl) <| qD rfl rfl (qI rfl rfl) <| qD rfl rfl (y8 rfl rfl) <| q9 (qU rfl rfl) <| qF <| qM rfl (fun hc2 => ?_) (fun hc2 => ?_)
     · (exfalso; omega)
     ·
      refine qZ <| qJ <| qO <| q9 (qB rfl) <| q9 (qI rfl rfl) <| q9 (wj (j := 1) (off := 3) rfl rfl rfl (by omega) rfl) <| q9 (wW rfl) <| qG (qj) ?_
      rintro t5 _ ⟨b5, rfl, rfl⟩
      refine qR (wc rfl rfl rfl rfl) <| qF <| qN <| qO <| q9 (qB rfl) <| q9 (qI rfl rfl) <| q9 (wJ rfl rfl) <| qA rfl <| qY (s := 25) rfl (fun hg5_3 => ?_) (fun hg5_3 => ?_)
      · (exfalso; omega)
      ·
       refine qD rfl rfl (qB rfl) <| qD rfl rfl (qI rfl rfl) <| qD rfl rfl (wj (j := 1) (off := 1) rfl rfl rfl (by omega) rfl) <| qD rfl rfl (qI rfl rfl) <| qD rfl rfl (kr rfl rfl) <| q9 (qU rfl rfl) <| qA rfl <| qY (s := 32) rfl (fun hg5_10 => ?_) (fun hg5_10 => ?_)
       · (exfalso; omega)
       ·
        refine qD rfl rfl (qB rfl) <| qD rfl rfl (qI rfl rfl) <| qD rfl rfl (wJ rfl rfl) <| q9 (qU rfl rfl) <| qA rfl <| qY (s := 37) rfl (fun hg5_15 => ?_) (fun hg5_15 => ?_)
        · (exfalso; omega)
        ·
         refine qD rfl rfl (qB rfl) <| qD rfl rfl (qI rfl rfl) <| qD rfl rfl (wj (j := 2) (off := 2) rfl rfl rfl (by omega) rfl) <| qD rfl rfl (qI rfl rfl) <| qD rfl rfl (kr rfl rfl) <| q9 (qU rfl rfl) <| qF <| qM rfl (fun hc5 => ?_) (fun hc5 => ?_)
         · (exfalso; omega)
         ·
          refine qZ <| qJ <| qO <| q9 (wj (j := 0) (off := 0) rfl rfl rfl (by omega) rfl) <| q9 (qI rfl rfl) <| q9 (qB rfl) <| q9 (qI rfl rfl) <| q9 (x3 rfl rfl (by omega)) <| q9 (w9 rfl rfl (by omega)) <| q9 (qB rfl) <| q9 (qI rfl rfl) <| q9 (w9 rfl rfl (by omega)) <| qE rfl <| qE rfl <| qF <| qy <| wU L (.inl rfl) rfl (qu rfl) (qu rfl) ?_
          exact ⟨by simp, rfl⟩
  · simp only [if_neg (show ¬ (2 : Int) = 0 by omega)] at hs
    refine qi (E0 := [(0, _)]) (N := 53) Tryz.func99 rfl rfl rfl rfl ?_
    refine qO <| qG (wq rfl) ?_
    rintro t1 _ ⟨b1, rfl, rfl⟩
    refine qE rfl <| qE rfl <| qm <| q9 (yf rfl rfl rfl rfl) <| q9 (yf rfl rfl rfl rfl) <| q9 (yf rfl rfl rfl rfl) <| q9 (yf rfl rfl rfl rfl) <| qG (qj) ?_
    rintro t4 _ ⟨b4, rfl, rfl⟩
    refine qR (wc rfl rfl rfl rfl) <| qF <| qN <| qO <| q9 (qB rfl) <| q9 (qI rfl rfl) <| q9 (wJ rfl rfl) <| qA rfl <| qY (s := 13) rfl (fun hg2_3 => ?_) (fun hg2_3 => ?_)
    · (exfalso; omega)
    ·
     refine qD rfl rfl (qB rfl) <| qD rfl rfl (qI rfl rfl) <| qD rfl rfl (y8 rfl rfl) <| q9 (qU rfl rfl) <| qF <| qM rfl (fun hc2 => ?_) (fun hc2 => ?_)
     · (exfalso; omega)
     ·
      refine qZ <| qJ <| qO <| q9 (qB rfl) <| q9 (qI rfl rfl) <| q9 (wj (j := 2) (off := 6) rfl rfl rfl (by omega) rfl) <| q9 (wW rfl) <| qG (qj) ?_
      rintro t5 _ ⟨b5, rfl, rfl⟩
      refine qR (wc rfl rfl rfl rfl) <| qF <| qN <| qO <| q9 (qB rfl) <| q9 (qI rfl rfl) <| q9 (wJ rfl rfl) <| qA rfl <| qY (s := 25) rfl (fun hg5_3 => ?_) (fun hg5_3 => ?_)
      · (exfalso; omega)
      ·
       refine qD rfl rfl (qB rfl) <| qD rfl rfl (qI rfl rfl) <| qD rfl rfl (wj (j := 1) (off := 1) rfl rfl rfl (by omega) rfl) <| qD rfl rfl (qI rfl rfl) <| qD rfl rfl (kr rfl rfl) <| q9 (qU rfl rfl) <| qA rfl <| qY (s := 32) rfl (fun hg5_10 => ?_) (fun hg5_10 => ?_)
       · (exfalso; omega)
       ·
        refine qD rfl rfl (qB rfl) <| qD rfl rfl (qI rfl rfl) <| qD rfl rfl (wJ rfl rfl) <| q9 (qU rfl rfl) <| qA rfl <| qY (s := 37) rfl (fun hg5_15 => ?_) (fun hg5_15 => ?_)
        · (exfalso; omega)
        ·
         refine qD rfl rfl (qB rfl) <| qD rfl rfl (qI rfl rfl) <| qD rfl rfl (wj (j := 2) (off := 2) rfl rfl rfl (by omega) rfl) <| qD rfl rfl (qI rfl rfl) <| qD rfl rfl (kr rfl rfl) <| q9 (qU rfl rfl) <| qF <| qM rfl (fun hc5 => ?_) (fun hc5 => ?_)
         · (exfalso; omega)
         ·
          refine qZ <| qJ <| qO <| q9 (wj (j := 0) (off := 0) rfl rfl rfl (by omega) rfl) <| q9 (qI rfl rfl) <| q9 (qB rfl) <| q9 (qI rfl rfl) <| q9 (x3 rfl rfl (by omega)) <| q9 (w9 rfl rfl (by omega)) <| q9 (qB rfl) <| q9 (qI rfl rfl) <| q9 (w9 rfl rfl (by omega)) <| qE rfl <| qE rfl <| qF <| qy <| wU L (.inl rfl) rfl (qu rfl) (qu rfl) ?_
          exact ⟨by simp, rfl⟩
def kv (at_ n : Int) : Int := if at_ < 0 ∨ n < 0 then 1 else if at_ > 136192 ∨ n > 136192 - at_ then 12 else 0
theorem cut_again {out l : List (Int × Int × Int)} {a e : Int} (h : a < e) (hcut : out ++ ke (e - a).toNat a e = l) :
    (out ++ [(a / 128, a % 128, min 128 (a % 128 + e - a))]) ++ ke (e - (a + (min 128 (a % 128 + e - a) - a % 128))).toNat (a + (min 128 (a % 128 + e - a) - a % 128)) e = l := by
  have e1 := YJ (e - (a + (min 128 (a % 128 + e - a) - a % 128))).toNat (e - a).toNat (a + (min 128 (a % 128 + e - a) - a % 128)) e (by omega) (by omega)
  rw [← hcut, cutF_step h, List.append_assoc, e1]
  rfl
theorem Xk (at_ n : Int) (h1 : -9223372036854775808 ≤ at_ ∧ at_ ≤ 9223372036854775807) (h2 : -9223372036854775808 ≤ n ∧ n ≤ 9223372036854775807) :
    FnT Tryz.prog w0 37 #[.int .i64 at_, .int .i64 n] F (fun v L' => ∃ u C, v = .tuple #[u, .int .i64 (kv at_ n)] ∧ L' = C :: F ∧
      (if kv at_ n = 0 then SlC 92 3 u (ku at_ n).length ((ku at_ n).flatMap kD) C else u = .slice none 0 0 ∧ C = [])) := by
  by_cases ha : at_ < 0 ∨ n < 0
  · have he : kv at_ n = 1 := by unfold kv; rw [if_pos ha]
    rw [he]
    refine qi (E0 := [(0, _), (1, _)]) (N := 54) Tryz.func37 rfl rfl rfl rfl ?_
    refine qO <| qE rfl <| qE rfl <| qF <| qN <| qg <| qO <| qA rfl <| q9 (wJ rfl rfl) <| qA rfl <| qY (s := 13) rfl (fun hg1_2 => ?_) (fun hg1_2 => ?_)
    ·
     refine qL rfl rfl rfl <| qL rfl rfl rfl <| q9 (qq rfl rfl) <| qE rfl <| qF <| zM rfl <| qO <| qE rfl <| qE rfl <| qF <| qy <| wH <| qv <| wU ([] :: F) (.inl rfl) rfl (qu rfl) (qu rfl) ?_
     exact ⟨_, [], rfl, rfl, by simp⟩
    ·
     refine qD rfl rfl (qP rfl) <| qD rfl rfl (wJ rfl rfl) <| q9 (qU rfl rfl) <| qE rfl <| qF <| qM rfl (fun hc1 => ?_) (fun hc1 => ?_)
     ·
      refine qO <| qE rfl <| qE rfl <| qF <| qy <| wH <| qv <| wU ([] :: F) (.inl rfl) rfl (qu rfl) (qu rfl) ?_
      exact ⟨_, [], rfl, rfl, by simp⟩
     · (exfalso; omega)
  · by_cases hb : at_ > 136192 ∨ n > 136192 - at_
    · have he : kv at_ n = 12 := by unfold kv; rw [if_neg ha, if_pos hb]
      rw [he]
      refine qi (E0 := [(0, _), (1, _)]) (N := 54) Tryz.func37 rfl rfl rfl rfl ?_
      refine qO <| qE rfl <| qE rfl <| qF <| qN <| qg <| qO <| qA rfl <| q9 (wJ rfl rfl) <| qA rfl <| qY (s := 13) rfl (fun hg1_2 => ?_) (fun hg1_2 => ?_)
      · (exfalso; omega)
      ·
       refine qD rfl rfl (qP rfl) <| qD rfl rfl (wJ rfl rfl) <| q9 (qU rfl rfl) <| qE rfl <| qF <| qM rfl (fun hc1 => ?_) (fun hc1 => ?_)
       · (exfalso; omega)
       ·
        refine qO <| qA rfl <| q9 (y8 rfl rfl) <| qA rfl <| qY (s := 20) rfl (fun hg3_2 => ?_) (fun hg3_2 => ?_)
        ·
         refine qL rfl rfl rfl <| qL rfl rfl rfl <| qL rfl rfl rfl <| qL rfl rfl rfl <| q9 (qq rfl rfl) <| qE rfl <| qF <| zM rfl <| qO <| qE rfl <| qE rfl <| qF <| qy <| wH <| qv <| wU ([] :: F) (.inl rfl) rfl (qu rfl) (qu rfl) ?_
         exact ⟨_, [], rfl, rfl, by simp⟩
        ·
         refine qD rfl rfl (qP rfl) <| qD rfl rfl (qP rfl) <| qD rfl rfl (zt rfl rfl (by omega)) <| qD rfl rfl (y8 rfl rfl) <| q9 (qU rfl rfl) <| qE rfl <| qF <| qM rfl (fun hc3 => ?_) (fun hc3 => ?_)
         ·
          refine qO <| qE rfl <| qE rfl <| qF <| qy <| wH <| qv <| wU ([] :: F) (.inl rfl) rfl (qu rfl) (qu rfl) ?_
          exact ⟨_, [], rfl, rfl, by simp⟩
         · (exfalso; omega)
    · have he : kv at_ n = 0 := by unfold kv; rw [if_neg ha, if_neg hb]
      rw [he]
      refine qi (E0 := [(0, _), (1, _)]) (N := 54) Tryz.func37 rfl rfl rfl rfl ?_
      refine qO <| qE rfl <| qE rfl <| qF <| qN <| qg <| qO <| qA rfl <| q9 (wJ rfl rfl) <| qA rfl <| qY (s := 13) rfl (fun hg1_2 => ?_) (fun hg1_2 => ?_)
      · (exfalso; omega)
      ·
       refine qD rfl rfl (qP rfl) <| qD rfl rfl (wJ rfl rfl) <| q9 (qU rfl rfl) <| qE rfl <| qF <| qM rfl (fun hc1 => ?_) (fun hc1 => ?_)
       · (exfalso; omega)
       ·
        refine qO <| qA rfl <| q9 (y8 rfl rfl) <| qA rfl <| qY (s := 20) rfl (fun hg3_2 => ?_) (fun hg3_2 => ?_)
        · (exfalso; omega)
        ·
         refine qD rfl rfl (qP rfl) <| qD rfl rfl (qP rfl) <| qD rfl rfl (zt rfl rfl (by omega)) <| qD rfl rfl (y8 rfl rfl) <| q9 (qU rfl rfl) <| qE rfl <| qF <| qM rfl (fun hc3 => ?_) (fun hc3 => ?_)
         · (exfalso; omega)
         ·
          refine qZ <| qe <| qJ <| qO <| qE rfl <| qF <| qN <| qO <| qA rfl <| qA rfl <| q9 (w9 rfl rfl (by omega)) <| qE rfl <| qF <| qg <| wS (Γ := {pΓ : (List (Int × Int × Int)) × (Int) × (Value) × (qV) // (fun (out : List (Int × Int × Int)) (a : Int) (u : Value) (C : qV) => at_ ≤ a ∧ a ≤ at_ + n ∧ out ++ ke (at_ + n - a).toNat a (at_ + n) = ku at_ n ∧ SlC 92 3 u out.length (out.flatMap kD) C ∧ (out.length : Int) ≤ a - at_) pΓ.1 pΓ.2.1 pΓ.2.2.1 pΓ.2.2.2}) (fun g => (fun (out : List (Int × Int × Int)) (a : Int) (u : Value) (C : qV) => [(0, .int .i64 a), (7, .int .i64 (at_ + n)), (6, u)]) g.1.1 g.1.2.1 g.1.2.2.1 g.1.2.2.2) (fun g => (fun (out : List (Int × Int × Int)) (a : Int) (u : Value) (C : qV) => C :: F) g.1.1 g.1.2.1 g.1.2.2.1 g.1.2.2.2) (fun g => (fun (out : List (Int × Int × Int)) (a : Int) (u : Value) (C : qV) => (at_ + n - a).toNat) g.1.1 g.1.2.1 g.1.2.2.1 g.1.2.2.2) ⟨([], at_, .slice none 0 0, []), by dsimp only; exact ⟨by omega, by omega, by rw [List.nil_append]; unfold ku; congr 1; omega, SlC.nil _ _, by simp⟩⟩ (qX _) ?_
          rintro ⟨⟨out, a, u, C⟩, hloop⟩
          replace hloop : at_ ≤ a ∧ a ≤ at_ + n ∧ out ++ ke (at_ + n - a).toNat a (at_ + n) = ku at_ n ∧ SlC 92 3 u out.length (out.flatMap kD) C ∧ (out.length : Int) ≤ a - at_ := hloop
          obtain ⟨ha1, ha2, hcut, hsl, hlen⟩ := hloop
          show Tr _ _ _ ([(0, .int .i64 a), (7, .int .i64 (at_ + n)), (6, u)]) (C :: F) _ _
          refine qN <| qO <| qA rfl <| qA rfl <| q9 (wJ rfl rfl) <| qF <| qM rfl (fun hc7 => ?_) (fun hc7 => ?_)
          ·
           refine qZ <| qJ <| qg <| qO <| qA rfl <| q9 (jz rfl rfl (by omega) (by omega)) <| qE rfl <| qm <| qA rfl <| qA rfl <| q9 (w9 rfl rfl (by omega)) <| qA rfl <| q9 (zt rfl rfl (by omega)) <| q9 (KH rfl rfl) <| qE rfl <| qm <| qA rfl <| qA rfl <| q9 (jI rfl rfl (by omega)) <| qA rfl <| qA rfl <| q9 (wX rfl) <| qG (wK rfl rfl rfl) ?_
           rintro t46 _ ⟨b46, rfl, rfl⟩
           refine qG (wg rfl rfl hsl (wk inferInstance rfl rfl) rfl Tryz.underlying85 rfl rfl (by omega)) ?_
           rintro t47 _ ⟨C', hsl', rfl⟩
           refine qE rfl <| qF <| qK <| qA rfl <| qA rfl <| qA rfl <| q9 (zt rfl rfl (by omega)) <| q9 (w9 rfl rfl (by omega)) <| qE rfl <| qT <| qe <| w6 ⟨(out ++ [(a / 128, a % 128, min 128 (a % 128 + (at_ + n) - a))], a + (min 128 (a % 128 + (at_ + n) - a) - a % 128), t47, C'), ?_⟩ ?_ ?_
           · (try dsimp only); exact ⟨by omega, by omega, cut_again hc7 hcut, by simpa [kD] using hsl', by simp; omega⟩
           · (try dsimp only); omega
           · (try dsimp only); exact qX _
          ·
           refine wa <| qr <| qt <| qh <| qJ <| qO <| qA rfl <| qE rfl <| qE rfl <| qF <| qy <| wU (C :: F) (.inl rfl) rfl (qu rfl) (qu rfl) ?_
           exact ⟨_, C, rfl, rfl, by rw [if_pos rfl, ← hcut, j7 (by omega), List.append_nil]; exact hsl⟩
theorem kC (p : Int × Int × Int) : (kD p).length = 3 := rfl
theorem cutPush_len (l : List (Int × Int × Int)) (i : Int) : (x5 l i).length ≤ l.length + 1 := by
  unfold x5
  split
  · rename_i p hp
    have hne : l ≠ [] := fun h => by rw [h] at hp; cases hp
    have : 0 < l.length := List.length_pos_iff.2 hne
    split <;> simp
  · simp
theorem rcut_spec (at_ n : Int) (h1 : -9223372036854775808 ≤ at_ ∧ at_ ≤ 9223372036854775807) (h2 : -9223372036854775808 ≤ n ∧ n ≤ 9223372036854775807) :
    FnT Tryz.prog w0 63 #[.int .i64 at_, .int .i64 n] F (fun v L' => ∃ u C, v = .tuple #[u, .int .i64 (kv at_ n)] ∧ L' = C :: F ∧
      (if kv at_ n = 0 then SlC 131 3 u (ku at_ n).length ((ku at_ n).flatMap kD) C else u = .slice none 0 0 ∧ C = [])) := by
  by_cases ha : at_ < 0 ∨ n < 0
  · have he : kv at_ n = 1 := by unfold kv; rw [if_pos ha]
    rw [he]
    refine qi (E0 := [(0, _), (1, _)]) (N := 68) Tryz.func63 rfl rfl rfl rfl ?_
    refine qO <| qE rfl <| qE rfl <| qF <| qN <| qO <| qA rfl <| q9 (wJ rfl rfl) <| qA rfl <| qY (s := 11) rfl (fun hg1_2 => ?_) (fun hg1_2 => ?_)
    ·
     refine qL rfl rfl rfl <| qL rfl rfl rfl <| q9 (qq rfl rfl) <| qF <| zM rfl <| qO <| qE rfl <| qE rfl <| qF <| qy <| qv <| wU ([] :: F) (.inl rfl) rfl (qu rfl) (qu rfl) ?_
     exact ⟨_, [], rfl, rfl, by simp⟩
    ·
     refine qD rfl rfl (qP rfl) <| qD rfl rfl (wJ rfl rfl) <| q9 (qU rfl rfl) <| qF <| qM rfl (fun hc1 => ?_) (fun hc1 => ?_)
     ·
      refine qO <| qE rfl <| qE rfl <| qF <| qy <| qv <| wU ([] :: F) (.inl rfl) rfl (qu rfl) (qu rfl) ?_
      exact ⟨_, [], rfl, rfl, by simp⟩
     · (exfalso; omega)
  · by_cases hb : at_ > 136192 ∨ n > 136192 - at_
    · have he : kv at_ n = 12 := by unfold kv; rw [if_neg ha, if_pos hb]
      rw [he]
      refine qi (E0 := [(0, _), (1, _)]) (N := 68) Tryz.func63 rfl rfl rfl rfl ?_
      refine qO <| qE rfl <| qE rfl <| qF <| qN <| qO <| qA rfl <| q9 (wJ rfl rfl) <| qA rfl <| qY (s := 11) rfl (fun hg1_2 => ?_) (fun hg1_2 => ?_)
      · (exfalso; omega)
      ·
       refine qD rfl rfl (qP rfl) <| qD rfl rfl (wJ rfl rfl) <| q9 (qU rfl rfl) <| qF <| qM rfl (fun hc1 => ?_) (fun hc1 => ?_)
       · (exfalso; omega)
       ·
        refine qZ <| qJ <| qN <| qO <| qA rfl <| q9 (y8 rfl rfl) <| qA rfl <| qY (s := 17) rfl (fun hg3_2 => ?_) (fun hg3_2 => ?_)
        ·
         refine qL rfl rfl rfl <| qL rfl rfl rfl <| qL rfl rfl rfl <| qL rfl rfl rfl <| q9 (qq rfl rfl) <| qF <| zM rfl <| qO <| qE rfl <| qE rfl <| qF <| qy <| qv <| wU ([] :: F) (.inl rfl) rfl (qu rfl) (qu rfl) ?_
         exact ⟨_, [], rfl, rfl, by simp⟩
        ·
         refine qD rfl rfl (qP rfl) <| qD rfl rfl (qP rfl) <| qD rfl rfl (zt rfl rfl (by omega)) <| qD rfl rfl (y8 rfl rfl) <| q9 (qU rfl rfl) <| qF <| qM rfl (fun hc3 => ?_) (fun hc3 => ?_)
         ·
          refine qO <| qE rfl <| qE rfl <| qF <| qy <| qv <| wU ([] :: F) (.inl rfl) rfl (qu rfl) (qu rfl) ?_
          exact ⟨_, [], rfl, rfl, by simp⟩
         · (exfalso; omega)
    · have he : kv at_ n = 0 := by unfold kv; rw [if_neg ha, if_neg hb]
      rw [he]
      refine qi (E0 := [(0, _), (1, _)]) (N := 68) Tryz.func63 rfl rfl rfl rfl ?_
      refine qO <| qE rfl <| qE rfl <| qF <| qN <| qO <| qA rfl <| q9 (wJ rfl rfl) <| qA rfl <| qY (s := 11) rfl (fun hg1_2 => ?_) (fun hg1_2 => ?_)
      · (exfalso; omega)
      ·
       refine qD rfl rfl (qP rfl) <| qD rfl rfl (wJ rfl rfl) <| q9 (qU rfl rfl) <| qF <| qM rfl (fun hc1 => ?_) (fun hc1 => ?_)
       · (exfalso; omega)
       ·
        refine qZ <| qJ <| qN <| qO <| qA rfl <| q9 (y8 rfl rfl) <| qA rfl <| qY (s := 17) rfl (fun hg3_2 => ?_) (fun hg3_2 => ?_)
        · (exfalso; omega)
        ·
         refine qD rfl rfl (qP rfl) <| qD rfl rfl (qP rfl) <| qD rfl rfl (zt rfl rfl (by omega)) <| qD rfl rfl (y8 rfl rfl) <| q9 (qU rfl rfl) <| qF <| qM rfl (fun hc3 => ?_) (fun hc3 => ?_)
         · (exfalso; omega)
         ·
          refine qZ <| qJ <| qO <| qE rfl <| qF <| qN <| qO <| qA rfl <| qE rfl <| qF <| qg <| wS (Γ := {pΓ : (Int) × (Value) × (qV) // (fun (i : Int) (u : Value) (C : qV) => at_ ≤ i ∧ i ≤ at_ + n ∧ SlC 131 3 u (ku at_ (i - at_)).length ((ku at_ (i - at_)).flatMap kD) C ∧ ((ku at_ (i - at_)).length : Int) ≤ i - at_) pΓ.1 pΓ.2.1 pΓ.2.2}) (fun g => (fun (i : Int) (u : Value) (C : qV) => [(0, .int .i64 at_), (1, .int .i64 n), (7, .int .i64 i), (6, u)]) g.1.1 g.1.2.1 g.1.2.2) (fun g => (fun (i : Int) (u : Value) (C : qV) => C :: F) g.1.1 g.1.2.1 g.1.2.2) (fun g => (fun (i : Int) (u : Value) (C : qV) => (at_ + n - i).toNat) g.1.1 g.1.2.1 g.1.2.2) ⟨(at_, .slice none 0 0, []), by dsimp only; exact ⟨by omega, by omega, by rw [Int.sub_self]; exact SlC.nil _ _, by rw [Int.sub_self, cutL_zero]; simp⟩⟩ (qX _) ?_
          rintro ⟨⟨i, u, C⟩, hloop⟩
          replace hloop : at_ ≤ i ∧ i ≤ at_ + n ∧ SlC 131 3 u (ku at_ (i - at_)).length ((ku at_ (i - at_)).flatMap kD) C ∧ ((ku at_ (i - at_)).length : Int) ≤ i - at_ := hloop
          obtain ⟨hi1, hi2, hsl, hlen⟩ := hloop
          show Tr _ _ _ ([(0, .int .i64 at_), (1, .int .i64 n), (7, .int .i64 i), (6, u)]) (C :: F) _ _
          refine qN <| qO <| qA rfl <| qA rfl <| qA rfl <| q9 (w9 rfl rfl (by omega)) <| q9 (wJ rfl rfl) <| qF <| qM rfl (fun hc7 => ?_) (fun hc7 => ?_)
          ·
           refine qZ <| qJ <| qN <| qg <| qN ?_
           obtain ⟨l, hl⟩ : ∃ l, ku at_ (i - at_) = l := ⟨_, rfl⟩
           have hpush := cutL_push (a := at_) (n := i - at_) (by omega)
           rw [hl, show at_ + (i - at_) = i from by omega, show i - at_ + 1 = i + 1 - at_ from by omega] at hpush
           rw [hl] at hsl hlen
           have hpl := cutPush_len l i
           obtain ⟨pu, cu, hu⟩ := hsl.slice
           refine qK <| qA rfl <| q9 (w8 (by rw [← hu]; rfl)) ?_
           refine q9 (zt rfl rfl (by omega)) <| qE rfl <| qm <| qA rfl <| q9 (kr rfl rfl) <| qA rfl <| qY (s := 36) rfl (fun hg10_2 => ?_) (fun hg10_2 => ?_)
           ·
            obtain ⟨p, hp⟩ : ∃ p, l[l.length - 1]? = some p := ⟨_, List.getElem?_eq_getElem (by omega)⟩
            refine qD rfl rfl (qP rfl) <| qD rfl rfl (qP rfl) <| Yi rfl rfl (yD (j := l.length - 1) rfl rfl hsl (by omega) (by omega)) ?_
            rintro t39 _ ⟨b, cap, spare, rfl, rfl, hcap, hnc, rfl, rfl⟩
            refine qD rfl rfl (wA rfl) <| qD rfl rfl (za (j := l.length - 1) (k := 0) kC rfl hp rfl rfl) <| qD rfl rfl (qP rfl) <| qD rfl rfl (jI rfl rfl (by omega)) <| qD rfl rfl (wn rfl rfl) <| q9 (qq rfl rfl) <| qF <| qM rfl (fun hc10 => ?_) (fun hc10 => ?_)
            ·
             refine qK <| qA rfl <| qA rfl <| qA rfl <| qA rfl <| q9 (qx (j := l.length - 1) rfl rfl (by omega) (by omega) rfl) <| q9 (wA rfl) <| q9 (za (j := l.length - 1) (k := 2) kC rfl hp (by omega) rfl) <| q9 (w9 rfl rfl (by have := Qk (n := i - at_) (show 0 ≤ at_ by omega) (hl ▸ List.mem_of_getElem? hp); omega)) ?_
             refine q9 (qx (j := l.length - 1) rfl rfl (by omega) (by omega) rfl) <| q9 (wA rfl) <| qR (yU (j := l.length - 1) (k := 2) (p' := (p.1, p.2.1, p.2.2 + 1)) kC rfl rfl hp (by omega) rfl rfl) <| qT <| qe <| qJ <| qK <| qA rfl <| q9 (w9 rfl rfl (by omega)) <| qE rfl <| qT <| w6 ⟨(i + 1, .slice (some ⟨b, 0, none⟩) l.length cap, [(b, .cells ((l.set (l.length - 1) (p.1, p.2.1, p.2.2 + 1)).flatMap kD ++ spare).toArray 131 (0, 0))]), ?_⟩ ?_ ?_
             · (try dsimp only); rw [hpush, ← cutPush_set hp hc10]; exact ⟨by omega, by omega, by have := Vu (e := 131) (sz := 3) (b := b) (cap := cap) (n := l.length) (spare := spare) (cs := (l.set (l.length - 1) (p.1, p.2.1, p.2.2 + 1)).flatMap kD) (by rw [kR kC, List.length_set]) (by simp only [List.length_append, kR kC, List.length_set] at hcap ⊢; exact hcap) hnc; rw [List.length_set]; exact this, by simp; omega⟩
             · (try dsimp only); omega
             · (try dsimp only); exact qX _
            ·
             have hnew : ∀ q, l[l.length - 1]? = some q → q.1 ≠ i / 128 := by
               intro q hq
               first | (rw [hp] at hq; cases hq; exact hc10) | (rw [List.getElem?_eq_none (by omega)] at hq; cases hq)
             refine qK <| qA rfl <| qA rfl <| q9 (jI rfl rfl (by omega)) <| qA rfl <| q9 (jz rfl rfl (by omega) (by omega)) <| qA rfl <| q9 (jz rfl rfl (by omega) (by omega)) <| q9 (w9 rfl rfl (by omega)) <| q9 (wX rfl) <| qG (wK rfl rfl rfl) ?_
             rintro t65 _ ⟨b65, rfl, rfl⟩
             refine qG (wg rfl rfl hsl (wk inferInstance rfl rfl) rfl Tryz.underlying128 rfl rfl (by omega)) ?_
             rintro t66 _ ⟨C', hsl', rfl⟩
             refine qE rfl <| qT <| qe <| qJ <| qK <| qA rfl <| q9 (w9 rfl rfl (by omega)) <| qE rfl <| qT <| w6 ⟨(i + 1, t66, C'), ?_⟩ ?_ ?_
             · (try dsimp only); rw [hpush, ← Yd (l := l) (i := i) hnew]; exact ⟨by omega, by omega, by simpa [kD] using hsl', by simp; omega⟩
             · (try dsimp only); omega
             · (try dsimp only); exact qX _
           ·
            refine qL rfl rfl rfl <| qL rfl rfl rfl <| qL rfl rfl rfl <| qL rfl rfl rfl <| qL rfl rfl rfl <| qL rfl rfl rfl <| qL rfl rfl rfl <| qL rfl rfl rfl <| q9 (qU rfl rfl) <| qF <| wV rfl ?_
            have hnew : ∀ q, l[l.length - 1]? = some q → q.1 ≠ i / 128 := by
              intro q hq
              first | (rw [hp] at hq; cases hq; exact hc10) | (rw [List.getElem?_eq_none (by omega)] at hq; cases hq)
            refine qK <| qA rfl <| qA rfl <| q9 (jI rfl rfl (by omega)) <| qA rfl <| q9 (jz rfl rfl (by omega) (by omega)) <| qA rfl <| q9 (jz rfl rfl (by omega) (by omega)) <| q9 (w9 rfl rfl (by omega)) <| q9 (wX rfl) <| qG (wK rfl rfl rfl) ?_
            rintro t65 _ ⟨b65, rfl, rfl⟩
            refine qG (wg rfl rfl hsl (wk inferInstance rfl rfl) rfl Tryz.underlying128 rfl rfl (by omega)) ?_
            rintro t66 _ ⟨C', hsl', rfl⟩
            refine qE rfl <| qT <| qe <| qJ <| qK <| qA rfl <| q9 (w9 rfl rfl (by omega)) <| qE rfl <| qT <| w6 ⟨(i + 1, t66, C'), ?_⟩ ?_ ?_
            · (try dsimp only); rw [hpush, ← Yd (l := l) (i := i) hnew]; exact ⟨by omega, by omega, by simpa [kD] using hsl', by simp; omega⟩
            · (try dsimp only); omega
            · (try dsimp only); exact qX _
          ·
           refine wa <| qr <| qt <| qh <| qJ <| qO <| qA rfl <| qE rfl <| qE rfl <| qF <| qy <| wU (C :: F) (.inl rfl) rfl (qu rfl) (qu rfl) ?_
           have hin : i - at_ = n := by omega
           rw [hin] at hsl
           exact ⟨_, C, rfl, rfl, by rw [if_pos rfl]; exact hsl⟩
end
end Go.Proofs.YtjikpomndbkfgaaGreatDoor
namespace Go.Sx
open Go
section
variable {P : Program} {N : Nat} {w0 : World} {E : Env} {L : Res} {K V : Type} [DecidableEq K]
def upd {β : Type} (f : K → β) (q : K) (v : β) : K → β := fun k => if k = q then v else f k
theorem zQ {β : Type} (f : K → β) (q : K) (v : β) : upd f q v q = v := by simp [upd]
theorem wb {β : Type} (f : K → β) {q k : K} (v : β) (h : k ≠ q) : upd f q v k = f k := by simp [upd, h]
def MapF (enc : K → Value) (val : V → Value) (f : K → Option V) (o : Obj) : Prop := ∃ al, MapOk enc val al o ∧ ∀ k, yA al k = f k
theorem ka (enc : K → Value) (val : V → Value) : MapF enc val (fun _ => none) (.map #[] 0) := ⟨[], MapOk.empty enc val, fun _ => rfl⟩
theorem MapF.congr {enc : K → Value} {val : V → Value} {f g : K → Option V} {o : Obj} (h : MapF enc val f o) (e : ∀ k, f k = g k) : MapF enc val g o := by
  obtain ⟨al, h1, h2⟩ := h; exact ⟨al, h1, fun k => (h2 k).trans (e k)⟩
theorem yP {x y : Operand} {t kt et ty r : Nat} {enc : K → Value} {val : V → Value} {f : K → Option V} {ob : Obj} {S : Obj → Res} {z : V} {q : K} [ht : jf P t kt et] [hz : TyZero P et (val z)] [hk : KeyOf P kt enc]
    (hx : opv E x = some (.map (some r))) (hy : opv E y = some (enc q)) [ha : At L r ob S] (ho : MapF enc val f ob) :
    Op1 P N w0 E L (.lookup t x y false) ty (val ((f q).getD z)) L := by
  obtain ⟨al, h1, h2⟩ := ho
  have := op_lookup (P := P) (N := N) (w0 := w0) (E := E) (ty := ty) (ht := ht) (hz := hz) (hk := hk) hx hy (ha := ha) h1
  rw [h2 q] at this
  cases h : f q <;> simpa [h] using this
theorem ye {x y : Operand} {t kt et ty r : Nat} {enc : K → Value} {val : V → Value} {f : K → Option V} {ob : Obj} {S : Obj → Res} {z : V} {q : K} [ht : jf P t kt et] [hz : TyZero P et (val z)] [hk : KeyOf P kt enc]
    (hx : opv E x = some (.map (some r))) (hy : opv E y = some (enc q)) [ha : At L r ob S] (ho : MapF enc val f ob) :
    Op1 P N w0 E L (.lookup t x y true) ty (.tuple [val ((f q).getD z), .bool (f q).isSome].toArray) L := by
  obtain ⟨al, h1, h2⟩ := ho
  have := op_lookup2 (P := P) (N := N) (w0 := w0) (E := E) (ty := ty) (ht := ht) (hz := hz) (hk := hk) hx hy (ha := ha) h1
  rw [h2 q] at this
  cases h : f q <;> simpa [h] using this
theorem zL {x y z : Operand} {t kt et ty r : Nat} {enc : K → Value} {val : V → Value} {f : K → Option V} {ob : Obj} {S : Obj → Res} {q : K} {v : V} [ht : jf P t kt et] [hk : KeyOf P kt enc]
    (hx : opv E x = some (.map (some r))) (hy : opv E y = some (enc q)) (hv : opv E z = some (val v)) [ha : At L r ob S] (ho : MapF enc val f ob) :
    OpT P N w0 E L (.mapUpdate t x y z) ty (fun _ L' => ∃ ob', MapF enc val (upd f q (some v)) ob' ∧ L' = S ob') := by
  obtain ⟨al, h1, h2⟩ := ho
  refine OpT.mono (op_mapUpdate hx hy hv (ha := ha) h1) (fun _ L' h => ?_)
  obtain ⟨ob', h3, h4⟩ := h
  exact ⟨ob', ⟨_, h3, fun k => by rw [yl, h2]; rfl⟩, h4⟩
theorem xC {x y z : Operand} {t kt et ty r : Nat} {enc : K → Value} {val : V → Value} {f : K → Option V} {ob : Obj} {S : Obj → Res} {q : K} {v : V} [ht : jf P t kt et] [hk : KeyOf P kt enc]
    (hx : opv E x = some (.map (some r))) (hy : opv E y = some (enc q)) (hv : opv E z = some (val v)) [ha : At L r ob S] (ho : MapF enc val f ob) :
    OpT P N w0 E L (.insert t x y z) ty (fun _ L' => ∃ ob', MapF enc val (upd f q (some v)) ob' ∧ L' = S ob') := by
  obtain ⟨al, h1, h2⟩ := ho
  refine OpT.mono (op_insert hx hy hv (ha := ha) h1) (fun _ L' h => ?_)
  obtain ⟨ob', h3, h4⟩ := h
  exact ⟨ob', ⟨_, h3, fun k => by rw [yl, h2]; rfl⟩, h4⟩
theorem xD {x y : Operand} {t t' kt et ty r : Nat} {enc : K → Value} {val : V → Value} {f : K → Option V} {ob : Obj} {S : Obj → Res} {q : K} [ht : jf P t kt et] [hk : KeyOf P kt enc]
    (hx : opv E x = some (.map (some r))) (hy : opv E y = some (enc q)) [ha : At L r ob S] (ho : MapF enc val f ob) :
    OpT P N w0 E L (.call ⟨.builtin .delete, #[x, y], #[t, t']⟩) ty (fun _ L' => ∃ ob', MapF enc val (upd f q none) ob' ∧ L' = S ob') := by
  obtain ⟨al, h1, h2⟩ := ho
  refine OpT.mono (op_delete hx hy (ha := ha) h1) (fun _ L' h => ?_)
  obtain ⟨ob', h3, h4⟩ := h
  exact ⟨ob', ⟨_, h3, fun k => by rw [alGet_del h1.nodup, h2]; rfl⟩, h4⟩
theorem IterOk.nodup {m n : Nat} {mo o : Obj} {vis : List Nat} (h : IterOk m mo n vis o) : vis.Nodup := by obtain ⟨_, _, _, _, h, _⟩ := h; exact h
theorem IterOk.lt {m n : Nat} {mo o : Obj} {vis : List Nat} (h : IterOk m mo n vis o) : ∀ i ∈ vis, i < n := by obtain ⟨_, _, _, _, _, h, _⟩ := h; exact h
theorem IterOk.full {m n : Nat} {mo o : Obj} {vis : List Nat} (h : IterOk m mo n vis o) (hl : vis.length = n) : ∀ i, i < n → i ∈ vis := fun i hi => by
  apply Classical.byContradiction
  intro hni
  have h1 : (i :: vis).Nodup := List.nodup_cons.2 ⟨hni, h.nodup⟩
  have h2 := yR (l2 := List.range n) h1 (fun x hx => by
    rcases List.mem_cons.1 hx with rfl | hx
    · exact List.mem_range.2 hi
    · exact List.mem_range.2 (h.lt x hx))
  simp at h2; omega
def kc {K V : Type} (al : List (K × V)) (vis : List Nat) (k : K) : Prop := ∃ i ∈ vis, ∃ v, al[i]? = some (k, v)
theorem WU {K V : Type} {al : List (K × V)} {k : K} : ¬ kc al [] k := fun ⟨_, h, _⟩ => by cases h
theorem k9 {K V : Type} {al : List (K × V)} {vis : List Nat} {i : Nat} {p : K × V} (hp : al[i]? = some p) (k : K) : kc al (vis ++ [i]) k ↔ kc al vis k ∨ k = p.1 := by
  constructor
  · rintro ⟨j, hj, v, hv⟩
    rcases List.mem_append.1 hj with hj | hj
    · exact .inl ⟨j, hj, v, hv⟩
    · obtain rfl := List.mem_singleton.1 hj
      rw [hp] at hv; cases hv; exact .inr rfl
  · rintro (⟨j, hj, v, hv⟩ | rfl)
    · exact ⟨j, List.mem_append_left _ hj, v, hv⟩
    · exact ⟨i, by simp, p.2, hp⟩
theorem QZ {al : List (K × V)} {m : Nat} {mo o : Obj} {vis : List Nat} (h : IterOk m mo al.length vis o) (hl : vis.length = al.length) (k : K) : kc al vis k ↔ ∃ v, yA al k = some v := by
  constructor
  · rintro ⟨i, _, v, hv⟩
    cases hg : yA al k with
    | some v => exact ⟨v, rfl⟩
    | none =>
      rw [Q8] at hg
      exact absurd (List.mem_map.2 ⟨_, List.mem_of_getElem? hv, rfl⟩) hg
  · rintro ⟨v, hv⟩
    obtain ⟨i, hi, e⟩ := List.mem_iff_getElem.1 (Jc hv)
    exact ⟨i, h.full hl i hi, v, by rw [List.getElem?_eq_getElem hi, e]⟩
theorem FnT.post {f : FuncId} {args : Array Value} {R R' : Value → Res → Prop} (h : FnT P w0 f args L R) (hR : ∀ v L', R v L' → ∃ L'', R' v L'' ∧ ∀ w, Own w0 L' w → Own w0 L'' w) : FnT P w0 f args L R' :=
  ⟨fun w hw => (h.h w hw).mono fun e w' ⟨v, L', e1, hr, ho⟩ => by
    obtain ⟨L'', h1, h2⟩ := hR v L' hr
    exact ⟨v, L'', e1, h1, h2 _ ho⟩⟩
theorem wZ {L L' : Res} (h : L.flatten = L'.flatten) : ∀ w, Own w0 L w → Own w0 L' w := fun _ hw => hw.perm (by rw [h])
end
end Go.Sx
namespace Go.Proofs.YtjikpomndbkfgaaGreatDoor
open Go Go.Sx Go.Nd
set_option maxRecDepth 10000
section
variable {w0 : World} {L F : Res}
structure NS where
  num : Int
  ver : Int
  kind : Int
  size : Int
  time : Int
  at_ : Int × Int → Option Int
  data : Int → Option Sec
  stale : Int × Int → Option Int
  gone : List Int
def jE (s : Sec) : Value := .agg (wt s).toArray
def zO (n : NS) (ma md ms : Nat) (u : Value) : List Value := [.int .u32 n.num, .int .u32 n.ver, .int .i64 n.kind, .int .i64 n.size, .int .u32 n.time, .map (some ma), .map (some md), .map (some ms), u]
def NodeC (p : Nat) (n : NS) (Cn : qV) : Prop := ∃ ma md ms oa od os u C, Cn = (p, .cells (zO n ma md ms u).toArray 90 (0, 0)) :: (ma, oa) :: (md, od) :: (ms, os) :: C ∧
  MapF yN (Value.int .i64) n.at_ oa ∧ MapF (Value.int .i64) jE n.data od ∧ MapF yN (Value.int .i64) n.stale os ∧ SlC 3 1 u n.gone.length (iV n.gone) C
def Wm (p : Nat) (n : NS) (Cn : qV) : Prop := ∃ ma md ms oa od os u C, Cn = (p, .cells (zO n ma md ms u).toArray 90 (0, 0)) :: (ma, oa) :: (md, od) :: (ms, os) :: C ∧
  MapF yN (Value.int .i64) n.at_ oa ∧ MapF (Value.int .i64) jE n.data od ∧ MapF yN (Value.int .i64) n.stale os
theorem JF {p : Nat} {n : NS} {Cn : qV} (h : NodeC p n Cn) : Wm p n Cn := by
  obtain ⟨ma, md, ms, oa, od, os, u, C, e, h1, h2, h3, _⟩ := h
  exact ⟨ma, md, ms, oa, od, os, u, C, e, h1, h2, h3⟩
def kj (G : qV) : Prop := ∃ e0 f0 e1 f1 e2 f2, G = [(0, .cells [Value.int .i64 2, Value.int .i64 0].toArray e0 f0), (1, .cells [Value.int .i64 4, Value.int .i64 0].toArray e1 f1), (2, .cells [Value.int .i64 3, Value.int .i64 0].toArray e2 f2)]
def kk (p : Nat) (n : NS) (ma md ms : Nat) (oa od os : Obj) (u : Value) (C : qV) (F : Res) : Res :=
  [(p, .cells (zO n ma md ms u).toArray 90 (0, 0))] :: [(ma, oa)] :: [(md, od)] :: [(ms, os)] :: C :: F
structure Ku (n : NS) (oa od os : Obj) (u : Value) (C : qV) : Prop where
  a : MapF yN (Value.int .i64) n.at_ oa
  d : MapF (Value.int .i64) jE n.data od
  s : MapF yN (Value.int .i64) n.stale os
  g : SlC 3 1 u n.gone.length (iV n.gone) C
structure Vw (n : NS) (oa od os : Obj) : Prop where
  a : MapF yN (Value.int .i64) n.at_ oa
  d : MapF (Value.int .i64) jE n.data od
  s : MapF yN (Value.int .i64) n.stale os
def NodeO (p : Nat) (n : NS) (F L' : Res) : Prop := ∃ ma md ms oa od os u C, Ku n oa od os u C ∧ L' = kk p n ma md ms oa od os u C F
def Q3 (e0 : Nat) (f0 : Nat × Nat) (e1 : Nat) (f1 : Nat × Nat) (e2 : Nat) (f2 : Nat × Nat) (F : Res) : Res :=
  [(0, .cells [Value.int .i64 2, Value.int .i64 0].toArray e0 f0)] :: [(1, .cells [Value.int .i64 4, Value.int .i64 0].toArray e1 f1)] :: [(2, .cells [Value.int .i64 3, Value.int .i64 0].toArray e2 f2)] :: F
theorem NodeO.shut {p : Nat} {n : NS} {F L' : Res} (h : NodeO p n F L') : ∃ Cn, NodeC p n Cn ∧ ∀ w, Own w0 L' w → Own w0 (Cn :: F) w := by
  obtain ⟨ma, md, ms, oa, od, os, u, C, hm, rfl⟩ := h
  exact ⟨_, ⟨ma, md, ms, oa, od, os, u, C, rfl, hm.a, hm.d, hm.s, hm.g⟩, wZ (by simp [kk])⟩
section
variable {p : Nat} {n : NS} {Cn : qV} {f : FuncId} {args : Array Value}
theorem JE {R : Value → Res → Prop} (hn : NodeC p n Cn)
    (h : ∀ ma md ms oa od os u C, Ku n oa od os u C → FnT Tryz.prog w0 f args (kk p n ma md ms oa od os u C F) R) : FnT Tryz.prog w0 f args (Cn :: F) R := by
  obtain ⟨ma, md, ms, oa, od, os, u, C, rfl, h1, h2, h3, h4⟩ := hn
  exact (h ma md ms oa od os u C ⟨h1, h2, h3, h4⟩).pre (wZ (by simp [kk]))
theorem Y8 {Rv : Value → Prop} (hn : NodeC p n Cn)
    (h : ∀ ma md ms oa od os u C, Ku n oa od os u C → FnT Tryz.prog w0 f args (kk p n ma md ms oa od os u C F) (fun v L' => Rv v ∧ L' = kk p n ma md ms oa od os u C F)) : FnT Tryz.prog w0 f args (Cn :: F) (fun v L' => Rv v ∧ L' = Cn :: F) := by
  obtain ⟨ma, md, ms, oa, od, os, u, C, rfl, h1, h2, h3, h4⟩ := hn
  exact ((h ma md ms oa od os u C ⟨h1, h2, h3, h4⟩).pre (wZ (by simp [kk]))).post fun v L' ⟨e1, e2⟩ => ⟨_, ⟨e1, rfl⟩, by subst e2; exact wZ (by simp [kk])⟩
theorem KK {Rv : Value → Prop} (hn : Wm p n Cn)
    (h : ∀ ma md ms oa od os u C, Vw n oa od os → FnT Tryz.prog w0 f args (kk p n ma md ms oa od os u C F) (fun v L' => Rv v ∧ L' = kk p n ma md ms oa od os u C F)) : FnT Tryz.prog w0 f args (Cn :: F) (fun v L' => Rv v ∧ L' = Cn :: F) := by
  obtain ⟨ma, md, ms, oa, od, os, u, C, rfl, h1, h2, h3⟩ := hn
  exact ((h ma md ms oa od os u C ⟨h1, h2, h3⟩).pre (wZ (by simp [kk]))).post fun v L' ⟨e1, e2⟩ => ⟨_, ⟨e1, rfl⟩, by subst e2; exact wZ (by simp [kk])⟩
theorem nodeg_read0 {G : qV} {Rv : Value → Prop} (hn : Wm p n Cn) (hg : kj G)
    (h : ∀ ma md ms oa od os u C e0 f0 e1 f1 e2 f2, Vw n oa od os → FnT Tryz.prog w0 f args (kk p n ma md ms oa od os u C (Q3 e0 f0 e1 f1 e2 f2 F)) (fun v L' => Rv v ∧ L' = kk p n ma md ms oa od os u C (Q3 e0 f0 e1 f1 e2 f2 F))) : FnT Tryz.prog w0 f args (Cn :: G :: F) (fun v L' => Rv v ∧ L' = Cn :: G :: F) := by
  obtain ⟨ma, md, ms, oa, od, os, u, C, rfl, h1, h2, h3⟩ := hn
  obtain ⟨e0, f0, e1, f1, e2, f2, rfl⟩ := hg
  exact ((h ma md ms oa od os u C e0 f0 e1 f1 e2 f2 ⟨h1, h2, h3⟩).pre (wZ (by simp [kk, Q3]))).post fun v L' ⟨e1, e2⟩ => ⟨_, ⟨e1, rfl⟩, by subst e2; exact wZ (by simp [kk, Q3])⟩
theorem glob_read {G : qV} {Rv : Value → Prop} (hg : kj G)
    (h : ∀ e0 f0 e1 f1 e2 f2, FnT Tryz.prog w0 f args (Q3 e0 f0 e1 f1 e2 f2 F) (fun v L' => Rv v ∧ L' = Q3 e0 f0 e1 f1 e2 f2 F)) : FnT Tryz.prog w0 f args (G :: F) (fun v L' => Rv v ∧ L' = G :: F) := by
  obtain ⟨e0, f0, e1, f1, e2, f2, rfl⟩ := hg
  exact ((h e0 f0 e1 f1 e2 f2).pre (wZ (by simp [Q3]))).post fun v L' ⟨e1, e2⟩ => ⟨_, ⟨e1, rfl⟩, by subst e2; exact wZ (by simp [Q3])⟩
theorem node_change {n' : NS} {Rv : Value → Prop} (hn : NodeC p n Cn)
    (h : ∀ ma md ms oa od os u C, Ku n oa od os u C → FnT Tryz.prog w0 f args (kk p n ma md ms oa od os u C F) (fun v L' => Rv v ∧ NodeO p n' F L')) : FnT Tryz.prog w0 f args (Cn :: F) (fun v L' => Rv v ∧ ∃ Cn', NodeC p n' Cn' ∧ L' = Cn' :: F) := by
  refine (JE hn h).post fun v L' ⟨e1, e2⟩ => ?_
  obtain ⟨Cn', h1, h2⟩ := e2.shut (w0 := w0)
  exact ⟨_, ⟨e1, Cn', h1, rfl⟩, h2⟩
theorem nodeg_change {G : qV} {n' : NS} {Rv : Value → Prop} (hn : NodeC p n Cn) (hg : kj G)
    (h : ∀ ma md ms oa od os u C e0 f0 e1 f1 e2 f2, Ku n oa od os u C → FnT Tryz.prog w0 f args (kk p n ma md ms oa od os u C (Q3 e0 f0 e1 f1 e2 f2 F)) (fun v L' => Rv v ∧ NodeO p n' (Q3 e0 f0 e1 f1 e2 f2 F) L')) : FnT Tryz.prog w0 f args (Cn :: G :: F) (fun v L' => Rv v ∧ ∃ Cn', NodeC p n' Cn' ∧ L' = Cn' :: G :: F) := by
  obtain ⟨e0, f0, e1, f1, e2, f2, rfl⟩ := hg
  refine ((JE hn fun ma md ms oa od os u C hm => h ma md ms oa od os u C e0 f0 e1 f1 e2 f2 hm).pre (wZ (by simp [Q3]))).post fun v L' ⟨e1, e2⟩ => ?_
  obtain ⟨Cn', h1, h2⟩ := e2.shut (w0 := w0)
  exact ⟨_, ⟨e1, Cn', h1, rfl⟩, fun w hw => (wZ (by simp [Q3])) w (h2 w hw)⟩
end
theorem size_ok (p : Nat) (n : NS) (Cn : qV) (hn : NodeC p n Cn) : FnT Tryz.prog w0 10 #[.pointer (some ⟨p, 0, none⟩)] (Cn :: F) (fun v L' => v = .int .i64 n.size ∧ L' = Cn :: F) := by
  refine Y8 hn ?_
  intro ma md ms oa od os u C hm
  unfold kk zO
  refine qi (E0 := [(0, _)]) (N := 7) Tryz.func10 rfl rfl rfl rfl ?_
  refine qO <| qE rfl <| qm <| qA rfl <| q9 (qQ rfl) <| q9 (qB rfl) <| q9 (qI rfl rfl) <| qE rfl <| qF <| qy <| zq (.inl rfl) rfl (qu rfl) ?_
  exact ⟨rfl, rfl⟩
def ww (i : Int) : Int × Int := if (wG i).1 = 1 then (3, 0) else if (wG i).1 = 2 then (5, (wG i).2.1) else (2, 0)
theorem Zx (i : Int) (G : qV) (hg : kj G) (hi : -9223372036854775808 ≤ i ∧ i ≤ 9223372036854775807) : FnT Tryz.prog w0 70 #[.int .i64 i] (G :: F) (fun v L' => v = yN (ww i) ∧ L' = G :: F) := by
  refine glob_read hg ?_
  intro e0 f0 e1 f1 e2 f2
  unfold Q3
  refine qi (E0 := [(0, _)]) (N := 21) Tryz.func70 rfl rfl rfl rfl ?_
  refine qO <| qG (qj) ?_
  rintro t2 _ ⟨b2, rfl, rfl⟩
  refine qF <| qN <| qO <| qA rfl <| q9 (wM rfl (VO i hi)) <| qA rfl <| q9 (qf rfl rfl) <| q9 (qf rfl rfl) <| qG (qj) ?_
  rintro t3 _ ⟨b3, rfl, rfl⟩
  refine qR (wc rfl rfl rfl rfl) <| qE rfl <| qm <| q9 (qB rfl) <| q9 (qI rfl rfl) <| qF <| qg <| qO <| q9 (wn rfl rfl) <| qE rfl <| qF <| qM rfl (fun hc3 => ?_) (fun hc3 => ?_)
  ·
   refine qO <| q9 (wW rfl) <| qR (wc rfl rfl rfl rfl) <| qF <| qy <| wH <| qv <| wC ([(0, .cells [Value.int .i64 2, Value.int .i64 0].toArray e0 f0)] :: [(1, .cells [Value.int .i64 4, Value.int .i64 0].toArray e1 f1)] :: [(2, .cells [Value.int .i64 3, Value.int .i64 0].toArray e2 f2)] :: F) (.inl rfl) rfl (zU rfl) ?_
   exact ⟨by unfold ww; rw [if_pos hc3]; rfl, rfl⟩
  ·
   refine qO <| q9 (wn rfl rfl) <| qE rfl <| qF <| qM rfl (fun hc5 => ?_) (fun hc5 => ?_)
   ·
    refine qO <| q9 (qB rfl) <| q9 (qI rfl rfl) <| q9 (wX rfl) <| qR (wc rfl rfl rfl rfl) <| qF <| qy <| wH <| qv <| wC ([(0, .cells [Value.int .i64 2, Value.int .i64 0].toArray e0 f0)] :: [(1, .cells [Value.int .i64 4, Value.int .i64 0].toArray e1 f1)] :: [(2, .cells [Value.int .i64 3, Value.int .i64 0].toArray e2 f2)] :: F) (.inl rfl) rfl (zU rfl) ?_
    exact ⟨by unfold ww; rw [if_neg hc3, if_pos hc5]; rfl, rfl⟩
   ·
    refine qZ <| qe <| qJ <| qO <| q9 (wW rfl) <| qR (wc rfl rfl rfl rfl) <| qF <| qy <| wC ([(0, .cells [Value.int .i64 2, Value.int .i64 0].toArray e0 f0)] :: [(1, .cells [Value.int .i64 4, Value.int .i64 0].toArray e1 f1)] :: [(2, .cells [Value.int .i64 3, Value.int .i64 0].toArray e2 f2)] :: F) (.inl rfl) rfl (zU rfl) ?_
    exact ⟨by unfold ww; rw [if_neg hc3, if_neg hc5]; rfl, rfl⟩
def blk (n : NS) (g : Int → Option Sec) (i : Int) : Option Sec :=
  match n.data i with
  | some s => some s
  | none => if (n.at_ (1, i)).getD 0 ≠ 0 then g ((n.at_ (1, i)).getD 0) else some Sec.zero
def x8 (n : NS) (i : Int) : Prop := (n.data i).isSome = true ∨ (n.at_ (1, i)).getD 0 ≠ 0
instance (n : NS) (i : Int) : Decidable (x8 n i) := by unfold x8; infer_instance
theorem has_spec (p : Nat) (n : NS) (Cn : qV) (hn : NodeC p n Cn) (i : Int) : FnT Tryz.prog w0 41 #[.pointer (some ⟨p, 0, none⟩), .int .i64 i] (Cn :: F) (fun v L' => v = .bool (decide (x8 n i)) ∧ L' = Cn :: F) := by
  refine Y8 hn ?_
  intro ma md ms oa od os u C hm
  unfold kk zO
  refine qi (E0 := [(0, _), (1, _)]) (N := 27) Tryz.func41 rfl rfl rfl rfl ?_
  refine qO <| qE rfl <| qm <| qA rfl <| q9 (qQ rfl) <| q9 (qB rfl) <| q9 (qI rfl rfl) <| qA rfl <| q9 (ye (z := Sec.zero) (q := i) rfl rfl hm.d) <| qA rfl <| q9 (qf rfl rfl) <| q9 (qf rfl rfl) <| qG (qj) ?_
  rintro t5 _ ⟨b5, rfl, rfl⟩
  refine qR (qo rfl rfl (by simp) (by simp) (wl _)) ?_
  refine qE rfl <| qm <| qA rfl <| qA rfl <| zy (s := 17) rfl (fun hg2_1 => ?_) (fun hg2_1 => ?_)
  ·
   refine qL rfl rfl rfl <| qL rfl rfl rfl <| qL rfl rfl rfl <| qL rfl rfl rfl <| qL rfl rfl rfl <| qL rfl rfl rfl <| qL rfl rfl rfl <| qL rfl rfl rfl <| q9 (qq rfl rfl) <| qE rfl <| qF <| qy <| wC ([(p, .cells [.int .u32 n.num, .int .u32 n.ver, .int .i64 n.kind, .int .i64 n.size, .int .u32 n.time, .map (some ma), .map (some md), .map (some ms), u].toArray 90 (0, 0))] :: [(ma, oa)] :: [(md, od)] :: [(ms, os)] :: C :: F) (.inl rfl) rfl (qu rfl) <| ⟨?_, rfl⟩
   first | (rw [decide_eq_true (show x8 n i from .inl hg2_1)]) | (congr 1; simp [x8, hg2_1])
  ·
   refine qD rfl rfl (qP rfl) <| qD rfl rfl (qQ rfl) <| qD rfl rfl (qB rfl) <| qD rfl rfl (qI rfl rfl) <| qD rfl rfl (qP rfl) <| qD rfl rfl (wX rfl) <| qD rfl rfl (yP (z := 0) (q := (1, i)) rfl rfl hm.a) <| qD rfl rfl (zE rfl rfl) <| q9 (qU rfl rfl) <| qE rfl <| qF <| qy <| wC ([(p, .cells [.int .u32 n.num, .int .u32 n.ver, .int .i64 n.kind, .int .i64 n.size, .int .u32 n.time, .map (some ma), .map (some md), .map (some ms), u].toArray 90 (0, 0))] :: [(ma, oa)] :: [(md, od)] :: [(ms, os)] :: C :: F) (.inl rfl) rfl (qu rfl) <| ⟨?_, rfl⟩
   first | (rw [decide_eq_true (show x8 n i from .inl hg2_1)]) | (congr 1; simp [x8, hg2_1])
def Ks (rv : Value) (D : qV) (g : Int → Option Sec) : Prop := ∀ (w0 : World) (F : Res) (a : Int), FnV Tryz.prog w0 rv [.int .i64 a] (D :: F) (fun v L' => v = .tuple #[jE ((g a).getD Sec.zero), .int .i64 (if (g a).isSome then 0 else 20)] ∧ L' = D :: F)
theorem Y0 {P : Program} {w0 : World} {L F : Res} {g : Value} {vs : List Value} {v : Value} (c1 : qV) [ht : Take L [c1] F] (h : FnV P w0 g vs (c1 :: F) (fun v' L' => v' = v ∧ L' = c1 :: F)) : FnV P w0 g vs L (fun v' L' => v' = v ∧ L' = L) := by
  obtain ⟨f, first, captured, e1, e2, e3⟩ := h.ex
  exact ⟨f, first, captured, e1, e2, zk c1 e3⟩
theorem Xp {n : NS} {g : Int → Option Sec} {i : Int} {s : Sec} (h : n.data i = some s) : blk n g i = some s := by unfold blk; rw [h]
theorem Xq {n : NS} {g : Int → Option Sec} {i : Int} (h : n.data i = none) (h1 : (n.at_ (1, i)).getD 0 ≠ 0) : blk n g i = g ((n.at_ (1, i)).getD 0) := by unfold blk; rw [h]; exact if_pos h1
theorem Xr {n : NS} {g : Int → Option Sec} {i : Int} (h : n.data i = none) (h1 : ¬ (n.at_ (1, i)).getD 0 ≠ 0) : blk n g i = some Sec.zero := by unfold blk; rw [h]; exact if_neg h1
theorem Kj (p : Nat) (n : NS) (Cn D : qV) (hn : NodeC p n Cn) (i : Int) (rv : Value) (g : Int → Option Sec) (hr : Ks rv D g) :
    FnT Tryz.prog w0 38 #[.pointer (some ⟨p, 0, none⟩), .int .i64 i, rv] (Cn :: D :: F) (fun v L' => v = .tuple #[jE ((blk n g i).getD Sec.zero), .int .i64 (if (blk n g i).isSome then 0 else 20)] ∧ L' = Cn :: D :: F) := by
  refine Y8 (F := D :: F) (Rv := fun v => v = .tuple #[jE ((blk n g i).getD Sec.zero), .int .i64 (if (blk n g i).isSome then 0 else 20)]) hn ?_
  intro ma md ms oa od os u C hm
  unfold kk zO
  refine qi (E0 := [(0, _), (1, _), (2, _)]) (N := 37) Tryz.func38 rfl rfl rfl rfl ?_
  refine qO <| qG (qj) ?_
  rintro t6 _ ⟨b6, rfl, rfl⟩
  refine qE rfl <| qF <| qN <| qO <| qA rfl <| q9 (qQ rfl) <| q9 (qB rfl) <| q9 (qI rfl rfl) <| qA rfl <| q9 (ye (z := Sec.zero) (q := i) rfl rfl hm.d) <| qA rfl <| q9 (qf rfl rfl) <| q9 (qf rfl rfl) <| qG (qj) ?_
  rintro t8 _ ⟨b8, rfl, rfl⟩
  refine qR (qo rfl rfl (by simp) (by simp) (wl _)) ?_
  refine qE rfl <| qm <| qA rfl <| qF <| yB rfl (fun hc2 => ?_) (fun hc2 => ?_)
  ·
   refine qO <| q9 (wQ rfl (by simp)) ?_
   refine qR (qo rfl rfl (by simp) (by simp) (wl _)) ?_
   refine qE rfl <| qF <| qy <| qv <| wU ([(p, .cells [.int .u32 n.num, .int .u32 n.ver, .int .i64 n.kind, .int .i64 n.size, .int .u32 n.time, .map (some ma), .map (some md), .map (some ms), u].toArray 90 (0, 0))] :: [(ma, oa)] :: [(md, od)] :: [(ms, os)] :: C :: D :: F) (.inl rfl) rfl (zR rfl (by first | exact zZ _ | simp)) (qu rfl) ?_
   obtain ⟨s, hs⟩ := Option.isSome_iff_exists.1 hc2
   exact ⟨by rw [Xp hs, hs]; rfl, rfl⟩
  ·
   refine qZ <| qJ <| qN <| qO <| qA rfl <| q9 (qQ rfl) <| q9 (qB rfl) <| q9 (qI rfl rfl) <| qA rfl <| q9 (wX rfl) <| q9 (yP (z := 0) (q := (1, i)) rfl rfl hm.a) <| qE rfl <| qm <| qA rfl <| q9 (zE rfl rfl) <| qF <| qM rfl (fun hc5 => ?_) (fun hc5 => ?_)
   ·
    refine qO <| qA rfl <| qA rfl <| q9 (kP rfl rfl (Y0 D (hr w0 _ _))) <| q9 (qf rfl rfl) <| q9 (qf rfl rfl) <| qR (qo rfl rfl (by simp) (by simp) (wl _)) ?_
    refine qE rfl <| qF <| qy <| qv <| wU ([(p, .cells [.int .u32 n.num, .int .u32 n.ver, .int .i64 n.kind, .int .i64 n.size, .int .u32 n.time, .map (some ma), .map (some md), .map (some ms), u].toArray 90 (0, 0))] :: [(ma, oa)] :: [(md, od)] :: [(ms, os)] :: C :: D :: F) (.inl rfl) rfl (zR rfl (by first | exact zZ _ | simp)) (qu rfl) ?_
    have h0 : n.data i = none := by simpa using hc2
    exact ⟨by rw [Xq h0 hc5]; rfl, rfl⟩
   ·
    refine qZ <| qJ <| qO <| q9 (kI (z := jE Sec.zero) rfl Tryz.underlying55 rfl (fun _ h => by cases h) (fun _ _ h => by cases h; exact ⟨_, inferInstance⟩)) ?_
    refine qR (qo rfl rfl (by simp) (by simp) (wl _)) ?_
    refine qE rfl <| qF <| qy <| wU ([(p, .cells [.int .u32 n.num, .int .u32 n.ver, .int .i64 n.kind, .int .i64 n.size, .int .u32 n.time, .map (some ma), .map (some md), .map (some ms), u].toArray 90 (0, 0))] :: [(ma, oa)] :: [(md, od)] :: [(ms, os)] :: C :: D :: F) (.inl rfl) rfl (zR rfl (by first | exact zZ _ | simp)) (qu rfl) ?_
    have h0 : n.data i = none := by simpa using hc2
    exact ⟨by rw [Xr h0 hc5]; rfl, rfl⟩
theorem NodeC.eq {p : Nat} {n : NS} {Cn : qV} (h : NodeC p n Cn) : ∃ ma md ms oa od os u C, Ku n oa od os u C ∧ Cn = (p, .cells (zO n ma md ms u).toArray 90 (0, 0)) :: (ma, oa) :: (md, od) :: (ms, os) :: C := by
  obtain ⟨ma, md, ms, oa, od, os, u, C, e, h1, h2, h3, h4⟩ := h
  exact ⟨ma, md, ms, oa, od, os, u, C, ⟨h1, h2, h3, h4⟩, e⟩
def QG (n : NS) (g : Int → Option Sec) : List (Int × Int × Int) → Option (List Int)
  | [] => some []
  | q :: l => match blk n g q.1, QG n g l with
    | some s, some bs => some ((s.l.drop q.2.1.toNat).take (q.2.2 - q.2.1).toNat ++ bs)
    | _, _ => none
theorem readL_snoc {n : NS} {g : Int → Option Sec} {l : List (Int × Int × Int)} {bs : List Int} {q : Int × Int × Int} {s : Sec} (h : QG n g l = some bs) (hs : blk n g q.1 = some s) :
    QG n g (l ++ [q]) = some (bs ++ (s.l.drop q.2.1.toNat).take (q.2.2 - q.2.1).toNat) := by
  induction l generalizing bs with
  | nil => cases h; simp [QG, hs]
  | cons x l ih =>
    simp only [QG, List.cons_append] at h ⊢
    cases hb : blk n g x.1 with
    | none => rw [hb] at h; cases h
    | some t =>
      cases hl : QG n g l with
      | none => rw [hb, hl] at h; cases h
      | some cs =>
        rw [hb, hl] at h
        cases h
        rw [ih hl]
        simp
theorem readL_none {n : NS} {g : Int → Option Sec} {l : List (Int × Int × Int)} {q : Int × Int × Int} (h : q ∈ l) (hs : blk n g q.1 = none) : QG n g l = none := by
  induction l with
  | nil => cases h
  | cons x l ih =>
    simp only [QG]
    rcases List.mem_cons.1 h with rfl | h
    · rw [hs]
    · rw [ih h]; cases blk n g x.1 <;> rfl
theorem sec_take (s : Sec) {a b : Nat} (h1 : a ≤ b) (h2 : b ≤ 128) : ((wt s).drop a).take (b - a) = u8s ((s.l.drop a).take (b - a)) := by
  simp [wt, WV, xL]
theorem ZE {p : Nat} (a b : Nat) (h : a < 128) : Value.slice (some (if 128 = a then (⟨p, 0, none⟩ : Addr) else ⟨p, 0 + a * 1, none⟩)) (b - a) (128 - a) = .slice (some ⟨p, a, none⟩) (b - a) (128 - a) := by
  rw [if_neg (by omega)]; simp
theorem read_node_ok (p : Nat) (n : NS) (Cn D : qV) (hn : NodeC p n Cn) (a m : Int) (rv : Value) (g : Int → Option Sec) (hr : Ks rv D g) (hsz : 0 ≤ n.size ∧ n.size ≤ 136192) (ha : 0 ≤ a ∧ a ≤ 9223372036854775807) (hm : 0 ≤ m ∧ m ≤ 9223372036854775807) :
    FnT Tryz.prog w0 9 #[.pointer (some ⟨p, 0, none⟩), .int .i64 a, .int .i64 m, rv] (Cn :: D :: F)
      (fun v L' => ∃ u2 C2, L' = C2 :: Cn :: D :: F ∧ (match QG n g (ku (min a n.size) (min m (n.size - min a n.size))) with
        | some bs => v = .tuple #[u2, .int .i64 0] ∧ SlC 5 1 u2 bs.length (u8s bs) C2
        | none => v = .tuple #[.slice none 0 0, .int .i64 20] ∧ C2 = [])) := by
  obtain ⟨ma, md, ms, oa, od, os, u, C, hM, hCn⟩ := hn.eq
  unfold zO at hCn
  have hE : kv (min a n.size) (min m (n.size - min a n.size)) = 0 := by unfold kv; rw [if_neg (by omega), if_neg (by omega)]
  obtain ⟨l, hl⟩ : ∃ l, ku (min a n.size) (min m (n.size - min a n.size)) = l := ⟨_, rfl⟩
  have hll := Kb (min a n.size) (min m (n.size - min a n.size))
  rw [hl] at hll ⊢
  refine qi (E0 := [(0, _), (1, _), (2, _), (3, _)]) (N := 72) Tryz.func9 rfl rfl rfl rfl ?_
  refine qO <| qE rfl <| qE rfl <| qF <| qN <| qO <| qA rfl <| q9 (wJ rfl rfl) <| qA rfl <| qY (s := 19) rfl (fun hg1_2 => ?_) (fun hg1_2 => ?_)
  · (exfalso; omega)
  ·
   refine qD rfl rfl (qP rfl) <| qD rfl rfl (wJ rfl rfl) <| q9 (qU rfl rfl) <| qF <| qM rfl (fun hc1 => ?_) (fun hc1 => ?_)
   · (exfalso; omega)
   ·
    refine qZ <| qJ <| qN <| yy (wZ (L' := [(p, .cells [.int .u32 n.num, .int .u32 n.ver, .int .i64 n.kind, .int .i64 n.size, .int .u32 n.time, .map (some ma), .map (some md), .map (some ms), u].toArray 90 (0, 0))] :: [(ma, oa)] :: [(md, od)] :: [(ms, os)] :: C :: D :: F) (by rw [hCn]; simp)) ?_
    refine wT wB <| wD [(24, .pure _), (25, .pure _), (26, .pure _), (27, .pure _), (28, .pure _), (29, .pure _), (30, .pure _), (31, .pure _), (32, .pure _), (33, .pure _), (34, .pure _), (35, .pure _), (36, .pure _), (37, .pure _), (38, .pure _), (39, .pure _), (40, .pure _), (41, .pure _), (42, .pure _)] (by kernel_rfl) rfl rfl rfl wm (qC rfl (fun X => qP rfl) <| qC rfl (fun X => qP rfl) <| qC rfl (fun X => qQ rfl) <| qC rfl (fun X => qB rfl) <| qC rfl (fun X => qI rfl rfl) <| qC rfl (fun X => KH rfl rfl) <| qC rfl (fun X => qP rfl) <| qC rfl (fun X => qP rfl) <| qC rfl (fun X => qQ rfl) <| qC rfl (fun X => qB rfl) <| qC rfl (fun X => qI rfl rfl) <| qC rfl (fun X => qP rfl) <| qC rfl (fun X => qP rfl) <| qC rfl (fun X => qQ rfl) <| qC rfl (fun X => qB rfl) <| qC rfl (fun X => qI rfl rfl) <| qC rfl (fun X => KH rfl rfl) <| qC rfl (fun X => zt rfl rfl (by omega)) <| qC rfl (fun X => KH rfl rfl) <| ParH.nil rfl) ?_
    dsimp only [ze, List.drop, List.length]
    refine z8 (by kernel_rfl) (w5 rfl (Xk (min a n.size) (min m (n.size - min a n.size)) (by omega) (by omega))) ?_
    rintro t43 _ ⟨uc, Cc, rfl, rfl, hcu⟩
    refine wE (by kernel_rfl) (qP rfl) ?_
    refine wD [(44, .pure _), (45, .pure _), (10, .pure _)] (by kernel_rfl) rfl rfl rfl wm (qC rfl (fun X => qf rfl rfl) <| qC rfl (fun X => qf rfl rfl) <| qC rfl (fun X => zS rfl) <| ParH.nil rfl) ?_
    dsimp only [ze, List.drop, List.length]
    refine wE (by kernel_rfl) (zS rfl) ?_
    refine wI ?_
    rw [hE, if_pos rfl, hl] at hcu
    refine zN (wZ (L' := Cc :: Cn :: D :: F) (by rw [hCn]; simp)) ?_
    obtain ⟨qc, cc, rfl⟩ := hcu.slice
    refine qJ <| qO <| qE rfl <| qF <| qN <| qO <| qA rfl <| q9 (w8 rfl) <| qA rfl <| qF <| qg <| wS (Γ := {pΓ : (Nat) × (Value) × (qV) × (List Int) // (fun (i : Nat) (uo : Value) (Co : qV) (bs : List Int) => i ≤ l.length ∧ QG n g (l.take i) = some bs ∧ SlC 5 1 uo bs.length (u8s bs) Co ∧ bs.length ≤ 128 * i) pΓ.1 pΓ.2.1 pΓ.2.2.1 pΓ.2.2.2}) (fun g => (fun (i : Nat) (uo : Value) (Co : qV) (bs : List Int) => [(0, .pointer (some ⟨p, 0, none⟩)), (3, rv), (12, uo), (46, .slice qc l.length cc), (47, .int .i64 l.length), (48, .int .i64 i)]) g.1.1 g.1.2.1 g.1.2.2.1 g.1.2.2.2) (fun g => (fun (i : Nat) (uo : Value) (Co : qV) (bs : List Int) => Co :: Cc :: Cn :: D :: F) g.1.1 g.1.2.1 g.1.2.2.1 g.1.2.2.2) (fun g => (fun (i : Nat) (uo : Value) (Co : qV) (bs : List Int) => l.length - i) g.1.1 g.1.2.1 g.1.2.2.1 g.1.2.2.2) ⟨(0, .slice none 0 0, [], []), by dsimp only; exact ⟨by omega, rfl, SlC.nil _ _, by simp⟩⟩ (qX _) ?_
    rintro ⟨⟨i, uo, Co, bs⟩, hloop⟩
    replace hloop : i ≤ l.length ∧ QG n g (l.take i) = some bs ∧ SlC 5 1 uo bs.length (u8s bs) Co ∧ bs.length ≤ 128 * i := hloop
    obtain ⟨hi, hrd, hsl, hbl⟩ := hloop
    show Tr _ _ _ ([(0, .pointer (some ⟨p, 0, none⟩)), (3, rv), (12, uo), (46, .slice qc l.length cc), (47, .int .i64 l.length), (48, .int .i64 i)]) (Co :: Cc :: Cn :: D :: F) _ _
    refine qO <| q9 (wJ rfl rfl) <| qF <| qN <| qM rfl (fun hc6 => ?_) (fun hc6 => ?_)
    ·
     refine qZ <| qJ <| qN <| qg <| qN ?_
     obtain ⟨q, hq⟩ : ∃ q, l[i]? = some q := ⟨_, List.getElem?_eq_getElem (by omega)⟩
     have hrg := Qk (a := min a n.size) (n := min m (n.size - min a n.size)) (by omega) (hl ▸ List.mem_of_getElem? hq)
     refine qK <| qG (yD (j := i) rfl rfl hcu (by omega) (by omega)) ?_
     rintro t50 _ ⟨b, cap, spare, hqc, rfl, hcap, hnc, rfl, rfl⟩
     refine q9 (zC (j := i) kC rfl hq rfl) <| qG (qj) ?_
     rintro t14 _ ⟨b14, rfl, rfl⟩
     refine qR (qo (l := [Value.int .i64 0, Value.int .i64 0, Value.int .i64 0]) rfl rfl rfl rfl rfl) <| qm <| qA rfl <| q9 (qB rfl) <| q9 (qI rfl rfl) <| qA rfl <| q9 (wM rfl (k6 (Cn) (D) (Kj p n Cn D hn q.1 rv g hr))) <| qA rfl <| q9 (qf rfl rfl) <| q9 (qf rfl rfl) <| qG (qj) ?_
     rintro t15 _ ⟨b15, rfl, rfl⟩
     refine qR (qo rfl rfl (by simp) (by simp) (wl _)) ?_
     refine qE rfl <| qF <| qN <| qO <| qA rfl <| q9 (zE rfl rfl) <| qF <| qM rfl (fun hc9 => ?_) (fun hc9 => ?_)
     ·
      have hb : blk n g q.1 = none := by
        cases h : blk n g q.1 with
        | none => rfl
        | some s => rw [h] at hc9; exact absurd rfl hc9
      refine qO <| qA rfl <| qE rfl <| qE rfl <| qF <| qy <| qv <| wH <| qv <| k5 <| wH <| qv <| wU ([] :: Cn :: D :: F) (.inl rfl) rfl (qu rfl) (qu rfl) ?_
      exact ⟨.slice none 0 0, [], rfl, by rw [readL_none (List.mem_of_getElem? hq) hb]; exact ⟨by rw [hb]; rfl, rfl⟩⟩
     ·
      obtain ⟨s, hb⟩ : ∃ s, blk n g q.1 = some s := by
        cases h : blk n g q.1 with
        | none => rw [h] at hc9; exact absurd (by decide) hc9
        | some s => exact ⟨s, rfl⟩
      rw [hb]
      obtain ⟨qa, hqa⟩ : ∃ qa : Nat, q.2.1 = qa := ⟨q.2.1.toNat, by omega⟩
      obtain ⟨qb, hqb⟩ : ∃ qb : Nat, q.2.2 = qb := ⟨q.2.2.toNat, by omega⟩
      refine qZ <| qJ <| qK <| qA rfl <| q9 (qB rfl) <| q9 (qI rfl (show wY (kD q) 1 = some (.int .i64 qa) by rw [← hqa]; rfl)) <| q9 (qB rfl) <| q9 (qI rfl (show wY (kD q) 2 = some (.int .i64 qb) by rw [← hqb]; rfl)) <| q9 (kW (l := qa) (h := qb) (kl := .i64) (kh := .i64) rfl rfl rfl (by omega) (by omega)) <| qG (wg (m := qb - qa) (sz := 1) rfl (by rw [← ZE qa qb (by omega)]; rfl) hsl (wk (ys := u8s ((s.l.drop qa).take (qb - qa))) inferInstance (by rw [Nat.mul_one]; exact sec_take s (by omega) (by omega)) (by simp [s.len]; omega)) (xI _) Tryz.underlying23 rfl rfl (by omega)) ?_
      rintro t69 _ ⟨C', hs', rfl⟩
      refine qE rfl <| qT <| qe <| qJ <| qK <| q9 (w9 rfl rfl (by omega)) <| qA rfl <| qT <| w6 ⟨(i + 1, t69, C', bs ++ (s.l.drop qa).take (qb - qa)), ?_⟩ ?_ ?_
      ·
       try dsimp only
       have hlen : ((s.l.drop qa).take (qb - qa)).length = qb - qa := by simp [s.len]; omega
       refine ⟨by omega, ?_, by rw [List.length_append, yi, hlen]; exact hs', by rw [List.length_append, hlen]; omega⟩
       rw [List.take_add_one, hq, Option.toList_some, readL_snoc hrd hb, hqa, hqb, show (qb - qa : Int).toNat = qb - qa from by omega, Int.toNat_natCast]
      · (try dsimp only); omega
      · (try dsimp only); exact qX _
    ·
     refine wa <| qr <| qt <| qh <| qJ <| qO <| qA rfl <| qE rfl <| qE rfl <| qF <| qy <| wU (Co :: Cn :: D :: F) (.inl rfl) rfl (qu rfl) (qu rfl) ?_
     exact ⟨uo, Co, rfl, by rw [List.take_of_length_le (by omega)] at hrd; rw [hrd]; exact ⟨rfl, hsl⟩⟩
def Kw {β : Type} (g f : Int → Option β) : Int → Option β := fun k => match g k with | some v => some v | none => f k
theorem mapsCopy_ok (md mf : Nat) (od oof : Obj) (f g : Int → Option Sec) (hd : MapF (Value.int .i64) jE f od) (hf : MapF (Value.int .i64) jE g oof) :
    FnT Tryz.prog w0 39 #[.map (some md), .map (some mf)] ([(md, od)] :: [(mf, oof)] :: F)
      (fun v L' => v = .tuple #[] ∧ ∃ od', MapF (Value.int .i64) jE (Kw g f) od' ∧ L' = [(md, od')] :: [(mf, oof)] :: F) := by
  obtain ⟨al, hal, hag⟩ := hf
  refine qi (E0 := [(0, _), (1, _)]) (N := 16) Tryz.func39 rfl rfl rfl rfl ?_
  refine qO <| qA rfl <| qG (x2 (r := mf) rfl hal) ?_
  rintro t7 _ ⟨it, io, rfl, hio, rfl⟩
  refine qF <| qg <| wS (Γ := {pΓ : (List Nat) × (Obj) × (Obj) × (Int → Option Sec) // (fun (vis : List Nat) (io : Obj) (oo : Obj) (h : Int → Option Sec) => IterOk mf oof al.length vis io ∧ MapF (Value.int .i64) jE h oo ∧ (∀ k, (kc al vis k → h k = g k) ∧ (¬ kc al vis k → h k = f k))) pΓ.1 pΓ.2.1 pΓ.2.2.1 pΓ.2.2.2}) (fun g => (fun (vis : List Nat) (io : Obj) (oo : Obj) (h : Int → Option Sec) => [(0, .map (some md)), (7, .pointer (some ⟨it, 0, none⟩))]) g.1.1 g.1.2.1 g.1.2.2.1 g.1.2.2.2) (fun g => (fun (vis : List Nat) (io : Obj) (oo : Obj) (h : Int → Option Sec) => [(it, io)] :: [(md, oo)] :: [(mf, oof)] :: F) g.1.1 g.1.2.1 g.1.2.2.1 g.1.2.2.2) (fun g => (fun (vis : List Nat) (io : Obj) (oo : Obj) (h : Int → Option Sec) => al.length - vis.length) g.1.1 g.1.2.1 g.1.2.2.1 g.1.2.2.2) ⟨([], io, od, f), by dsimp only; exact ⟨hio, hd, fun k => ⟨fun h => absurd h WU, fun _ => rfl⟩⟩⟩ (qX _) ?_
  rintro ⟨⟨vis, io, oo, h⟩, hloop⟩
  replace hloop : IterOk mf oof al.length vis io ∧ MapF (Value.int .i64) jE h oo ∧ (∀ k, (kc al vis k → h k = g k) ∧ (¬ kc al vis k → h k = f k)) := hloop
  obtain ⟨hio, hd, hk⟩ := hloop
  show Tr _ _ _ ([(0, .map (some md)), (7, .pointer (some ⟨it, 0, none⟩))]) ([(it, io)] :: [(md, oo)] :: [(mf, oof)] :: F) _ _
  refine qO <| qG (xM (r := mf) (ob := oof) (vis := vis) rfl (fun w hw => Own.get hw (inferInstance : At _ mf oof _)) hal hio) ?_
  rintro t8 _ (⟨rfl, hfin, rfl⟩ | ⟨i, q, io', rfl, hq, hni, hio', rfl⟩)
  ·
   refine q9 (qf rfl rfl) <| qF <| qN <| wV rfl <| wa <| qr <| qt <| qh <| kA ([(md, oo)] :: [(mf, oof)] :: F) (.inr rfl) rfl  <| ⟨rfl, oo, hd.congr fun k => ?_, rfl⟩
   have hsf := QZ hio hfin k
   unfold Kw
   by_cases hs : kc al vis k
   · obtain ⟨v, hv⟩ := hsf.1 hs
     rw [(hk k).1 hs, ← hag, hv]
   · rw [(hk k).2 hs]
     cases hg : g k with
     | none => rfl
     | some v => exact absurd (hsf.2 ⟨v, by rw [hag, hg]⟩) hs
  ·
   refine q9 (qf rfl rfl) <| qF <| qN <| zM rfl <| qZ <| qJ <| qg <| qO <| q9 (x4 (r := mf) (ob := oof) (vis := vis) rfl (fun w hw => Own.get hw (inferInstance : At _ mf oof _)) hal hio' hq) ?_
   refine q9 (qf rfl rfl) <| q9 (qf rfl rfl) <| qG (qj) ?_
   rintro t5 _ ⟨b5, rfl, rfl⟩
   refine qE rfl <| qR (qo rfl rfl (by simp) (by simp) (wl _)) ?_
   refine qF <| qK <| qA rfl <| qA rfl <| q9 (wQ rfl (by simp)) ?_
   refine y1 (zL (r := md) (q := q.1) (v := q.2) rfl rfl rfl hd) ?_
   rintro _ _ ⟨oo', hoo', rfl⟩
   refine qT <| qe <| w6 ⟨(vis ++ [i], io', oo', upd h q.1 (some q.2)), ?_⟩ ?_ ?_
   ·
    try dsimp only
    refine ⟨hio', hoo', fun k => ?_⟩
    rw [k9 hq]
    by_cases hkq : k = q.1
    · subst hkq
      rw [zQ]
      exact ⟨fun _ => by rw [← hag, x6 hal.nodup (List.mem_of_getElem? hq)], fun hn => absurd (.inr rfl) hn⟩
    · rw [wb _ _ hkq]
      exact ⟨fun hs => (hk k).1 (hs.resolve_right hkq), fun hn => (hk k).2 (fun hs => hn (.inl hs))⟩
   ·
    try dsimp only
    have := hio'.lt i (by simp)
    have h1 := yR (l2 := List.range al.length) hio'.nodup (fun x hx => List.mem_range.2 (hio'.lt x hx))
    simp at h1 ⊢
    omega
   · (try dsimp only); exact qX _
instance (l : List Int) : Decidable (IsB l) := by unfold IsB; infer_instance
def yC (s : Sec) (k : Nat) (m : List Int) : Sec := if h : k + m.length ≤ 128 ∧ IsB m then s.put k m h.1 h.2 else s
def ji (n : NS) (g : Int → Option Sec) : List (Int × Int × Int) → List Int → (Int → Option Sec) → Option (Int → Option Sec)
  | [], _, f => some f
  | q :: l, bs, f => match blk n g q.1 with
    | none => none
    | some s => ji n g l (bs.drop (q.2.2 - q.2.1).toNat) (upd f q.1 (some (yC s q.2.1.toNat (bs.take (q.2.2 - q.2.1).toNat))))
def ju (n : NS) (g : Int → Option Sec) (a : Int) (bs : List Int) : Int × NS :=
  if kv a bs.length ≠ 0 ∨ bs.length = 0 then (kv a bs.length, n)
  else match ji n g (ku a bs.length) bs (fun _ => none) with
    | some f => (0, { n with data := Kw f n.data, size := max n.size (a + bs.length) })
    | none => (20, n)
theorem ZS {n : NS} {g : Int → Option Sec} {a : Int} {bs : List Int} (h : kv a bs.length ≠ 0 ∨ bs.length = 0) : ju n g a bs = (kv a bs.length, n) := by unfold ju; rw [if_pos h]
theorem VE {n : NS} {g : Int → Option Sec} {a : Int} {bs : List Int} {l : List (Int × Int × Int)} (h : ¬ (kv a bs.length ≠ 0 ∨ bs.length = 0)) (hl : ku a bs.length = l) (hT : ji n g l bs (fun _ => none) = none) : ju n g a bs = (20, n) := by
  unfold ju; rw [if_neg h, hl, hT]
theorem VD {n : NS} {g : Int → Option Sec} {a : Int} {bs : List Int} {l : List (Int × Int × Int)} {f : Int → Option Sec} (h : ¬ (kv a bs.length ≠ 0 ∨ bs.length = 0)) (hl : ku a bs.length = l) (hT : ji n g l bs (fun _ => none) = some f) :
    ju n g a bs = (0, { n with data := Kw f n.data, size := max n.size (a + bs.length) }) := by
  unfold ju; rw [if_neg h, hl, hT]
theorem js {s : Sec} {k : Nat} {m : List Int} (h1 : k + m.length ≤ 128) (h2 : IsB m) : yC s k m = s.put k m h1 h2 := by unfold yC; rw [dif_pos ⟨h1, h2⟩]
theorem Xm {a n : Int} (ha : 0 ≤ a) : ∀ (m : List (Int × Int × Int)), (∀ z ∈ m, z ∈ ku a n) → 0 ≤ kE m := by
  intro m
  induction m with
  | nil => intro _; exact Int.le_refl _
  | cons q m ih =>
    intro h
    have h1 := Qk ha (h q (by simp))
    have h2 := ih (fun z hz => h z (by simp [hz]))
    simp only [kE]; omega
theorem VH (s : Sec) (k : Nat) (m : List Int) (h : k + m.length ≤ 128) (hm : IsB m) : (wt s).take k ++ u8s m ++ (wt s).drop (k + (u8s m).length) = wt (s.put k m h hm) := by
  simp only [wt, Sec.put, QS, yi, xL, WV, Wr]
theorem Reads.first {L : Res} {q : Option Addr} {m c k : Nat} {ys : List Int} (h : Reads w0 L (.slice q m c) m 1 (u8s ys)) (hk : k ≤ m) (w : World) (hw : Own w0 L w) {P : Program} : (Builtin.firstCells 1 k (.slice q m c)).run P w = .ok (u8s (ys.take k)).toArray w := by
  obtain ⟨p, c', e, hlen, hor⟩ := h.h
  cases e
  rcases hor with h0 | ⟨b, off, cs, et, fr, rfl, hm, hy⟩
  · have hk0 : k = 0 := by omega
    subst hk0
    cases q <;> rfl
  · simp only [Builtin.firstCells]
    rw [Nat.mul_one]
    refine Yo (hw.at_ _ hm) ?_ (by simp at hlen ⊢; omega)
    rw [← xL, ← hy, List.take_take]; congr 1; omega
theorem Reads.dropB {L : Res} {q : Option Addr} {m c k : Nat} {ys : List Value} (h : Reads w0 L (.slice q m c) m 1 ys) (hk : k ≤ m) (hc : m ≤ c) :
    Reads w0 L (.slice (if c = k then q else q.map (·.add (k * 1))) (m - k) (c - k)) (m - k) 1 (ys.drop k) := by
  obtain ⟨p, c', e, hlen, hor⟩ := h.h
  cases e
  refine ⟨_, _, rfl, by simp [hlen], ?_⟩
  rcases hor with h0 | ⟨b, off, cs, et, fr, rfl, hm, hy⟩
  · exact .inl (by omega)
  · by_cases hck : c = k
    · exact .inl (by omega)
    · refine .inr ⟨b, off + k, cs, et, fr, ?_, hm, ?_⟩
      · rw [if_neg hck]; simp [yh]
      · rw [← hy, List.drop_take, List.drop_drop]; congr 1; omega
theorem kJ {α : Type} {l : List α} {i : Nat} {q : α} (h : l[i]? = some q) : l.drop i = q :: l.drop (i + 1) := by
  have hlt := (List.getElem?_eq_some_iff.1 h).1
  rw [List.drop_eq_getElem_cons hlt, (List.getElem?_eq_some_iff.1 h).2]
theorem Z4 (p : Nat) (n : NS) (Cn D : qV) (hn : NodeC p n Cn) (a : Int) (q : Option Addr) (c : Nat) (bs : List Int) (rv : Value) (g : Int → Option Sec) (hr : Ks rv D g) (hsz : 0 ≤ n.size ∧ n.size ≤ 136192) (ha : -9223372036854775808 ≤ a ∧ a ≤ 9223372036854775807) (hbs : IsB bs) (hlen : (bs.length : Int) ≤ 9223372036854775807) (hc : bs.length ≤ c)
    (hq : q = none → bs.length = 0) (hb : ∀ A : Res, Reads w0 (A ++ F) (.slice q bs.length c) bs.length 1 (u8s bs)) :
    FnT Tryz.prog w0 12 #[.pointer (some ⟨p, 0, none⟩), .int .i64 a, .slice q bs.length c, rv] (Cn :: D :: F)
      (fun v L' => ∃ Cn', v = .int .i64 (ju n g a bs).1 ∧ NodeC p (ju n g a bs).2 Cn' ∧ L' = Cn' :: D :: F) := by
  obtain ⟨ma, md, ms, oa, od, os, u, C, hM, hCn⟩ := hn.eq
  unfold zO at hCn
  refine qi (E0 := [(0, _), (1, _), (2, _), (3, _)]) (N := 88) Tryz.func12 rfl rfl rfl rfl ?_
  refine qO <| qE rfl <| qm <| qA rfl <| qA rfl <| q9 (w8 rfl) <| qG (w5 rfl (Xk a bs.length ha (by omega))) ?_
  rintro t21 _ ⟨uc, Cc, rfl, rfl, hcu⟩
  refine qA rfl <| q9 (qf rfl rfl) <| q9 (qf rfl rfl) <| qE rfl <| qE rfl <| qF <| qN <| qO <| qA rfl <| q9 (zE rfl rfl) <| qA rfl <| qY (s := 26) rfl (fun hg2_2 => ?_) (fun hg2_2 => ?_)
  ·
   refine qL rfl rfl rfl <| qL rfl rfl rfl <| qL rfl rfl rfl <| q9 (qq rfl rfl) <| qF <| zM rfl <| qO <| qA rfl <| qE rfl <| qF <| qy <| qv <| wC (Cn :: D :: F) (.inl rfl) rfl (qu rfl) ?_
   exact ⟨Cn, by rw [ZS (by first | exact .inl hg2_2 | (exact .inr (by omega)))], by rw [ZS (by first | exact .inl hg2_2 | (exact .inr (by omega)))]; exact hn, rfl⟩
  ·
   refine qD rfl rfl (qP rfl) <| qD rfl rfl (w8 rfl) <| qD rfl rfl (wn rfl rfl) <| q9 (qU rfl rfl) <| qF <| qM rfl (fun hc2 => ?_) (fun hc2 => ?_)
   ·
    refine qO <| qA rfl <| qE rfl <| qF <| qy <| qv <| wC (Cn :: D :: F) (.inl rfl) rfl (qu rfl) ?_
    exact ⟨Cn, by rw [ZS (by first | exact .inl hg2_2 | (exact .inr (by omega)))], by rw [ZS (by first | exact .inl hg2_2 | (exact .inr (by omega)))]; exact hn, rfl⟩
   ·
    refine qZ <| qJ <| qO <| qG (kY) ?_
    rintro t32 _ ⟨b32, rfl, rfl⟩
    refine qE rfl <| qT ?_
    have hE : kv a bs.length = 0 := by simpa using hg2_2
    have hne : ¬ (kv a bs.length ≠ 0 ∨ bs.length = 0) := by simp only [hE, ne_eq, not_true, false_or]; omega
    rw [hE, if_pos rfl] at hcu
    have hb0 : 0 ≤ a ∧ a + bs.length ≤ 136192 := by unfold kv at hE; split at hE <;> first | (cases hE; done) | (split at hE <;> first | (cases hE; done) | omega)
    obtain ⟨l, hl⟩ : ∃ l, ku a bs.length = l := ⟨_, rfl⟩
    have hll := Kb a bs.length
    have hsum := Xl (a := a) (n := bs.length) (by omega)
    rw [hl] at hcu hll hsum
    obtain ⟨qc, cc, rfl⟩ := hcu.slice
    refine qJ <| qO <| qA rfl <| qE rfl <| qF <| qN <| qO <| qA rfl <| q9 (w8 rfl) <| qA rfl <| qF <| qg <| wS (Γ := {pΓ : (Nat) × (Obj) × (Int → Option Sec) × (List Int) × (Option Addr) × (Nat) × (Nat) // (fun (i : Nat) (mo : Obj) (f : Int → Option Sec) (rb : List Int) (ql : Option Addr) (nl : Nat) (cl : Nat) => i ≤ l.length ∧ MapF (Value.int .i64) jE f mo ∧ ji n g (l.drop i) rb f = ji n g l bs (fun _ => none) ∧ kE (l.drop i) = rb.length ∧ IsB rb ∧ rb.length = nl ∧ nl ≤ cl ∧ (∀ A : Res, Reads w0 (A ++ F) (.slice ql nl cl) nl 1 (u8s rb))) pΓ.1 pΓ.2.1 pΓ.2.2.1 pΓ.2.2.2.1 pΓ.2.2.2.2.1 pΓ.2.2.2.2.2.1 pΓ.2.2.2.2.2.2}) (fun g => (fun (i : Nat) (mo : Obj) (f : Int → Option Sec) (rb : List Int) (ql : Option Addr) (nl : Nat) (cl : Nat) => [(0, .pointer (some ⟨p, 0, none⟩)), (1, .int .i64 a), (2, .slice q bs.length c), (3, rv), (11, .map (some b32)), (12, .slice ql nl cl), (34, .slice qc l.length cc), (35, .int .i64 l.length), (36, .int .i64 i)]) g.1.1 g.1.2.1 g.1.2.2.1 g.1.2.2.2.1 g.1.2.2.2.2.1 g.1.2.2.2.2.2.1 g.1.2.2.2.2.2.2) (fun g => (fun (i : Nat) (mo : Obj) (f : Int → Option Sec) (rb : List Int) (ql : Option Addr) (nl : Nat) (cl : Nat) => [(b32, mo)] :: Cc :: Cn :: D :: F) g.1.1 g.1.2.1 g.1.2.2.1 g.1.2.2.2.1 g.1.2.2.2.2.1 g.1.2.2.2.2.2.1 g.1.2.2.2.2.2.2) (fun g => (fun (i : Nat) (mo : Obj) (f : Int → Option Sec) (rb : List Int) (ql : Option Addr) (nl : Nat) (cl : Nat) => l.length - i) g.1.1 g.1.2.1 g.1.2.2.1 g.1.2.2.2.1 g.1.2.2.2.2.1 g.1.2.2.2.2.2.1 g.1.2.2.2.2.2.2) ⟨(0, _, fun _ => none, bs, q, bs.length, c), by dsimp only; exact ⟨by omega, ka _ _, rfl, hsum, hbs, rfl, hc, hb⟩⟩ (qX _) ?_
    rintro ⟨⟨i, mo, f, rb, ql, nl, cl⟩, hloop⟩
    replace hloop : i ≤ l.length ∧ MapF (Value.int .i64) jE f mo ∧ ji n g (l.drop i) rb f = ji n g l bs (fun _ => none) ∧ kE (l.drop i) = rb.length ∧ IsB rb ∧ rb.length = nl ∧ nl ≤ cl ∧ (∀ A : Res, Reads w0 (A ++ F) (.slice ql nl cl) nl 1 (u8s rb)) := hloop
    obtain ⟨hi, hmo, hw, hps, hrb, hnl, hcl, hrl⟩ := hloop
    show Tr _ _ _ ([(0, .pointer (some ⟨p, 0, none⟩)), (1, .int .i64 a), (2, .slice q bs.length c), (3, rv), (11, .map (some b32)), (12, .slice ql nl cl), (34, .slice qc l.length cc), (35, .int .i64 l.length), (36, .int .i64 i)]) ([(b32, mo)] :: Cc :: Cn :: D :: F) _ _
    refine qO <| q9 (wJ rfl rfl) <| qF <| qN <| qM rfl (fun hc7 => ?_) (fun hc7 => ?_)
    ·
     refine qZ <| qJ <| qN <| qg <| qN ?_
     obtain ⟨w, hw1⟩ : ∃ w, l[i]? = some w := ⟨_, List.getElem?_eq_getElem (by omega)⟩
     have hrg := Qk (a := a) (n := bs.length) hb0.1 (hl ▸ List.mem_of_getElem? hw1)
     rw [kJ hw1] at hw hps
     simp only [kE] at hps
     have hpn := Xm (a := a) (n := bs.length) hb0.1 (l.drop (i + 1)) (fun z hz => hl ▸ List.mem_of_mem_drop hz)
     refine qK <| qG (yD (j := i) rfl rfl hcu (by omega) (by omega)) ?_
     rintro t38 _ ⟨b, cap, spare, hqc, rfl, hcap, hnc, rfl, rfl⟩
     refine q9 (zC (j := i) kC rfl hw1 rfl) <| qG (qj) ?_
     rintro t14 _ ⟨b14, rfl, rfl⟩
     refine qR (qo (l := [Value.int .i64 0, Value.int .i64 0, Value.int .i64 0]) rfl rfl rfl rfl rfl) <| qm <| qA rfl <| q9 (qB rfl) <| q9 (qI rfl rfl) <| qA rfl <| q9 (wM rfl (k6 (Cn) (D) (Kj p n Cn D hn w.1 rv g hr))) <| qA rfl <| q9 (qf rfl rfl) <| q9 (qf rfl rfl) <| qG (qj) ?_
     rintro t15 _ ⟨b15, rfl, rfl⟩
     refine qR (qo rfl rfl (by simp) (by simp) (wl _)) ?_
     refine qE rfl <| qF <| qN <| qO <| qA rfl <| q9 (zE rfl rfl) <| qF <| qM rfl (fun hc10 => ?_) (fun hc10 => ?_)
     ·
      have hbk : blk n g w.1 = none := by
        cases h : blk n g w.1 with
        | none => rfl
        | some s => rw [h] at hc10; exact absurd rfl hc10
      refine qO <| qA rfl <| qE rfl <| qF <| qy <| qv <| wH <| qv <| k5 <| wH <| qv <| wC (Cn :: D :: F) (.inl rfl) rfl (qu rfl) ?_
      have hT : ji n g l bs (fun _ => none) = none := by rw [← hw]; simp only [ji, hbk]
      exact ⟨Cn, by rw [VE hne hl hT, hbk]; rfl, by rw [VE hne hl hT]; exact hn, rfl⟩
     ·
      obtain ⟨s, hbk⟩ : ∃ s, blk n g w.1 = some s := by
        cases h : blk n g w.1 with
        | none => rw [h] at hc10; exact absurd (by decide) hc10
        | some s => exact ⟨s, rfl⟩
      rw [hbk]
      obtain ⟨qa, hqa⟩ : ∃ qa : Nat, w.2.1 = qa := ⟨w.2.1.toNat, by omega⟩
      obtain ⟨qb, hqb⟩ : ∃ qb : Nat, w.2.2 = qb := ⟨w.2.2.toNat, by omega⟩
      have htk : (rb.take (qb - qa)).length = qb - qa := by simp; omega
      have htb : IsB (rb.take (qb - qa)) := fun z hz => hrb z (List.mem_of_mem_take hz)
      refine qZ <| qJ <| qO <| q9 (qB rfl) <| q9 (qI rfl (show wY (kD w) 1 = some (.int .i64 qa) by rw [← hqa]; rfl)) <| q9 (qB rfl) <| q9 (qI rfl (show wY (kD w) 2 = some (.int .i64 qb) by rw [← hqb]; rfl)) <| q9 (kW (l := qa) (h := qb) (kl := .i64) (kh := .i64) rfl rfl rfl (by omega) (by omega)) <| qA rfl <| q9 (VN (b := b15) (off := qa) (n := qb - qa) (c := 128 - qa) (m := nl) (k := qb - qa) (sz := 1) (ys := u8s (rb.take (qb - qa))) (r := wt (s.put qa (rb.take (qb - qa)) (by omega) htb)) (by rw [← ZE qa qb (by omega)]; rfl) rfl (by omega) (fun w => by simp [Builtin.lenOf]) (fun w hw => Reads.first (hrl [_, _, _, _, _, _]) (by omega) w hw) (xI _) (by simp; omega) (VH s qa _ (by omega) htb)) ?_
      refine qm <| qA rfl <| q9 (qB rfl) <| q9 (qI rfl (show wY (kD w) 2 = some (.int .i64 qb) by rw [← hqb]; rfl)) <| q9 (qB rfl) <| q9 (qI rfl (show wY (kD w) 1 = some (.int .i64 qa) by rw [← hqa]; rfl)) <| q9 (zt rfl rfl (by omega)) <| q9 (kq (kl := .i64) (kh := .i64) (l := qb - qa) (h := nl) rfl (by show some (Value.int .i64 ((qb : Int) - qa)) = _; rw [show ((qb : Int) - qa) = ((qb - qa : Nat) : Int) from by omega]) rfl (by omega) (by omega) (by omega)) ?_
      refine qE rfl <| qF <| qK <| qA rfl <| q9 (qB rfl) <| q9 (qI rfl rfl) <| q9 (wQ rfl (by simp)) ?_
      refine y1 (zL (r := b32) (q := w.1) (v := s.put qa (rb.take (qb - qa)) (by omega) htb) rfl rfl rfl hmo) ?_
      rintro _ _ ⟨mo', hmo', rfl⟩
      refine qT <| qe <| qJ <| qK <| q9 (w9 rfl rfl (by omega)) <| qA rfl <| qT <| w6 ⟨(i + 1, mo', upd f w.1 (some (s.put qa (rb.take (qb - qa)) (by omega) htb)), rb.drop (qb - qa), _, nl - (qb - qa), cl - (qb - qa)), ?_⟩ ?_ ?_
      ·
       try dsimp only
       refine ⟨by omega, hmo', ?_, by rw [List.length_drop]; omega, fun z hz => hrb z (List.mem_of_mem_drop hz), by rw [List.length_drop]; omega, by omega, fun A => by have := Reads.dropB (hrl A) (k := qb - qa) (by omega) (by omega); rw [WV] at this; exact this⟩
       rw [← hw]
       simp only [ji, hbk]
       rw [hqa, hqb, show (qb - qa : Int).toNat = qb - qa from by omega, Int.toNat_natCast, js]
      · (try dsimp only); omega
      · (try dsimp only); exact qX _
    ·
     refine wa <| qr <| qt <| qh <| qJ <| qN ?_
     rw [List.drop_of_length_le (by omega)] at hw
     refine yy (wZ (L' := [(b32, mo)] :: Cc :: [(p, .cells [.int .u32 n.num, .int .u32 n.ver, .int .i64 n.kind, .int .i64 n.size, .int .u32 n.time, .map (some ma), .map (some md), .map (some ms), u].toArray 90 (0, 0))] :: [(ma, oa)] :: [(md, od)] :: [(ms, os)] :: C :: D :: F) (by rw [hCn]; simp)) ?_
     refine qK <| qA rfl <| q9 (qQ rfl) <| q9 (qB rfl) <| q9 (qI rfl rfl) <| qA rfl <| qG (w5 rfl (kG ([(md, od)]) ([(b32, mo)]) (mapsCopy_ok md b32 od mo n.data f hM.d hmo))) ?_
     rintro t75 _ ⟨rfl, od', hod', rfl⟩
     refine qm <| qA rfl <| qA rfl <| q9 (qQ rfl) <| q9 (qB rfl) <| q9 (qI rfl rfl) <| qA rfl <| qA rfl <| q9 (w8 rfl) <| q9 (w9 rfl rfl (by omega)) <| q9 (Vl rfl rfl) <| q9 (qQ rfl) <| q9 (qB rfl) <| qR (wu rfl rfl rfl) <| qm <| qE rfl <| qT <| zN (qX ([(p, .cells [.int .u32 n.num, .int .u32 n.ver, .int .i64 n.kind, .int .i64 (max n.size (a + bs.length)), .int .u32 n.time, .map (some ma), .map (some md), .map (some ms), u].toArray 90 (0, 0))] :: [(ma, oa)] :: [(md, od')] :: [(ms, os)] :: C :: D :: F)) <| zN (wZ (L' := ((p, .cells [.int .u32 n.num, .int .u32 n.ver, .int .i64 n.kind, .int .i64 (max n.size (a + bs.length)), .int .u32 n.time, .map (some ma), .map (some md), .map (some ms), u].toArray 90 (0, 0)) :: (ma, oa) :: (md, od') :: (ms, os) :: C) :: D :: F) (by simp)) ?_
     refine qJ <| qy <| zq (.inl rfl) rfl (qu rfl) ?_
     exact ⟨_, by rw [VD hne hl hw.symm], by rw [VD hne hl hw.symm]; exact ⟨ma, md, ms, oa, od', os, u, C, rfl, hM.a, hod', hM.s, hM.g⟩, rfl⟩
end
end Go.Proofs.YtjikpomndbkfgaaGreatDoor
namespace Go.Sx
open Go
def Qn (Q : Exit → Act → World → Prop) : Exit → Act → World → Prop
  | .normal, a, w => Q .normal a w
  | _, _, _ => False
theorem Vb {Q : Exit → Act → World → Prop} (h : LetsOut (Qn Q)) : False := by obtain ⟨a, w, h⟩ := h; exact h
theorem calls_endings {P : Program} {f : FuncId} {args : Array Value} {w : World} {R R' : Ending → World → Prop} (h : Calls P f args w R) (hR : ∀ e w, R e w → R' e w) : Calls P f args w R' := h.mono hR
theorem wp_qn {P : Program} {o : Oper} {a : Act} {w : World} {K K' : Act → World → Prop} {Q : Exit → Act → World → Prop} (hK : ∀ a w, K a w → K' a w) (h : o.wp P a w K (Qn Q)) : o.wp P a w K' Q := by
  unfold Oper.wp at *
  generalize (execOp a.eval o).run P w = r at *
  cases r with
  | ok n w' =>
    cases n <;> simp only [Oper.upon] at h ⊢ <;> first
      | exact hK _ _ h
      | exact h.elim
      | (refine calls_endings h fun e w'' hr => ?_
         cases e with
         | returned v => exact hK _ _ hr
         | panicked c => exact hr.elim
         | outgrown => exact (Vb hr).elim)
      | exact Rows.mono h (fun v w h => hK _ _ h)
      | exact h.mono (fun v w h => hK _ _ h)
  | halt x w' => cases x <;> simp only [Oper.upon] at h ⊢ <;> first | exact h.elim | exact h
theorem any_qn {P : Program} {ops : Array Oper} {Q : Exit → Act → World → Prop} : ∀ (fuel : Nat) (ls : Array Bool) (a : Act) (w : World), wpAny P .any ops (Qn Q) fuel ls a w → wpAny P .any ops Q fuel ls a w := by
  intro fuel
  induction fuel with
  | zero => intro ls a w h; exact ⟨h.1, h.2⟩
  | succ fuel ih =>
    intro ls a w h
    refine ⟨fun hn => h.1 hn, fun i hi => ?_⟩
    have := h.2 i hi
    unfold wpOp at this ⊢
    split
    · rename_i hn; simp only [hn] at this; exact ih _ _ _ this
    · rename_i o ho
      simp only [ho] at this
      split
      · rename_i hw
        rw [if_pos hw] at this
        rcases this with h1 | ⟨_, h2⟩
        · exact .inl (wp_qn (fun a w h => ih _ a w h) h1)
        · exact (Vb h2).elim
      · rename_i hw
        rw [if_neg hw] at this
        exact ih _ _ _ this
section
variable (P : Program) (N : Nat) (w0 : World)
structure TrS (ops : List Oper) (ls : List Bool) (E : Env) (L : Res) (Q : Exit → Act → World → Prop) : Prop where
  h : ∀ a w, EnvOk N E a → Own w0 L w → ∀ fuel, ls.count false ≤ fuel → wpAny P .any ops.toArray (Qn Q) fuel ls.toArray a w
end
section
variable {P : Program} {N : Nat} {w0 : World} {E : Env} {L : Res} {Q : Exit → Act → World → Prop}
theorem yb {id : Nat} {ops : List Oper} (hm : P.follows .mixedOrders = true) (h : TrS P N w0 ops (List.replicate ops.length false) E L Q) : Tr P N w0 E L (.region id ops.toArray true) Q :=
  ⟨fun a w ha hw => by
    refine wp_region_any hm ?_
    have := h.h a _ ha (hw.draw (w.drawn + 1) (Nat.le_succ _)) ops.length (by simp)
    have h2 := any_qn _ _ _ _ this
    simpa using h2⟩
theorem TrS.done {ops : List Oper} {ls : List Bool} (hr : Region.ready .any ops.toArray ls.toArray = []) (h : QAt N w0 .normal E L Q) : TrS P N w0 ops ls E L Q :=
  ⟨fun a w ha hw fuel _ => wpAny_done (Q := Qn Q) hr (show Qn Q .normal a w from h.h a w ha hw) fuel⟩
theorem Qm {ls : List Bool} {i : Nat} (h : ls[i]? = some false) : (ls.set i true).count false + 1 = ls.count false := by
  induction ls generalizing i with
  | nil => simp at h
  | cons b ls ih =>
    cases i with
    | zero => simp at h; subst h; simp
    | succ i =>
      have := ih (i := i) (by simpa using h)
      simp only [List.set_cons_succ, List.count_cons]
      omega
def OpY (P : Program) (N : Nat) (E : Env) (op : Op) (v : Value) : Prop := ∀ (o : Oper) (a : Act) (w : World), o.op = op → EnvOk N E a → (execOp a.eval o).run P w = .ok (.value v) w
theorem wO {x : Operand} {v : Value} (hx : opv E x = some v) : OpY P N E (.move x) v := fun o a w h1 h3 => by rw [execOp, h1]; simp [h3.eval hx]
theorem wP {x : Operand} {v : Value} (hx : opv E x = some v) : OpY P N E (.assign x) v := fun o a w h1 h3 => by rw [execOp, h1]; simp [h3.eval hx]
theorem y4 {x : Operand} {a0 : Addr} (hx : opv E x = some (.pointer (some a0))) : OpY P N E (.nilCheck x) (.pointer (some a0)) := fun o a w h1 h3 => by rw [execOp, h1]; simp [h3.eval hx]
theorem qk {x : Operand} {vs : List Value} {i : Nat} {v : Value} (hx : opv E x = some (.tuple vs.toArray)) (hv : wY vs i = some v) : OpY P N E (.extract x i) v := fun o a w h1 h3 => by
  rw [zB] at hv
  rw [execOp, h1]; simp [h3.eval hx, Instr.extract, hv]
theorem wo {x : Operand} {t : TypeId} {i b off : Nat} [hf : TyField P t i off] (hx : opv E x = some (.pointer (some ⟨b, 0, none⟩))) : OpY P N E (.fieldAddr t x i) (.pointer (some ⟨b, off, none⟩)) := fun o a w h1 h3 => by
  rw [execOp, h1]; simp [h3.eval hx, hf.h]
theorem ZA {x : Operand} {t : TypeId} {i b o1 off : Nat} [hf : TyField P t i off] (hx : opv E x = some (.pointer (some ⟨b, o1, none⟩))) : OpY P N E (.fieldAddr t x i) (.pointer (some ⟨b, o1 + off, none⟩)) := fun o a w h1 h3 => by
  rw [execOp, h1]; simp [h3.eval hx, hf.h]
def V2 (ops : List Oper) (ls : List Bool) (i : Nat) : Bool := Region.noSelect ops.toArray && Region.free .any ops.toArray ls.toArray i && (Region.ready .any ops.toArray ls.toArray).contains i
theorem TrS.take {ops : List Oper} {ls ls' : List Bool} (i : Nat) {d : Nat} {op : Op} {ty : TypeId} {pos : String} {af : Array Edge} {v : Value} (hi : ops[i]? = some ⟨some d, op, ty, pos, af, none⟩) (hl : ls[i]? = some false) (hc : V2 ops ls i = true)
    (hls : ls.set i true = ls') (hy : OpY P N E op v) (next : TrS P N w0 ops ls' ((d, v) :: E) L Q) (hd : Nat.blt d N = true := by rfl) : TrS P N w0 ops ls E L Q :=
  ⟨fun a w ha hw fuel hf => by
    simp only [V2, Bool.and_eq_true] at hc
    have hcnt := Qm hl
    obtain ⟨f', rfl⟩ : ∃ f', fuel = f' + 1 := ⟨fuel - 1, by omega⟩
    have hset : ls.toArray.setIfInBounds i true = ls'.toArray := by rw [← hls]; simp
    refine wpAny_take (oi := ⟨some d, op, ty, pos, af, none⟩) (v := v) (by simpa using hi) hc.1.1 hc.1.2 hc.2 (fun _ _ _ h => h.elim) (.inl ⟨rfl, fun w => hy _ a w rfl ha⟩) ?_
    rw [hset]
    exact next.h _ w (ha.put (dst := some d) hd v) hw f' (by rw [← hls]; omega)⟩
structure TrB (P : Program) (N : Nat) (w0 : World) (ops : List Oper) (ls : List Bool) (i : Nat) (E : Env) (L : Res) (Q : Exit → Act → World → Prop) : Prop where
  h : ∀ a w, EnvOk N E a → Own w0 L w → ∀ fuel, ls.count false ≤ fuel + 1 → wpOp P ops.toArray (Qn Q) i (wpAny P .any ops.toArray (Qn Q) fuel (ls.toArray.setIfInBounds i true)) a w
theorem Yv {ops : List Oper} {ls ls' : List Bool} {i : Nat} {dst : Option Nat} {op : Op} {ty : TypeId} {pos : String} {af : Array Edge} {G : Value → Res → Prop} (hi : ops[i]? = some ⟨dst, op, ty, pos, af, none⟩) (hl : ls[i]? = some false) (hls : ls.set i true = ls')
    (hop : OpT P N w0 E L op ty G) (next : ∀ v L', G v L' → TrS P N w0 ops ls' (Vy dst v E) L' Q) (hd : Xj dst N = true := by rfl) : TrB P N w0 ops ls i E L Q :=
  ⟨fun a w ha hw fuel hf => by
    have hcnt := Qm hl
    have hset : ls.toArray.setIfInBounds i true = ls'.toArray := by rw [← hls]; simp
    unfold wpOp
    rw [show ops.toArray[i]? = some ⟨dst, op, ty, pos, af, none⟩ from by simpa using hi]
    dsimp only
    rw [if_pos (show Region.wanted (⟨dst, op, ty, pos, af, none⟩ : Oper) (yielded ops.toArray a.tmps) = true from rfl), hset]
    refine .inl (hop.h _ a w rfl rfl ha hw _ _ fun v L' w' hg ho => ?_)
    exact (next v L' hg).h _ w' (ha.put hd v) ho fuel (by rw [← hls]; omega)⟩
theorem w7 {ops : List Oper} {ls ls' : List Bool} {i d : Nat} {op : Op} {ty : TypeId} {pos : String} {af : Array Edge} {G : Value → Res → Prop} (hi : ops[i]? = some ⟨some d, op, ty, pos, af, none⟩) (hl : ls[i]? = some false) (hls : ls.set i true = ls')
    (hop : OpT P N w0 E L op ty G) (next : ∀ v L', G v L' → TrS P N w0 ops ls' ((d, v) :: E) L' Q) (hd : Nat.blt d N = true := by rfl) : TrB P N w0 ops ls i E L Q := Yv hi hl hls hop next hd
theorem qd {ops : List Oper} {ls ls' : List Bool} {i d : Nat} {op : Op} {ty : TypeId} {pos : String} {af : Array Edge} {v : Value} {L' : Res} (hi : ops[i]? = some ⟨some d, op, ty, pos, af, none⟩) (hl : ls[i]? = some false) (hls : ls.set i true = ls')
    (hop : Op1 P N w0 E L op ty v L') (next : TrS P N w0 ops ls' ((d, v) :: E) L' Q) (hd : Nat.blt d N = true := by rfl) : TrB P N w0 ops ls i E L Q := Yv hi hl hls hop (fun _ _ ⟨e1, e2⟩ => by subst e1; subst e2; exact next) hd
theorem xv {ops : List Oper} {ls ls' : List Bool} {i : Nat} {op : Op} {ty : TypeId} {pos : String} {af : Array Edge} {G : Value → Res → Prop} (hi : ops[i]? = some ⟨none, op, ty, pos, af, none⟩) (hl : ls[i]? = some false) (hls : ls.set i true = ls')
    (hop : OpT P N w0 E L op ty G) (next : ∀ v L', G v L' → TrS P N w0 ops ls' E L' Q) : TrB P N w0 ops ls i E L Q := Yv hi hl hls hop next rfl
theorem wR {ops : List Oper} {ls ls' : List Bool} {i : Nat} {op : Op} {ty : TypeId} {pos : String} {af : Array Edge} {v : Value} {L' : Res} (hi : ops[i]? = some ⟨none, op, ty, pos, af, none⟩) (hl : ls[i]? = some false) (hls : ls.set i true = ls')
    (hop : Op1 P N w0 E L op ty v L') (next : TrS P N w0 ops ls' E L' Q) : TrB P N w0 ops ls i E L Q := Yv hi hl hls hop (fun _ _ ⟨e1, e2⟩ => by subst e1; subst e2; exact next) rfl
theorem xu {ops : List Oper} {ls : List Bool} {i j k : Nat} (hr : Region.ready .any ops.toArray ls.toArray = [i, j, k]) (hl : ls[i]? = some false) (h1 : TrB P N w0 ops ls i E L Q) (h2 : TrB P N w0 ops ls j E L Q) (h3 : TrB P N w0 ops ls k E L Q) : TrS P N w0 ops ls E L Q :=
  ⟨fun a w ha hw fuel hf => by
    have hcnt := Qm hl
    obtain ⟨f', rfl⟩ : ∃ f', fuel = f' + 1 := ⟨fuel - 1, by omega⟩
    refine wpAny_all hr (by simp) fun m hm => ?_
    simp only [List.mem_cons, List.not_mem_nil, or_false] at hm
    rcases hm with rfl | rfl | rfl
    · exact h1.h a w ha hw f' hf
    · exact h2.h a w ha hw f' hf
    · exact h3.h a w ha hw f' hf⟩
theorem TrS.one {ops : List Oper} {ls : List Bool} {i : Nat} (hr : Region.ready .any ops.toArray ls.toArray = [i]) (hl : ls[i]? = some false) (h : TrB P N w0 ops ls i E L Q) : TrS P N w0 ops ls E L Q :=
  ⟨fun a w ha hw fuel hf => by
    have hcnt := Qm hl
    obtain ⟨f', rfl⟩ : ∃ f', fuel = f' + 1 := ⟨fuel - 1, by omega⟩
    refine wpAny_all hr (by simp) fun j hj => ?_
    obtain rfl := List.mem_singleton.1 hj
    exact h.h a w ha hw f' hf⟩
theorem wF {ops : List Oper} {ls : List Bool} (h : QAt N w0 .normal E L Q) (hr : Region.ready .any ops.toArray ls.toArray = [] := by kernel_rfl) : TrS P N w0 ops ls E L Q := TrS.done hr h
theorem qH {ops : List Oper} {ls ls' : List Bool} (i : Nat) {d : Nat} {op : Op} {ty : TypeId} {pos : String} {af : Array Edge} {v : Value} (hi : ops[i]? = some ⟨some d, op, ty, pos, af, none⟩) (hl : ls[i]? = some false)
    (hls : ls.set i true = ls') (hy : OpY P N E op v) (next : TrS P N w0 ops ls' ((d, v) :: E) L Q) (hc : V2 ops ls i = true := by kernel_rfl) (hd : Nat.blt d N = true := by rfl) : TrS P N w0 ops ls E L Q := TrS.take i hi hl hc hls hy next hd
theorem qS {ops : List Oper} {ls : List Bool} (i : Nat) (hl : ls[i]? = some false) (h : TrB P N w0 ops ls i E L Q) (hr : Region.ready .any ops.toArray ls.toArray = [i] := by kernel_rfl) : TrS P N w0 ops ls E L Q := TrS.one hr hl h
theorem wv {ops : List Oper} {ls : List Bool} {i j : Nat} (hr : Region.ready .any ops.toArray ls.toArray = [i, j]) (hl : ls[i]? = some false) (h1 : TrB P N w0 ops ls i E L Q) (h2 : TrB P N w0 ops ls j E L Q) : TrS P N w0 ops ls E L Q :=
  ⟨fun a w ha hw fuel hf => by
    have hcnt := Qm hl
    obtain ⟨f', rfl⟩ : ∃ f', fuel = f' + 1 := ⟨fuel - 1, by omega⟩
    refine wpAny_all hr (by simp) fun k hk => ?_
    rcases List.mem_cons.1 hk with rfl | hk
    · exact h1.h a w ha hw f' hf
    · obtain rfl := List.mem_singleton.1 hk
      exact h2.h a w ha hw f' hf⟩
end
end Go.Sx
