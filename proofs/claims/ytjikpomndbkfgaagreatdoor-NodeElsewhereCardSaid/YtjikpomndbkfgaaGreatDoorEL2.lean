/- NodeElsewhere: for every input that the statement's row lets in the law answers true and its arguments read as before; conditions: none beyond the row's own (part 2; joined, pruned and shortened by a program of the prover's own: names of two letters stand for longer ones.) -/
import Derived.Test.YtjikpomndbkfgaaGreatDoorEL1
set_option linter.all false
set_option linter.unusedVariables false
set_option linter.unusedSimpArgs false
set_option linter.unusedSectionVars false
namespace Go.Proofs.YtjikpomndbkfgaaGreatDoor
open Go Go.Sx Go.Nd
variable {w0 : World} {L F : Res}
set_option maxRecDepth 10000
theorem slice_off {p : Nat} (a : Nat) (h : a < 128) : Value.slice (some (if 128 = a then (⟨p, 0, none⟩ : Addr) else ⟨p, 0 + a * 1, none⟩)) (128 - a) (128 - a) = .slice (some ⟨p, a, none⟩) (128 - a) (128 - a) := by
  rw [if_neg (by omega)]; simp
def jJ (l : List Value) (k : Nat) (vs : List Value) : List Value := l.take k ++ vs ++ l.drop (k + vs.length)
theorem KS (l : List Value) (k : Nat) : jJ l k [] = l := by simp [jJ]
theorem KT {l vs : List Value} {k : Nat} (h : k + vs.length ≤ l.length) : (jJ l k vs).length = l.length := by simp [jJ]; omega
theorem putAt_snoc {l vs : List Value} {k : Nat} {v : Value} (h : k + vs.length < l.length) : (jJ l k vs).set (k + vs.length) v = jJ l k (vs ++ [v]) := by
  unfold jJ
  rw [List.set_append_right _ _ (by simp; omega)]
  have : k + vs.length - (l.take k ++ vs).length = 0 := by simp; omega
  rw [this, List.drop_eq_getElem_cons h, List.set_cons_zero, List.append_assoc, List.append_assoc, List.append_assoc]
  simp [Nat.add_assoc]
theorem Xj (p : Option Addr) (n c : Nat) (a w : Int) (h : 1 ≤ w ∧ w ≤ 8 ∧ 0 ≤ a ∧ a + w ≤ n) (hn : (n : Int) ≤ 9223372036854775807) :
    FnT Tryz.prog w0 164 #[.slice p n c, .int .i64 a, .int .i64 w] L (fun v L' => v = .bool true ∧ L' = L) := by
  refine FnT.enter (E0 := [(0, _), (1, _), (2, _)]) (N := 31) Tryz.func164 rfl rfl rfl rfl ?_
  refine Tr.seq <| Tr.region <| q9 (qC rfl) <| qB <| QAt.seq <| Tr.seq <| Tr.region <| q9 (qA rfl) <| q9 (yl rfl rfl) <| q9 (qA rfl) <| qN (s := 9) rfl (fun hg1_2 => ?_) (fun hg1_2 => ?_)
  ·
   refine qE rfl rfl (qA rfl) <| qE rfl rfl (Yl rfl rfl) <| q9 (qT rfl rfl) <| q9 (qA rfl) <| qN (s := 13) rfl (fun hg1_6 => ?_) (fun hg1_6 => ?_)
   ·
    refine qE rfl rfl (qA rfl) <| qE rfl rfl (yl rfl rfl) <| q9 (qT rfl rfl) <| q9 (qA rfl) <| qN (s := 17) rfl (fun hg1_10 => ?_) (fun hg1_10 => ?_)
    ·
     refine qE rfl rfl (qA rfl) <| qE rfl rfl (qA rfl) <| qE rfl rfl (qg rfl) <| qE rfl rfl (Yl rfl rfl) <| q9 (qT rfl rfl) <| q9 (qA rfl) <| qN (s := 23) rfl (fun hg1_16 => ?_) (fun hg1_16 => ?_)
     ·
      refine qE rfl rfl (qA rfl) <| qE rfl rfl (qg rfl) <| qE rfl rfl (qA rfl) <| qE rfl rfl (zV rfl rfl (by omega)) <| qE rfl rfl (qA rfl) <| qE rfl rfl (yl rfl rfl) <| q9 (qT rfl rfl) <| q9 (qC rfl) <| qB <| QAt.seq <| Tr.ret <| qs L (.inl rfl) rfl (qd rfl) ?_
      exact ⟨by simp; omega, rfl⟩
     · (exfalso; omega)
    · (exfalso; omega)
   · (exfalso; omega)
  · (exfalso; omega)
theorem Jj {l : List Value} {off i w : Nat} {a x : Int} (h1 : i < w) (hw : w ≤ 8) (hl : off + a.toNat + w ≤ l.length) :
    (jJ l (off + a.toNat) (u8s (leI i x))).set (off + (a.toNat + i) * 1) (Value.int IntKind.u8 (IntKind.u8.wrap (x.fdiv (2 ^ min (8 * (i : Int)).toNat IntKind.u64.bits)))) = jJ l (off + a.toNat) (u8s (leI (i + 1) x)) := by
  rw [wrap_u8, show IntKind.u64.bits = 64 from rfl, VG x i (by omega), Kd, yH]
  have := putAt_snoc (l := l) (k := off + a.toNat) (vs := u8s (leI i x)) (v := .int .u8 (x / 256 ^ i % 256)) (by simp; omega)
  rw [WO, YN] at this
  rw [show off + (a.toNat + i) * 1 = off + a.toNat + i from by omega, this]
  rfl
theorem XE (b off n c e : Nat) (l : List Value) (a x : Int) (w : Nat) (h : 1 ≤ w ∧ w ≤ 8 ∧ 0 ≤ a ∧ a + w ≤ n) (hn : (n : Int) ≤ 9223372036854775807) (hx : 0 ≤ x ∧ x < 256 ^ w) (hl : off + n ≤ l.length) :
    FnT Tryz.prog w0 158 #[.slice (some ⟨b, off, none⟩) n c, .int .i64 a, .int .i64 w, .int .u64 x] ([(b, .cells l.toArray e (0, 0))] :: F)
      (fun v L' => v = .int .i64 0 ∧ L' = [(b, .cells (jJ l (off + a.toNat) (u8s (leI w x))).toArray e (0, 0))] :: F) := by
  have h8 : x.fdiv (2 ^ (min (8 * (w : Int)).toNat 64)) = 0 := by
    rw [VG x w (by omega)]
    exact Int.ediv_eq_zero_of_lt hx.1 hx.2
  refine FnT.enter (E0 := [(0, _), (1, _), (2, _), (3, _)]) (N := 41) Tryz.func158 rfl rfl rfl rfl ?_
  refine Tr.seq <| Tr.region <| q9 (qC rfl) <| qB <| QAt.seq <| Tr.seq <| Tr.seq <| Tr.region <| q9 (qA rfl) <| q9 (qA rfl) <| q9 (qA rfl) <| q9 (qw rfl (Xj _ n c a w (by omega) hn)) <| q9 (kM rfl) <| q9 (qA rfl) <| TrOs.split (s := 15) rfl (fun hg1_5 => ?_) (fun hg1_5 => ?_)
  · exact absurd hg1_5 (by decide)
  ·
   refine qE rfl rfl (qA rfl) <| qE rfl rfl (qv rfl rfl) <| qE rfl rfl (qA rfl) <| qN (s := 18) rfl (fun hg1_8 => ?_) (fun hg1_8 => ?_)
   ·
    refine qE rfl rfl (qA rfl) <| qE rfl rfl (qA rfl) <| qE rfl rfl (jX rfl rfl (by omega)) <| qE rfl rfl (JG rfl rfl (by omega)) <| qE rfl rfl (wZ rfl rfl) <| qE rfl rfl (qT rfl rfl) <| q9 (qL rfl rfl) <| qB <| QAt.seq <| qI rfl (fun hc1 => ?_) (fun hc1 => ?_)
    · exact absurd h8 hc1
    ·
     refine Tr.skip <| QAt.seq <| Tr.seq <| Tr.seq <| Tr.region <| q9 (qA rfl) <| q9 (qA rfl) <| qB <| QAt.seq <| Tr.block <| wB (Γ := {pΓ : (Nat) // (fun (i : Nat) => i ≤ w) pΓ}) (fun g => (fun (i : Nat) => [(0, .slice (some ⟨b, off, none⟩) n c), (1, .int .i64 a), (3, .int .u64 x), (26, .int .i64 w), (27, .int .i64 (i : Int))]) g.1) (fun g => (fun (i : Nat) => [(b, .cells (jJ l (off + a.toNat) (u8s (leI i x))).toArray e (0, 0))] :: F) g.1) (fun g => (fun (i : Nat) => w - i) g.1) ⟨0, by dsimp only; exact (by omega)⟩ (y7 (by dsimp only; rw [show u8s (leI 0 x) = [] from rfl, KS])) ?_
     rintro ⟨i, hloop⟩
     replace hloop : i ≤ w := hloop
     obtain hi := hloop
     show Tr _ _ _ ([(0, .slice (some ⟨b, off, none⟩) n c), (1, .int .i64 a), (3, .int .u64 x), (26, .int .i64 w), (27, .int .i64 (i : Int))]) ([(b, .cells (jJ l (off + a.toNat) (u8s (leI i x))).toArray e (0, 0))] :: F) _ _
     refine Tr.seq <| Tr.region <| q9 (qv rfl rfl) <| qB <| QAt.seq <| Tr.seq <| qI rfl (fun hc4 => ?_) (fun hc4 => ?_)
     ·
      refine Tr.skip <| QAt.seq <| Tr.seq <| Tr.block <| Tr.seq <| Tr.region <| q9 (qA rfl) <| q9 (qC rfl) <| qB <| QAt.seq <| Tr.region <| q9 (qA rfl) <| q9 (qA rfl) <| q9 (qA rfl) <| q9 (qj rfl rfl (by omega)) <| q9 (qA rfl) <| q9 (qA rfl) <| q9 (jX rfl rfl (by omega)) <| q9 (JG rfl rfl (by omega)) <| q9 (JJ rfl) <| q9 (qf (j := a.toNat + i) rfl rfl (by omega) (by omega) rfl) <| qK (zx rfl rfl (by rw [KT (by simp; omega)]; omega) rfl) ?_
      refine qB <| QAt.block <| QAt.seq <| Tr.region <| q9 (qj rfl rfl (by omega)) <| q9 (qA rfl) <| qB <| qh ⟨i + 1, ?_⟩ ?_ ?_
      · (try dsimp only); omega
      · (try dsimp only); omega
      · (try dsimp only); exact y7 (by rw [Jj (w := w) (by omega) (by omega) (by omega)])
     ·
      refine Tr.exit <| qX <| qY <| qS <| QAt.seq <| Tr.seq <| Tr.region <| q9 (qC rfl) <| qB <| QAt.seq <| Tr.ret <| zW (.inl rfl) rfl (qd rfl) ?_
      exact ⟨rfl, by rw [show i = w from by omega]⟩
   ·
    refine qH rfl rfl rfl <| qH rfl rfl rfl <| qH rfl rfl rfl <| qH rfl rfl rfl <| qH rfl rfl rfl <| qE rfl rfl (qL rfl rfl) <| q9 (qL rfl rfl) <| qB <| QAt.seq <| wD rfl <| Tr.skip <| QAt.seq <| Tr.seq <| Tr.seq <| Tr.region <| q9 (qA rfl) <| q9 (qA rfl) <| qB <| QAt.seq <| Tr.block <| wB (Γ := {pΓ : (Nat) // (fun (i : Nat) => i ≤ w) pΓ}) (fun g => (fun (i : Nat) => [(0, .slice (some ⟨b, off, none⟩) n c), (1, .int .i64 a), (3, .int .u64 x), (26, .int .i64 w), (27, .int .i64 (i : Int))]) g.1) (fun g => (fun (i : Nat) => [(b, .cells (jJ l (off + a.toNat) (u8s (leI i x))).toArray e (0, 0))] :: F) g.1) (fun g => (fun (i : Nat) => w - i) g.1) ⟨0, by dsimp only; exact (by omega)⟩ (y7 (by dsimp only; rw [show u8s (leI 0 x) = [] from rfl, KS])) ?_
    rintro ⟨i, hloop⟩
    replace hloop : i ≤ w := hloop
    obtain hi := hloop
    show Tr _ _ _ ([(0, .slice (some ⟨b, off, none⟩) n c), (1, .int .i64 a), (3, .int .u64 x), (26, .int .i64 w), (27, .int .i64 (i : Int))]) ([(b, .cells (jJ l (off + a.toNat) (u8s (leI i x))).toArray e (0, 0))] :: F) _ _
    refine Tr.seq <| Tr.region <| q9 (qv rfl rfl) <| qB <| QAt.seq <| Tr.seq <| qI rfl (fun hc4 => ?_) (fun hc4 => ?_)
    ·
     refine Tr.skip <| QAt.seq <| Tr.seq <| Tr.block <| Tr.seq <| Tr.region <| q9 (qA rfl) <| q9 (qC rfl) <| qB <| QAt.seq <| Tr.region <| q9 (qA rfl) <| q9 (qA rfl) <| q9 (qA rfl) <| q9 (qj rfl rfl (by omega)) <| q9 (qA rfl) <| q9 (qA rfl) <| q9 (jX rfl rfl (by omega)) <| q9 (JG rfl rfl (by omega)) <| q9 (JJ rfl) <| q9 (qf (j := a.toNat + i) rfl rfl (by omega) (by omega) rfl) <| qK (zx rfl rfl (by rw [KT (by simp; omega)]; omega) rfl) ?_
     refine qB <| QAt.block <| QAt.seq <| Tr.region <| q9 (qj rfl rfl (by omega)) <| q9 (qA rfl) <| qB <| qh ⟨i + 1, ?_⟩ ?_ ?_
     · (try dsimp only); omega
     · (try dsimp only); omega
     · (try dsimp only); exact y7 (by rw [Jj (w := w) (by omega) (by omega) (by omega)])
    ·
     refine Tr.exit <| qX <| qY <| qS <| QAt.seq <| Tr.seq <| Tr.region <| q9 (qC rfl) <| qB <| QAt.seq <| Tr.ret <| zW (.inl rfl) rfl (qd rfl) ?_
     exact ⟨rfl, by rw [show i = w from by omega]⟩
theorem get_step {i : Nat} {acc b : Int} (hi : i < 8) (h0 : 0 ≤ acc) (h1 : acc < 256 ^ i) (hb0 : 0 ≤ b) (hb : b < 256) :
    zH .or .u64 acc (IntKind.u64.wrap (b * 2 ^ (min (8 * (i : Int)).toNat IntKind.u64.bits))) = acc + 256 ^ i * b := by
  have e1 : min (8 * (i : Int)).toNat IntKind.u64.bits = 8 * i := by
    have : IntKind.u64.bits = 64 := rfl
    omega
  have e2 : (256 : Int) ^ i = 2 ^ (8 * i) := by rw [Int.pow_mul]; rfl
  have hp : b * 2 ^ (8 * i) < 18446744073709551616 - acc := by
    have hi8 : i = 0 ∨ i = 1 ∨ i = 2 ∨ i = 3 ∨ i = 4 ∨ i = 5 ∨ i = 6 ∨ i = 7 := by omega
    rcases hi8 with rfl | rfl | rfl | rfl | rfl | rfl | rfl | rfl <;> simp at h1 ⊢ <;> omega
  have h1' : acc < 2 ^ (8 * i) := by rw [← e2]; exact h1
  rw [e1, Jb, Int.emod_eq_of_lt (Int.mul_nonneg hb0 (Int.le_of_lt (Int.pow_pos (by omega)))) (by omega), or64 h0 h1' hb0 hp, e2, Int.mul_comm]
theorem V2 (b off n c e : Nat) (fr : Nat × Nat) (l : List Value) (bs : List Int) (a : Int) (w : Nat) (h : 1 ≤ w ∧ w ≤ 8 ∧ 0 ≤ a ∧ a + w ≤ n) (hn : (n : Int) ≤ 9223372036854775807) (hbs : IsB bs) (hlen : bs.length = w)
    (hl : (l.drop (off + a.toNat)).take w = u8s bs) :
    FnT Tryz.prog w0 157 #[.slice (some ⟨b, off, none⟩) n c, .int .i64 a, .int .i64 w] ([(b, .cells l.toArray e fr)] :: F)
      (fun v L' => v = .tuple #[.int .u64 (deI bs), .int .i64 0] ∧ L' = [(b, .cells l.toArray e fr)] :: F) := by
  have hget : ∀ i : Nat, i < w → ∃ x, bs[i]? = some x ∧ 0 ≤ x ∧ x < 256 ∧ wG l (off + (a.toNat + i) * 1) = some (.int .u8 x) := by
    intro i hi
    have hlt : i < bs.length := by omega
    refine ⟨bs[i], List.getElem?_eq_getElem hlt, (hbs _ (List.getElem_mem hlt)).1, (hbs _ (List.getElem_mem hlt)).2, ?_⟩
    have h1 : ((l.drop (off + a.toNat)).take w)[i]? = some (.int .u8 bs[i]) := by rw [hl]; simp [u8s, hlt]
    rw [List.getElem?_take, if_pos hi, List.getElem?_drop] at h1
    rw [wi, ← h1]; congr 1; omega
  refine FnT.enter (E0 := [(0, _), (1, _), (2, _)]) (N := 33) Tryz.func157 rfl rfl rfl rfl ?_
  refine Tr.seq <| Tr.region <| q9 (qC rfl) <| q9 (qC rfl) <| qB <| QAt.seq <| Tr.seq <| Tr.seq <| Tr.region <| q9 (qA rfl) <| q9 (qA rfl) <| q9 (qA rfl) <| q9 (qw rfl (Xj _ n c a w (by omega) hn)) <| q9 (kM rfl) <| qB <| QAt.seq <| wD rfl <| Tr.skip <| QAt.seq <| Tr.seq <| Tr.region <| q9 (qC rfl) <| qB <| QAt.seq <| Tr.seq <| Tr.seq <| Tr.region <| q9 (qA rfl) <| q9 (qA rfl) <| qB <| QAt.seq <| Tr.block <| wB (Γ := {pΓ : (Nat) // (fun (i : Nat) => i ≤ w) pΓ}) (fun g => (fun (i : Nat) => [(0, .slice (some ⟨b, off, none⟩) n c), (1, .int .i64 a), (8, .int .u64 (deI (bs.take i))), (15, .int .i64 w), (16, .int .i64 (i : Int))]) g.1) (fun g => (fun (i : Nat) => [(b, .cells l.toArray e fr)] :: F) g.1) (fun g => (fun (i : Nat) => w - i) g.1) ⟨0, by dsimp only; exact (by omega)⟩ (qP _) ?_
  rintro ⟨i, hloop⟩
  replace hloop : i ≤ w := hloop
  obtain hi := hloop
  show Tr _ _ _ ([(0, .slice (some ⟨b, off, none⟩) n c), (1, .int .i64 a), (8, .int .u64 (deI (bs.take i))), (15, .int .i64 w), (16, .int .i64 (i : Int))]) ([(b, .cells l.toArray e fr)] :: F) _ _
  refine Tr.seq <| Tr.region <| q9 (qv rfl rfl) <| qB <| QAt.seq <| Tr.seq <| qI rfl (fun hc5 => ?_) (fun hc5 => ?_)
  ·
   refine Tr.skip <| QAt.seq <| Tr.seq <| Tr.block <| Tr.seq <| Tr.region <| q9 (qA rfl) <| q9 (qC rfl) <| qB <| QAt.seq ?_
   obtain ⟨x, hx1, hx2, hx3, hx4⟩ := hget i (by omega)
   have hbd := deI_bound (l := bs.take i) (fun z hz => hbs z (List.mem_of_mem_take hz))
   rw [List.length_take, show min i bs.length = i from by omega] at hbd
   refine Tr.region <| q9 (qA rfl) <| q9 (qA rfl) <| q9 (qA rfl) <| q9 (qA rfl) <| q9 (qj rfl rfl (by omega)) <| q9 (qf (j := a.toNat + i) rfl rfl (by omega) (by omega) rfl) <| q9 (qG rfl hx4) <| q9 (wo rfl (by first | (simp only [IntKind.min, IntKind.max, IntKind.bits, IntKind.signed, Bool.false_eq_true, if_false, if_true]; omega))) ?_
   refine q9 (qA rfl) <| q9 (jX rfl rfl (by omega)) <| q9 (op_shl rfl rfl (by omega)) <| q9 (op_or rfl rfl) <| q9 (qC rfl) <| qB <| QAt.block <| QAt.seq ?_
   rw [get_step (by omega) hbd.1 hbd.2 hx2 hx3, show deI (bs.take i) + 256 ^ i * x = deI (bs.take (i + 1)) from by rw [List.take_add_one, hx1, Option.toList_some, deI_append, List.length_take, show min i bs.length = i from by omega]]
   refine Tr.region <| q9 (qj rfl rfl (by omega)) <| q9 (qA rfl) <| qB <| qh ⟨i + 1, ?_⟩ ?_ ?_
   · (try dsimp only); omega
   · (try dsimp only); omega
   · (try dsimp only); exact qP _
  ·
   refine Tr.exit <| qX <| qY <| qS <| QAt.seq <| Tr.seq <| Tr.region <| q9 (qA rfl) <| q9 (qC rfl) <| q9 (qC rfl) <| qB <| QAt.seq <| Tr.ret <| QM (.inl rfl) rfl (qd rfl) (qd rfl) ?_
   exact ⟨by rw [show i = bs.length from by omega, List.take_length], rfl⟩
def wr (p : Nat) (s : Sec) (a : Nat) : qM := [(p, .cells (wW s ++ [Value.int .i64 a, Value.int .i64 0]).toArray 242 (0, 0))]
def rd (p : Nat) (s : Sec) (a : Nat) : qM := [(p, .cells (wW s ++ [Value.int .i64 a, Value.int .i64 0]).toArray 257 (0, 0))]
theorem Ze (s : Sec) (r : List Value) (k : Nat) (m : List Int) (h : k + m.length ≤ 128) (hm : IsB m) : jJ (wW s ++ r) k (u8s m) = wW (s.put k m h hm) ++ r := by
  have e1 : (wW s ++ r).take k = (wW s).take k := List.take_append_of_le_length (by simp; omega)
  have e2 : (wW s ++ r).drop (k + m.length) = (wW s).drop (k + m.length) ++ r := List.drop_append_of_le_length (by simp; omega)
  unfold jJ
  rw [WO, e1, e2]
  simp only [wW, Sec.put, xw, yH, jR, Qw, List.append_assoc]
theorem x8 (p : Nat) (s : Sec) (a : Nat) (x : Int) (w : Nat) (h : 1 ≤ w ∧ w ≤ 8 ∧ a + w ≤ 128) (hx : 0 ≤ x ∧ x < 256 ^ w) :
    FnT Tryz.prog w0 146 #[.pointer (some ⟨p, 0, none⟩), .int .i64 w, .int .u64 x] (wr p s a :: F)
      (fun v L' => v = .tuple #[] ∧ L' = wr p (s.put a (leI w x) (by simp; omega) (kB _ _)) (a + w) :: F) := by
  unfold wr
  refine FnT.enter (E0 := [(0, _), (1, _), (2, _)]) (N := 38) Tryz.func146 rfl rfl rfl rfl ?_
  refine Tr.seq <| Tr.seq <| Tr.region <| q9 (qA rfl) <| q9 (qJ rfl) <| q9 (qD rfl) <| q9 (y8 rfl) <| q9 (wR rfl rfl) <| qB <| QAt.seq <| ww rfl <| Tr.drawn qm <| qr [(11, .pure _), (12, .pure _), (13, .pure _), (14, .pure _), (15, .pure _), (16, .pure _), (17, .pure _), (18, .pure _), (19, .pure _), (20, .pure _), (21, .pure _), (22, .act ([(p, .cells (wW s ++ [Value.int .i64 a, Value.int .i64 0]).toArray 242 (0, 0))]) (fun v C => v = .int .i64 0 ∧ C = [(p, .cells (jJ (wW s ++ [Value.int .i64 a, Value.int .i64 0]) (0 + (a : Int).toNat) (u8s (leI w x))).toArray 242 (0, 0))]))] (by kernel_rfl) rfl rfl rfl (Q8 [[(p, .cells (wW s ++ [Value.int .i64 a, Value.int .i64 0]).toArray 242 (0, 0))]] rfl) (ParH.pure rfl (fun X => qA rfl) <| ParH.pure rfl (fun X => qA rfl) <| ParH.pure rfl (fun X => qJ rfl) <| ParH.pure rfl (fun X => qD rfl) <| ParH.pure rfl (fun X => k7 (l := 0) (h := 128) (kl := .i64) (kh := .i64) rfl rfl rfl (by decide) (by decide)) <| ParH.pure rfl (fun X => qA rfl) <| ParH.pure rfl (fun X => qJ rfl) <| ParH.pure rfl (fun X => qD rfl) <| ParH.early 11 rfl rfl (by kernel_rfl) (by kernel_rfl) rfl (fun X => y8 rfl) <| ParH.pure rfl (fun X => qA rfl) <| ParH.pure rfl (fun X => qA rfl) <| ParH.act rfl (fun X => OpT.mono (qn rfl (XE p 0 128 128 242 _ a x w (by omega) (by omega) hx (by simp))) (fun v L h => by obtain ⟨h1, h2⟩ := h; exact ⟨_, ⟨h1, rfl⟩, h2⟩)) <| ParH.nil rfl) ?_
  rintro _ _ ⟨rfl, rfl⟩
  rw [show 0 + (a : Int).toNat = a from by omega, Ze _ _ _ _ (by simp; omega) (kB _ _)]
  dsimp only [zG, List.drop, List.length]
  refine qq (by kernel_rfl) (qJ rfl) ?_
  refine qq (by kernel_rfl) (qD rfl) ?_
  refine k0 (by kernel_rfl) (wX rfl rfl rfl) ?_
  refine qt <| QAt.seq <| Tr.seq <| Tr.region <| q9 (qA rfl) <| q9 (qJ rfl) <| q9 (qD rfl) <| q9 (y8 rfl) <| q9 (wR rfl rfl) <| qB <| QAt.seq <| ww rfl <| Tr.region <| q9 (qA rfl) <| q9 (qJ rfl) <| q9 (qD rfl) <| q9 (y8 rfl) <| q9 (qA rfl) <| q9 (qj rfl rfl (by omega)) <| q9 (qJ rfl) <| q9 (qD rfl) <| qK (wX rfl rfl rfl) <| qB <| jz (.inr rfl) rfl  ?_
  exact ⟨rfl, rfl⟩
theorem Qk (p : Nat) (s : Sec) (a : Nat) :
    FnT Tryz.prog w0 147 #[.pointer (some ⟨p, 0, none⟩)] (wr p s a :: F)
      (fun v L' => v = .tuple #[.agg (wW s).toArray, .int .i64 0] ∧ L' = wr p s a :: F) := by
  unfold wr
  refine FnT.enter (E0 := [(0, _)]) (N := 18) Tryz.func147 rfl rfl rfl rfl ?_
  refine Tr.seq <| Tr.region <| qF (qV) ?_
  rintro t2 _ ⟨b2, rfl, rfl⟩
  refine q9 (qC rfl) <| qB <| QAt.seq <| Tr.seq <| Tr.seq <| Tr.region <| q9 (qA rfl) <| q9 (qJ rfl) <| q9 (qD rfl) <| q9 (y8 rfl) <| q9 (wZ rfl rfl) <| qB <| QAt.seq <| wD rfl <| Tr.skip <| QAt.seq <| Tr.seq <| Tr.region <| q9 (qA rfl) <| q9 (qJ rfl) <| q9 (qD rfl) <| q9 (wE rfl) <| qK (qW rfl rfl (by first | exact zD _ | simp) (by first | exact zD _ | simp) (by first | exact wS _ | simp [Value.oneCell'])) <| q9 (qC rfl) <| qB <| QAt.seq <| Tr.ret <| wC ([(p, .cells (wW s ++ [Value.int .i64 a, Value.int .i64 0]).toArray 242 (0, 0))] :: F) (.inl rfl) rfl (z7 rfl (by first | exact zD _ | simp)) (qd rfl) ?_
  exact ⟨rfl, rfl⟩
theorem reads_first {A : Res} {yv : Value} {m : Nat} {ys : List Int} (hr : Reads w0 A yv m 1 (u8s ys)) (hm : ys.length = m) (hn : yv ≠ .slice none m 0 ∨ m = 0) (w : World) (h : Own w0 A w) (P : Program) : (Builtin.firstCells 1 m yv).run P w = .ok (u8s ys).toArray w :=
  hr.firstCells h (fun e => by rcases hn with h | h; exact absurd e h; omega)
theorem writerBytes_ok (p : Nat) (s : Sec) (a n : Nat) (q : Option Addr) (c : Nat) (ys : List Int) (hy : IsB ys) (h : ys.length ≤ n ∧ a + n ≤ 128 ∧ a < 128) (hq : q = none → ys.length = 0)
    (hr : ∀ A : qM, Reads w0 (A :: F) (.slice q ys.length c) ys.length 1 (u8s ys)) :
    FnT Tryz.prog w0 162 #[.pointer (some ⟨p, 0, none⟩), .int .i64 n, .slice q ys.length c] (wr p s a :: F)
      (fun v L' => v = .tuple #[] ∧ L' = wr p (s.put a ys (by omega) hy) (a + n) :: F) := by
  unfold wr
  refine FnT.enter (E0 := [(0, _), (1, _), (2, _)]) (N := 52) Tryz.func162 rfl rfl rfl rfl ?_
  refine Tr.seq <| Tr.seq <| Tr.region <| q9 (qA rfl) <| q9 (qJ rfl) <| q9 (qD rfl) <| q9 (y8 rfl) <| q9 (wR rfl rfl) <| q9 (qA rfl) <| qN (s := 11) rfl (fun hg0_5 => ?_) (fun hg0_5 => ?_)
  ·
   refine qE rfl rfl (qA rfl) <| qE rfl rfl (qA rfl) <| qE rfl rfl (qg rfl) <| qE rfl rfl (qv rfl rfl) <| qE rfl rfl (qA rfl) <| qN (s := 16) rfl (fun hg0_10 => ?_) (fun hg0_10 => ?_)
   · (exfalso; omega)
   ·
    refine qE rfl rfl (qA rfl) <| qE rfl rfl (qA rfl) <| qE rfl rfl (qJ rfl) <| qE rfl rfl (qD rfl) <| qE rfl rfl (y8 rfl) <| qE rfl rfl (zV rfl rfl (by omega)) <| qE rfl rfl (zd rfl rfl) <| qE rfl rfl (qL rfl rfl) <| q9 (qT rfl rfl) <| qB <| QAt.seq <| qI rfl (fun hc0 => ?_) (fun hc0 => ?_)
    · (exfalso; omega)
    ·
     refine Tr.skip <| QAt.seq <| Tr.seq <| Tr.region <| q9 (qA rfl) <| q9 (qJ rfl) <| q9 (qD rfl) <| q9 (y8 rfl) <| q9 (wR rfl rfl) <| qB <| QAt.seq <| ww rfl <| Tr.seq <| Tr.drawn qm <| qr [(34, .pure _), (35, .pure _), (36, .pure _), (37, .pure _), (38, .pure _), (39, .pure _), (40, .pure _), (41, .pure _), (42, .pure _)] (by kernel_rfl) rfl rfl rfl wL (ParH.pure rfl (fun X => qA rfl) <| ParH.pure rfl (fun X => qJ rfl) <| ParH.pure rfl (fun X => qD rfl) <| ParH.pure rfl (fun X => qA rfl) <| ParH.pure rfl (fun X => qJ rfl) <| ParH.pure rfl (fun X => qD rfl) <| ParH.pure rfl (fun X => y8 rfl) <| ParH.pure rfl (fun X => k7 (l := a) (h := 128) (kl := .i64) (kh := .i64) rfl rfl rfl (by omega) (by decide)) <| ParH.pure rfl (fun X => qA rfl) <| ParH.nil rfl) ?_
     dsimp only [zG, List.drop, List.length]
     refine qq (by kernel_rfl) (Xa (b := p) (off := a) (n := 128 - a) (c := 128 - a) (m := ys.length) (k := ys.length) (sz := 1) (ys := u8s ys) (r := wW (s.put a ys (by omega) hy) ++ [Value.int .i64 a, Value.int .i64 0]) (by rw [← slice_off a (by omega)]; rfl) rfl (by omega) (fun w => by simp [Builtin.lenOf]) (fun w hw => reads_first (hr _) rfl (by cases q; exact .inr (hq rfl); exact .inl (fun e => by cases e)) w hw _) (jp _) (by simp; omega) (Ze s _ a ys (by omega) hy)) ?_
     refine qt <| QAt.seq ?_
     skip
     refine Tr.region <| q9 (qA rfl) <| q9 (qJ rfl) <| q9 (qD rfl) <| q9 (y8 rfl) <| q9 (qA rfl) <| q9 (qj rfl rfl (by omega)) <| q9 (qJ rfl) <| q9 (qD rfl) <| qK (wX rfl rfl rfl) <| qB <| jz (.inr rfl) rfl  ?_
     exact ⟨rfl, rfl⟩
  · (exfalso; omega)
def Sec.sub (s : Sec) (a n : Nat) : List Int := (s.l.drop a).take n
theorem YF (s : Sec) {a n : Nat} (h : a + n ≤ 128) : (Sec.sub s a n).length = n := by have := s.len; simp [Sec.sub]; omega
theorem Sec.sub_b (s : Sec) (a n : Nat) : IsB (Sec.sub s a n) := fun b hb => s.b b (List.mem_of_mem_drop (List.mem_of_mem_take hb))
theorem Jg (s : Sec) (r : List Value) {a n : Nat} (h : a + n ≤ 128) : ((wW s ++ r).drop a).take n = u8s (Sec.sub s a n) := by
  rw [List.drop_append_of_le_length (by simp; omega), List.take_append_of_le_length (by simp; omega)]
  simp [wW, Sec.sub, Qw, jR]
theorem XT (s : Sec) : FnT Tryz.prog w0 144 #[.agg (wW s).toArray] F (fun v L' => ∃ p, v = .pointer (some ⟨p, 0, none⟩) ∧ L' = rd p s 0 :: F) := by
  refine FnT.enter (E0 := [(0, _)]) (N := 6) Tryz.func144 rfl rfl rfl rfl ?_
  refine Tr.seq <| Tr.region <| qF (wT rfl) ?_
  rintro t1 _ ⟨b1, rfl, rfl⟩
  refine q9 (qC rfl) <| qB <| QAt.seq <| Tr.seq <| Tr.region <| q9 (w7 rfl (zD s)) <| q9 (wF rfl) <| qF (wT rfl) ?_
  rintro t5 _ ⟨b5, rfl, rfl⟩
  refine q9 (qC rfl) <| qB <| QAt.seq <| Tr.ret <| qs ([(b5, .cells (wW s ++ [Value.int .i64 0, Value.int .i64 0]).toArray 257 (0, 0))] :: F) (.inl rfl) rfl (qd rfl) ?_
  exact ⟨_, rfl, rfl⟩
theorem xA (p : Nat) (s : Sec) (a w : Nat) (h : 1 ≤ w ∧ w ≤ 8 ∧ a + w ≤ 128) :
    FnT Tryz.prog w0 145 #[.pointer (some ⟨p, 0, none⟩), .int .i64 w] (rd p s a :: F)
      (fun v L' => v = .int .u64 (deI (Sec.sub s a w)) ∧ L' = rd p s (a + w) :: F) := by
  unfold rd
  refine FnT.enter (E0 := [(0, _), (1, _)]) (N := 40) Tryz.func145 rfl rfl rfl rfl ?_
  refine Tr.seq <| Tr.region <| q9 (qC rfl) <| qB <| QAt.seq <| Tr.seq <| Tr.seq <| Tr.region <| q9 (qA rfl) <| q9 (qJ rfl) <| q9 (qD rfl) <| q9 (y8 rfl) <| q9 (wZ rfl rfl) <| qB <| QAt.seq <| wD rfl <| Tr.skip <| QAt.seq <| Tr.seq <| Tr.drawn qm <| qr [(13, .pure _), (14, .pure _), (15, .pure _), (16, .pure _), (17, .pure _), (18, .pure _), (19, .pure _), (20, .pure _), (21, .pure _)] (by kernel_rfl) rfl rfl rfl wL (ParH.pure rfl (fun X => qA rfl) <| ParH.pure rfl (fun X => qJ rfl) <| ParH.pure rfl (fun X => qD rfl) <| ParH.pure rfl (fun X => k7 (l := 0) (h := 128) (kl := .i64) (kh := .i64) rfl rfl rfl (by decide) (by decide)) <| ParH.pure rfl (fun X => qA rfl) <| ParH.pure rfl (fun X => qJ rfl) <| ParH.pure rfl (fun X => qD rfl) <| ParH.pure rfl (fun X => y8 rfl) <| ParH.pure rfl (fun X => qA rfl) <| ParH.nil rfl) ?_
  dsimp only [zG, List.drop, List.length]
  refine qq (by kernel_rfl) (qw rfl (V2 p 0 128 128 257 (0, 0) _ (Sec.sub s a w) a w (by omega) (by omega) (Sec.sub_b s a w) (YF s (by omega)) (by rw [show 0 + (a : Int).toNat = a from by omega]; exact Jg s _ (by omega)))) ?_
  refine qq (by kernel_rfl) (qA rfl) ?_
  refine qr [(23, .pure _), (24, .pure _), (5, .pure _)] (by kernel_rfl) rfl rfl rfl wL (ParH.pure rfl (fun X => qR rfl rfl) <| ParH.pure rfl (fun X => qR rfl rfl) <| ParH.pure rfl (fun X => qC rfl) <| ParH.nil rfl) ?_
  dsimp only [zG, List.drop, List.length]
  refine qq (by kernel_rfl) (qC rfl) ?_
  refine qt <| QAt.seq <| Tr.seq <| Tr.seq <| Tr.region <| q9 (qA rfl) <| q9 (qA rfl) <| q9 (qJ rfl) <| q9 (qD rfl) <| qK (wX rfl rfl rfl) <| qB <| QAt.seq <| Tr.seq <| Tr.region <| q9 (qA rfl) <| q9 (wR rfl rfl) <| qB <| QAt.seq <| ww rfl <| Tr.region <| q9 (qA rfl) <| q9 (qJ rfl) <| q9 (qD rfl) <| q9 (y8 rfl) <| q9 (qA rfl) <| q9 (qj rfl rfl (by omega)) <| q9 (qJ rfl) <| q9 (qD rfl) <| qK (wX rfl rfl rfl) <| qB <| QAt.seq <| Tr.seq <| Tr.region <| q9 (qA rfl) <| q9 (qC rfl) <| qB <| QAt.seq <| Tr.ret <| zW (.inl rfl) rfl (qd rfl) ?_
  exact ⟨rfl, rfl⟩
theorem readerLeft_ok (p : Nat) (s : Sec) (a : Nat) (h : a ≤ 128) :
    FnT Tryz.prog w0 161 #[.pointer (some ⟨p, 0, none⟩)] (rd p s a :: F) (fun v L' => v = .int .i64 (128 - a) ∧ L' = rd p s a :: F) := by
  unfold rd
  refine FnT.enter (E0 := [(0, _)]) (N := 8) Tryz.func161 rfl rfl rfl rfl ?_
  refine Tr.seq <| Tr.region <| q9 (qC rfl) <| qB <| QAt.seq <| Tr.seq <| Tr.region <| q9 (qA rfl) <| q9 (qJ rfl) <| q9 (qD rfl) <| q9 (y8 rfl) <| q9 (zV rfl rfl (by omega)) <| q9 (qC rfl) <| qB <| QAt.seq <| Tr.ret <| zW (.inl rfl) rfl (qd rfl) ?_
  exact ⟨rfl, rfl⟩
theorem slice_offn {p : Nat} (a n : Nat) (h : a < 128) : Value.slice (some (if 128 = a then (⟨p, 0, none⟩ : Addr) else ⟨p, 0 + a * 1, none⟩)) (a + n - a) (128 - a) = .slice (some ⟨p, a, none⟩) n (128 - a) := by
  rw [if_neg (by omega), Nat.add_sub_cancel_left]; simp
theorem readerBytes_ok (p : Nat) (s : Sec) (a n : Nat) (h : a + n ≤ 128 ∧ a < 128) :
    FnT Tryz.prog w0 155 #[.pointer (some ⟨p, 0, none⟩), .int .i64 n] (rd p s a :: F)
      (fun v L' => ∃ C, SlC 5 1 v n (u8s (Sec.sub s a n)) C ∧ L' = C :: rd p s (a + n) :: F) := by
  refine FnT.enter (E0 := [(0, _), (1, _)]) (N := 51) Tryz.func155 rfl rfl rfl rfl ?_
  unfold rd
  refine Tr.seq <| Tr.region <| q9 (qC rfl) <| qB <| QAt.seq <| Tr.seq <| Tr.seq <| Tr.region <| q9 (qA rfl) <| q9 (qJ rfl) <| q9 (qD rfl) <| q9 (y8 rfl) <| q9 (wR rfl rfl) <| q9 (qA rfl) <| qN (s := 10) rfl (fun hg1_5 => ?_) (fun hg1_5 => ?_)
  ·
   refine qE rfl rfl (qA rfl) <| qE rfl rfl (qv rfl rfl) <| qE rfl rfl (qA rfl) <| qN (s := 13) rfl (fun hg1_8 => ?_) (fun hg1_8 => ?_)
   · (exfalso; omega)
   ·
    refine qE rfl rfl (qA rfl) <| qE rfl rfl (qA rfl) <| qE rfl rfl (qw rfl (readerLeft_ok p s a (by omega))) <| qE rfl rfl (zd rfl rfl) <| qE rfl rfl (qL rfl rfl) <| q9 (qT rfl rfl) <| qB <| QAt.seq <| qI rfl (fun hc1 => ?_) (fun hc1 => ?_)
    · (exfalso; omega)
    ·
     refine Tr.skip <| QAt.seq <| Tr.seq <| Tr.seq <| Tr.region <| q9 (qA rfl) <| q9 (qJ rfl) <| q9 (qD rfl) <| q9 (y8 rfl) <| q9 (wZ rfl rfl) <| qB <| QAt.seq <| wD rfl <| Tr.skip <| QAt.seq <| Tr.seq <| Tr.region <| q9 (qA rfl) <| q9 (qJ rfl) <| q9 (qD rfl) <| q9 (y8 rfl) <| q9 (qA rfl) <| q9 (qj rfl rfl (by omega)) <| q9 (qJ rfl) <| q9 (qD rfl) <| qK (wX rfl rfl rfl) <| qB <| QAt.seq <| Tr.seq <| Tr.drawn qm <| qr [(36, .pure _), (37, .pure _), (38, .pure _), (39, .pure _), (40, .pure _), (41, .pure _), (42, .pure _), (43, .pure _), (44, .pure _), (45, .pure _), (46, .pure _), (47, .pure _), (48, .pure _)] (by kernel_rfl) rfl rfl rfl wL (ParH.pure rfl (fun X => qA rfl) <| ParH.pure rfl (fun X => qJ rfl) <| ParH.pure rfl (fun X => qD rfl) <| ParH.pure rfl (fun X => qA rfl) <| ParH.pure rfl (fun X => qJ rfl) <| ParH.pure rfl (fun X => qD rfl) <| ParH.pure rfl (fun X => y8 rfl) <| ParH.pure rfl (fun X => qA rfl) <| ParH.pure rfl (fun X => zV rfl rfl (by omega)) <| ParH.pure rfl (fun X => qA rfl) <| ParH.pure rfl (fun X => qJ rfl) <| ParH.pure rfl (fun X => qD rfl) <| ParH.pure rfl (fun X => y8 rfl) <| ParH.nil rfl) ?_
     dsimp only [zG, List.drop, List.length]
     refine qq (by kernel_rfl) (k7 (l := a) (h := a + n) (kl := .i64) (kh := .i64) rfl (by show some (Value.int .i64 ((a : Int) + n - n)) = _; rw [Int.add_sub_cancel]) rfl (by omega) (by omega)) ?_
     refine wa (by kernel_rfl) (wP (m := n) (sz := 1) (by rfl) (by rw [← slice_offn a n (by omega)]; rfl) (zu _ _) (wQ inferInstance (by rw [Nat.mul_one]; exact Jg s _ h.1) (by simp [YF s h.1])) (jp _) Tryz.underlying23 rfl rfl (by omega)) ?_
     rintro t50 _ ⟨C', hsl', rfl⟩
     refine qq (by kernel_rfl) (qC rfl) ?_
     refine qt <| QAt.seq <| Tr.ret <| qs (C' :: [(p, .cells (wW s ++ [Value.int .i64 ((a : Int) + n), Value.int .i64 0]).toArray 257 (0, 0))] :: F) (.inl rfl) rfl (qd rfl) ?_
     exact ⟨C', by simpa using hsl', rfl⟩
  · (exfalso; omega)
theorem Ko (c : Int) (l : List Int) (b : Int) : xz c (l ++ [b]) = QG 8 (zH .xor .u32 (xz c l) b) := by
  induction l generalizing c with
  | nil => simp only [List.nil_append, xz]
  | cons x l ih => simp only [List.cons_append, xz]; exact ih _
theorem shr_one (z : Int) : z.fdiv (2 ^ min (1 : Int).toNat IntKind.u32.bits) = z / 2 := by
  have : (2 : Int) ^ min (1 : Int).toNat IntKind.u32.bits = 2 := rfl
  rw [this]; exact Int.fdiv_eq_ediv_of_nonneg _ (by omega)
theorem ZJ {z : Int} (h : z % 2 = 1) : Zs z = zH .xor .u32 (z / 2) 3988292384 := by unfold Zs; rw [if_pos h]
theorem WU {z : Int} (h : ¬ z % 2 = 1) : Zs z = z / 2 := by unfold Zs; rw [if_neg h]
theorem crc_ok (b off n c e : Nat) (fr : Nat × Nat) (l : List Value) (bs : List Int) (hn : (n : Int) ≤ 9223372036854775807) (hbs : IsB bs) (hlen : bs.length = n) (hl : (l.drop off).take n = u8s bs) :
    FnT Tryz.prog w0 163 #[.slice (some ⟨b, off, none⟩) n c] ([(b, .cells l.toArray e fr)] :: F)
      (fun v L' => v = .int .u32 (KM bs) ∧ L' = [(b, .cells l.toArray e fr)] :: F) := by
  have hget : ∀ i : Nat, i < n → ∃ x, bs[i]? = some x ∧ 0 ≤ x ∧ x < 256 ∧ wG l (off + i * 1) = some (.int .u8 x) := by
    intro i hi
    have hlt : i < bs.length := by omega
    refine ⟨bs[i], List.getElem?_eq_getElem hlt, (hbs _ (List.getElem_mem hlt)).1, (hbs _ (List.getElem_mem hlt)).2, ?_⟩
    have h1 : ((l.drop off).take n)[i]? = some (.int .u8 bs[i]) := by rw [hl]; simp [u8s, hlt]
    rw [List.getElem?_take, if_pos hi, List.getElem?_drop] at h1
    rw [wi, ← h1]; congr 1; omega
  refine FnT.enter (E0 := [(0, _)]) (N := 31) Tryz.func163 rfl rfl rfl rfl ?_
  refine Tr.seq <| Tr.region <| q9 (qC rfl) <| qB <| QAt.seq <| Tr.seq <| Tr.region <| q9 (qC rfl) <| qB <| QAt.seq <| Tr.seq <| Tr.seq <| Tr.region <| q9 (qA rfl) <| q9 (qg rfl) <| q9 (qA rfl) <| qB <| QAt.seq <| Tr.block <| wB (Γ := {pΓ : (Nat) // (fun (i : Nat) => i ≤ n) pΓ}) (fun g => (fun (i : Nat) => [(3, .int .u32 (xz 4294967295 (bs.take i))), (7, .slice (some ⟨b, off, none⟩) n c), (8, .int .i64 n), (9, .int .i64 i)]) g.1) (fun g => (fun (i : Nat) => [(b, .cells l.toArray e fr)] :: F) g.1) (fun g => (fun (i : Nat) => n - i) g.1) ⟨0, by dsimp only; exact (by omega)⟩ (qP _) ?_
  rintro ⟨i, hloop⟩
  replace hloop : i ≤ n := hloop
  obtain hi := hloop
  show Tr _ _ _ ([(3, .int .u32 (xz 4294967295 (bs.take i))), (7, .slice (some ⟨b, off, none⟩) n c), (8, .int .i64 n), (9, .int .i64 i)]) ([(b, .cells l.toArray e fr)] :: F) _ _
  refine Tr.seq <| Tr.region <| q9 (qv rfl rfl) <| qB <| QAt.seq <| Tr.seq <| qI rfl (fun hc3 => ?_) (fun hc3 => ?_)
  ·
   refine Tr.skip <| QAt.seq <| Tr.seq <| Tr.block <| Tr.seq ?_
   obtain ⟨x, hx1, hx2, hx3, hx4⟩ := hget i (by omega)
   have hsn : bs.take (i + 1) = bs.take i ++ [x] := by rw [List.take_add_one, hx1]; rfl
   refine Tr.region <| q9 (qf (j := i) rfl rfl (by omega) (by omega) rfl) <| q9 (qG rfl hx4) <| q9 (qC rfl) <| qB <| QAt.seq <| Tr.seq <| Tr.region <| q9 (qA rfl) <| q9 (qA rfl) <| q9 (wo rfl (by first | (simp only [IntKind.min, IntKind.max, IntKind.bits, IntKind.signed, Bool.false_eq_true, if_false, if_true]; omega))) ?_
   refine q9 (JF rfl rfl) <| q9 (qC rfl) <| qB <| QAt.seq <| Tr.seq <| Tr.region <| q9 (qA rfl) <| qB <| QAt.seq <| Tr.block <| wB (Γ := {pΓ : (Nat) × (Int) // (fun (k : Nat) (z : Int) => k ≤ 8 ∧ 0 ≤ z ∧ z < 4294967296 ∧ QG (8 - k) z = xz 4294967295 (bs.take (i + 1))) pΓ.1 pΓ.2}) (fun g => (fun (k : Nat) (z : Int) => [(3, .int .u32 z), (7, .slice (some ⟨b, off, none⟩) n c), (8, .int .i64 n), (9, .int .i64 i), (17, .int .i64 k)]) g.1.1 g.1.2) (fun g => (fun (k : Nat) (z : Int) => [(b, .cells l.toArray e fr)] :: F) g.1.1 g.1.2) (fun g => (fun (k : Nat) (z : Int) => 8 - k) g.1.1 g.1.2) ⟨(0, zH .xor .u32 (xz 4294967295 (bs.take i)) x), by dsimp only; exact ⟨by omega, (WM _ _).1, (WM _ _).2, by rw [hsn, Ko]⟩⟩ (qP _) ?_
   rintro ⟨⟨k, z⟩, hloop⟩
   replace hloop : k ≤ 8 ∧ 0 ≤ z ∧ z < 4294967296 ∧ QG (8 - k) z = xz 4294967295 (bs.take (i + 1)) := hloop
   obtain ⟨hk, hz1, hz2, hz3⟩ := hloop
   show Tr _ _ _ ([(3, .int .u32 z), (7, .slice (some ⟨b, off, none⟩) n c), (8, .int .i64 n), (9, .int .i64 i), (17, .int .i64 k)]) ([(b, .cells l.toArray e fr)] :: F) _ _
   refine Tr.seq <| Tr.region <| q9 (qv rfl rfl) <| qB <| QAt.seq <| Tr.seq <| qI rfl (fun hc7 => ?_) (fun hc7 => ?_)
   ·
    refine Tr.skip <| QAt.seq <| Tr.seq <| Tr.block <| Tr.seq ?_
    obtain ⟨k', hk'⟩ : ∃ k', 8 - k = k' + 1 := ⟨7 - k, by omega⟩
    have hz4 := K7 hz1 hz2
    rw [hk', Wu] at hz3
    refine Tr.region <| q9 (qA rfl) <| q9 (QX rfl rfl) <| q9 (qC rfl) <| qB ?_
    rw [and_one hz1 hz2]
    refine QAt.seq <| Tr.seq <| Tr.region <| q9 (qA rfl) <| q9 (JG rfl rfl (by omega)) <| q9 (qC rfl) <| qB ?_
    rw [shr_one]
    refine QAt.seq <| Tr.seq <| Tr.region <| q9 (qA rfl) <| q9 (wR rfl rfl) <| qB <| QAt.seq <| qI rfl (fun hc10 => ?_) (fun hc10 => ?_)
    ·
     refine Tr.region <| q9 (qA rfl) <| q9 (JF rfl rfl) <| q9 (qC rfl) <| qB <| QAt.block <| QAt.seq ?_
     first | rw [← ZJ hc10] | rw [← WU hc10]
     refine Tr.region <| q9 (qj rfl rfl (by omega)) <| q9 (qA rfl) <| qB <| qh ⟨(k + 1, Zs z), ?_⟩ ?_ ?_
     · (try dsimp only); exact ⟨by omega, hz4.1, hz4.2, by rw [show 8 - (k + 1) = k' from by omega]; exact hz3⟩
     · (try dsimp only); omega
     · (try dsimp only); exact qP _
    ·
     refine Tr.skip <| QAt.block <| QAt.seq ?_
     first | rw [← ZJ hc10] | rw [← WU hc10]
     refine Tr.region <| q9 (qj rfl rfl (by omega)) <| q9 (qA rfl) <| qB <| qh ⟨(k + 1, Zs z), ?_⟩ ?_ ?_
     · (try dsimp only); exact ⟨by omega, hz4.1, hz4.2, by rw [show 8 - (k + 1) = k' from by omega]; exact hz3⟩
     · (try dsimp only); omega
     · (try dsimp only); exact qP _
   ·
    refine Tr.exit <| qX <| qY <| qS <| QAt.block <| QAt.seq ?_
    obtain rfl : k = 8 := by omega
    have hz5 : z = xz 4294967295 (bs.take (i + 1)) := by rw [← hz3]; exact (Wt z).symm
    rw [hz5]
    refine Tr.region <| q9 (qj rfl rfl (by omega)) <| q9 (qA rfl) <| qB <| qh ⟨i + 1, ?_⟩ ?_ ?_
    · (try dsimp only); omega
    · (try dsimp only); omega
    · (try dsimp only); exact qP _
  ·
   refine Tr.exit <| qX <| qY <| qS <| QAt.seq <| Tr.seq <| Tr.region <| q9 (qA rfl) <| q9 (op_compl rfl) <| q9 (qC rfl) <| qB <| QAt.seq <| Tr.ret <| zW (.inl rfl) rfl (qd rfl) ?_
   exact ⟨by rw [show i = bs.length from by omega, List.take_length]; show Value.int .u32 (zH .xor .u32 4294967295 (xz 4294967295 bs)) = _; have := K6 bs (c := 4294967295) (by omega) (by omega); rw [compl32 this.1 this.2]; rfl, rfl⟩
theorem XF (x : Int) (w : Nat) (hw : w ≤ 8) (hx : 0 ≤ x ∧ x < 18446744073709551616) :
    FnT Tryz.prog w0 126 #[.int .u64 x, .int .i64 w] F (fun v L' => ∃ C, SlC 5 1 v w (u8s (leI w x)) C ∧ L' = C :: F) := by
  refine FnT.enter (E0 := [(0, _), (1, _)]) (N := 21) Tryz.func126 rfl rfl rfl rfl ?_
  refine Tr.seq <| Tr.region <| q9 (qC rfl) <| qB <| QAt.seq <| Tr.seq <| Tr.region <| q9 (qC rfl) <| qB <| QAt.seq <| Tr.seq <| Tr.seq <| Tr.region <| q9 (qC rfl) <| qB <| QAt.seq <| Tr.block <| wB (Γ := {pΓ : (Nat) × (Int) × (Value) × (qM) // (fun (i : Nat) (y : Int) (u : Value) (C : qM) => i ≤ w ∧ y = x / 256 ^ i ∧ SlC 5 1 u i (u8s (leI i x)) C) pΓ.1 pΓ.2.1 pΓ.2.2.1 pΓ.2.2.2}) (fun g => (fun (i : Nat) (y : Int) (u : Value) (C : qM) => [(0, .int .u64 y), (1, .int .i64 w), (5, u), (6, .int .i64 i)]) g.1.1 g.1.2.1 g.1.2.2.1 g.1.2.2.2) (fun g => (fun (i : Nat) (y : Int) (u : Value) (C : qM) => C :: F) g.1.1 g.1.2.1 g.1.2.2.1 g.1.2.2.2) (fun g => (fun (i : Nat) (y : Int) (u : Value) (C : qM) => w - i) g.1.1 g.1.2.1 g.1.2.2.1 g.1.2.2.2) ⟨(0, x, .slice none 0 0, []), by dsimp only; exact ⟨by omega, by simp, zu _ _⟩⟩ (qP _) ?_
  rintro ⟨⟨i, y, u, C⟩, hloop⟩
  replace hloop : i ≤ w ∧ y = x / 256 ^ i ∧ SlC 5 1 u i (u8s (leI i x)) C := hloop
  obtain ⟨hi, hy, hsl⟩ := hloop
  show Tr _ _ _ ([(0, .int .u64 y), (1, .int .i64 w), (5, u), (6, .int .i64 i)]) (C :: F) _ _
  refine Tr.seq <| Tr.seq <| Tr.region <| q9 (qA rfl) <| q9 (qA rfl) <| q9 (qv rfl rfl) <| qB <| QAt.seq <| qI rfl (fun hc3 => ?_) (fun hc3 => ?_)
  ·
   refine Tr.skip <| QAt.seq <| Tr.seq <| Tr.block <| Tr.seq ?_
   have hy0 : 0 ≤ y := by rw [hy]; exact Int.ediv_nonneg hx.1 (Int.le_of_lt (Int.pow_pos (by omega)))
   have hy1 : y ≤ x := by rw [hy]; exact Int.ediv_le_self _ hx.1
   refine Tr.region <| q9 (qA rfl) <| q9 (qA rfl) <| q9 (jV rfl rfl (by omega) (by omega)) <| q9 (wo rfl (by first | (simp only [IntKind.min, IntKind.max, IntKind.bits, IntKind.signed, Bool.false_eq_true, if_false, if_true]; omega))) ?_
   refine qF (w5 rfl rfl rfl) ?_
   rintro t16 _ ⟨b16, rfl, rfl⟩
   refine qF (wP (m := 1) (sz := 1) rfl rfl hsl (wQ (ys := u8s [y % 256]) inferInstance rfl rfl) rfl Tryz.underlying23 rfl rfl (by omega)) ?_
   rintro t17 _ ⟨C', hsl', rfl⟩
   refine q9 (qC rfl) <| qB <| QAt.seq <| Tr.region <| q9 (qA rfl) <| q9 (Yk rfl rfl hy0 (by omega) (by simp only [IntKind.max, IntKind.bits, IntKind.signed, Bool.false_eq_true, if_false]; omega)) ?_
   refine q9 (qC rfl) <| qB <| QAt.block <| QAt.seq <| Tr.region <| q9 (qA rfl) <| q9 (qj rfl rfl (by omega)) <| q9 (qC rfl) <| qB <| qh ⟨(i + 1, y / 256, t17, C'), ?_⟩ ?_ ?_
   ·
    try dsimp only
    refine ⟨by omega, ?_, ?_⟩
    · rw [hy, Int.pow_succ, Int.ediv_ediv_of_nonneg (Int.le_of_lt (Int.pow_pos (by omega)))]
    · rw [Kd, yH, ← hy]; exact hsl'
   · (try dsimp only); omega
   · (try dsimp only); exact qP _
  ·
   refine Tr.exit <| qX <| qY <| qS <| QAt.seq <| Tr.seq <| Tr.region <| q9 (qA rfl) <| q9 (qC rfl) <| qB <| QAt.seq <| Tr.ret <| qs (C :: F) (.inl rfl) rfl (qd rfl) ?_
   exact ⟨C, by rw [show w = i from by omega]; exact hsl, rfl⟩
theorem Jt {a : List Value} {k : Nat} {z v : Value} : (a ++ List.replicate (k + 1) z).set a.length v = (a ++ [v]) ++ List.replicate k z := by
  rw [List.set_append_right _ _ (Nat.le_refl _), Nat.sub_self, List.replicate_succ, List.set_cons_zero]; simp
theorem fill_next {bs : List Int} {i n : Nat} {x : Int} {z : Value} (hx : bs[i]? = some x) (hi : i < bs.length) (hn : i < n) :
    (u8s (bs.take i) ++ List.replicate (n - i) z).set (0 + i * 1) (.int .u8 x) = u8s (bs.take (i + 1)) ++ List.replicate (n - (i + 1)) z := by
  have e : n - i = (n - (i + 1)) + 1 := by omega
  have h := Jt (a := u8s (bs.take i)) (k := n - (i + 1)) (z := z) (v := .int .u8 x)
  rw [WO, List.length_take, show min i bs.length = i from by omega] at h
  rw [e, show 0 + i * 1 = i from by omega, h, List.take_add_one, hx, yH]; rfl
theorem Kj (s : Sec) {z : Value} : ((u8s (s.l.take 128) ++ List.replicate (128 - 128) z).drop 0).take 128 = wW s := by
  rw [List.take_of_length_le (l := s.l) (by rw [s.len]; omega)]
  simp only [Nat.sub_self, List.replicate_zero, List.append_nil, List.drop_zero]
  exact List.take_of_length_le (by simp [s.len])
theorem Xh (b n c e off : Nat) (fr : Nat × Nat) (l : List Value) (s : Sec) (hl : (l.drop off).take 128 = wW s) :
    FnT Tryz.prog w0 127 #[.slice (some ⟨b, off, none⟩) 128 c] ([(b, .cells l.toArray e fr)] :: F) (fun v L' => v = .agg (wW s).toArray ∧ L' = [(b, .cells l.toArray e fr)] :: F) := by
  have hget : ∀ i : Nat, i < 128 → ∃ x, s.l[i]? = some x ∧ wG l (off + i * 1) = some (.int .u8 x) := by
    intro i hi
    have hlt : i < s.l.length := by rw [s.len]; exact hi
    refine ⟨s.l[i], List.getElem?_eq_getElem hlt, ?_⟩
    have h1 : ((l.drop off).take 128)[i]? = some (.int .u8 s.l[i]) := by rw [hl]; simp [wW, u8s, hlt]
    rw [List.getElem?_take, if_pos hi, List.getElem?_drop] at h1
    rw [wi, ← h1]; congr 1; omega
  refine FnT.enter (E0 := [(0, _)]) (N := 22) Tryz.func127 rfl rfl rfl rfl ?_
  refine Tr.seq <| Tr.region <| qF (qV) ?_
  rintro t2 _ ⟨b2, rfl, rfl⟩
  refine qB <| QAt.seq <| Tr.seq <| Tr.region <| qF (qV) ?_
  rintro t3 _ ⟨b3, rfl, rfl⟩
  refine qB <| QAt.seq <| Tr.seq <| Tr.seq <| Tr.region <| q9 (qC rfl) <| qB <| QAt.seq <| Tr.block <| wB (Γ := {pΓ : (Nat) // (fun (i : Nat) => i ≤ 128) pΓ}) (fun g => (fun (i : Nat) => [(0, .slice (some ⟨b, off, none⟩) 128 c), (2, .pointer (some ⟨b2, 0, none⟩)), (3, .pointer (some ⟨b3, 0, none⟩)), (4, .int .i64 i)]) g.1) (fun g => (fun (i : Nat) => [(b3, .cells (u8s (s.l.take i) ++ List.replicate (128 - i) (Value.int .u8 0)).toArray 54 (0, 0))] :: [(b2, .cells (wW Sec.zero).toArray 54 (0, 0))] :: [(b, .cells l.toArray e fr)] :: F) g.1) (fun g => (fun (i : Nat) => 128 - i) g.1) ⟨0, by dsimp only; exact (by omega)⟩ (y7 (by rfl)) ?_
  rintro ⟨i, hloop⟩
  replace hloop : i ≤ 128 := hloop
  obtain hi := hloop
  show Tr _ _ _ ([(0, .slice (some ⟨b, off, none⟩) 128 c), (2, .pointer (some ⟨b2, 0, none⟩)), (3, .pointer (some ⟨b3, 0, none⟩)), (4, .int .i64 i)]) ([(b3, .cells (u8s (s.l.take i) ++ List.replicate (128 - i) (Value.int .u8 0)).toArray 54 (0, 0))] :: [(b2, .cells (wW Sec.zero).toArray 54 (0, 0))] :: [(b, .cells l.toArray e fr)] :: F) _ _
  refine Tr.seq <| Tr.seq <| Tr.region <| q9 (qA rfl) <| q9 (qA rfl) <| q9 (qg rfl) <| q9 (qv rfl rfl) <| q9 (qA rfl) <| qN (s := 9) rfl (fun hg3_4 => ?_) (fun hg3_4 => ?_)
  ·
   refine qE rfl rfl (qA rfl) <| qE rfl rfl (qv rfl rfl) <| q9 (qT rfl rfl) <| qB <| QAt.seq <| qI rfl (fun hc3 => ?_) (fun hc3 => ?_)
   ·
    refine Tr.skip <| QAt.seq <| Tr.seq <| Tr.block ?_
    obtain ⟨x, hx1, hx4⟩ := hget i (by omega)
    refine Tr.region <| q9 (qA rfl) <| q9 (qA rfl) <| q9 (qA rfl) <| q9 (qf (j := i) rfl rfl (by omega) (by omega) rfl) <| q9 (qG rfl hx4) <| q9 (wO (j := i) rfl rfl (by omega) (by omega) rfl) <| qK (zx rfl rfl (by simp [s.len]; omega) rfl) ?_
    refine qB <| QAt.block <| QAt.seq <| Tr.region <| q9 (qA rfl) <| q9 (qj rfl rfl (by omega)) <| q9 (qC rfl) <| qB <| qh ⟨i + 1, ?_⟩ ?_ ?_
    · (try dsimp only); omega
    · (try dsimp only); omega
    · (try dsimp only); exact y7 (by rw [fill_next hx1 (by rw [s.len]; omega) (by omega)])
   ·
    refine Tr.exit <| qX <| qY <| qS <| QAt.seq <| Tr.seq <| Tr.region <| q9 (zQ rfl (r := wW s) (by rw [show i = 128 from by omega]; exact Kj s) (by simp)) ?_
    refine qK (qW rfl rfl (by first | exact zD _ | simp) (by first | exact zD _ | simp) (by first | exact wS _ | simp [Value.oneCell'])) <| qB <| QAt.seq <| Tr.ret <| qs ([(b, .cells l.toArray e fr)] :: F) (.inl rfl) rfl (z7 rfl (by first | exact zD _ | simp)) ?_
    exact ⟨rfl, rfl⟩
  ·
   refine qH rfl rfl rfl <| qH rfl rfl rfl <| q9 (qL rfl rfl) <| qB <| QAt.seq <| wD rfl <| Tr.exit <| qX <| qY <| qS <| QAt.seq <| Tr.seq <| Tr.region <| q9 (zQ rfl (r := wW s) (by rw [show i = 128 from by omega]; exact Kj s) (by simp)) ?_
   refine qK (qW rfl rfl (by first | exact zD _ | simp) (by first | exact zD _ | simp) (by first | exact wS _ | simp [Value.oneCell'])) <| qB <| QAt.seq <| Tr.ret <| qs ([(b, .cells l.toArray e fr)] :: F) (.inl rfl) rfl (z7 rfl (by first | exact zD _ | simp)) ?_
   exact ⟨rfl, rfl⟩
theorem rcrc_ok (b off n c e : Nat) (fr : Nat × Nat) (l : List Value) (bs : List Int) (hn : (n : Int) ≤ 9223372036854775807) (hbs : IsB bs) (hlen : bs.length = n) (hl : (l.drop off).take n = u8s bs) :
    FnT Tryz.prog w0 159 #[.slice (some ⟨b, off, none⟩) n c] ([(b, .cells l.toArray e fr)] :: F)
      (fun v L' => v = .int .u32 (KM bs) ∧ L' = [(b, .cells l.toArray e fr)] :: F) := by
  have hget : ∀ i : Nat, i < n → ∃ x, bs[i]? = some x ∧ 0 ≤ x ∧ x < 256 ∧ wG l (off + i * 1) = some (.int .u8 x) := by
    intro i hi
    have hlt : i < bs.length := by omega
    refine ⟨bs[i], List.getElem?_eq_getElem hlt, (hbs _ (List.getElem_mem hlt)).1, (hbs _ (List.getElem_mem hlt)).2, ?_⟩
    have h1 : ((l.drop off).take n)[i]? = some (.int .u8 bs[i]) := by rw [hl]; simp [u8s, hlt]
    rw [List.getElem?_take, if_pos hi, List.getElem?_drop] at h1
    rw [wi, ← h1]; congr 1; omega
  refine FnT.enter (E0 := [(0, _)]) (N := 33) Tryz.func159 rfl rfl rfl rfl ?_
  refine Tr.seq <| Tr.region <| q9 (qC rfl) <| qB <| QAt.seq <| Tr.seq <| Tr.region <| q9 (qC rfl) <| qB <| QAt.seq <| Tr.seq <| Tr.seq <| Tr.region <| q9 (qC rfl) <| qB <| QAt.seq <| Tr.block <| wB (Γ := {pΓ : (Nat) // (fun (i : Nat) => i ≤ n) pΓ}) (fun g => (fun (i : Nat) => [(3, .int .u32 (xz 4294967295 (bs.take i))), (0, .slice (some ⟨b, off, none⟩) n c), (4, .int .i64 i)]) g.1) (fun g => (fun (i : Nat) => [(b, .cells l.toArray e fr)] :: F) g.1) (fun g => (fun (i : Nat) => n - i) g.1) ⟨0, by dsimp only; exact (by omega)⟩ (qP _) ?_
  rintro ⟨i, hloop⟩
  replace hloop : i ≤ n := hloop
  obtain hi := hloop
  show Tr _ _ _ ([(3, .int .u32 (xz 4294967295 (bs.take i))), (0, .slice (some ⟨b, off, none⟩) n c), (4, .int .i64 i)]) ([(b, .cells l.toArray e fr)] :: F) _ _
  refine Tr.seq <| Tr.seq <| Tr.region <| q9 (qA rfl) <| q9 (qA rfl) <| q9 (qg rfl) <| q9 (qv rfl rfl) <| qB <| QAt.seq <| qI rfl (fun hc3 => ?_) (fun hc3 => ?_)
  ·
   refine Tr.skip <| QAt.seq <| Tr.seq <| Tr.block <| Tr.seq ?_
   obtain ⟨x, hx1, hx2, hx3, hx4⟩ := hget i (by omega)
   have hsn : bs.take (i + 1) = bs.take i ++ [x] := by rw [List.take_add_one, hx1]; rfl
   refine Tr.region <| q9 (qA rfl) <| q9 (qA rfl) <| q9 (qA rfl) <| q9 (qf (j := i) rfl rfl (by omega) (by omega) rfl) <| q9 (qG rfl hx4) <| q9 (wo rfl (by first | (simp only [IntKind.min, IntKind.max, IntKind.bits, IntKind.signed, Bool.false_eq_true, if_false, if_true]; omega))) ?_
   refine q9 (JF rfl rfl) <| q9 (qC rfl) <| qB <| QAt.seq <| Tr.seq <| Tr.region <| q9 (qC rfl) <| qB <| QAt.seq <| Tr.block <| wB (Γ := {pΓ : (Nat) × (Int) // (fun (k : Nat) (z : Int) => k ≤ 8 ∧ 0 ≤ z ∧ z < 4294967296 ∧ QG (8 - k) z = xz 4294967295 (bs.take (i + 1))) pΓ.1 pΓ.2}) (fun g => (fun (k : Nat) (z : Int) => [(3, .int .u32 z), (0, .slice (some ⟨b, off, none⟩) n c), (4, .int .i64 i), (5, .int .i64 k)]) g.1.1 g.1.2) (fun g => (fun (k : Nat) (z : Int) => [(b, .cells l.toArray e fr)] :: F) g.1.1 g.1.2) (fun g => (fun (k : Nat) (z : Int) => 8 - k) g.1.1 g.1.2) ⟨(0, zH .xor .u32 (xz 4294967295 (bs.take i)) x), by dsimp only; exact ⟨by omega, (WM _ _).1, (WM _ _).2, by rw [hsn, Ko]⟩⟩ (qP _) ?_
   rintro ⟨⟨k, z⟩, hloop⟩
   replace hloop : k ≤ 8 ∧ 0 ≤ z ∧ z < 4294967296 ∧ QG (8 - k) z = xz 4294967295 (bs.take (i + 1)) := hloop
   obtain ⟨hk, hz1, hz2, hz3⟩ := hloop
   show Tr _ _ _ ([(3, .int .u32 z), (0, .slice (some ⟨b, off, none⟩) n c), (4, .int .i64 i), (5, .int .i64 k)]) ([(b, .cells l.toArray e fr)] :: F) _ _
   refine Tr.seq <| Tr.seq <| Tr.region <| q9 (qA rfl) <| q9 (qv rfl rfl) <| qB <| QAt.seq <| qI rfl (fun hc7 => ?_) (fun hc7 => ?_)
   ·
    refine Tr.skip <| QAt.seq <| Tr.seq <| Tr.block <| Tr.seq ?_
    obtain ⟨k', hk'⟩ : ∃ k', 8 - k = k' + 1 := ⟨7 - k, by omega⟩
    have hz4 := K7 hz1 hz2
    rw [hk', Wu] at hz3
    refine Tr.region <| q9 (qA rfl) <| q9 (jV rfl rfl (by omega) (by omega)) <| q9 (wR rfl rfl) <| qB <| QAt.seq <| qI rfl (fun hc9 => ?_) (fun hc9 => ?_)
    ·
     refine Tr.region <| q9 (qA rfl) <| q9 (Yk rfl rfl hz1 (by omega) (by simp only [IntKind.max, IntKind.bits, IntKind.signed, Bool.false_eq_true, if_false]; omega)) ?_
     refine q9 (JF rfl rfl) <| q9 (qC rfl) <| qB <| QAt.block <| QAt.seq ?_
     first | rw [← ZJ hc9] | rw [← WU hc9]
     refine Tr.region <| q9 (qA rfl) <| q9 (qj rfl rfl (by omega)) <| q9 (qC rfl) <| qB <| qh ⟨(k + 1, Zs z), ?_⟩ ?_ ?_
     · (try dsimp only); exact ⟨by omega, hz4.1, hz4.2, by rw [show 8 - (k + 1) = k' from by omega]; exact hz3⟩
     · (try dsimp only); omega
     · (try dsimp only); exact qP _
    ·
     refine Tr.region <| q9 (qA rfl) <| q9 (Yk rfl rfl hz1 (by omega) (by simp only [IntKind.max, IntKind.bits, IntKind.signed, Bool.false_eq_true, if_false]; omega)) ?_
     refine q9 (qC rfl) <| qB <| QAt.block <| QAt.seq ?_
     first | rw [← ZJ hc9] | rw [← WU hc9]
     refine Tr.region <| q9 (qA rfl) <| q9 (qj rfl rfl (by omega)) <| q9 (qC rfl) <| qB <| qh ⟨(k + 1, Zs z), ?_⟩ ?_ ?_
     · (try dsimp only); exact ⟨by omega, hz4.1, hz4.2, by rw [show 8 - (k + 1) = k' from by omega]; exact hz3⟩
     · (try dsimp only); omega
     · (try dsimp only); exact qP _
   ·
    refine Tr.exit <| qX <| qY <| qS <| QAt.block <| QAt.seq ?_
    obtain rfl : k = 8 := by omega
    have hz5 : z = xz 4294967295 (bs.take (i + 1)) := by rw [← hz3]; exact (Wt z).symm
    rw [hz5]
    refine Tr.region <| q9 (qA rfl) <| q9 (qj rfl rfl (by omega)) <| q9 (qC rfl) <| qB <| qh ⟨i + 1, ?_⟩ ?_ ?_
    · (try dsimp only); omega
    · (try dsimp only); omega
    · (try dsimp only); exact qP _
  ·
   refine Tr.exit <| qX <| qY <| qS <| QAt.seq <| Tr.seq ?_
   have hr := K6 (bs.take i) (c := 4294967295) (by omega) (by omega)
   refine Tr.region <| q9 (qA rfl) <| q9 (Xx rfl rfl (by simp only [IntKind.min, IntKind.max, IntKind.bits, IntKind.signed, Bool.false_eq_true, if_false]; omega)) ?_
   refine q9 (qC rfl) <| qB <| QAt.seq <| Tr.ret <| zW (.inl rfl) rfl (qd rfl) ?_
   exact ⟨by rw [show i = bs.length from by omega, List.take_length]; rfl, rfl⟩
def ka (k : Int) (body : List Int) : List Int := 215 :: 76 :: k :: (body.length : Int) :: (body ++ List.replicate (120 - body.length) 0)
theorem kV {k : Int} {body : List Int} (h : body.length ≤ 120) : (ka k body).length = 124 := by simp [ka]; omega
theorem J9 {k : Int} {body : List Int} (h : body.length ≤ 120) (hk : 0 ≤ k ∧ k < 256) (hb : IsB body) : IsB (ka k body) := fun b hm => by
  simp only [ka, List.mem_cons, List.mem_append, List.mem_replicate] at hm
  rcases hm with rfl | rfl | rfl | rfl | hm | ⟨_, rfl⟩
  · omega
  · omega
  · exact hk
  · omega
  · exact hb b hm
  · omega
def jT (k : Int) (body : List Int) (h : body.length ≤ 120) (hk : 0 ≤ k ∧ k < 256) (hb : IsB body) : Sec :=
  ⟨ka k body ++ leI 4 (KM (ka k body)), by simp [kV h], fun b hm => by
    rcases List.mem_append.1 hm with hm | hm
    · exact J9 h hk hb b hm
    · exact kB _ _ b hm⟩
def Wn (s : Sec) (done : List Int) : Prop := s.l = done ++ List.replicate (128 - done.length) 0
theorem Wn.zero : Wn Sec.zero [] := rfl
theorem Wn.put {s : Sec} {done m : List Int} (h : Wn s done) (hl : done.length + m.length ≤ 128) (hm : IsB m) : Wn (s.put done.length m hl hm) (done ++ m) := by
  unfold Wn at h ⊢
  show xw s.l done.length m = _
  unfold xw
  rw [h, List.take_left, List.drop_append, List.drop_of_length_le (by omega), List.nil_append, List.drop_replicate, List.length_append]
  congr 2; omega
theorem rmake_ok (k : Int) (body : List Int) (q : Option Addr) (c : Nat) (h : body.length ≤ 120) (hk : 0 < k ∧ k < 256) (hb : IsB body) (hr : ∀ A : Res, Reads w0 (A ++ F) (.slice q body.length c) body.length 1 (u8s body)) :
    FnT Tryz.prog w0 150 #[.int .u8 k, .slice q body.length c] F (fun v L' => v = .tuple #[.agg (wW (jT k body h (by omega) hb)).toArray, .bool true] ∧ L' = F) := by
  refine FnT.enter (E0 := [(0, _), (1, _)]) (N := 35) Tryz.func150 rfl rfl rfl rfl ?_
  refine Tr.seq <| Tr.region <| qF (qV) ?_
  rintro t4 _ ⟨b4, rfl, rfl⟩
  refine q9 (qC rfl) <| qB <| QAt.seq <| Tr.seq <| Tr.seq <| Tr.region <| q9 (qA rfl) <| q9 (wR rfl rfl) <| q9 (qA rfl) <| qN (s := 9) rfl (fun hg1_2 => ?_) (fun hg1_2 => ?_)
  · (exfalso; omega)
  ·
   refine qE rfl rfl (qA rfl) <| qE rfl rfl (qg rfl) <| qE rfl rfl (zd rfl rfl) <| q9 (qL rfl rfl) <| qB <| QAt.seq <| qI rfl (fun hc1 => ?_) (fun hc1 => ?_)
   · (exfalso; omega)
   ·
    refine Tr.skip <| QAt.seq <| Tr.seq <| Tr.region <| q9 (qA rfl) <| q9 (qA rfl) <| q9 (qg rfl) <| q9 (wo rfl (by first | (simp only [IntKind.min, IntKind.max, IntKind.bits, IntKind.signed, Bool.false_eq_true, if_false, if_true]; omega))) ?_
    refine qF (w5 rfl rfl rfl) ?_
    rintro t19 _ ⟨b19, rfl, rfl⟩
    refine q9 (qA rfl) <| qF (wP (m := body.length) (sz := 1) (cs := [.int .u8 215, .int .u8 76, .int .u8 k, .int .u8 body.length]) rfl rfl (SlC.fresh rfl) (hr [_, _]) (jp _) Tryz.underlying23 rfl rfl (by omega)) ?_
    rintro t21 _ ⟨C1, hs1, rfl⟩
    refine q9 (qC rfl) <| qB <| QAt.seq <| Tr.seq <| Tr.block <| wB (Γ := {pΓ : (Nat) × (Value) × (qM) // (fun (j : Nat) (u : Value) (C : qM) => j + body.length ≤ 120 ∧ SlC 5 1 u (4 + body.length + j) (u8s (215 :: 76 :: k :: (body.length : Int) :: (body ++ List.replicate j 0))) C) pΓ.1 pΓ.2.1 pΓ.2.2}) (fun g => (fun (j : Nat) (u : Value) (C : qM) => [(4, .pointer (some ⟨b4, 0, none⟩)), (6, u)]) g.1.1 g.1.2.1 g.1.2.2) (fun g => (fun (j : Nat) (u : Value) (C : qM) => C :: [(b4, .cells (wW Sec.zero).toArray 54 (0, 0))] :: F) g.1.1 g.1.2.1 g.1.2.2) (fun g => (fun (j : Nat) (u : Value) (C : qM) => 120 - j) g.1.1 g.1.2.1 g.1.2.2) ⟨(0, t21, C1), by dsimp only; exact ⟨by omega, by simpa [u8s] using hs1⟩⟩ (qP _) ?_
    rintro ⟨⟨j, u, C⟩, hloop⟩
    replace hloop : j + body.length ≤ 120 ∧ SlC 5 1 u (4 + body.length + j) (u8s (215 :: 76 :: k :: (body.length : Int) :: (body ++ List.replicate j 0))) C := hloop
    obtain ⟨hj, hsl⟩ := hloop
    show Tr _ _ _ ([(4, .pointer (some ⟨b4, 0, none⟩)), (6, u)]) (C :: [(b4, .cells (wW Sec.zero).toArray 54 (0, 0))] :: F) _ _
    refine Tr.seq <| Tr.seq ?_
    obtain ⟨pu, cu, hu⟩ := hsl.slice
    refine Tr.region <| q9 (qA rfl) <| q9 (qg (by rw [← hu]; rfl)) ?_
    refine q9 (qv rfl rfl) <| qB <| QAt.seq <| qI rfl (fun hc4 => ?_) (fun hc4 => ?_)
    ·
     refine Tr.skip <| QAt.seq <| Tr.block <| Tr.region <| q9 (qA rfl) <| qF (w5 rfl rfl rfl) ?_
     rintro t26 _ ⟨b26, rfl, rfl⟩
     refine qF (wP (m := 1) (sz := 1) rfl rfl hsl (wQ (ys := u8s [0]) inferInstance rfl rfl) rfl Tryz.underlying23 rfl rfl (by omega)) ?_
     rintro t27 _ ⟨C', hsl', rfl⟩
     refine q9 (qC rfl) <| qB <| QAt.block <| qh ⟨(j + 1, t27, C'), ?_⟩ ?_ ?_
     · (try dsimp only); exact ⟨by omega, by rw [List.replicate_succ', show 4 + body.length + (j + 1) = 4 + body.length + j + 1 from by omega]; simpa [u8s] using hsl'⟩
     · (try dsimp only); omega
     · (try dsimp only); exact qP _
    ·
     refine Tr.exit <| qX <| qY <| qS <| QAt.seq <| Tr.seq ?_
     have hj' : j = 120 - body.length := by omega
     subst hj'
     rw [show 4 + body.length + (120 - body.length) = 124 from by omega] at hsl
     replace hsl : SlC 5 1 u 124 (u8s (ka k body)) C := hsl
     rcases hsl with ⟨-, hn, -⟩ | ⟨b, cap, spare, rfl, hcs, rfl, hcap, hnc⟩
     · exact absurd hn (by decide)
     refine Tr.region <| q9 (qA rfl) <| q9 (qA rfl) <| q9 (qw rfl (Zz [_] (rcrc_ok b 0 124 cap 5 (0, 0) (u8s (ka k body) ++ spare) (ka k body) (by omega) (J9 h (by omega) hb) (kV h) (by rw [List.drop_zero, List.take_append_of_le_length (by simp [kV h]), List.take_of_length_le (by simp [kV h])])))) ?_
     refine q9 (wo rfl (by have := ZI (ka k body); simp only [IntKind.min, IntKind.max, IntKind.bits, IntKind.signed, Bool.false_eq_true, if_false]; omega)) ?_
     refine qF (qn rfl (XF (KM (ka k body)) 4 (by omega) (by have := ZI (ka k body); omega))) ?_
     rintro t32 _ ⟨C2, hs2, rfl⟩
     refine qF (wP (m := 4) (n := 124) (sz := 1) rfl rfl (V5 hcs hcap hnc) (jo hs2) (jp _) Tryz.underlying23 rfl rfl (by omega)) ?_
     rintro t33 _ ⟨C3, hs3, rfl⟩
     replace hs3 : SlC 5 1 t33 128 (wW (jT k body h (by omega) hb)) C3 := by rw [← yH] at hs3; exact hs3
     rcases hs3 with ⟨-, hn, -⟩ | ⟨b3, cap3, spare3, rfl, hcs3, rfl, hcap3, hnc3⟩
     · exact absurd hn (by decide)
     refine q9 (qw rfl (Zz [_] (Xh b3 128 cap3 5 0 (0, 0) (wW (jT k body h (by omega) hb) ++ spare3) (jT k body h (by omega) hb) (by rw [List.drop_zero, List.take_append_of_le_length (by simp), List.take_of_length_le (by simp)])))) ?_
     refine qK (qW rfl rfl (by first | exact zD _ | simp) (by first | exact zD _ | simp) (by first | exact wS _ | simp [Value.oneCell'])) <| q9 (qC rfl) <| qB ?_
     skip
     refine QAt.seq <| Tr.ret <| wC F (.inl rfl) rfl (z7 rfl (by first | exact zD _ | simp)) (qd rfl) ?_
     exact ⟨rfl, rfl⟩
theorem secV_take (s : Sec) (n : Nat) : (wW s).take n = u8s (s.l.take n) := jR _ _
theorem Ya {s : Sec} {k : Int} {body : List Int} (h : body.length ≤ 120) (hk : 0 < k ∧ k < 256) (hw : Wn s ((([] ++ leI 2 19671) ++ leI 1 k) ++ leI 1 body.length ++ body)) : s.l = ka k body ++ [0, 0, 0, 0] := by
  have e : ((([] ++ leI 2 19671) ++ leI 1 k) ++ leI 1 body.length ++ body) = 215 :: 76 :: k :: (body.length : Int) :: body := by
    have h1 : k % 256 = k := Int.emod_eq_of_lt (by omega) (by omega)
    have h2 : (body.length : Int) % 256 = body.length := Int.emod_eq_of_lt (by omega) (by omega)
    simp [leI, h1, h2]
  rw [e] at hw
  unfold Wn at hw
  have e2 : 128 - (215 :: 76 :: k :: (body.length : Int) :: body).length = (120 - body.length) + 4 := by simp; omega
  rw [hw, e2, ← List.replicate_append_replicate]
  simp [ka]
theorem sealed_put {s : Sec} {k : Int} {body : List Int} (h : body.length ≤ 120) (hk : 0 < k ∧ k < 256) (hb : IsB body) (hs : s.l = ka k body ++ [0, 0, 0, 0]) :
    jJ (wW s) (0 + (124 : Int).toNat) (u8s (leI 4 (KM (ka k body)))) = wW (jT k body h (by omega) hb) := by
  have := Ze s [] 124 (leI 4 (KM (ka k body))) (by simp) (kB _ _)
  rw [List.append_nil, List.append_nil] at this
  rw [show 0 + (124 : Int).toNat = 124 from rfl, this]
  congr 1
  apply ZV
  show xw s.l 124 _ = _
  unfold xw
  rw [hs, List.take_append_of_le_length (by simp [kV h]), List.take_of_length_le (by simp [kV h]), List.drop_of_length_le (by simp [kV h])]
  simp [jT]
theorem Xc (k : Int) (body : List Int) (q : Option Addr) (c : Nat) (h : body.length ≤ 120) (hk : 0 < k ∧ k < 256) (hb : IsB body) (hq : q = none → body.length = 0) (hr : ∀ A : Res, Reads w0 (A ++ F) (.slice q body.length c) body.length 1 (u8s body)) :
    FnT Tryz.prog w0 156 #[.int .u8 k, .slice q body.length c] F (fun v L' => v = .tuple #[.agg (wW (jT k body h (by omega) hb)).toArray, .int .i64 0] ∧ L' = F) := by
  have hw1 := Wn.zero.put (m := leI 2 19671) (by decide) (kB _ _)
  have hw2 := hw1.put (m := leI 1 k) (by simp) (kB _ _)
  have hw3 := hw2.put (m := leI 1 body.length) (by simp) (kB _ _)
  have hw4 : Wn ((((Sec.zero.put 0 (leI 2 19671) (by simp) (kB _ _)).put 2 (leI 1 k) (by simp) (kB _ _)).put 3 (leI 1 body.length) (by simp) (kB _ _)).put 4 body (by omega) hb) _ := hw3.put (m := body) (by simp; omega) hb
  refine FnT.enter (E0 := [(0, _), (1, _)]) (N := 37) Tryz.func156 rfl rfl rfl rfl ?_
  refine Tr.seq <| Tr.region <| qF (qV) ?_
  rintro t4 _ ⟨b4, rfl, rfl⟩
  refine q9 (qC rfl) <| qB <| QAt.seq <| Tr.seq <| Tr.seq <| Tr.region <| q9 (qA rfl) <| q9 (wR rfl rfl) <| q9 (qA rfl) <| qN (s := 11) rfl (fun hg1_2 => ?_) (fun hg1_2 => ?_)
  · (exfalso; omega)
  ·
   refine qE rfl rfl (qA rfl) <| qE rfl rfl (qg rfl) <| qE rfl rfl (zd rfl rfl) <| q9 (qL rfl rfl) <| qB <| QAt.seq <| qI rfl (fun hc1 => ?_) (fun hc1 => ?_)
   · (exfalso; omega)
   ·
    refine Tr.skip <| QAt.seq <| Tr.seq <| Tr.region <| qF (qV) ?_
    rintro t6 _ ⟨b6, rfl, rfl⟩
    refine qB <| QAt.seq <| Tr.seq <| yW (L' := wr b6 Sec.zero 0 :: _) (fun _ h => h) ?_
    refine Tr.region <| qF (qn rfl (x8 b6 _ 0 19671 2 (by omega) (by omega))) ?_
    rintro t17 _ ⟨rfl, rfl⟩
    refine qB <| QAt.seq <| Tr.seq <| Tr.region <| q9 (qA rfl) <| q9 (wo rfl (by first | (simp only [IntKind.min, IntKind.max, IntKind.bits, IntKind.signed, Bool.false_eq_true, if_false, if_true]; omega))) ?_
    refine qF (qn rfl (x8 b6 _ 2 k 1 (by omega) (by omega))) ?_
    rintro t20 _ ⟨rfl, rfl⟩
    refine qB <| QAt.seq <| Tr.seq <| Tr.region <| q9 (qA rfl) <| q9 (qg rfl) <| q9 (wo rfl (by first | (simp only [IntKind.min, IntKind.max, IntKind.bits, IntKind.signed, Bool.false_eq_true, if_false, if_true]; omega))) ?_
    refine qF (qn rfl (x8 b6 _ 3 body.length 1 (by omega) (by omega))) ?_
    rintro t24 _ ⟨rfl, rfl⟩
    refine qB <| QAt.seq <| Tr.seq <| Tr.region <| q9 (qA rfl) <| qF (qn rfl (writerBytes_ok b6 _ 4 120 q c body hb (by omega) hq (fun A => hr [A, _]))) ?_
    rintro t26 _ ⟨rfl, rfl⟩
    refine qB <| QAt.seq <| Tr.seq <| Tr.region <| qF (qn rfl (Qk b6 _ 124)) ?_
    rintro t28 _ ⟨rfl, rfl⟩
    refine q9 (qA rfl) <| q9 (qR rfl rfl) <| q9 (qR rfl rfl) <| qF (qV) ?_
    rintro t7 _ ⟨b7, rfl, rfl⟩
    refine qK (qW rfl rfl (by simp) (by simp) (by exact wS _)) ?_
    refine q9 (qC rfl) <| qB <| QAt.seq <| Tr.seq <| Tr.drawn qm <| qr [(31, .pure _), (32, .pure _), (33, .pure _), (34, .pure _)] (by kernel_rfl) rfl rfl rfl wL (ParH.pure rfl (fun X => k7 (l := 0) (h := 128) (kl := .i64) (kh := .i64) rfl rfl rfl (by decide) (by decide)) <| ParH.pure rfl (fun X => k7 (l := 0) (h := 124) (kl := .i64) (kh := .i64) rfl rfl rfl (by decide) (by decide)) <| ParH.pure rfl (fun X => qw rfl (Zz [_] (crc_ok b7 0 124 128 55 (0, 0) _ (ka k body) (by omega) (J9 h (by omega) hb) (kV h) (by rw [List.drop_zero, secV_take, Ya h hk hw4, List.take_append_of_le_length (by simp [kV h]), List.take_of_length_le (by simp [kV h])])))) <| ParH.pure rfl (fun X => wo rfl (by have := ZI (ka k body); simp only [IntKind.min, IntKind.max, IntKind.bits, IntKind.signed, Bool.false_eq_true, if_false]; omega)) <| ParH.nil rfl) ?_
    dsimp only [zG, List.drop, List.length]
    refine wa (by kernel_rfl) (qn rfl (XE b7 0 128 128 55 _ 124 (KM (ka k body)) 4 (by omega) (by omega) (by have := ZI (ka k body); omega) (by simp))) ?_
    rintro t35 _ ⟨rfl, rfl⟩
    refine qt <| QAt.seq <| Tr.seq ?_
    rw [sealed_put h hk hb (Ya h hk hw4)]
    refine Tr.region <| q9 (w7 rfl (by simp)) ?_
    refine qK (qW rfl rfl (by simp) (by simp) (by exact wS _)) ?_
    refine q9 (qC rfl) <| qB <| QAt.seq <| Tr.ret <| wC F (.inl rfl) rfl (z7 rfl (by first | exact zD _ | simp)) (qd rfl) ?_
    exact ⟨rfl, rfl⟩
theorem seal_subs {k : Int} {body : List Int} (h : body.length ≤ 120) (hk : 0 < k ∧ k < 256) (hb : IsB body) :
    deI (Sec.sub (jT k body h (by omega) hb) (0 + 2) 1) = k ∧ deI (Sec.sub (jT k body h (by omega) hb) (0 + 2 + 1) 1) = body.length ∧ Sec.sub (jT k body h (by omega) hb) (0 + 2 + 1 + 1) body.length = body := by
  refine ⟨by simp [Sec.sub, jT, ka, deI], by simp [Sec.sub, jT, ka, deI], ?_⟩
  simp [Sec.sub, jT, ka]
theorem open_ok (k : Int) (body : List Int) (h : body.length ≤ 120) (hk : 0 < k ∧ k < 256) (hb : IsB body) :
    FnT Tryz.prog w0 142 #[.agg (wW (jT k body h (by omega) hb)).toArray] F (fun v L' => ∃ u C, v = .tuple #[.int .u8 k, u, .int .i64 0] ∧ SlC 5 1 u body.length (u8s body) C ∧ L' = C :: F) := by
  obtain ⟨e1, e2, e3⟩ := seal_subs h hk hb
  generalize hs : jT k body h (by omega) hb = s at e1 e2 e3 ⊢
  refine FnT.enter (E0 := [(0, _)]) (N := 41) Tryz.func142 rfl rfl rfl rfl ?_
  refine Tr.seq <| Tr.region <| qF (wT rfl) ?_
  rintro t1 _ ⟨b1, rfl, rfl⟩
  refine q9 (qC rfl) <| q9 (qC rfl) <| q9 (qC rfl) <| qB <| QAt.seq <| Tr.seq <| Tr.region <| q9 (w7 rfl (by simp)) ?_
  refine qF (qn rfl (XT s)) ?_
  rintro t12 _ ⟨p, rfl, rfl⟩
  refine q9 (qC rfl) <| qB <| QAt.seq <| Tr.seq <| Tr.region <| q9 (qA rfl) <| qF (qn rfl (xA p s 0 2 (by omega))) ?_
  rintro t14 _ ⟨rfl, rfl⟩
  refine qB <| QAt.seq <| Tr.seq <| Tr.region <| q9 (qA rfl) <| qF (qn rfl (xA p s (0 + 2) 1 (by omega))) ?_
  rintro t16 _ ⟨rfl, rfl⟩
  rw [e1]
  refine q9 (wo rfl (by simp only [IntKind.min, IntKind.max, IntKind.bits, IntKind.signed, Bool.false_eq_true, if_false]; omega)) ?_
  refine q9 (qA rfl) <| qF (qn rfl (xA p s (0 + 2 + 1) 1 (by omega))) ?_
  rintro t19 _ ⟨rfl, rfl⟩
  rw [e2]
  refine q9 (wo rfl (by simp only [IntKind.min, IntKind.max, IntKind.bits, IntKind.signed, if_true]; omega)) ?_
  refine q9 (qC rfl) <| q9 (qC rfl) <| qB <| QAt.seq <| Tr.seq <| Tr.seq <| Tr.region <| q9 (qA rfl) <| q9 (zd rfl rfl) <| qB <| QAt.seq <| qI rfl (fun hc4 => ?_) (fun hc4 => ?_)
  · (exfalso; omega)
  ·
   refine Tr.skip <| QAt.seq <| Tr.seq <| Tr.region <| q9 (qA rfl) <| q9 (qA rfl) <| qF (qn rfl (readerBytes_ok p s (0 + 2 + 1 + 1) body.length (by omega))) ?_
   rintro t25 _ ⟨C, hsl, rfl⟩
   refine q9 (qC rfl) <| qB <| QAt.seq <| Tr.seq <| Tr.seq ?_
   rw [e3] at hsl
   obtain ⟨q, c, rfl⟩ := hsl.slice
   refine Tr.region <| q9 (qA rfl) <| q9 (qA rfl) <| qF (qn rfl (Xc k body q c h hk hb (fun e => by subst e; rcases hsl with ⟨-, h, -⟩ | ⟨_, _, _, h, _⟩; exact h; cases h) (fun A => jo hsl))) ?_
   rintro t29 _ ⟨rfl, rfl⟩
   refine q9 (qA rfl) <| q9 (qR rfl rfl) <| q9 (qR rfl rfl) <| qF (qV) ?_
   rintro t9 _ ⟨b9, rfl, rfl⟩
   refine qK (qW rfl rfl (by simp) (by simp) (by exact wS _)) ?_
   refine q9 (qC rfl) <| qB <| QAt.seq <| Tr.seq <| Tr.region <| q9 (qA rfl) <| q9 (wZ rfl rfl) <| q9 (qA rfl) <| qN (s := 34) rfl (fun hg8_2 => ?_) (fun hg8_2 => ?_)
   · exact absurd rfl hg8_2
   ·
    refine qE rfl rfl (w7 rfl (by simp)) ?_
    refine qE rfl rfl (w7 rfl (by simp)) ?_
    refine qE rfl rfl (JH rfl rfl) <| q9 (qL rfl rfl) <| qB <| QAt.seq <| qI rfl (fun hc8 => ?_) (fun hc8 => ?_)
    · exact absurd (by simp only [hs]) hc8
    ·
     refine Tr.skip <| QAt.seq <| Tr.seq <| Tr.region <| q9 (qA rfl) <| q9 (qA rfl) <| q9 (qC rfl) <| q9 (qC rfl) <| q9 (qC rfl) <| qB <| QAt.seq <| Tr.ret <| Kz (C :: F) (.inl rfl) rfl (qd rfl) (qd rfl) (qd rfl) ?_
     exact ⟨_, C, rfl, hsl, rfl⟩
end Go.Proofs.YtjikpomndbkfgaaGreatDoor
namespace Go.Sx
open Go
variable {P : Program} {N : Nat} {w0 : World} {E : Env} {L : Res}
structure Xt (P : Program) (t : TypeId) (v : Value) (name : String) (f : FuncId) : Prop where
  ahead : ∀ w, (nilAhead (P.types.size + Made.depth) t v name).run P w = .ok (some false) w
  meth : ∀ w, (method (P.types.size + Made.depth) t v name).run P w = .ok (f, v) w
  enter : ∀ args w, (callFunc f args).run P w = .ok (.enter f args) w
theorem zN {x : Operand} {ty t : TypeId} {name : String} {v : Value} {f : FuncId} {cap : List Value} (hx : opv E x = some (.func (.method name) [.iface t v].toArray cap.toArray)) (hm : Xt P t v name f) :
    Op1 P N w0 E L (.nilCheck x) ty (.func (.method name) [.iface t v].toArray cap.toArray) L :=
  .of_run fun o a w h1 _ h3 h4 => ⟨w, by
    rw [execOp, h1]
    simp [h3.eval hx, program, Sem.run_bind, hm.ahead, Sem.run], h4⟩
theorem yX {x : Operand} {ty t f : TypeId} {name : String} {v : Value} {args : List Operand} {tys : Array TypeId} {vs : List Value} {R : Value → Res → Prop} 
    (hx : opv E x = some (.iface t v)) (hargs : jO E args = some vs) (hm : Xt P t v name f) (hf : FnT P w0 f (v :: vs).toArray L R) :
    OpT P N w0 E L (.call ⟨.invoke x name, args.toArray, tys⟩) ty R :=
  ⟨fun o a w h1 h2 h3 h4 K Q hK => by
    have hrun : (execOp a.eval o).run P w = .ok (.enter f (v :: vs).toArray) w := by
      rw [execOp, h1]
      simp [resolve, invoke, callMethod, h3.eval hx, xZ h3 _ _ hargs, program, Sem.run_bind]
      rw [show Sem.run P (Sem.program Sem.pure) w = .ok P w from rfl]
      simp [hm.meth, hm.enter]
    unfold Oper.wp
    rw [hrun, Oper.upon_enter]
    exact (hf.h w h4).mono fun e w' ⟨v, L', e1, hr, ho⟩ => by subst e1; exact hK v L' w' hr ho⟩
theorem KZ {x y : Operand} {t e ty len : TypeId} {k : IntKind} {i : Int} {j : Nat} {l : List Value} {v : Value} [ha : jd P t len e] [hz : TySize P e 1] [hs : TyScalar P e]
    (hx : opv E x = some (.agg l.toArray)) (hy : opv E y = some (.int k i)) (hi : i = (j : Int)) (hj : j < len) (hv : wG l j = some v) : Op1 P N w0 E L (.index t x y) ty v L :=
  .of_run fun o a w h1 _ h3 h4 => ⟨w, by
    subst hi
    rw [wi] at hv
    rw [execOp, h1]
    simp [h3.eval hx, h3.eval hy, Instr.index, asIntOf, qi ha.h, hj, hz.s, part, hs.h, hv], h4⟩
end Go.Sx
namespace Go.Proofs.YtjikpomndbkfgaaGreatDoor
open Go Go.Sx Go.Nd
variable {w0 : World} {L F : Res}
set_option maxRecDepth 10000
def wrc (p : Nat) (u : Value) : qM := [(p, .cells [u, .bool false].toArray 264 (0, 0))]
theorem mk_zero (w : Nat) : ((List.range (w * 1)).map fun i => (Value.int .u8 0).cells[i % (Value.int .u8 0).cells.size]!) = List.replicate w (Value.int .u8 0) := by
  simp [Value.cells, Nat.mod_one, List.map_const']
theorem put_whole (w : Nat) (x : Int) : jJ (List.replicate w (Value.int .u8 0)) (0 + (0 : Int).toNat) (u8s (leI w x)) = u8s (leI w x) := by
  simp [jJ]
theorem XR (p : Nat) (u : Value) (C : qM) (n w q : Nat) (e : TypeId) (fr : Nat × Nat) (bs : List Int) (x : Int) (hs : SlC 5 1 u n (u8s bs) C) (hw : 1 ≤ w ∧ w ≤ 8) (hx : 0 ≤ x ∧ x < 256 ^ w) (hn : n ≤ 1000) :
    FnT Tryz.prog w0 186 #[.pointer (some ⟨p, 0, none⟩), .int .i64 w, .pointer (some ⟨q, 0, none⟩)] (wrc p u :: C :: [(q, .cells [.int .u64 x].toArray e fr)] :: F)
      (fun v L' => ∃ u' C', v = .tuple #[] ∧ SlC 5 1 u' (n + w) (u8s (bs ++ leI w x)) C' ∧ L' = wrc p u' :: C' :: [(q, .cells [.int .u64 x].toArray e fr)] :: F) := by
  unfold wrc
  refine FnT.enter (E0 := [(0, _), (1, _), (2, _)]) (N := 28) Tryz.func186 rfl rfl rfl rfl ?_
  refine Tr.seq <| Tr.region <| q9 (qA rfl) <| qF (xE (by_ := 1) (sz := 1) (n := w) (r := List.replicate w (.int .u8 0)) rfl rfl (by omega) (by omega) (mk_zero w)) ?_
  rintro t8 _ ⟨bb, rfl, rfl⟩
  refine q9 (qC rfl) <| qB <| QAt.seq <| Tr.seq <| Tr.seq <| Tr.region <| q9 (qA rfl) <| q9 (qA rfl) <| q9 (qA rfl) <| q9 (qJ rfl) <| q9 (qG rfl rfl) <| qF (qn rfl (XE bb 0 w w 5 (List.replicate w (.int .u8 0)) 0 x w (by omega) (by omega) hx (by simp))) ?_
  rintro t14 _ ⟨rfl, rfl⟩
  refine q9 (wZ rfl rfl) <| qB <| QAt.seq <| wD rfl <| Tr.skip <| QAt.seq ?_
  rw [put_whole w x]
  refine Tr.region <| q9 (qA rfl) <| q9 (qA rfl) <| q9 (qJ rfl) <| q9 (qD rfl) <| q9 (qG rfl rfl) <| q9 (qA rfl) <| qF (wP (m := w) (sz := 1) rfl rfl hs (wQ (ys := u8s (leI w x)) inferInstance (by simp [List.take_of_length_le]) (by simp)) (jp _) Tryz.underlying23 rfl rfl (by omega)) ?_
  rintro t25 _ ⟨C', hs', rfl⟩
  obtain ⟨pq, cq, rfl⟩ := hs'.slice
  refine q9 (qJ rfl) <| q9 (qD rfl) <| qK (wX rfl rfl rfl) <| qB <| ye ([(p, .cells [.slice pq (n + w) cq, .bool false].toArray 264 (0, 0))] :: C' :: [(q, .cells [.int .u64 x].toArray e fr)] :: F) (.inr rfl) rfl  ?_
  exact ⟨_, C', rfl, by rw [yH]; exact hs', rfl⟩
theorem J2 (p : Nat) (u : Value) (C : qM) (n w ib off : Nat) (l : List Value) (e : TypeId) (fr : Nat × Nat) (bs : List Int) (x : Int) (hs : SlC 5 1 u n (u8s bs) C) (hw : 1 ≤ w ∧ w ≤ 8) (hx : 0 ≤ x ∧ x < 256 ^ w) (hx2 : x < 4294967296) (hn : n ≤ 1000) (hv : wG l off = some (.int .u32 x)) :
    FnT Tryz.prog w0 187 #[.pointer (some ⟨p, 0, none⟩), .int .i64 w, .pointer (some ⟨ib, off, none⟩)] (wrc p u :: C :: [(ib, .cells l.toArray e fr)] :: F)
      (fun v L' => ∃ u' C', v = .tuple #[] ∧ SlC 5 1 u' (n + w) (u8s (bs ++ leI w x)) C' ∧ L' = wrc p u' :: C' :: [(ib, .cells l.toArray e fr)] :: F) := by
  refine FnT.enter (E0 := [(0, _), (1, _), (2, _)]) (N := 14) Tryz.func187 rfl rfl rfl rfl ?_
  refine Tr.seq <| Tr.region <| q9 (qA rfl) <| q9 (qJ rfl) <| q9 (qG rfl hv) <| q9 (wo rfl (by first | (simp only [IntKind.min, IntKind.max, IntKind.bits, IntKind.signed, Bool.false_eq_true, if_false, if_true]; omega))) ?_
  refine qF (qV) ?_
  rintro t6 _ ⟨b6, rfl, rfl⟩
  refine qK (wX rfl rfl rfl) <| qB <| QAt.seq <| Tr.region <| q9 (qA rfl) <| q9 (qA rfl) <| qF (qn rfl (jB (wrc p u) (C) ([(b6, .cells [Value.int .u64 x].toArray 199 (0, 0))]) (XR p u C n w b6 199 (0, 0) bs x hs hw hx hn))) ?_
  rintro t13 _ ⟨u', C', rfl, hs', rfl⟩
  refine qB <| ye (wrc p u' :: C' :: [(ib, .cells l.toArray e fr)] :: F) (.inr rfl) rfl  ?_
  exact ⟨u', C', rfl, hs', rfl⟩
theorem Yv (p : Nat) (u : Value) (C : qM) (n w ib off : Nat) (l : List Value) (e : TypeId) (fr : Nat × Nat) (bs : List Int) (x : Int) (hs : SlC 5 1 u n (u8s bs) C) (hw : 1 ≤ w ∧ w ≤ 8) (hx : 0 ≤ x ∧ x < 256 ^ w) (hx2 : x < 9223372036854775808) (hn : n ≤ 1000) (hv : wG l off = some (.int .i64 x)) :
    FnT Tryz.prog w0 184 #[.pointer (some ⟨p, 0, none⟩), .int .i64 w, .pointer (some ⟨ib, off, none⟩)] (wrc p u :: C :: [(ib, .cells l.toArray e fr)] :: F)
      (fun v L' => ∃ u' C', v = .tuple #[] ∧ SlC 5 1 u' (n + w) (u8s (bs ++ leI w x)) C' ∧ L' = wrc p u' :: C' :: [(ib, .cells l.toArray e fr)] :: F) := by
  unfold wrc
  refine FnT.enter (E0 := [(0, _), (1, _), (2, _)]) (N := 28) Tryz.func184 rfl rfl rfl rfl ?_
  refine Tr.seq <| Tr.region <| q9 (qA rfl) <| q9 (qJ rfl) <| q9 (qG rfl hv) <| q9 (JI rfl rfl) ?_
  rw [show max x 0 = x from by omega]
  refine q9 (wo rfl (by simp only [IntKind.min, IntKind.max, IntKind.bits, IntKind.signed, Bool.false_eq_true, if_false]; omega)) ?_
  refine qF (qV) ?_
  rintro t6 _ ⟨b6, rfl, rfl⟩
  refine qK (wX rfl rfl rfl) <| qB <| QAt.seq <| Tr.seq <| Tr.region <| q9 (qA rfl) <| q9 (qA rfl) <| q9 (qJ rfl) <| q9 (qD rfl) <| q9 (qG rfl rfl) <| q9 (qA rfl) <| TrOs.split (s := 17) rfl (fun hg1_5 => ?_) (fun hg1_5 => ?_)
  · cases hg1_5
  ·
   refine qE rfl rfl (qA rfl) <| qE rfl rfl (qJ rfl) <| qE rfl rfl (qG rfl hv) <| qE rfl rfl (qv rfl rfl) ?_
   rw [show decide (x < 0) = false from decide_eq_false (by omega)]
   refine q9 (qL rfl rfl) <| q9 (qJ rfl) <| q9 (qD rfl) <| qK (wX rfl rfl rfl) <| qB <| QAt.seq <| Tr.region <| q9 (qA rfl) <| q9 (qA rfl) <| qF (qn rfl (jB ([(p, .cells [u, .bool false].toArray 264 (0, 0))]) (C) ([(b6, .cells [Value.int .u64 x].toArray 199 (0, 0))]) (XR p u C n w b6 199 (0, 0) bs x hs hw hx hn))) ?_
   rintro t27 _ ⟨u', C', rfl, hs', rfl⟩
   refine qB <| ye (wrc p u' :: C' :: [(ib, .cells l.toArray e fr)] :: F) (.inr rfl) rfl  ?_
   exact ⟨u', C', rfl, hs', rfl⟩
structure Ino where
  num : Int
  ver : Int
  kind : Int
  size : Int
  time : Int
  d : List Int
  sg : Int
  db : Int
structure Ino.Ok (x : Ino) : Prop where
  num : 0 ≤ x.num ∧ x.num < 65536
  ver : 0 ≤ x.ver ∧ x.ver < 4294967296
  kind : 1 ≤ x.kind ∧ x.kind ≤ 2
  size : 0 ≤ x.size ∧ x.size < 4294967296
  time : 0 ≤ x.time ∧ x.time < 4294967296
  len : x.d.length = 8
  d : ∀ a ∈ x.d, 0 ≤ a ∧ a < 4294967296
  sg : 0 ≤ x.sg ∧ x.sg < 4294967296
  db : 0 ≤ x.db ∧ x.db < 4294967296
def iV (l : List Int) : List Value := l.map (Value.int .i64)
@[simp] theorem iV_len (l : List Int) : (iV l).length = l.length := by simp [iV]
def zw (x : Ino) : List Value := .int .u32 x.num :: .int .u32 x.ver :: .int .i64 x.kind :: .int .i64 x.size :: .int .u32 x.time :: (iV x.d ++ [.int .i64 x.sg, .int .i64 x.db])
def Wi (x : Ino) : List Int := leI 2 x.num ++ leI 4 x.ver ++ leI 1 x.kind ++ leI 4 x.size ++ leI 4 x.time
def kw (x : Ino) : List Int := Wi x ++ x.d.flatMap (leI 4) ++ leI 4 x.sg ++ leI 4 x.db
theorem WS (x : Ino) : (Wi x).length = 15 := by simp [Wi]
theorem jm (d : List Int) : (d.flatMap (leI 4)).length = 4 * d.length := by
  induction d with
  | nil => rfl
  | cons a d ih => simp [ih]; omega
theorem xV {x : Ino} (h : x.Ok) : (kw x).length = 55 := by simp only [kw, List.length_append, WS, jm, YN, h.len]
theorem xr {a b : List Int} (ha : IsB a) (hb : IsB b) : IsB (a ++ b) := fun x hx => by
  rcases List.mem_append.1 hx with h | h
  · exact ha x h
  · exact hb x h
theorem Xi (d : List Int) : IsB (d.flatMap (leI 4)) := fun x hx => by
  obtain ⟨a, _, h⟩ := List.mem_flatMap.1 hx
  exact kB _ _ x h
theorem JO (x : Ino) : IsB (kw x) :=
  xr (xr (xr (xr (xr (xr (xr (kB _ _) (kB _ _)) (kB _ _)) (kB _ _)) (kB _ _)) (Xi _)) (kB _ _)) (kB _ _)
theorem XH {x : Ino} {i : Nat} {a : Int} (h : x.d[i]? = some a) : wG (zw x) (5 + i) = some (.int .i64 a) := by
  rw [wi, Nat.add_comm]
  show (iV x.d ++ _)[i]? = _
  have hlt := (List.getElem?_eq_some_iff.1 h).1
  rw [List.getElem?_append_left (by simpa using hlt)]
  simp [iV, h]
theorem YP {x : Ino} (h : x.d.length = 8) : wG (zw x) 13 = some (.int .i64 x.sg) ∧ wG (zw x) 14 = some (.int .i64 x.db) := by
  rw [wi, wi]
  constructor
  · show (iV x.d ++ _)[8]? = _
    rw [List.getElem?_append_right (by simp [h])]; simp [h]
  · show (iV x.d ++ _)[9]? = _
    rw [List.getElem?_append_right (by simp [h])]; simp [h]
theorem Zi (a : Addr) : Xt Tryz.prog 262 (.pointer (some a)) "drumlin/codec.word" 187 := ⟨fun _ => by kernel_rfl, fun _ => by kernel_rfl, Enters.h⟩
theorem Wg (a : Addr) : Xt Tryz.prog 262 (.pointer (some a)) "drumlin/codec.int" 184 := ⟨fun _ => by kernel_rfl, fun _ => by kernel_rfl, Enters.h⟩
theorem Zj (a : Addr) : Xt Tryz.prog 228 (.pointer (some a)) "drumlin/codec.word" 182 := ⟨fun _ => by kernel_rfl, fun _ => by kernel_rfl, Enters.h⟩
theorem Wh (a : Addr) : Xt Tryz.prog 228 (.pointer (some a)) "drumlin/codec.int" 180 := ⟨fun _ => by kernel_rfl, fun _ => by kernel_rfl, Enters.h⟩
theorem pass_ok (p ib : Nat) (x : Ino) (hx : x.Ok) :
    FnT Tryz.prog w0 119 #[.iface 262 (.pointer (some ⟨p, 0, none⟩)), .pointer (some ⟨ib, 0, none⟩)] (wrc p (.slice none 0 0) :: [] :: [(ib, .cells (zw x).toArray 168 (0, 0))] :: F)
      (fun v L' => ∃ u' C', v = .tuple #[] ∧ SlC 5 1 u' 55 (u8s (kw x)) C' ∧ L' = wrc p u' :: C' :: [(ib, .cells (zw x).toArray 168 (0, 0))] :: F) := by
  have h13 := YP hx.len
  refine FnT.enter (E0 := [(0, _), (1, _)]) (N := 75) Tryz.func119 rfl rfl rfl rfl ?_
  refine Tr.seq <| Tr.drawn qm <| qr [(5, .pure _), (6, .pure _), (7, .pure _), (8, .pure _), (9, .pure _), (10, .pure _), (11, .pure _)] (by kernel_rfl) rfl rfl rfl wL (ParH.pure rfl (fun X => qA rfl) <| ParH.pure rfl (fun X => qA rfl) <| ParH.pure rfl (fun X => qJ rfl) <| ParH.pure rfl (fun X => qD rfl) <| ParH.pure rfl (fun X => wV rfl rfl) <| ParH.pure rfl (fun X => zN rfl (Zi _)) <| ParH.pure rfl (fun X => qA rfl) <| ParH.nil rfl) ?_
  dsimp only [zG, List.drop, List.length]
  refine wa (by kernel_rfl) (yX rfl rfl (Zi _) (J2 p _ [] 0 2 ib 0 (zw x) 168 (0, 0) [] x.num (zu _ _) (by omega) hx.num (by have := hx.num; omega) (by omega) rfl)) ?_
  rintro t12 _ ⟨u1, C1, rfl, hs1, rfl⟩
  refine qt <| QAt.seq <| Tr.seq <| Tr.drawn qm <| qr [(13, .pure _), (14, .pure _), (15, .pure _), (16, .pure _), (17, .pure _), (18, .pure _), (19, .pure _)] (by kernel_rfl) rfl rfl rfl wL (ParH.pure rfl (fun X => qA rfl) <| ParH.pure rfl (fun X => qA rfl) <| ParH.pure rfl (fun X => qJ rfl) <| ParH.pure rfl (fun X => qD rfl) <| ParH.pure rfl (fun X => wV rfl rfl) <| ParH.pure rfl (fun X => zN rfl (Zi _)) <| ParH.pure rfl (fun X => qA rfl) <| ParH.nil rfl) ?_
  dsimp only [zG, List.drop, List.length]
  refine wa (by kernel_rfl) (yX rfl rfl (Zi _) (J2 p _ C1 _ 4 ib 1 (zw x) 168 (0, 0) _ x.ver hs1 (by omega) hx.ver hx.ver.2 (by omega) rfl)) ?_
  rintro t20 _ ⟨u2, C2, rfl, hs2, rfl⟩
  refine qt <| QAt.seq <| Tr.seq <| Tr.drawn qm <| qr [(21, .pure _), (22, .pure _), (23, .pure _), (24, .pure _), (25, .pure _), (26, .pure _), (27, .pure _)] (by kernel_rfl) rfl rfl rfl wL (ParH.pure rfl (fun X => qA rfl) <| ParH.pure rfl (fun X => qA rfl) <| ParH.pure rfl (fun X => qJ rfl) <| ParH.pure rfl (fun X => qD rfl) <| ParH.pure rfl (fun X => wV rfl rfl) <| ParH.pure rfl (fun X => zN rfl (Wg _)) <| ParH.pure rfl (fun X => qA rfl) <| ParH.nil rfl) ?_
  dsimp only [zG, List.drop, List.length]
  refine wa (by kernel_rfl) (yX rfl rfl (Wg _) (Yv p _ C2 _ 1 ib 2 (zw x) 168 (0, 0) _ x.kind hs2 (by omega) (by have := hx.kind; omega) (by have := hx.kind; omega) (by omega) rfl)) ?_
  rintro t28 _ ⟨u3, C3, rfl, hs3, rfl⟩
  refine qt <| QAt.seq <| Tr.seq <| Tr.drawn qm <| qr [(29, .pure _), (30, .pure _), (31, .pure _), (32, .pure _), (33, .pure _), (34, .pure _), (35, .pure _)] (by kernel_rfl) rfl rfl rfl wL (ParH.pure rfl (fun X => qA rfl) <| ParH.pure rfl (fun X => qA rfl) <| ParH.pure rfl (fun X => qJ rfl) <| ParH.pure rfl (fun X => qD rfl) <| ParH.pure rfl (fun X => wV rfl rfl) <| ParH.pure rfl (fun X => zN rfl (Wg _)) <| ParH.pure rfl (fun X => qA rfl) <| ParH.nil rfl) ?_
  dsimp only [zG, List.drop, List.length]
  refine wa (by kernel_rfl) (yX rfl rfl (Wg _) (Yv p _ C3 _ 4 ib 3 (zw x) 168 (0, 0) _ x.size hs3 (by omega) hx.size (by have := hx.size; omega) (by omega) rfl)) ?_
  rintro t36 _ ⟨u4, C4, rfl, hs4, rfl⟩
  refine qt <| QAt.seq <| Tr.seq <| Tr.drawn qm <| qr [(37, .pure _), (38, .pure _), (39, .pure _), (40, .pure _), (41, .pure _), (42, .pure _), (43, .pure _)] (by kernel_rfl) rfl rfl rfl wL (ParH.pure rfl (fun X => qA rfl) <| ParH.pure rfl (fun X => qA rfl) <| ParH.pure rfl (fun X => qJ rfl) <| ParH.pure rfl (fun X => qD rfl) <| ParH.pure rfl (fun X => wV rfl rfl) <| ParH.pure rfl (fun X => zN rfl (Zi _)) <| ParH.pure rfl (fun X => qA rfl) <| ParH.nil rfl) ?_
  dsimp only [zG, List.drop, List.length]
  refine wa (by kernel_rfl) (yX rfl rfl (Zi _) (J2 p _ C4 _ 4 ib 4 (zw x) 168 (0, 0) _ x.time hs4 (by omega) hx.time hx.time.2 (by omega) rfl)) ?_
  rintro t44 _ ⟨u5, C5, rfl, hs5, rfl⟩
  refine qt <| QAt.seq <| Tr.seq <| Tr.seq <| Tr.region <| q9 (qA rfl) <| qB <| QAt.seq <| Tr.block <| wB (Γ := {pΓ : (Nat) × (Value) × (qM) // (fun (i : Nat) (u : Value) (C : qM) => i ≤ 8 ∧ SlC 5 1 u (15 + 4 * i) (u8s (Wi x ++ (x.d.take i).flatMap (leI 4))) C) pΓ.1 pΓ.2.1 pΓ.2.2}) (fun g => (fun (i : Nat) (u : Value) (C : qM) => [(0, .iface 262 (.pointer (some ⟨p, 0, none⟩))), (1, .pointer (some ⟨ib, 0, none⟩)), (45, .int .i64 i)]) g.1.1 g.1.2.1 g.1.2.2) (fun g => (fun (i : Nat) (u : Value) (C : qM) => wrc p u :: C :: [(ib, .cells (zw x).toArray 168 (0, 0))] :: F) g.1.1 g.1.2.1 g.1.2.2) (fun g => (fun (i : Nat) (u : Value) (C : qM) => 8 - i) g.1.1 g.1.2.1 g.1.2.2) ⟨(0, u5, C5), by dsimp only; exact ⟨by omega, by simpa [Wi] using hs5⟩⟩ (qP _) ?_
  rintro ⟨⟨i, u, C⟩, hloop⟩
  replace hloop : i ≤ 8 ∧ SlC 5 1 u (15 + 4 * i) (u8s (Wi x ++ (x.d.take i).flatMap (leI 4))) C := hloop
  obtain ⟨hi, hsl⟩ := hloop
  show Tr _ _ _ ([(0, .iface 262 (.pointer (some ⟨p, 0, none⟩))), (1, .pointer (some ⟨ib, 0, none⟩)), (45, .int .i64 i)]) (wrc p u :: C :: [(ib, .cells (zw x).toArray 168 (0, 0))] :: F) _ _
  refine Tr.seq <| Tr.region <| q9 (qv rfl rfl) <| qB <| QAt.seq <| Tr.seq <| qI rfl (fun hc6 => ?_) (fun hc6 => ?_)
  ·
   refine Tr.skip <| QAt.seq <| Tr.seq <| Tr.block <| Tr.seq <| Tr.region <| q9 (qA rfl) <| q9 (qC rfl) <| qB <| QAt.seq ?_
   have hlt : i < x.d.length := by rw [hx.len]; omega
   obtain ⟨a, ha⟩ : ∃ a, x.d[i]? = some a := ⟨_, List.getElem?_eq_getElem hlt⟩
   have hab := hx.d a (List.mem_of_getElem? ha)
   refine Tr.drawn qm <| qr [(48, .pure _), (49, .pure _), (50, .pure _), (51, .pure _), (52, .pure _), (53, .pure _), (54, .pure _), (55, .pure _), (56, .pure _)] (by kernel_rfl) rfl rfl rfl wL (ParH.pure rfl (fun X => qA rfl) <| ParH.pure rfl (fun X => qA rfl) <| ParH.pure rfl (fun X => qA rfl) <| ParH.pure rfl (fun X => qJ rfl) <| ParH.pure rfl (fun X => qD rfl) <| ParH.pure rfl (fun X => wO (j := i) (off := 5 + i) rfl rfl rfl (by omega) (by simp)) <| ParH.pure rfl (fun X => wV rfl rfl) <| ParH.pure rfl (fun X => zN rfl (Wg _)) <| ParH.pure rfl (fun X => qA rfl) <| ParH.nil rfl) ?_
   dsimp only [zG, List.drop, List.length]
   refine wa (by kernel_rfl) (yX rfl rfl (Wg _) (Yv p u C _ 4 ib (5 + i) (zw x) 168 (0, 0) _ a hsl (by omega) hab (by omega) (by omega) (XH ha))) ?_
   rintro t57 _ ⟨u', C', rfl, hs', rfl⟩
   refine qt <| QAt.block <| QAt.seq <| Tr.region <| q9 (qj rfl rfl (by omega)) <| q9 (qA rfl) <| qB <| qh ⟨(i + 1, u', C'), ?_⟩ ?_ ?_
   · (try dsimp only); exact ⟨by omega, by rw [List.take_add_one, ha, Option.toList_some, List.flatMap_append, List.flatMap_singleton, ← List.append_assoc]; exact hs'⟩
   · (try dsimp only); omega
   · (try dsimp only); exact qP _
  ·
   refine Tr.exit <| qX <| qY <| qS <| QAt.seq <| Tr.seq <| Tr.drawn qm <| qr [(59, .pure _), (60, .pure _), (61, .pure _), (62, .pure _), (63, .pure _), (64, .pure _), (65, .pure _)] (by kernel_rfl) rfl rfl rfl wL (ParH.pure rfl (fun X => qA rfl) <| ParH.pure rfl (fun X => qA rfl) <| ParH.pure rfl (fun X => qJ rfl) <| ParH.pure rfl (fun X => qD rfl) <| ParH.pure rfl (fun X => wV rfl rfl) <| ParH.pure rfl (fun X => zN rfl (Wg _)) <| ParH.pure rfl (fun X => qA rfl) <| ParH.nil rfl) ?_
   dsimp only [zG, List.drop, List.length]
   refine wa (by kernel_rfl) (yX rfl rfl (Wg _) (Yv p u C _ 4 ib 13 (zw x) 168 (0, 0) _ x.sg hsl (by omega) hx.sg (by have := hx.sg; omega) (by omega) h13.1)) ?_
   rintro t66 _ ⟨u6, C6, rfl, hs6, rfl⟩
   refine qt <| QAt.seq <| Tr.drawn qm <| qr [(67, .pure _), (68, .pure _), (69, .pure _), (70, .pure _), (71, .pure _), (72, .pure _), (73, .pure _)] (by kernel_rfl) rfl rfl rfl wL (ParH.pure rfl (fun X => qA rfl) <| ParH.pure rfl (fun X => qA rfl) <| ParH.pure rfl (fun X => qJ rfl) <| ParH.pure rfl (fun X => qD rfl) <| ParH.pure rfl (fun X => wV rfl rfl) <| ParH.pure rfl (fun X => zN rfl (Wg _)) <| ParH.pure rfl (fun X => qA rfl) <| ParH.nil rfl) ?_
   dsimp only [zG, List.drop, List.length]
   refine wa (by kernel_rfl) (yX rfl rfl (Wg _) (Yv p u6 C6 _ 4 ib 14 (zw x) 168 (0, 0) _ x.db hs6 (by omega) hx.db (by have := hx.db; omega) (by omega) h13.2)) ?_
   rintro t74 _ ⟨u7, C7, rfl, hs7, rfl⟩
   refine qt <| jz (.inr rfl) rfl  ?_
   have hi8 : i = 8 := by omega
   subst hi8
   exact ⟨u7, C7, rfl, by rw [List.take_of_length_le (by rw [hx.len]; omega)] at hs7; exact hs7, rfl⟩
theorem X8 (n a b : Int) : FnT Tryz.prog w0 143 #[.int .i64 n, .int .i64 a, .int .i64 b] L (fun v L' => v = .bool (decide (a ≤ n ∧ n ≤ b)) ∧ L' = L) := by
  refine FnT.enter (E0 := [(0, _), (1, _), (2, _)]) (N := 15) Tryz.func143 rfl rfl rfl rfl ?_
  refine Tr.seq <| Tr.region <| q9 (qC rfl) <| qB <| QAt.seq <| Tr.seq <| Tr.region <| q9 (qA rfl) <| q9 (qA rfl) <| q9 (yl rfl rfl) <| q9 (qA rfl) <| qN (s := 10) rfl (fun hg1_3 => ?_) (fun hg1_3 => ?_)
  ·
   refine qE rfl rfl (qA rfl) <| qE rfl rfl (qA rfl) <| qE rfl rfl (Yl rfl rfl) <| q9 (qT rfl rfl) <| q9 (qC rfl) <| qB <| QAt.seq <| Tr.ret <| qs L (.inl rfl) rfl (qd rfl) ?_
   exact ⟨by simp [*], rfl⟩
  ·
   refine qH rfl rfl rfl <| qH rfl rfl rfl <| qH rfl rfl rfl <| q9 (qL rfl rfl) <| q9 (qC rfl) <| qB <| QAt.seq <| Tr.ret <| qs L (.inl rfl) rfl (qd rfl) ?_
   exact ⟨by simp [*], rfl⟩
theorem Y4 (x : Ino) (hx : x.Ok) : FnT Tryz.prog w0 120 #[.agg (zw x).toArray] F (fun v L' => v = .bool true ∧ L' = F) := by
  refine FnT.enter (E0 := [(0, _)]) (N := 6) Tryz.func120 rfl rfl rfl rfl ?_
  refine Tr.seq <| Tr.region <| qF (wT rfl) ?_
  rintro t1 _ ⟨b1, rfl, rfl⟩
  refine q9 (qC rfl) <| qB <| QAt.seq <| Tr.seq <| Tr.region <| q9 (qD rfl) <| q9 (qG rfl rfl) <| q9 (qw rfl (X8 x.kind 1 2)) <| q9 (qC rfl) <| qB <| QAt.seq <| Tr.ret <| qs F (.inl rfl) rfl (qd rfl) ?_
  exact ⟨by rw [decide_eq_true hx.kind], rfl⟩
theorem kU {x : Ino} (h : x.Ok) : (zw x).length = 15 := by simp [zw, h.len]
theorem Yw (x : Ino) : (zw x).all (·.oneCell') = true := by simp [zw, iV, Value.oneCell']
def ZA (x : Ino) (h : x.Ok) : Sec := jT 2 (kw x) (by rw [xV h]; omega) (by omega) (JO x)
theorem write_ok (x : Ino) (hx : x.Ok) : FnT Tryz.prog w0 148 #[.int .u8 2, .agg (zw x).toArray, .func (.func 119) #[] #[], .func (.func 120) #[] #[]] F
    (fun v L' => v = .tuple #[.agg (wW (ZA x hx)).toArray, .int .i64 0] ∧ L' = F) := by
  refine FnT.enter (E0 := [(0, _), (1, _), (2, _), (3, _)]) (N := 35) Tryz.func148 rfl rfl rfl rfl ?_
  refine Tr.seq <| Tr.region <| qF (wT rfl) ?_
  rintro t5 _ ⟨b5, rfl, rfl⟩
  refine qF (qV) ?_
  rintro t8 _ ⟨b8, rfl, rfl⟩
  refine q9 (qC rfl) <| qB <| QAt.seq <| Tr.seq <| Tr.region <| q9 (yn rfl Tryz.underlying264 rfl (fun _ _ => ⟨_, inferInstance⟩) (fun _ _ h => by cases h)) ?_
  refine qF (wT rfl) ?_
  rintro t12 _ ⟨b12, rfl, rfl⟩
  refine q9 (qC rfl) <| qB <| QAt.seq <| Tr.seq <| Tr.seq <| Tr.region <| q9 (qA rfl) <| q9 (w7 rfl (kU hx)) <| q9 (yw rfl rfl (FnV.of (first := []) (captured := []) (Y4 x hx))) <| q9 (kM rfl) <| qB <| QAt.seq <| wD rfl <| Tr.skip <| QAt.seq <| Tr.seq <| Tr.seq <| Tr.region <| q9 (qA rfl) <| q9 (qA rfl) <| q9 (jg rfl Tryz.underlying262 rfl) <| qF (yw rfl rfl (FnV.of (first := []) (captured := []) (jB [(b12, .cells [.slice none 0 0, .bool false].toArray 264 (0, 0))] [] [(b5, .cells (zw x).toArray 168 (0, 0))] (pass_ok b12 b5 x hx)))) ?_
  rintro t21 _ ⟨u, C, rfl, hs, rfl⟩
  refine qB <| QAt.seq <| Tr.seq ?_
  rw [← xV hx] at hs
  obtain ⟨q, c, rfl⟩ := hs.slice
  unfold wrc
  refine Tr.region <| q9 (qA rfl) <| q9 (qJ rfl) <| q9 (qD rfl) <| q9 (qG rfl rfl) <| qB <| QAt.seq <| wD rfl <| Tr.skip <| QAt.seq <| Tr.seq <| Tr.region <| q9 (qA rfl) <| q9 (qA rfl) <| q9 (qJ rfl) <| q9 (qD rfl) <| q9 (qG rfl rfl) <| qF (qn rfl (Xc 2 (kw x) q c (by rw [xV hx]; omega) (by omega) (JO x) (fun e => by subst e; rcases hs with ⟨-, h, -⟩ | ⟨_, _, _, h, _⟩; exact h; cases h) (fun A => jo hs))) ?_
  rintro t32 _ ⟨rfl, rfl⟩
  refine q9 (qR rfl rfl) <| q9 (qR rfl rfl) <| qK (qW rfl rfl (by simp) (by simp) (by exact wS _)) ?_
  refine q9 (qC rfl) <| qB <| QAt.seq <| Tr.ret <| wC F (.inl rfl) rfl (z7 rfl (by first | exact zD _ | simp)) (qd rfl) ?_
  exact ⟨rfl, rfl⟩
theorem writeInode_ok (x : Ino) (hx : x.Ok) : FnT Tryz.prog w0 123 #[.agg (zw x).toArray] F (fun v L' => v = .tuple #[.agg (wW (ZA x hx)).toArray, .int .i64 0] ∧ L' = F) := by
  refine FnT.enter (E0 := [(0, _)]) (N := 8) Tryz.func123 rfl rfl rfl rfl ?_
  refine Tr.seq <| Tr.region <| qF (wT rfl) ?_
  rintro t1 _ ⟨b1, rfl, rfl⟩
  refine qF (qV) ?_
  rintro t2 _ ⟨b2, rfl, rfl⟩
  refine q9 (qC rfl) <| qB <| QAt.seq <| Tr.seq <| Tr.region <| q9 (w7 rfl (kU hx)) <| qF (qn rfl (write_ok x hx)) ?_
  rintro t5 _ ⟨rfl, rfl⟩
  refine q9 (qR rfl rfl) <| q9 (qR rfl rfl) <| qK (qW rfl rfl (by simp) (by simp) (by exact wS _)) ?_
  refine q9 (qC rfl) <| qB <| QAt.seq <| Tr.ret <| wC F (.inl rfl) rfl (z7 rfl (by first | exact zD _ | simp)) (qd rfl) ?_
  exact ⟨rfl, rfl⟩
def xY (p : Nat × Int) : List Value := [.int .i64 p.1, .int .i64 p.2]
def Y8 (x : Ino) : List (Nat × Int) := [(2, x.num), (4, x.ver), (1, x.kind), (4, x.size), (4, x.time)]
def JN (x : Ino) : List (Nat × Int) := Y8 x ++ x.d.map (fun a => (4, a)) ++ [(4, x.sg), (4, x.db)]
theorem inoF_len {x : Ino} (h : x.Ok) : (JN x).length = 15 := by simp [JN, Y8, h.len]
theorem fields_ok (x : Ino) (hx : x.Ok) : FnT Tryz.prog w0 125 #[.agg (zw x).toArray] F (fun v L' => ∃ C, SlC 247 2 v 15 ((JN x).flatMap xY) C ∧ L' = C :: F) := by
  have h13 := YP hx.len
  have q1 := hx.num
  have q2 := hx.ver
  have q3 := hx.time
  refine FnT.enter (E0 := [(0, _)]) (N := 45) Tryz.func125 rfl rfl rfl rfl ?_
  refine Tr.seq <| Tr.region <| qF (wT rfl) ?_
  rintro t1 _ ⟨b1, rfl, rfl⟩
  refine q9 (qC rfl) <| qB <| QAt.seq <| Tr.seq <| Tr.region <| q9 (qD rfl) <| q9 (qG rfl rfl) <| q9 (wo rfl (by first | (simp only [IntKind.min, IntKind.max, IntKind.bits, IntKind.signed, Bool.false_eq_true, if_false, if_true]; omega))) ?_
  refine q9 (wF rfl) <| q9 (qD rfl) <| q9 (qG rfl rfl) <| q9 (wo rfl (by first | (simp only [IntKind.min, IntKind.max, IntKind.bits, IntKind.signed, Bool.false_eq_true, if_false, if_true]; omega))) ?_
  refine q9 (wF rfl) <| q9 (qD rfl) <| q9 (qG rfl rfl) <| q9 (wF rfl) <| q9 (qD rfl) <| q9 (qG rfl rfl) <| q9 (wF rfl) <| q9 (qD rfl) <| q9 (qG rfl rfl) <| q9 (wo rfl (by first | (simp only [IntKind.min, IntKind.max, IntKind.bits, IntKind.signed, Bool.false_eq_true, if_false, if_true]; omega))) ?_
  refine q9 (wF rfl) <| qF (w5 rfl rfl rfl) ?_
  rintro t23 _ ⟨b23, rfl, rfl⟩
  refine q9 (qC rfl) <| qB <| QAt.seq <| Tr.seq <| Tr.seq <| Tr.region <| q9 (qC rfl) <| qB <| QAt.seq <| Tr.block <| wB (Γ := {pΓ : (Nat) × (Value) × (qM) // (fun (i : Nat) (u : Value) (C : qM) => i ≤ 8 ∧ SlC 247 2 u (5 + i) ((Y8 x ++ (x.d.take i).map (fun a => (4, a))).flatMap xY) C) pΓ.1 pΓ.2.1 pΓ.2.2}) (fun g => (fun (i : Nat) (u : Value) (C : qM) => [(1, .pointer (some ⟨b1, 0, none⟩)), (3, u), (4, .int .i64 i)]) g.1.1 g.1.2.1 g.1.2.2) (fun g => (fun (i : Nat) (u : Value) (C : qM) => C :: [(b1, .cells (zw x).toArray 183 (0, 0))] :: F) g.1.1 g.1.2.1 g.1.2.2) (fun g => (fun (i : Nat) (u : Value) (C : qM) => 8 - i) g.1.1 g.1.2.1 g.1.2.2) ⟨(0, .slice (some ⟨b23, 0, none⟩) 5 5, [(b23, .cells ((Y8 x).flatMap xY).toArray 247 (0, 0))]), by dsimp only; exact ⟨by omega, by rw [List.take_zero, List.map_nil, List.append_nil]; exact SlC.fresh rfl⟩⟩ (y7 rfl) ?_
  rintro ⟨⟨i, u, C⟩, hloop⟩
  replace hloop : i ≤ 8 ∧ SlC 247 2 u (5 + i) ((Y8 x ++ (x.d.take i).map (fun a => (4, a))).flatMap xY) C := hloop
  obtain ⟨hi, hsl⟩ := hloop
  show Tr _ _ _ ([(1, .pointer (some ⟨b1, 0, none⟩)), (3, u), (4, .int .i64 i)]) (C :: [(b1, .cells (zw x).toArray 183 (0, 0))] :: F) _ _
  refine Tr.seq <| Tr.seq <| Tr.region <| q9 (qA rfl) <| q9 (qv rfl rfl) <| qB <| QAt.seq <| qI rfl (fun hc3 => ?_) (fun hc3 => ?_)
  ·
   refine Tr.skip <| QAt.seq <| Tr.seq <| Tr.block ?_
   have hlt : i < x.d.length := by rw [hx.len]; omega
   obtain ⟨a, ha⟩ : ∃ a, x.d[i]? = some a := ⟨_, List.getElem?_eq_getElem hlt⟩
   refine Tr.region <| q9 (qA rfl) <| q9 (qA rfl) <| q9 (qD rfl) <| q9 (wO (j := i) (off := 5 + i) rfl rfl rfl (by omega) (by simp)) ?_
   refine q9 (qG rfl (XH ha)) <| q9 (wF rfl) <| qF (w5 rfl rfl rfl) ?_
   rintro t34 _ ⟨b34, rfl, rfl⟩
   refine qF (wP (m := 1) (sz := 2) rfl rfl hsl (wQ (ys := xY (4, a)) inferInstance rfl rfl) rfl Tryz.underlying211 rfl rfl (by omega)) ?_
   rintro t35 _ ⟨C', hs', rfl⟩
   refine q9 (qC rfl) <| qB <| QAt.block <| QAt.seq <| Tr.region <| q9 (qA rfl) <| q9 (qj rfl rfl (by omega)) <| q9 (qC rfl) <| qB <| qh ⟨(i + 1, t35, C'), ?_⟩ ?_ ?_
   · (try dsimp only); exact ⟨by omega, by rw [List.take_add_one, ha, Option.toList_some, List.map_append, ← List.append_assoc, List.flatMap_append]; exact hs'⟩
   · (try dsimp only); omega
   · (try dsimp only); exact qP _
  ·
   refine Tr.exit <| qX <| qY <| qS <| QAt.seq <| Tr.seq <| Tr.region <| q9 (qA rfl) <| q9 (qD rfl) <| q9 (qG rfl h13.1) <| q9 (wF rfl) <| q9 (qD rfl) <| q9 (qG rfl h13.2) <| q9 (wF rfl) <| qF (w5 rfl rfl rfl) ?_
   rintro t43 _ ⟨b43, rfl, rfl⟩
   refine qF (wP (m := 2) (sz := 2) rfl rfl hsl (wQ (ys := [(4, x.sg), (4, x.db)].flatMap xY) inferInstance rfl rfl) rfl Tryz.underlying211 rfl rfl (by omega)) ?_
   rintro t44 _ ⟨C', hs', rfl⟩
   refine q9 (qC rfl) <| qB <| QAt.seq <| Tr.ret <| qs (C' :: F) (.inl rfl) rfl (qd rfl) ?_
   have hi8 : i = 8 := by omega
   subst hi8
   exact ⟨C', by rw [List.take_of_length_le (by rw [hx.len]; omega), ← List.flatMap_append] at hs'; exact hs', rfl⟩
theorem has_ok (w : Nat) (x : Int) (hw : 1 ≤ w ∧ w ≤ 8) (hx : 0 ≤ x ∧ x < 256 ^ w) (hx2 : x < 18446744073709551616) : FnT Tryz.prog w0 149 #[.int .i64 w, .int .u64 x] L (fun v L' => v = .bool true ∧ L' = L) := by
  refine FnT.enter (E0 := [(0, _), (1, _)]) (N := 21) Tryz.func149 rfl rfl rfl rfl ?_
  refine Tr.seq <| Tr.region <| q9 (qC rfl) <| qB <| QAt.seq <| Tr.seq <| Tr.seq <| Tr.region <| q9 (qA rfl) <| q9 (qv rfl rfl) <| q9 (qA rfl) <| qN (s := 8) rfl (fun hg1_2 => ?_) (fun hg1_2 => ?_)
  · (exfalso; omega)
  ·
   refine qE rfl rfl (qA rfl) <| qE rfl rfl (zd rfl rfl) <| q9 (qL rfl rfl) <| qB <| QAt.seq <| qI rfl (fun hc1 => ?_) (fun hc1 => ?_)
   · (exfalso; omega)
   ·
    refine Tr.skip <| QAt.seq <| Tr.seq <| Tr.seq <| Tr.region <| q9 (qC rfl) <| qB <| QAt.seq <| Tr.block <| wB (Γ := {pΓ : (Nat) × (Int) // (fun (i : Nat) (y : Int) => i ≤ w ∧ y = x / 256 ^ i) pΓ.1 pΓ.2}) (fun g => (fun (i : Nat) (y : Int) => [(0, .int .i64 w), (1, .int .u64 y), (5, .int .i64 i)]) g.1.1 g.1.2) (fun g => (fun (i : Nat) (y : Int) => L) g.1.1 g.1.2) (fun g => (fun (i : Nat) (y : Int) => w - i) g.1.1 g.1.2) ⟨(0, x), by dsimp only; exact ⟨by omega, by simp⟩⟩ (qP _) ?_
    rintro ⟨⟨i, y⟩, hloop⟩
    replace hloop : i ≤ w ∧ y = x / 256 ^ i := hloop
    obtain ⟨hi, hy⟩ := hloop
    show Tr _ _ _ ([(0, .int .i64 w), (1, .int .u64 y), (5, .int .i64 i)]) (L) _ _
    refine Tr.seq <| Tr.seq <| Tr.region <| q9 (qA rfl) <| q9 (qA rfl) <| q9 (qv rfl rfl) <| qB <| QAt.seq <| qI rfl (fun hc4 => ?_) (fun hc4 => ?_)
    ·
     refine Tr.skip <| QAt.seq <| Tr.seq <| Tr.block ?_
     have hy0 : 0 ≤ y := by rw [hy]; exact Int.ediv_nonneg hx.1 (Int.le_of_lt (Int.pow_pos (by omega)))
     have hy1 : y ≤ x := by rw [hy]; exact Int.ediv_le_self _ hx.1
     refine Tr.region <| q9 (qA rfl) <| q9 (Yk rfl rfl hy0 (by omega) (by simp only [IntKind.max, IntKind.bits, IntKind.signed, Bool.false_eq_true, if_false]; omega)) ?_
     refine q9 (qC rfl) <| qB <| QAt.block <| QAt.seq <| Tr.region <| q9 (qA rfl) <| q9 (qj rfl rfl (by omega)) <| q9 (qC rfl) <| qB <| qh ⟨(i + 1, y / 256), ?_⟩ ?_ ?_
     · (try dsimp only); exact ⟨by omega, by rw [hy, Int.pow_succ, Int.ediv_ediv_of_nonneg (Int.le_of_lt (Int.pow_pos (by omega)))]⟩
     · (try dsimp only); omega
     · (try dsimp only); exact qP _
    ·
     refine Tr.exit <| qX <| qY <| qS <| QAt.seq <| Tr.seq <| Tr.region <| q9 (qA rfl) <| q9 (wR rfl rfl) <| q9 (qC rfl) <| qB <| QAt.seq <| Tr.ret <| zW (.inl rfl) rfl (qd rfl) ?_
     exact ⟨by rw [hy, show i = w from by omega, Int.ediv_eq_zero_of_lt hx.1 hx.2]; rfl, rfl⟩
def yA (fs : List (Nat × Int)) : List Int := fs.flatMap fun p => leI p.1 p.2
def JZ (p : Nat × Int) : Prop := 1 ≤ p.1 ∧ p.1 ≤ 8 ∧ 0 ≤ p.2 ∧ p.2 < 256 ^ p.1 ∧ p.2 < 9223372036854775808
theorem Km (fs : List (Nat × Int)) : IsB (yA fs) := fun x hx => by
  obtain ⟨a, _, h⟩ := List.mem_flatMap.1 hx
  exact kB _ _ x h
theorem xX (p : Nat × Int) : (xY p).length = 2 := rfl
theorem fieldsB_take {fs : List (Nat × Int)} {i : Nat} {p : Nat × Int} (h : fs[i]? = some p) : yA (fs.take (i + 1)) = yA (fs.take i) ++ leI p.1 p.2 := by
  unfold yA
  rw [List.take_add_one, h, Option.toList_some, List.flatMap_append, List.flatMap_singleton]
theorem fieldsB_le (fs : List (Nat × Int)) (i : Nat) : (yA (fs.take i)).length ≤ (yA fs).length := by
  conv => rhs; rw [← List.take_append_drop i fs]
  unfold yA
  rw [List.flatMap_append, List.length_append]; omega
theorem sealed_ok (k : Int) (fs : List (Nat × Int)) (u : Value) (n : Nat) (C : qM) (hk : 0 < k ∧ k < 256) (hf : ∀ p ∈ fs, JZ p) (hlen : fs.length = n) (hn : 0 < n ∧ n < 1000) (hb : (yA fs).length ≤ 120) (hs : SlC 247 2 u n (fs.flatMap xY) C) :
    FnT Tryz.prog w0 124 #[.int .u8 k, u] (C :: F) (fun v L' => v = .tuple #[.agg (wW (jT k (yA fs) hb (by omega) (Km fs))).toArray, .bool true] ∧ L' = C :: F) := by
  rcases hs with ⟨-, h, -⟩ | ⟨b, cap, spare, rfl, hcs, rfl, hcap, hnc⟩
  · omega
  refine FnT.enter (E0 := [(0, _), (1, _)]) (N := 55) Tryz.func124 rfl rfl rfl rfl ?_
  refine Tr.seq <| Tr.region <| qF (qV) ?_
  rintro t4 _ ⟨b4, rfl, rfl⟩
  refine q9 (qC rfl) <| qB <| QAt.seq <| Tr.seq <| Tr.region <| q9 (qC rfl) <| qB <| QAt.seq <| Tr.seq <| Tr.seq <| Tr.region <| q9 (qC rfl) <| qB <| QAt.seq <| Tr.block <| wB (Γ := {pΓ : (Nat) × (Value) × (qM) // (fun (i : Nat) (u : Value) (C : qM) => i ≤ n ∧ SlC 5 1 u (yA (fs.take i)).length (u8s (yA (fs.take i))) C) pΓ.1 pΓ.2.1 pΓ.2.2}) (fun g => (fun (i : Nat) (u : Value) (C : qM) => [(0, .int .u8 k), (1, .slice (some ⟨b, 0, none⟩) n cap), (4, .pointer (some ⟨b4, 0, none⟩)), (6, u), (7, .int .i64 i)]) g.1.1 g.1.2.1 g.1.2.2) (fun g => (fun (i : Nat) (u : Value) (C : qM) => C :: [(b4, .cells (wW Sec.zero).toArray 54 (0, 0))] :: [(b, .cells (fs.flatMap xY ++ spare).toArray 247 (0, 0))] :: F) g.1.1 g.1.2.1 g.1.2.2) (fun g => (fun (i : Nat) (u : Value) (C : qM) => n - i) g.1.1 g.1.2.1 g.1.2.2) ⟨(0, .slice none 0 0, []), by dsimp only; exact ⟨by omega, zu _ _⟩⟩ (qP _) ?_
  rintro ⟨⟨i, u, C⟩, hloop⟩
  replace hloop : i ≤ n ∧ SlC 5 1 u (yA (fs.take i)).length (u8s (yA (fs.take i))) C := hloop
  obtain ⟨hi, hsl⟩ := hloop
  show Tr _ _ _ ([(0, .int .u8 k), (1, .slice (some ⟨b, 0, none⟩) n cap), (4, .pointer (some ⟨b4, 0, none⟩)), (6, u), (7, .int .i64 i)]) (C :: [(b4, .cells (wW Sec.zero).toArray 54 (0, 0))] :: [(b, .cells (fs.flatMap xY ++ spare).toArray 247 (0, 0))] :: F) _ _
  refine Tr.seq <| Tr.seq <| Tr.region <| q9 (qA rfl) <| q9 (qA rfl) <| q9 (qg rfl) <| q9 (qv rfl rfl) <| qB <| QAt.seq <| qI rfl (fun hc3 => ?_) (fun hc3 => ?_)
  ·
   refine Tr.skip <| QAt.seq <| Tr.seq <| Tr.block <| Tr.seq <| Tr.seq ?_
   have hlt : i < fs.length := by omega
   obtain ⟨p, hp⟩ : ∃ p, fs[i]? = some p := ⟨_, List.getElem?_eq_getElem hlt⟩
   obtain ⟨f1, f2, f3, f4, f5⟩ := hf p (List.mem_of_getElem? hp)
   have hle := fieldsB_le fs i
   refine Tr.drawn qm <| qr [(14, .pure _), (15, .pure _)] (by kernel_rfl) rfl rfl rfl wL (ParH.pure rfl (fun X => qA rfl) <| ParH.pure rfl (fun X => qA rfl) <| ParH.nil rfl) ?_
   dsimp only [zG, List.drop, List.length]
   refine qq (by kernel_rfl) (qf (j := i) (off := i * 2) rfl rfl rfl (by omega) (by omega)) ?_
   refine qq (by kernel_rfl) (qk rfl) ?_
   refine qq (by kernel_rfl) (zF (j := i) (k := 1) xX rfl hp rfl rfl) ?_
   refine qq (by kernel_rfl) (qv rfl rfl) ?_
   refine qq (by kernel_rfl) (qA rfl) ?_
   refine yp (s := 20) rfl (fun hg5_6 => ?_) (fun hg5_6 => ?_)
   · (exfalso; omega)
   ·
    refine qr [(21, .pure _), (22, .pure _), (23, .pure _), (24, .pure _), (25, .pure _), (26, .pure _), (27, .pure _), (28, .pure _), (29, .pure _), (30, .pure _), (31, .pure _)] (by kernel_rfl) rfl rfl rfl wL (wN rfl rfl rfl (fun X => qA rfl) <| wN rfl rfl rfl (fun X => qA rfl) <| wN rfl rfl rfl (fun X => qf (j := i) (off := i * 2) rfl rfl rfl (by omega) (by omega)) <| wN rfl rfl rfl (fun X => qk rfl) <| wN rfl rfl rfl (fun X => zF (j := i) (k := 0) xX rfl hp rfl rfl) <| wN rfl rfl rfl (fun X => qA rfl) <| wN rfl rfl rfl (fun X => qA rfl) <| wN rfl rfl rfl (fun X => qf (j := i) (off := i * 2) rfl rfl rfl (by omega) (by omega)) <| wN rfl rfl rfl (fun X => qk rfl) <| wN rfl rfl rfl (fun X => zF (j := i) (k := 1) xX rfl hp rfl rfl) <| wN rfl rfl rfl (fun X => wo rfl (by simp only [IntKind.min, IntKind.max, IntKind.bits, IntKind.signed, Bool.false_eq_true, if_false]; omega)) <| ParH.nil rfl) ?_
    dsimp only [zG, List.drop, List.length]
    refine kL (by kernel_rfl) rfl rfl (qw rfl (has_ok p.1 p.2 (by omega) ⟨f3, f4⟩ (by omega))) ?_
    refine kL (by kernel_rfl) rfl rfl (kM rfl) ?_
    refine qq (by kernel_rfl) (qL rfl rfl) ?_
    refine qt <| QAt.seq <| wD rfl <| Tr.skip <| QAt.seq <| Tr.drawn qm <| qr [(36, .pure _), (37, .pure _), (38, .pure _), (39, .pure _), (40, .pure _), (41, .pure _), (42, .pure _), (43, .pure _), (44, .pure _), (45, .pure _), (46, .pure _), (47, .pure _), (48, .act ([]) (fun v C => SlC 5 1 v p.1 (u8s (leI p.1 p.2)) C))] (by kernel_rfl) rfl rfl rfl (Q8 [[]] rfl) (ParH.pure rfl (fun X => qA rfl) <| ParH.pure rfl (fun X => qA rfl) <| ParH.pure rfl (fun X => qA rfl) <| ParH.pure rfl (fun X => qf (j := i) (off := i * 2) rfl rfl rfl (by omega) (by omega)) <| ParH.pure rfl (fun X => qk rfl) <| ParH.pure rfl (fun X => zF (j := i) (k := 1) xX rfl hp rfl rfl) <| ParH.pure rfl (fun X => wo rfl (by simp only [IntKind.min, IntKind.max, IntKind.bits, IntKind.signed, Bool.false_eq_true, if_false]; omega)) <| ParH.pure rfl (fun X => qA rfl) <| ParH.pure rfl (fun X => qA rfl) <| ParH.pure rfl (fun X => qf (j := i) (off := i * 2) rfl rfl rfl (by omega) (by omega)) <| ParH.pure rfl (fun X => qk rfl) <| ParH.pure rfl (fun X => zF (j := i) (k := 0) xX rfl hp rfl rfl) <| ParH.act rfl (fun X => OpT.mono (OpT.weaken (qn rfl (XF p.2 p.1 (by omega) (by omega))) (fun _ _ h => h) Q7) (fun v L h => by obtain ⟨C, h1, h2⟩ := h; exact ⟨C, h1, h2⟩)) <| ParH.nil rfl) ?_
    rintro t48 C2 hs2
    dsimp only [zG, List.drop, List.length]
    refine wa (by kernel_rfl) (wP (m := p.1) (sz := 1) rfl rfl hsl (jo hs2) (jp _) Tryz.underlying23 rfl rfl (by omega)) ?_
    rintro t49 _ ⟨C', hs', rfl⟩
    refine qq (by kernel_rfl) (qC rfl) ?_
    refine qt <| QAt.block <| QAt.seq <| Tr.region <| q9 (qA rfl) <| q9 (qj rfl rfl (by omega)) <| q9 (qC rfl) <| qB <| qh ⟨(i + 1, t49, C'), ?_⟩ ?_ ?_
    · (try dsimp only); exact ⟨by omega, by rw [fieldsB_take hp, List.length_append, yH, YN]; exact hs'⟩
    · (try dsimp only); omega
    · (try dsimp only); exact qP _
  ·
   refine Tr.exit <| qX <| qY <| qS <| QAt.seq <| Tr.seq ?_
   obtain rfl : i = fs.length := by omega
   rw [List.take_length] at hsl
   obtain ⟨q, c, rfl⟩ := hsl.slice
   refine Tr.region <| q9 (qA rfl) <| q9 (qA rfl) <| qF (qn rfl (rmake_ok k (yA fs) q c hb (by omega) (Km fs) (fun A => jo hsl))) ?_
   rintro t52 _ ⟨rfl, rfl⟩
   refine q9 (qR rfl rfl) <| q9 (qR rfl rfl) <| qK (qW rfl rfl (by simp) (by simp) (by exact wS _)) ?_
   refine q9 (qC rfl) <| qB <| QAt.seq <| Tr.ret <| wC ([(b, .cells (fs.flatMap xY ++ spare).toArray 247 (0, 0))] :: F) (.inl rfl) rfl (z7 rfl (by first | exact zD _ | simp)) (qd rfl) ?_
   exact ⟨rfl, rfl⟩
theorem sealS_congr {k : Int} {a b : List Int} (e : a = b) (h1 : a.length ≤ 120) (h2 : b.length ≤ 120) (hk : 0 ≤ k ∧ k < 256) (b1 : IsB a) (b2 : IsB b) : jT k a h1 hk b1 = jT k b h2 hk b2 := by subst e; rfl
theorem Xz (x : Ino) : yA (JN x) = kw x := by
  have h : ∀ d : List Int, yA (d.map fun a => ((4 : Nat), a)) = d.flatMap (leI 4) := by
    intro d; simp [yA, List.flatMap_map]
  have h2 : yA (JN x) = yA (Y8 x) ++ yA (x.d.map fun a => ((4 : Nat), a)) ++ yA [(4, x.sg), (4, x.db)] := by simp only [JN, yA, List.flatMap_append]
  rw [h2, h]
  simp [kw, Wi, Y8, yA]
theorem inoF_ok {x : Ino} (hx : x.Ok) : ∀ p ∈ JN x, JZ p := by
  intro p hp
  have e2 : (256 : Int) ^ 2 = 65536 := rfl
  have e4 : (256 : Int) ^ 4 = 4294967296 := rfl
  have e1 : (256 : Int) ^ 1 = 256 := rfl
  simp only [JN, Y8, List.mem_append, List.mem_map, List.mem_cons, List.not_mem_nil, or_false] at hp
  unfold JZ
  rcases hp with ((rfl | rfl | rfl | rfl | rfl) | ⟨a, ha, rfl⟩) | rfl | rfl
  · have := hx.num; dsimp only; rw [e2]; omega
  · have := hx.ver; dsimp only; rw [e4]; omega
  · have := hx.kind; dsimp only; rw [e1]; omega
  · have := hx.size; dsimp only; rw [e4]; omega
  · have := hx.time; dsimp only; rw [e4]; omega
  · have := hx.d a ha; dsimp only; rw [e4]; omega
  · have := hx.sg; dsimp only; rw [e4]; omega
  · have := hx.db; dsimp only; rw [e4]; omega
theorem rwriteInode_ok (x : Ino) (hx : x.Ok) : FnT Tryz.prog w0 103 #[.agg (zw x).toArray] F (fun v L' => v = .tuple #[.agg (wW (ZA x hx)).toArray, .bool true] ∧ L' = F) := by
  have hk := hx.kind
  refine FnT.enter (E0 := [(0, _)]) (N := 18) Tryz.func103 rfl rfl rfl rfl ?_
  refine Tr.seq <| Tr.region <| qF (wT rfl) ?_
  rintro t1 _ ⟨b1, rfl, rfl⟩
  refine qF (qV) ?_
  rintro t2 _ ⟨b2, rfl, rfl⟩
  refine q9 (qC rfl) <| qB <| QAt.seq <| Tr.seq <| Tr.seq <| Tr.region <| q9 (qD rfl) <| q9 (qG rfl rfl) <| q9 (qv rfl rfl) <| q9 (qA rfl) <| qN (s := 7) rfl (fun hg1_3 => ?_) (fun hg1_3 => ?_)
  · (exfalso; omega)
  ·
   refine qE rfl rfl (qD rfl) <| qE rfl rfl (qG rfl rfl) <| qE rfl rfl (zd rfl rfl) <| q9 (qL rfl rfl) <| qB <| QAt.seq <| qI rfl (fun hc1 => ?_) (fun hc1 => ?_)
   · (exfalso; omega)
   ·
    refine Tr.skip <| QAt.seq <| Tr.seq <| Tr.region <| q9 (w7 rfl (kU hx)) <| qF (qn rfl (fields_ok x hx)) ?_
    rintro t14 _ ⟨C, hs, rfl⟩
    refine qF (qn rfl (sealed_ok 2 (JN x) _ 15 C (by omega) (inoF_ok hx) (inoF_len hx) (by omega) (by rw [Xz, xV hx]; omega) hs)) ?_
    rintro t15 _ ⟨rfl, rfl⟩
    refine q9 (qR rfl rfl) <| q9 (qR rfl rfl) <| qK (qW rfl rfl (by simp) (by simp) (by exact wS _)) ?_
    refine q9 (qC rfl) <| qB <| QAt.seq <| Tr.ret <| wC F (.inl rfl) rfl (z7 rfl (by first | exact zD _ | simp)) (qd rfl) ?_
    exact ⟨by rw [sealS_congr (Xz x) _ (by rw [xV hx]; omega) _ _ (JO x)]; rfl, rfl⟩
def rdc (p : Nat) (u : Value) (a : Nat) : qM := [(p, .cells [u, .int .i64 a, .bool false].toArray 230 (0, 0))]
theorem Jh (p b a n c w q : Nat) (cs : List Value) (e : TypeId) (l : List Value) (bs : List Int) (hw : 1 ≤ w ∧ w ≤ 8) (han : a + w ≤ n) (hn : n ≤ 1000) (hbs : IsB bs) (hlen : bs.length = w) (hl : (l.drop a).take w = u8s bs) :
    FnT Tryz.prog w0 183 #[.pointer (some ⟨p, 0, none⟩), .int .i64 w, .pointer (some ⟨q, 0, none⟩)] (rdc p (.slice (some ⟨b, 0, none⟩) n c) a :: [(b, .cells l.toArray 5 (0, 0))] :: [(q, .cells [.int .u64 0].toArray e (0, 0))] :: F)
      (fun v L' => v = .tuple #[] ∧ L' = rdc p (.slice (some ⟨b, 0, none⟩) n c) (a + w) :: [(b, .cells l.toArray 5 (0, 0))] :: [(q, .cells [.int .u64 (deI bs)].toArray e (0, 0))] :: F) := by
  unfold rdc
  refine FnT.enter (E0 := [(0, _), (1, _), (2, _)]) (N := 43) Tryz.func183 rfl rfl rfl rfl ?_
  refine Tr.seq <| Tr.drawn qm <| qr [(9, .pure _), (10, .pure _), (11, .pure _), (12, .pure _), (13, .pure _), (14, .pure _), (15, .pure _), (16, .pure _), (17, .pure _)] (by kernel_rfl) rfl rfl rfl wL (ParH.pure rfl (fun X => qA rfl) <| ParH.pure rfl (fun X => qJ rfl) <| ParH.pure rfl (fun X => qD rfl) <| ParH.pure rfl (fun X => qG rfl rfl) <| ParH.pure rfl (fun X => qA rfl) <| ParH.pure rfl (fun X => qJ rfl) <| ParH.pure rfl (fun X => qD rfl) <| ParH.pure rfl (fun X => qG rfl rfl) <| ParH.pure rfl (fun X => qA rfl) <| ParH.nil rfl) ?_
  dsimp only [zG, List.drop, List.length]
  refine qq (by kernel_rfl) (qw rfl (zM ([(b, .cells l.toArray 5 (0, 0))]) (V2 b 0 n c 5 (0, 0) l bs a w (by omega) (by omega) hbs hlen (by rw [show 0 + (a : Int).toNat = a from by omega]; exact hl)))) ?_
  refine qq (by kernel_rfl) (qA rfl) ?_
  refine qr [(19, .pure _), (20, .pure _), (6, .pure _)] (by kernel_rfl) rfl rfl rfl wL (ParH.pure rfl (fun X => qR rfl rfl) <| ParH.pure rfl (fun X => qR rfl rfl) <| ParH.pure rfl (fun X => qC rfl) <| ParH.nil rfl) ?_
  dsimp only [zG, List.drop, List.length]
  refine qq (by kernel_rfl) (qC rfl) ?_
  refine qt <| QAt.seq <| Tr.seq <| Tr.region <| q9 (qA rfl) <| q9 (qA rfl) <| q9 (qJ rfl) <| qK (wX rfl rfl rfl) <| qB <| QAt.seq <| Tr.seq <| Tr.region <| q9 (qA rfl) <| q9 (qA rfl) <| q9 (qJ rfl) <| q9 (qD rfl) <| q9 (qG rfl rfl) <| q9 (qA rfl) <| TrOs.split (s := 29) rfl (fun hg2_5 => ?_) (fun hg2_5 => ?_)
  · cases hg2_5
  ·
   refine qE rfl rfl (qA rfl) <| qE rfl rfl (wZ rfl rfl) <| q9 (qL rfl rfl) <| q9 (qJ rfl) <| q9 (qD rfl) <| qK (wX rfl rfl rfl) <| qB <| QAt.seq <| Tr.region <| q9 (qA rfl) <| q9 (qJ rfl) <| q9 (qD rfl) <| q9 (qG rfl rfl) <| q9 (qA rfl) <| q9 (qj rfl rfl (by omega)) <| q9 (qJ rfl) <| q9 (qD rfl) <| qK (wX rfl rfl rfl) <| qB <| jz (.inr rfl) rfl  ?_
   exact ⟨rfl, rfl⟩
theorem Z2 (p b a n c w ib off : Nat) (et : TypeId) (l li : List Value) (bs : List Int) (x : Int) (hw : 1 ≤ w ∧ w ≤ 8) (han : a + w ≤ n) (hn : n ≤ 1000) (hbs : IsB bs) (hlen : bs.length = w) (hx : deI bs = x) (hx2 : 0 ≤ x ∧ x < 9223372036854775808) (hl : (l.drop a).take w = u8s bs) (hoff : off < li.length) :
    FnT Tryz.prog w0 180 #[.pointer (some ⟨p, 0, none⟩), .int .i64 w, .pointer (some ⟨ib, off, none⟩)] (rdc p (.slice (some ⟨b, 0, none⟩) n c) a :: [(b, .cells l.toArray 5 (0, 0))] :: [(ib, .cells li.toArray et (0, 0))] :: F)
      (fun v L' => v = .tuple #[] ∧ L' = rdc p (.slice (some ⟨b, 0, none⟩) n c) (a + w) :: [(b, .cells l.toArray 5 (0, 0))] :: [(ib, .cells (li.set off (.int .i64 x)).toArray et (0, 0))] :: F) := by
  subst hx
  refine FnT.enter (E0 := [(0, _), (1, _), (2, _)]) (N := 14) Tryz.func180 rfl rfl rfl rfl ?_
  refine Tr.seq <| Tr.region <| qF (qV) ?_
  rintro t6 _ ⟨b6, rfl, rfl⟩
  refine qB <| QAt.seq <| Tr.seq <| Tr.region <| q9 (qA rfl) <| q9 (qA rfl) <| qF (qn rfl (jB (rdc p (.slice (some ⟨b, 0, none⟩) n c) a) ([(b, .cells l.toArray 5 (0, 0))]) ([(b6, .cells [Value.int .u64 0].toArray 199 (0, 0))]) (Jh p b a n c w b6 [] 199 l bs hw han hn hbs hlen hl))) ?_
  rintro t9 _ ⟨rfl, rfl⟩
  refine qB <| QAt.seq <| Tr.region <| q9 (qA rfl) <| q9 (qG rfl rfl) <| q9 (wo rfl (by simp only [IntKind.min, IntKind.max, IntKind.bits, IntKind.signed, if_true]; omega)) ?_
  refine q9 (qJ rfl) <| qK (zx rfl rfl hoff rfl) <| qB <| ye (rdc p (.slice (some ⟨b, 0, none⟩) n c) (a + w) :: [(b, .cells l.toArray 5 (0, 0))] :: [(ib, .cells (li.set off (.int .i64 (deI bs))).toArray et (0, 0))] :: F) (.inr rfl) rfl  ?_
  exact ⟨rfl, rfl⟩
theorem Yb (p b a n c w ib off : Nat) (et : TypeId) (l li : List Value) (bs : List Int) (x : Int) (hw : 1 ≤ w ∧ w ≤ 8) (han : a + w ≤ n) (hn : n ≤ 1000) (hbs : IsB bs) (hlen : bs.length = w) (hx : deI bs = x) (hx2 : 0 ≤ x ∧ x < 4294967296) (hl : (l.drop a).take w = u8s bs) (hoff : off < li.length) :
    FnT Tryz.prog w0 182 #[.pointer (some ⟨p, 0, none⟩), .int .i64 w, .pointer (some ⟨ib, off, none⟩)] (rdc p (.slice (some ⟨b, 0, none⟩) n c) a :: [(b, .cells l.toArray 5 (0, 0))] :: [(ib, .cells li.toArray et (0, 0))] :: F)
      (fun v L' => v = .tuple #[] ∧ L' = rdc p (.slice (some ⟨b, 0, none⟩) n c) (a + w) :: [(b, .cells l.toArray 5 (0, 0))] :: [(ib, .cells (li.set off (.int .u32 x)).toArray et (0, 0))] :: F) := by
  subst hx
  refine FnT.enter (E0 := [(0, _), (1, _), (2, _)]) (N := 14) Tryz.func182 rfl rfl rfl rfl ?_
  refine Tr.seq <| Tr.region <| qF (qV) ?_
  rintro t6 _ ⟨b6, rfl, rfl⟩
  refine qB <| QAt.seq <| Tr.seq <| Tr.region <| q9 (qA rfl) <| q9 (qA rfl) <| qF (qn rfl (jB (rdc p (.slice (some ⟨b, 0, none⟩) n c) a) ([(b, .cells l.toArray 5 (0, 0))]) ([(b6, .cells [Value.int .u64 0].toArray 199 (0, 0))]) (Jh p b a n c w b6 [] 199 l bs hw han hn hbs hlen hl))) ?_
  rintro t9 _ ⟨rfl, rfl⟩
  refine qB <| QAt.seq <| Tr.region <| q9 (qA rfl) <| q9 (qG rfl rfl) <| q9 (wo rfl (by simp only [IntKind.min, IntKind.max, IntKind.bits, IntKind.signed, Bool.false_eq_true, if_false]; omega)) ?_
  refine q9 (qJ rfl) <| qK (zx rfl rfl hoff rfl) <| qB <| ye (rdc p (.slice (some ⟨b, 0, none⟩) n c) (a + w) :: [(b, .cells l.toArray 5 (0, 0))] :: [(ib, .cells (li.set off (.int .u32 (deI bs))).toArray et (0, 0))] :: F) (.inr rfl) rfl  ?_
  exact ⟨rfl, rfl⟩
theorem xj {pre m post : List Int} {sp : List Value} {a w : Nat} (h1 : pre.length = a) (h2 : m.length = w) : ((u8s (pre ++ m ++ post) ++ sp).drop a).take w = u8s m := by
  subst h1; subst h2
  rw [yH, yH, List.append_assoc, List.append_assoc, ← WO pre, List.drop_left, ← WO m, List.take_left]
theorem Y9 {d : List Int} {i : Nat} {a : Int} (h : d[i]? = some a) : d.flatMap (leI 4) = (d.take i).flatMap (leI 4) ++ leI 4 a ++ (d.drop (i + 1)).flatMap (leI 4) := by
  have hlt := (List.getElem?_eq_some_iff.1 h).1
  have e : d = d.take i ++ a :: d.drop (i + 1) := by
    conv => lhs; rw [← List.take_append_drop i d]
    rw [List.drop_eq_getElem_cons hlt, (List.getElem?_eq_some_iff.1 h).2]
  conv => lhs; rw [e]
  rw [List.flatMap_append, List.flatMap_cons, List.append_assoc]
def V0 : Ino := ⟨0, 0, 0, 0, 0, List.replicate 8 0, 0, 0⟩
theorem Xw {y : Ino} {i : Nat} {a : Int} (h : i < y.d.length) : (zw y).set (5 + i) (.int .i64 a) = zw { y with d := y.d.set i a } := by
  have e : 5 + i = i + 1 + 1 + 1 + 1 + 1 := by omega
  rw [e]
  simp only [zw, List.set_cons_succ]
  rw [List.set_append_left _ _ (by simpa using h)]
  simp [iV, List.map_set]
theorem XJ {d : List Int} {i : Nat} {a : Int} (h : d[i]? = some a) (hi : i < d.length) (h8 : i < 8) : (d.take i ++ List.replicate (8 - i) 0).set i a = d.take (i + 1) ++ List.replicate (8 - (i + 1)) 0 := by
  have e : 8 - i = (8 - (i + 1)) + 1 := by omega
  rw [List.set_append_right _ _ (by simp; omega), e, List.replicate_succ]
  have : i - (d.take i).length = 0 := by simp; omega
  rw [this, List.set_cons_zero, List.take_add_one, h, List.append_assoc]; rfl
theorem set_13 {y : Ino} {a : Int} (h : y.d.length = 8) : (zw y).set 13 (.int .i64 a) = zw { y with sg := a } := by
  simp only [zw, List.set_cons_succ]
  rw [List.set_append_right _ _ (by simp [h])]
  simp [h]
theorem set_14 {y : Ino} {a : Int} (h : y.d.length = 8) : (zw y).set 14 (.int .i64 a) = zw { y with db := a } := by
  simp only [zw, List.set_cons_succ]
  rw [List.set_append_right _ _ (by simp [h])]
  simp [h]
theorem rpass_ok (p ib b c : Nat) (sp : List Value) (x : Ino) (hx : x.Ok) :
    FnT Tryz.prog w0 119 #[.iface 228 (.pointer (some ⟨p, 0, none⟩)), .pointer (some ⟨ib, 0, none⟩)] (rdc p (.slice (some ⟨b, 0, none⟩) 55 c) 0 :: [(b, .cells (u8s (kw x) ++ sp).toArray 5 (0, 0))] :: [(ib, .cells (zw V0).toArray 168 (0, 0))] :: F)
      (fun v L' => v = .tuple #[] ∧ L' = rdc p (.slice (some ⟨b, 0, none⟩) 55 c) 55 :: [(b, .cells (u8s (kw x) ++ sp).toArray 5 (0, 0))] :: [(ib, .cells (zw x).toArray 168 (0, 0))] :: F) := by
  have e2 : (256 : Int) ^ 2 = 65536 := rfl
  have e4 : (256 : Int) ^ 4 = 4294967296 := rfl
  have e1 : (256 : Int) ^ 1 = 256 := rfl
  have q1 := hx.num
  have q2 := hx.ver
  have q3 := hx.kind
  have q4 := hx.size
  have q5 := hx.time
  have q6 := hx.sg
  have q7 := hx.db
  have q8 := hx.len
  have hB : kw x = leI 2 x.num ++ leI 4 x.ver ++ leI 1 x.kind ++ leI 4 x.size ++ leI 4 x.time ++ x.d.flatMap (leI 4) ++ leI 4 x.sg ++ leI 4 x.db := rfl
  have s1 : ((u8s (kw x) ++ sp).drop 0).take 2 = u8s (leI 2 x.num) := by
    rw [show kw x = [] ++ leI 2 x.num ++ (leI 4 x.ver ++ leI 1 x.kind ++ leI 4 x.size ++ leI 4 x.time ++ x.d.flatMap (leI 4) ++ leI 4 x.sg ++ leI 4 x.db) from by simp only [hB, List.append_assoc, List.nil_append]]; exact xj rfl (by simp)
  have s2 : ((u8s (kw x) ++ sp).drop (0 + 2)).take 4 = u8s (leI 4 x.ver) := by
    rw [show kw x = leI 2 x.num ++ leI 4 x.ver ++ (leI 1 x.kind ++ leI 4 x.size ++ leI 4 x.time ++ x.d.flatMap (leI 4) ++ leI 4 x.sg ++ leI 4 x.db) from by simp only [hB, List.append_assoc]]; exact xj (by simp) (by simp)
  have s3 : ((u8s (kw x) ++ sp).drop (0 + 2 + 4)).take 1 = u8s (leI 1 x.kind) := by
    rw [show kw x = (leI 2 x.num ++ leI 4 x.ver) ++ leI 1 x.kind ++ (leI 4 x.size ++ leI 4 x.time ++ x.d.flatMap (leI 4) ++ leI 4 x.sg ++ leI 4 x.db) from by simp only [hB, List.append_assoc]]; exact xj (by simp) (by simp)
  have s4 : ((u8s (kw x) ++ sp).drop (0 + 2 + 4 + 1)).take 4 = u8s (leI 4 x.size) := by
    rw [show kw x = (leI 2 x.num ++ leI 4 x.ver ++ leI 1 x.kind) ++ leI 4 x.size ++ (leI 4 x.time ++ x.d.flatMap (leI 4) ++ leI 4 x.sg ++ leI 4 x.db) from by simp only [hB, List.append_assoc]]; exact xj (by simp) (by simp)
  have s5 : ((u8s (kw x) ++ sp).drop (0 + 2 + 4 + 1 + 4)).take 4 = u8s (leI 4 x.time) := by
    rw [show kw x = (leI 2 x.num ++ leI 4 x.ver ++ leI 1 x.kind ++ leI 4 x.size) ++ leI 4 x.time ++ (x.d.flatMap (leI 4) ++ leI 4 x.sg ++ leI 4 x.db) from by simp only [hB, List.append_assoc]]; exact xj (by simp) (by simp)
  have s6 : ∀ (i : Nat) (a : Int), x.d[i]? = some a → ((u8s (kw x) ++ sp).drop (15 + 4 * i)).take 4 = u8s (leI 4 a) := by
    intro i a ha
    have hlt := (List.getElem?_eq_some_iff.1 ha).1
    rw [show kw x = (Wi x ++ (x.d.take i).flatMap (leI 4)) ++ leI 4 a ++ ((x.d.drop (i + 1)).flatMap (leI 4) ++ leI 4 x.sg ++ leI 4 x.db) from by rw [kw, Y9 ha]; simp only [List.append_assoc]]
    exact xj (by rw [List.length_append, WS, jm, List.length_take]; omega) (by simp)
  have s7 : ((u8s (kw x) ++ sp).drop (15 + 4 * 8)).take 4 = u8s (leI 4 x.sg) := by
    rw [show kw x = (Wi x ++ x.d.flatMap (leI 4)) ++ leI 4 x.sg ++ (leI 4 x.db) from by rw [kw]]
    exact xj (by rw [List.length_append, WS, jm, q8]) (by simp)
  have s8 : ((u8s (kw x) ++ sp).drop (15 + 4 * 8 + 4)).take 4 = u8s (leI 4 x.db) := by
    rw [show kw x = (Wi x ++ x.d.flatMap (leI 4) ++ leI 4 x.sg) ++ leI 4 x.db ++ [] from by rw [kw, List.append_nil]]
    exact xj (by rw [List.length_append, List.length_append, WS, jm, q8]; simp) (by simp)
  refine FnT.enter (E0 := [(0, _), (1, _)]) (N := 75) Tryz.func119 rfl rfl rfl rfl ?_
  refine Tr.seq <| Tr.drawn qm <| qr [(5, .pure _), (6, .pure _), (7, .pure _), (8, .pure _), (9, .pure _), (10, .pure _), (11, .pure _)] (by kernel_rfl) rfl rfl rfl wL (ParH.pure rfl (fun X => qA rfl) <| ParH.pure rfl (fun X => qA rfl) <| ParH.pure rfl (fun X => qJ rfl) <| ParH.pure rfl (fun X => qD rfl) <| ParH.pure rfl (fun X => wV rfl rfl) <| ParH.pure rfl (fun X => zN rfl (Zj _)) <| ParH.pure rfl (fun X => qA rfl) <| ParH.nil rfl) ?_
  dsimp only [zG, List.drop, List.length]
  refine wa (by kernel_rfl) (yX rfl rfl (Zj _) (Yb p b 0 55 c 2 ib 0 168 _ _ _ x.num (by omega) (by omega) (by omega) (kB _ _) (by simp) (xH 2 _ q1.1 (by omega)) (by omega) s1 (by simp [zw]))) ?_
  rintro t12 _ ⟨rfl, rfl⟩
  refine qt <| QAt.seq <| Tr.seq <| Tr.drawn qm <| qr [(13, .pure _), (14, .pure _), (15, .pure _), (16, .pure _), (17, .pure _), (18, .pure _), (19, .pure _)] (by kernel_rfl) rfl rfl rfl wL (ParH.pure rfl (fun X => qA rfl) <| ParH.pure rfl (fun X => qA rfl) <| ParH.pure rfl (fun X => qJ rfl) <| ParH.pure rfl (fun X => qD rfl) <| ParH.pure rfl (fun X => wV rfl rfl) <| ParH.pure rfl (fun X => zN rfl (Zj _)) <| ParH.pure rfl (fun X => qA rfl) <| ParH.nil rfl) ?_
  dsimp only [zG, List.drop, List.length]
  refine wa (by kernel_rfl) (yX rfl rfl (Zj _) (Yb p b (0 + 2) 55 c 4 ib 1 168 _ _ _ x.ver (by omega) (by omega) (by omega) (kB _ _) (by simp) (xH 4 _ q2.1 (by omega)) (by omega) s2 (by simp [zw]))) ?_
  rintro t20 _ ⟨rfl, rfl⟩
  refine qt <| QAt.seq <| Tr.seq <| Tr.drawn qm <| qr [(21, .pure _), (22, .pure _), (23, .pure _), (24, .pure _), (25, .pure _), (26, .pure _), (27, .pure _)] (by kernel_rfl) rfl rfl rfl wL (ParH.pure rfl (fun X => qA rfl) <| ParH.pure rfl (fun X => qA rfl) <| ParH.pure rfl (fun X => qJ rfl) <| ParH.pure rfl (fun X => qD rfl) <| ParH.pure rfl (fun X => wV rfl rfl) <| ParH.pure rfl (fun X => zN rfl (Wh _)) <| ParH.pure rfl (fun X => qA rfl) <| ParH.nil rfl) ?_
  dsimp only [zG, List.drop, List.length]
  refine wa (by kernel_rfl) (yX rfl rfl (Wh _) (Z2 p b (0 + 2 + 4) 55 c 1 ib 2 168 _ _ _ x.kind (by omega) (by omega) (by omega) (kB _ _) (by simp) (xH 1 _ (by omega) (by omega)) (by omega) s3 (by simp [zw]))) ?_
  rintro t28 _ ⟨rfl, rfl⟩
  refine qt <| QAt.seq <| Tr.seq <| Tr.drawn qm <| qr [(29, .pure _), (30, .pure _), (31, .pure _), (32, .pure _), (33, .pure _), (34, .pure _), (35, .pure _)] (by kernel_rfl) rfl rfl rfl wL (ParH.pure rfl (fun X => qA rfl) <| ParH.pure rfl (fun X => qA rfl) <| ParH.pure rfl (fun X => qJ rfl) <| ParH.pure rfl (fun X => qD rfl) <| ParH.pure rfl (fun X => wV rfl rfl) <| ParH.pure rfl (fun X => zN rfl (Wh _)) <| ParH.pure rfl (fun X => qA rfl) <| ParH.nil rfl) ?_
  dsimp only [zG, List.drop, List.length]
  refine wa (by kernel_rfl) (yX rfl rfl (Wh _) (Z2 p b (0 + 2 + 4 + 1) 55 c 4 ib 3 168 _ _ _ x.size (by omega) (by omega) (by omega) (kB _ _) (by simp) (xH 4 _ q4.1 (by omega)) (by omega) s4 (by simp [zw]))) ?_
  rintro t36 _ ⟨rfl, rfl⟩
  refine qt <| QAt.seq <| Tr.seq <| Tr.drawn qm <| qr [(37, .pure _), (38, .pure _), (39, .pure _), (40, .pure _), (41, .pure _), (42, .pure _), (43, .pure _)] (by kernel_rfl) rfl rfl rfl wL (ParH.pure rfl (fun X => qA rfl) <| ParH.pure rfl (fun X => qA rfl) <| ParH.pure rfl (fun X => qJ rfl) <| ParH.pure rfl (fun X => qD rfl) <| ParH.pure rfl (fun X => wV rfl rfl) <| ParH.pure rfl (fun X => zN rfl (Zj _)) <| ParH.pure rfl (fun X => qA rfl) <| ParH.nil rfl) ?_
  dsimp only [zG, List.drop, List.length]
  refine wa (by kernel_rfl) (yX rfl rfl (Zj _) (Yb p b (0 + 2 + 4 + 1 + 4) 55 c 4 ib 4 168 _ _ _ x.time (by omega) (by omega) (by omega) (kB _ _) (by simp) (xH 4 _ q5.1 (by omega)) (by omega) s5 (by simp [zw]))) ?_
  rintro t44 _ ⟨rfl, rfl⟩
  refine qt <| QAt.seq <| Tr.seq <| Tr.seq <| Tr.region <| q9 (qA rfl) <| qB <| QAt.seq <| Tr.block <| wB (Γ := {pΓ : (Nat) // (fun (i : Nat) => i ≤ 8) pΓ}) (fun g => (fun (i : Nat) => [(0, .iface 228 (.pointer (some ⟨p, 0, none⟩))), (1, .pointer (some ⟨ib, 0, none⟩)), (45, .int .i64 i)]) g.1) (fun g => (fun (i : Nat) => rdc p (.slice (some ⟨b, 0, none⟩) 55 c) (15 + 4 * i) :: [(b, .cells (u8s (kw x) ++ sp).toArray 5 (0, 0))] :: [(ib, .cells (zw { x with d := x.d.take i ++ List.replicate (8 - i) 0, sg := 0, db := 0 }).toArray 168 (0, 0))] :: F) g.1) (fun g => (fun (i : Nat) => 8 - i) g.1) ⟨0, by dsimp only; exact (by omega)⟩ (y7 rfl) ?_
  rintro ⟨i, hloop⟩
  replace hloop : i ≤ 8 := hloop
  obtain hi := hloop
  show Tr _ _ _ ([(0, .iface 228 (.pointer (some ⟨p, 0, none⟩))), (1, .pointer (some ⟨ib, 0, none⟩)), (45, .int .i64 i)]) (rdc p (.slice (some ⟨b, 0, none⟩) 55 c) (15 + 4 * i) :: [(b, .cells (u8s (kw x) ++ sp).toArray 5 (0, 0))] :: [(ib, .cells (zw { x with d := x.d.take i ++ List.replicate (8 - i) 0, sg := 0, db := 0 }).toArray 168 (0, 0))] :: F) _ _
  refine Tr.seq <| Tr.region <| q9 (qv rfl rfl) <| qB <| QAt.seq <| Tr.seq <| qI rfl (fun hc6 => ?_) (fun hc6 => ?_)
  ·
   refine Tr.skip <| QAt.seq <| Tr.seq <| Tr.block <| Tr.seq <| Tr.region <| q9 (qA rfl) <| q9 (qC rfl) <| qB <| QAt.seq ?_
   have hlt : i < x.d.length := by rw [q8]; omega
   obtain ⟨a, ha⟩ : ∃ a, x.d[i]? = some a := ⟨_, List.getElem?_eq_getElem hlt⟩
   have hab := hx.d a (List.mem_of_getElem? ha)
   refine Tr.drawn qm <| qr [(48, .pure _), (49, .pure _), (50, .pure _), (51, .pure _), (52, .pure _), (53, .pure _), (54, .pure _), (55, .pure _), (56, .pure _)] (by kernel_rfl) rfl rfl rfl wL (ParH.pure rfl (fun X => qA rfl) <| ParH.pure rfl (fun X => qA rfl) <| ParH.pure rfl (fun X => qA rfl) <| ParH.pure rfl (fun X => qJ rfl) <| ParH.pure rfl (fun X => qD rfl) <| ParH.pure rfl (fun X => wO (j := i) (off := 5 + i) rfl rfl rfl (by omega) (by simp)) <| ParH.pure rfl (fun X => wV rfl rfl) <| ParH.pure rfl (fun X => zN rfl (Wh _)) <| ParH.pure rfl (fun X => qA rfl) <| ParH.nil rfl) ?_
   dsimp only [zG, List.drop, List.length]
   refine wa (by kernel_rfl) (yX rfl rfl (Wh _) (Z2 p b (15 + 4 * i) 55 c 4 ib (5 + i) 168 _ _ _ a (by omega) (by omega) (by omega) (kB _ _) (by simp) (xH 4 _ hab.1 (by omega)) (by omega) (s6 i a ha) (by simp [zw]; omega))) ?_
   rintro t57 _ ⟨rfl, rfl⟩
   refine qt <| QAt.block <| QAt.seq <| Tr.region <| q9 (qj rfl rfl (by omega)) <| q9 (qA rfl) <| qB <| qh ⟨i + 1, ?_⟩ ?_ ?_
   · (try dsimp only); omega
   · (try dsimp only); omega
   · (try dsimp only); exact y7 (by rw [Xw (by simp; omega)]; dsimp only; rw [XJ ha (by omega) (by omega)]; rfl)
  ·
   refine Tr.exit <| qX <| qY <| qS <| QAt.seq <| Tr.seq ?_
   obtain rfl : i = 8 := by omega
   rw [show ({ x with d := x.d.take 8 ++ List.replicate (8 - 8) 0, sg := 0, db := 0 } : Ino) = { x with sg := 0, db := 0 } from by simp [List.take_of_length_le (Nat.le_of_eq q8)]]
   refine Tr.drawn qm <| qr [(59, .pure _), (60, .pure _), (61, .pure _), (62, .pure _), (63, .pure _), (64, .pure _), (65, .pure _)] (by kernel_rfl) rfl rfl rfl wL (ParH.pure rfl (fun X => qA rfl) <| ParH.pure rfl (fun X => qA rfl) <| ParH.pure rfl (fun X => qJ rfl) <| ParH.pure rfl (fun X => qD rfl) <| ParH.pure rfl (fun X => wV rfl rfl) <| ParH.pure rfl (fun X => zN rfl (Wh _)) <| ParH.pure rfl (fun X => qA rfl) <| ParH.nil rfl) ?_
   dsimp only [zG, List.drop, List.length]
   refine wa (by kernel_rfl) (yX rfl rfl (Wh _) (Z2 p b (15 + 4 * 8) 55 c 4 ib 13 168 _ _ _ x.sg (by omega) (by omega) (by omega) (kB _ _) (by simp) (xH 4 _ q6.1 (by omega)) (by omega) s7 (by simp [zw, q8]))) ?_
   rintro t66 _ ⟨rfl, rfl⟩
   refine qt <| QAt.seq ?_
   rw [set_13 (by exact q8)]
   refine Tr.drawn qm <| qr [(67, .pure _), (68, .pure _), (69, .pure _), (70, .pure _), (71, .pure _), (72, .pure _), (73, .pure _)] (by kernel_rfl) rfl rfl rfl wL (ParH.pure rfl (fun X => qA rfl) <| ParH.pure rfl (fun X => qA rfl) <| ParH.pure rfl (fun X => qJ rfl) <| ParH.pure rfl (fun X => qD rfl) <| ParH.pure rfl (fun X => wV rfl rfl) <| ParH.pure rfl (fun X => zN rfl (Wh _)) <| ParH.pure rfl (fun X => qA rfl) <| ParH.nil rfl) ?_
   dsimp only [zG, List.drop, List.length]
   refine wa (by kernel_rfl) (yX rfl rfl (Wh _) (Z2 p b (15 + 4 * 8 + 4) 55 c 4 ib 14 168 _ _ _ x.db (by omega) (by omega) (by omega) (kB _ _) (by simp) (xH 4 _ q7.1 (by omega)) (by omega) s8 (by simp [zw, q8]))) ?_
   rintro t74 _ ⟨rfl, rfl⟩
   refine qt <| jz (.inr rfl) rfl  ?_
   rw [set_14 (by exact q8)]; exact ⟨rfl, rfl⟩
instance (priority := high) : TyZero Tryz.prog 168 (.agg (zw V0).toArray) := .of (by kernel_rfl)
theorem WC : (zw V0).length = 15 := by decide
theorem read_spec (x : Ino) (hx : x.Ok) : FnT Tryz.prog w0 118 #[.int .u8 2, .agg (wW (ZA x hx)).toArray, .func (.func 119) #[] #[], .func (.func 120) #[] #[]] F
    (fun v L' => v = .tuple #[.agg (zw x).toArray, .int .i64 0] ∧ L' = F) := by
  refine FnT.enter (E0 := [(0, _), (1, _), (2, _), (3, _)]) (N := 58) Tryz.func118 rfl rfl rfl rfl ?_
  refine Tr.seq <| Tr.region <| qF (wT rfl) ?_
  rintro t5 _ ⟨b5, rfl, rfl⟩
  refine qF (qV) ?_
  rintro t8 _ ⟨b8, rfl, rfl⟩
  refine q9 (qC rfl) <| qB <| QAt.seq <| Tr.seq <| Tr.region <| qF (qV) ?_
  rintro t10 _ ⟨b10, rfl, rfl⟩
  refine qF (qV) ?_
  rintro t11 _ ⟨b11, rfl, rfl⟩
  refine qB <| QAt.seq <| Tr.seq <| Tr.region <| q9 (w7 rfl (by simp)) ?_
  refine qF (qn rfl (open_ok 2 (kw x) (by rw [xV hx]; omega) (by omega) (JO x))) ?_
  rintro t18 _ ⟨u, C, rfl, hs, rfl⟩
  refine q9 (qA rfl) <| q9 (qR rfl rfl) <| q9 (qR rfl rfl) <| q9 (qR rfl rfl) <| q9 (qC rfl) <| q9 (qC rfl) <| q9 (qC rfl) <| qB ?_
  rw [xV hx] at hs
  rcases hs with ⟨-, h, -⟩ | ⟨b, cap, spare, rfl, hcs, rfl, hcap, hnc⟩
  · omega
  refine QAt.seq <| Tr.seq <| Tr.seq <| Tr.region <| q9 (qA rfl) <| q9 (wZ rfl rfl) <| q9 (qA rfl) <| qN (s := 24) rfl (fun hg3_2 => ?_) (fun hg3_2 => ?_)
  · exact absurd rfl hg3_2
  ·
   refine qE rfl rfl (qA rfl) <| qE rfl rfl (qA rfl) <| qE rfl rfl (wZ rfl rfl) <| q9 (qL rfl rfl) <| qB <| QAt.seq <| qI rfl (fun hc3 => ?_) (fun hc3 => ?_)
   · exact absurd rfl hc3
   ·
    refine Tr.skip <| QAt.seq <| Tr.seq <| Tr.region <| q9 (qA rfl) <| q9 (wF rfl) <| qF (wT rfl) ?_
    rintro t32 _ ⟨b32, rfl, rfl⟩
    refine q9 (qC rfl) <| qB <| QAt.seq <| Tr.seq <| Tr.seq <| Tr.region <| q9 (qA rfl) <| q9 (qA rfl) <| q9 (jg rfl Tryz.underlying228 rfl) <| qF (yw rfl rfl (FnV.of (first := []) (captured := []) (jB [(b32, .cells [.slice (some ⟨b, 0, none⟩) 55 cap, .int .i64 0, .bool false].toArray 230 (0, 0))] [(b, .cells (u8s (kw x) ++ spare).toArray 5 (0, 0))] [(b10, .cells (zw V0).toArray 168 (0, 0))] (rpass_ok b32 b10 b cap spare x hx)))) ?_
    rintro t36 _ ⟨rfl, rfl⟩
    refine qB <| QAt.seq <| Tr.seq ?_
    unfold rdc
    refine Tr.region <| q9 (qA rfl) <| q9 (qJ rfl) <| q9 (qD rfl) <| q9 (qG rfl rfl) <| q9 (qA rfl) <| TrOs.split (s := 41) rfl (fun hg7_4 => ?_) (fun hg7_4 => ?_)
    · cases hg7_4
    ·
     refine qE rfl rfl (qA rfl) <| qE rfl rfl (qJ rfl) <| qE rfl rfl (qD rfl) <| qE rfl rfl (qG rfl rfl) <| qE rfl rfl (qA rfl) <| qE rfl rfl (qg rfl) <| qE rfl rfl (wZ rfl rfl) <| q9 (qL rfl rfl) <| q9 (qA rfl) <| qN (s := 50) rfl (fun hg7_13 => ?_) (fun hg7_13 => ?_)
     · exact absurd rfl hg7_13
     ·
      refine qE rfl rfl (qA rfl) <| qE rfl rfl (w7 rfl (kU hx)) <| qE rfl rfl (yw rfl rfl (FnV.of (first := []) (captured := []) (Y4 x hx))) <| qE rfl rfl (kM rfl) <| q9 (qL rfl rfl) <| qB <| QAt.seq <| wD rfl <| Tr.skip <| QAt.seq <| Tr.seq <| Tr.region <| q9 (w7 rfl (kU hx)) <| qK (qW rfl rfl WC (kU hx) (Yw x)) <| q9 (qC rfl) <| qB <| QAt.seq <| Tr.ret <| wC F (.inl rfl) rfl (z7 rfl (kU hx)) (qd rfl) ?_
      exact ⟨rfl, rfl⟩
theorem readInode_ok (x : Ino) (hx : x.Ok) : FnT Tryz.prog w0 91 #[.agg (wW (ZA x hx)).toArray] F (fun v L' => v = .tuple #[.agg (zw x).toArray, .int .i64 0] ∧ L' = F) := by
  refine FnT.enter (E0 := [(0, _)]) (N := 8) Tryz.func91 rfl rfl rfl rfl ?_
  refine Tr.seq <| Tr.region <| qF (wT rfl) ?_
  rintro t1 _ ⟨b1, rfl, rfl⟩
  refine qF (qV) ?_
  rintro t2 _ ⟨b2, rfl, rfl⟩
  refine q9 (qC rfl) <| qB <| QAt.seq <| Tr.seq <| Tr.region <| q9 (w7 rfl (by simp)) ?_
  refine qF (qn rfl (read_spec x hx)) ?_
  rintro t5 _ ⟨rfl, rfl⟩
  refine q9 (qR rfl rfl) <| q9 (qR rfl rfl) <| qK (qW rfl rfl WC (kU hx) (Yw x)) <| q9 (qC rfl) <| qB <| QAt.seq <| Tr.ret <| wC F (.inl rfl) rfl (z7 rfl (kU hx)) (qd rfl) ?_
  exact ⟨rfl, rfl⟩
structure j2 (l : List Int) : Prop where
  len : l.length = 32
  rng : ∀ a ∈ l, 0 ≤ a ∧ a ≤ 65535
def jU (l : List Int) (h : j2 l) : Sec := ⟨l.flatMap (leI 4), by rw [jm, h.len], Xi l⟩
theorem K0 {l : List Int} {i : Nat} {a : Int} (h : l[i]? = some a) : wG (iV l) i = some (.int .i64 a) := by rw [wi]; simp [iV, h]
theorem x3 (l : List Int) : (iV l).all (·.oneCell') = true := by simp [iV, Value.oneCell']
def Wa (l : List Int) (i : Nat) : List Int := (l.take i).flatMap (leI 4)
theorem Jm {l : List Int} {i : Nat} (h : i ≤ l.length) : (Wa l i).length = 4 * i := by rw [Wa, jm, List.length_take]; omega
theorem KU {l : List Int} {i : Nat} {a : Int} (ha : l[i]? = some a) : Wa l (i + 1) = Wa l i ++ leI 4 a := by
  rw [Wa, List.take_add_one, ha, Option.toList_some, List.flatMap_append, List.flatMap_singleton]; rfl
theorem Wn_next {l : List Int} {i : Nat} {a : Int} {s : Sec} {h : 4 * i + (leI 4 a).length ≤ 128} {hb} (hw : Wn s (Wa l i)) (ha : l[i]? = some a) (hi : i ≤ l.length) : Wn (s.put (4 * i) (leI 4 a) h hb) (Wa l (i + 1)) := by
  have hl := Jm hi
  have := hw.put (m := leI 4 a) (by rw [hl]; exact h) hb
  rw [KU ha]
  have e : s.put (4 * i) (leI 4 a) h hb = s.put (Wa l i).length (leI 4 a) (by rw [hl]; exact h) hb := by
    apply ZV; show xw _ _ _ = xw _ _ _; rw [hl]
  rw [e]; exact this
theorem writePointers_ok (l : List Int) (h : j2 l) : FnT Tryz.prog w0 122 #[.agg (iV l).toArray] F (fun v L' => v = .tuple #[.agg (wW (jU l h)).toArray, .int .i64 0] ∧ L' = F) := by
  have hlen := h.len
  refine FnT.enter (E0 := [(0, _)]) (N := 22) Tryz.func122 rfl rfl rfl rfl ?_
  refine Tr.seq <| Tr.region <| qF (wT rfl) ?_
  rintro t1 _ ⟨b1, rfl, rfl⟩
  refine qF (qV) ?_
  rintro t2 _ ⟨b2, rfl, rfl⟩
  refine q9 (qC rfl) <| qB <| QAt.seq <| Tr.seq <| Tr.region <| qF (qV) ?_
  rintro t4 _ ⟨b4, rfl, rfl⟩
  refine qB <| QAt.seq <| Tr.seq <| Tr.seq <| Tr.region <| q9 (w7 rfl (by simp [hlen])) ?_
  refine q9 (qA rfl) <| qB <| QAt.seq <| Tr.block <| wB (Γ := {pΓ : (Nat) × (Sec) // (fun (i : Nat) (s : Sec) => i ≤ 32 ∧ Wn s (Wa l i)) pΓ.1 pΓ.2}) (fun g => (fun (i : Nat) (s : Sec) => [(2, .pointer (some ⟨b2, 0, none⟩)), (4, .pointer (some ⟨b4, 0, none⟩)), (7, .agg (iV l).toArray), (8, .int .i64 i)]) g.1.1 g.1.2) (fun g => (fun (i : Nat) (s : Sec) => wr b4 s (4 * i) :: [(b2, .cells (wW Sec.zero).toArray 55 (0, 0))] :: [(b1, .cells (iV l).toArray 175 (0, 0))] :: F) g.1.1 g.1.2) (fun g => (fun (i : Nat) (s : Sec) => 32 - i) g.1.1 g.1.2) ⟨(0, Sec.zero), by dsimp only; exact ⟨by omega, Wn.zero⟩⟩ (y7 rfl) ?_
  rintro ⟨⟨i, s⟩, hloop⟩
  replace hloop : i ≤ 32 ∧ Wn s (Wa l i) := hloop
  obtain ⟨hi, hw⟩ := hloop
  show Tr _ _ _ ([(2, .pointer (some ⟨b2, 0, none⟩)), (4, .pointer (some ⟨b4, 0, none⟩)), (7, .agg (iV l).toArray), (8, .int .i64 i)]) (wr b4 s (4 * i) :: [(b2, .cells (wW Sec.zero).toArray 55 (0, 0))] :: [(b1, .cells (iV l).toArray 175 (0, 0))] :: F) _ _
  refine Tr.seq <| Tr.region <| q9 (qv rfl rfl) <| qB <| QAt.seq <| Tr.seq <| qI rfl (fun hc3 => ?_) (fun hc3 => ?_)
  ·
   refine Tr.skip <| QAt.seq <| Tr.seq <| Tr.block <| Tr.seq ?_
   have hlt : i < l.length := by omega
   obtain ⟨a, ha⟩ : ∃ a, l[i]? = some a := ⟨_, List.getElem?_eq_getElem hlt⟩
   have hab := h.rng a (List.mem_of_getElem? ha)
   refine Tr.region <| q9 (KZ (j := i) rfl rfl rfl (by omega) (K0 ha)) <| q9 (qC rfl) <| qB <| QAt.seq <| Tr.seq <| Tr.seq <| Tr.region <| q9 (qA rfl) <| q9 (qw rfl (X8 a 0 65535)) ?_
   rw [decide_eq_true hab]
   refine q9 (kM rfl) <| qB <| QAt.seq <| wD rfl <| Tr.skip <| QAt.seq <| Tr.region <| q9 (qA rfl) <| q9 (wo rfl (by first | (simp only [IntKind.min, IntKind.max, IntKind.bits, IntKind.signed, Bool.false_eq_true, if_false, if_true]; omega))) ?_
   refine qF (qn rfl (x8 b4 s (4 * i) a 4 (by omega) (by have : (256 : Int) ^ 4 = 4294967296 := rfl; omega))) ?_
   rintro t17 _ ⟨rfl, rfl⟩
   refine qB <| QAt.block <| QAt.seq <| Tr.region <| q9 (qj rfl rfl (by omega)) <| q9 (qA rfl) <| qB <| qh ⟨(i + 1, s.put (4 * i) (leI 4 a) (by simp; omega) (kB _ _)), ?_⟩ ?_ ?_
   · (try dsimp only); exact ⟨by omega, Wn_next hw ha (by omega)⟩
   · (try dsimp only); omega
   · (try dsimp only); exact qP _
  ·
   refine Tr.exit <| qX <| qY <| qS <| QAt.seq <| Tr.seq ?_
   obtain rfl : i = 32 := by omega
   obtain rfl : s = jU l h := by apply ZV; rw [hw, Jm (by omega), show Wa l 32 = l.flatMap (leI 4) from by rw [Wa, List.take_of_length_le (by omega)]]; simp [jU]
   refine Tr.region <| qF (qn rfl (Qk b4 _ _)) ?_
   rintro t19 _ ⟨rfl, rfl⟩
   refine q9 (qR rfl rfl) <| q9 (qR rfl rfl) <| qK (qW rfl rfl (by simp) (by simp) (by exact wS _)) ?_
   refine q9 (qC rfl) <| qB <| QAt.seq <| Tr.ret <| wC F (.inl rfl) rfl (z7 rfl (by first | exact zD _ | simp)) (qd rfl) ?_
   exact ⟨rfl, rfl⟩
theorem ptr_sub {l : List Int} (h : j2 l) {i : Nat} {a : Int} (ha : l[i]? = some a) : Sec.sub (jU l h) (4 * i) 4 = leI 4 a := by
  have hlt := (List.getElem?_eq_some_iff.1 ha).1
  show ((l.flatMap (leI 4)).drop (4 * i)).take 4 = _
  rw [Y9 ha]
  have e1 : 4 * i = ((l.take i).flatMap (leI 4)).length := by rw [jm, List.length_take]; omega
  rw [List.append_assoc, e1, List.drop_left]
  have : (leI 4 a ++ (l.drop (i + 1)).flatMap (leI 4)).take (leI 4 a).length = leI 4 a := List.take_left
  rwa [YN] at this
theorem Xg {l : List Int} {i n : Nat} {x : Int} (hx : l[i]? = some x) (hn : i < n) :
    (iV (l.take i) ++ List.replicate (n - i) (Value.int .i64 0)).set (0 + i * 1) (.int .i64 x) = iV (l.take (i + 1)) ++ List.replicate (n - (i + 1)) (Value.int .i64 0) := by
  have hlt := (List.getElem?_eq_some_iff.1 hx).1
  have e : n - i = (n - (i + 1)) + 1 := by omega
  have h := Jt (a := iV (l.take i)) (k := n - (i + 1)) (z := Value.int .i64 0) (v := .int .i64 x)
  rw [iV_len, List.length_take, show min i l.length = i from by omega] at h
  rw [e, show 0 + i * 1 = i from by omega, h, List.take_add_one, hx]
  simp [iV]
theorem readPointers_ok (l : List Int) (h : j2 l) : FnT Tryz.prog w0 121 #[.agg (wW (jU l h)).toArray] F (fun v L' => v = .tuple #[.agg (iV l).toArray, .int .i64 0] ∧ L' = F) := by
  have hlen := h.len
  refine FnT.enter (E0 := [(0, _)]) (N := 24) Tryz.func121 rfl rfl rfl rfl ?_
  refine Tr.seq <| Tr.region <| qF (wT rfl) ?_
  rintro t1 _ ⟨b1, rfl, rfl⟩
  refine qF (qV) ?_
  rintro t2 _ ⟨b2, rfl, rfl⟩
  refine q9 (qC rfl) <| qB <| QAt.seq <| Tr.seq <| Tr.region <| qF (qV) ?_
  rintro t4 _ ⟨b4, rfl, rfl⟩
  refine qB <| QAt.seq <| Tr.seq <| Tr.region <| q9 (w7 rfl (by simp)) ?_
  refine qF (qn rfl (XT _)) ?_
  rintro t9 _ ⟨p, rfl, rfl⟩
  refine q9 (qC rfl) <| qB <| QAt.seq <| Tr.seq <| Tr.seq <| Tr.region <| q9 (qA rfl) <| qB <| QAt.seq <| Tr.block <| wB (Γ := {pΓ : (Nat) // (fun (i : Nat) => i ≤ 32) pΓ}) (fun g => (fun (i : Nat) => [(2, .pointer (some ⟨b2, 0, none⟩)), (4, .pointer (some ⟨b4, 0, none⟩)), (5, .pointer (some ⟨p, 0, none⟩)), (10, .int .i64 i)]) g.1) (fun g => (fun (i : Nat) => rd p (jU l h) (4 * i) :: [(b4, .cells (iV (l.take i) ++ List.replicate (32 - i) (Value.int .i64 0)).toArray 175 (0, 0))] :: [(b2, .cells (List.replicate 32 (Value.int .i64 0)).toArray 175 (0, 0))] :: [(b1, .cells (wW (jU l h)).toArray 55 (0, 0))] :: F) g.1) (fun g => (fun (i : Nat) => 32 - i) g.1) ⟨0, by dsimp only; exact (by omega)⟩ (y7 rfl) ?_
  rintro ⟨i, hloop⟩
  replace hloop : i ≤ 32 := hloop
  obtain hi := hloop
  show Tr _ _ _ ([(2, .pointer (some ⟨b2, 0, none⟩)), (4, .pointer (some ⟨b4, 0, none⟩)), (5, .pointer (some ⟨p, 0, none⟩)), (10, .int .i64 i)]) (rd p (jU l h) (4 * i) :: [(b4, .cells (iV (l.take i) ++ List.replicate (32 - i) (Value.int .i64 0)).toArray 175 (0, 0))] :: [(b2, .cells (List.replicate 32 (Value.int .i64 0)).toArray 175 (0, 0))] :: [(b1, .cells (wW (jU l h)).toArray 55 (0, 0))] :: F) _ _
  refine Tr.seq <| Tr.region <| q9 (qv rfl rfl) <| qB <| QAt.seq <| Tr.seq <| qI rfl (fun hc4 => ?_) (fun hc4 => ?_)
  ·
   refine Tr.skip <| QAt.seq <| Tr.seq <| Tr.block <| Tr.seq ?_
   have hlt : i < l.length := by omega
   obtain ⟨a, ha⟩ : ∃ a, l[i]? = some a := ⟨_, List.getElem?_eq_getElem hlt⟩
   have hab := h.rng a (List.mem_of_getElem? ha)
   refine Tr.region <| q9 (qA rfl) <| q9 (qC rfl) <| qB <| QAt.seq <| Tr.seq <| Tr.region <| q9 (qA rfl) <| qF (qn rfl (xA p (jU l h) (4 * i) 4 (by omega))) ?_
   rintro t14 _ ⟨rfl, rfl⟩
   refine q9 (qC rfl) <| qB <| QAt.seq <| Tr.seq <| Tr.seq ?_
   rw [ptr_sub h ha, xH 4 a hab.1 (by have : (256 : Int) ^ 4 = 4294967296 := rfl; omega)]
   refine Tr.region <| q9 (qA rfl) <| q9 (yl rfl rfl) <| qB <| QAt.seq <| qI rfl (fun hc7 => ?_) (fun hc7 => ?_)
   · (exfalso; omega)
   ·
    refine Tr.skip <| QAt.seq <| Tr.region <| q9 (qA rfl) <| q9 (qA rfl) <| q9 (wo rfl (by first | (simp only [IntKind.min, IntKind.max, IntKind.bits, IntKind.signed, Bool.false_eq_true, if_false, if_true]; omega))) ?_
    refine q9 (wO (j := i) rfl rfl rfl (by omega) rfl) <| qK (zx rfl rfl (by simp; omega) rfl) ?_
    refine qB <| QAt.block <| QAt.seq <| Tr.region <| q9 (qj rfl rfl (by omega)) <| q9 (qA rfl) <| qB <| qh ⟨i + 1, ?_⟩ ?_ ?_
    · (try dsimp only); omega
    · (try dsimp only); omega
    · (try dsimp only); exact y7 (by rw [Xg ha (by omega)]; rfl)
  ·
   refine Tr.exit <| qX <| qY <| qS <| QAt.seq <| Tr.seq ?_
   obtain rfl : i = 32 := by omega
   rw [List.take_of_length_le (by omega : l.length ≤ 32), Nat.sub_self, List.replicate_zero, List.append_nil]
   refine Tr.region <| q9 (w7 rfl (by simp [hlen])) ?_
   refine qK (qW rfl rfl (by simp) (by simp [hlen]) (by exact x3 _)) ?_
   refine q9 (qC rfl) <| qB <| QAt.seq <| Tr.ret <| wC F (.inl rfl) rfl (z7 rfl (by simp [hlen])) (qd rfl) ?_
   exact ⟨rfl, rfl⟩
theorem rwritePointers_ok (l : List Int) (h : j2 l) : FnT Tryz.prog w0 104 #[.agg (iV l).toArray] F (fun v L' => v = .tuple #[.agg (wW (jU l h)).toArray, .bool true] ∧ L' = F) := by
  have hlen := h.len
  refine FnT.enter (E0 := [(0, _)]) (N := 30) Tryz.func104 rfl rfl rfl rfl ?_
  refine Tr.seq <| Tr.region <| qF (wT rfl) ?_
  rintro t1 _ ⟨b1, rfl, rfl⟩
  refine qF (qV) ?_
  rintro t2 _ ⟨b2, rfl, rfl⟩
  refine q9 (qC rfl) <| qB <| QAt.seq <| Tr.seq <| Tr.region <| q9 (qC rfl) <| qB <| QAt.seq <| Tr.seq <| Tr.seq <| Tr.region <| q9 (qC rfl) <| qB <| QAt.seq <| Tr.block <| wB (Γ := {pΓ : (Nat) × (Value) × (qM) // (fun (i : Nat) (u : Value) (C : qM) => i ≤ 32 ∧ SlC 5 1 u (4 * i) (u8s (Wa l i)) C) pΓ.1 pΓ.2.1 pΓ.2.2}) (fun g => (fun (i : Nat) (u : Value) (C : qM) => [(1, .pointer (some ⟨b1, 0, none⟩)), (2, .pointer (some ⟨b2, 0, none⟩)), (4, u), (5, .int .i64 i)]) g.1.1 g.1.2.1 g.1.2.2) (fun g => (fun (i : Nat) (u : Value) (C : qM) => C :: [(b2, .cells (wW Sec.zero).toArray 54 (0, 0))] :: [(b1, .cells (iV l).toArray 175 (0, 0))] :: F) g.1.1 g.1.2.1 g.1.2.2) (fun g => (fun (i : Nat) (u : Value) (C : qM) => 32 - i) g.1.1 g.1.2.1 g.1.2.2) ⟨(0, .slice none 0 0, []), by dsimp only; exact ⟨by omega, zu _ _⟩⟩ (qP _) ?_
  rintro ⟨⟨i, u, C⟩, hloop⟩
  replace hloop : i ≤ 32 ∧ SlC 5 1 u (4 * i) (u8s (Wa l i)) C := hloop
  obtain ⟨hi, hsl⟩ := hloop
  show Tr _ _ _ ([(1, .pointer (some ⟨b1, 0, none⟩)), (2, .pointer (some ⟨b2, 0, none⟩)), (4, u), (5, .int .i64 i)]) (C :: [(b2, .cells (wW Sec.zero).toArray 54 (0, 0))] :: [(b1, .cells (iV l).toArray 175 (0, 0))] :: F) _ _
  refine Tr.seq <| Tr.seq <| Tr.region <| q9 (qA rfl) <| q9 (qv rfl rfl) <| qB <| QAt.seq <| qI rfl (fun hc3 => ?_) (fun hc3 => ?_)
  ·
   refine Tr.skip <| QAt.seq <| Tr.seq <| Tr.block <| Tr.seq <| Tr.seq ?_
   have hlt : i < l.length := by omega
   obtain ⟨a, ha⟩ : ∃ a, l[i]? = some a := ⟨_, List.getElem?_eq_getElem hlt⟩
   have hab := h.rng a (List.mem_of_getElem? ha)
   refine Tr.region <| q9 (qA rfl) <| q9 (wO (j := i) (off := i) rfl rfl rfl (by omega) (by omega)) <| q9 (qG rfl (K0 ha)) <| q9 (qv rfl rfl) <| q9 (qA rfl) <| qN (s := 14) rfl (fun hg5_4 => ?_) (fun hg5_4 => ?_)
   · (exfalso; omega)
   ·
    refine qE rfl rfl (qA rfl) <| qE rfl rfl (wO (j := i) (off := i) rfl rfl rfl (by omega) (by omega)) <| qE rfl rfl (qG rfl (K0 ha)) <| qE rfl rfl (zd rfl rfl) <| q9 (qL rfl rfl) <| qB <| QAt.seq <| qI rfl (fun hc5 => ?_) (fun hc5 => ?_)
    · (exfalso; omega)
    ·
     refine Tr.skip <| QAt.seq <| Tr.region <| q9 (qA rfl) <| q9 (qA rfl) <| q9 (wO (j := i) (off := i) rfl rfl rfl (by omega) (by omega)) <| q9 (qG rfl (K0 ha)) <| q9 (wo rfl (by first | (simp only [IntKind.min, IntKind.max, IntKind.bits, IntKind.signed, Bool.false_eq_true, if_false, if_true]; omega))) ?_
     refine qF (qn rfl (XF a 4 (by omega) (by omega))) ?_
     rintro t26 _ ⟨C2, hs2, rfl⟩
     refine qF (wP (m := 4) (sz := 1) rfl rfl hsl (jo hs2) (jp _) Tryz.underlying23 rfl rfl (by omega)) ?_
     rintro t27 _ ⟨C', hs', rfl⟩
     refine q9 (qC rfl) <| qB <| QAt.block <| QAt.seq <| Tr.region <| q9 (qA rfl) <| q9 (qj rfl rfl (by omega)) <| q9 (qC rfl) <| qB <| qh ⟨(i + 1, t27, C'), ?_⟩ ?_ ?_
     · (try dsimp only); exact ⟨by omega, by rw [KU ha, yH]; exact hs'⟩
     · (try dsimp only); omega
     · (try dsimp only); exact qP _
  ·
   refine Tr.exit <| qX <| qY <| qS <| QAt.seq <| Tr.seq ?_
   obtain rfl : i = 32 := by omega
   replace hsl : SlC 5 1 u 128 (wW (jU l h)) C := by rw [show Wa l 32 = l.flatMap (leI 4) from by rw [Wa, List.take_of_length_le (by omega)]] at hsl; exact hsl
   rcases hsl with ⟨-, hn, -⟩ | ⟨b3, cap3, spare3, rfl, hcs3, rfl, hcap3, hnc3⟩
   · exact absurd hn (by decide)
   refine Tr.region <| q9 (qA rfl) <| q9 (qw rfl (zM ([(b3, .cells (wW (jU l h) ++ spare3).toArray 5 (0, 0))]) (Xh b3 128 cap3 5 0 (0, 0) (wW (jU l h) ++ spare3) (jU l h) (by rw [List.drop_zero, List.take_append_of_le_length (by simp), List.take_of_length_le (by simp)])))) ?_
   refine qK (qW rfl rfl (by simp) (by simp) (by exact wS _)) ?_
   refine q9 (qC rfl) <| qB <| QAt.seq <| Tr.ret <| wC F (.inl rfl) rfl (z7 rfl (by first | exact zD _ | simp)) (qd rfl) ?_
   exact ⟨rfl, rfl⟩
end Go.Proofs.YtjikpomndbkfgaaGreatDoor
namespace Go.Nd
def kD : Nat → Int → Int → List (Int × Int × Int)
  | 0, _, _ => []
  | k + 1, a, e => if a < e then (a / 128, a % 128, min 128 (a % 128 + e - a)) :: kD k (a + (min 128 (a % 128 + e - a) - a % 128)) e else []
def kN (a n : Int) : List (Int × Int × Int) := kD n.toNat a (a + n)
theorem kY {k : Nat} {a e : Int} (h : e ≤ a) : kD k a e = [] := by
  cases k with
  | zero => rfl
  | succ k => unfold kD; rw [if_neg (by omega)]
theorem Zr : ∀ (k k' : Nat) (a e : Int), (e - a).toNat ≤ k → (e - a).toNat ≤ k' → kD k a e = kD k' a e := by
  intro k
  induction k with
  | zero => intro k' a e h h'; rw [kY (by omega), kY (by omega)]
  | succ k ih =>
    intro k' a e h h'
    cases k' with
    | zero => rw [kY (by omega), kY (by omega)]
    | succ k' =>
      unfold kD
      split
      · rename_i hlt
        congr 1
        exact ih k' _ _ (by omega) (by omega)
      · rfl
theorem cutF_step {a e : Int} (h : a < e) : kD (e - a).toNat a e = (a / 128, a % 128, min 128 (a % 128 + e - a)) :: kD (e - a).toNat (a + (min 128 (a % 128 + e - a) - a % 128)) e := by
  obtain ⟨k, hk⟩ : ∃ k, (e - a).toNat = k + 1 := ⟨(e - a).toNat - 1, by omega⟩
  rw [hk]
  conv => lhs; unfold kD
  rw [if_pos h]
  congr 1
  exact Zr _ _ _ _ (by omega) (by omega)
def jc (l : List (Int × Int × Int)) (i : Int) : List (Int × Int × Int) :=
  match l.getLast? with
  | some p => if p.1 = i / 128 then l.dropLast ++ [(p.1, p.2.1, p.2.2 + 1)] else l ++ [(i / 128, i % 128, i % 128 + 1)]
  | none => [(i / 128, i % 128, i % 128 + 1)]
theorem cutF_push : ∀ (k : Nat) (a e : Int), (e + 1 - a).toNat ≤ k → a ≤ e → kD k a (e + 1) = jc (kD k a e) e := by
  intro k
  induction k with
  | zero => intro a e h hle; omega
  | succ k ih =>
    intro a e h hle
    by_cases he : a = e
    · subst he
      rw [kY (Int.le_refl _)]
      unfold kD jc
      rw [if_pos (by omega)]
      have : min 128 (a % 128 + (a + 1) - a) = a % 128 + 1 := by omega
      rw [this, kY (by omega)]
      rfl
    · have hlt : a < e := by omega
      by_cases hsame : a / 128 = e / 128
      · -- one piece
        have h1 : kD (k + 1) a e = [(a / 128, a % 128, a % 128 + e - a)] := by
          unfold kD
          rw [if_pos hlt]
          have : min 128 (a % 128 + e - a) = a % 128 + e - a := by omega
          rw [this, kY (by omega)]
        have h2 : kD (k + 1) a (e + 1) = [(a / 128, a % 128, a % 128 + e - a + 1)] := by
          unfold kD
          rw [if_pos (by omega)]
          have : min 128 (a % 128 + (e + 1) - a) = a % 128 + e - a + 1 := by omega
          rw [this, kY (by omega)]
        rw [h1, h2]
        simp [jc, hsame]
      · have m1 : min 128 (a % 128 + e - a) = 128 := by omega
        have m2 : min 128 (a % 128 + (e + 1) - a) = 128 := by omega
        have h3 := ih (a + (128 - a % 128)) e (by omega) (by omega)
        unfold kD
        rw [if_pos hlt, if_pos (by omega), m1, m2, h3]
        unfold jc
        cases hl : (kD k (a + (128 - a % 128)) e).getLast? with
        | none =>
          have : kD k (a + (128 - a % 128)) e = [] := by simpa using hl
          rw [this]
          simp [hsame]
        | some p =>
          have hne : kD k (a + (128 - a % 128)) e ≠ [] := fun h => by rw [h] at hl; cases hl
          have : ((a / 128, a % 128, 128) :: kD k (a + (128 - a % 128)) e).getLast? = some p := by
            rw [List.getLast?_cons]; simp [hl]
          rw [this]
          simp only
          split
          · rw [List.dropLast_cons_of_ne_nil hne]; rfl
          · rfl
theorem cutL_zero (a : Int) : kN a 0 = [] := rfl
theorem cutL_push {a n : Int} (hn : 0 ≤ n) : kN a (n + 1) = jc (kN a n) (a + n) := by
  unfold kN
  rw [show a + (n + 1) = a + n + 1 from by omega, cutF_push _ _ _ (by omega) (by omega)]
  congr 1
  exact Zr _ _ _ _ (by omega) (by omega)
theorem cutF_len : ∀ (k : Nat) (a e : Int), (kD k a e).length ≤ k := by
  intro k
  induction k with
  | zero => intro a e; exact Nat.le_refl _
  | succ k ih =>
    intro a e
    unfold kD
    split
    · have := ih (a + (min 128 (a % 128 + e - a) - a % 128)) e; simp; omega
    · simp
theorem K5 (a n : Int) : (kN a n).length ≤ n.toNat := cutF_len _ _ _
def yi : List (Int × Int × Int) → Int
  | [] => 0
  | q :: l => (q.2.2 - q.2.1) + yi l
theorem cutF_sum : ∀ (k : Nat) (a e : Int), (e - a).toNat ≤ k → a ≤ e → yi (kD k a e) = e - a := by
  intro k
  induction k with
  | zero => intro a e h1 h2; simp [kD, yi]; omega
  | succ k ih =>
    intro a e h1 h2
    unfold kD
    split
    · simp only [yi]
      rw [ih _ _ (by omega) (by omega)]; omega
    · simp [yi]; omega
theorem Jx {a n : Int} (h : 0 ≤ n) : yi (kN a n) = n := by
  unfold kN; rw [cutF_sum _ _ _ (by omega) (by omega)]; omega
theorem cutF_rng : ∀ (k : Nat) (a e : Int), 0 ≤ a → ∀ p ∈ kD k a e, 0 ≤ p.1 ∧ 128 * p.1 ≤ e ∧ 0 ≤ p.2.1 ∧ p.2.1 < p.2.2 ∧ p.2.2 ≤ 128 ∧ a ≤ 128 * p.1 + p.2.1 ∧ 128 * p.1 + p.2.2 ≤ e := by
  intro k
  induction k with
  | zero => intro a e _ p hp; cases hp
  | succ k ih =>
    intro a e ha p hp
    unfold kD at hp
    split at hp
    · rcases List.mem_cons.1 hp with rfl | hp
      · dsimp only; omega
      · have := ih _ e (by omega) p hp
        omega
    · cases hp
theorem QF {a n : Int} (ha : 0 ≤ a) {p} (hp : p ∈ kN a n) : 0 ≤ p.1 ∧ 128 * p.1 ≤ a + n ∧ 0 ≤ p.2.1 ∧ p.2.1 < p.2.2 ∧ p.2.2 ≤ 128 ∧ a ≤ 128 * p.1 + p.2.1 ∧ 128 * p.1 + p.2.2 ≤ a + n := cutF_rng _ _ _ ha p hp
theorem cutPush_set {l : List (Int × Int × Int)} {p} {i : Int} (hp : l[l.length - 1]? = some p) (h : p.1 = i / 128) : l.set (l.length - 1) (p.1, p.2.1, p.2.2 + 1) = jc l i := by
  have hl : l.getLast? = some p := by rw [List.getLast?_eq_getElem?]; exact hp
  have hne : l ≠ [] := fun h => by rw [h] at hl; cases hl
  unfold jc
  rw [hl]
  dsimp only
  rw [if_pos h]
  obtain ⟨l', q, rfl⟩ : ∃ l' q, l = l' ++ [q] := ⟨l.dropLast, l.getLast hne, (List.dropLast_concat_getLast hne).symm⟩
  simp
theorem YA {l : List (Int × Int × Int)} {i : Int} (h : ∀ p, l[l.length - 1]? = some p → p.1 ≠ i / 128) : l ++ [(i / 128, i % 128, i % 128 + 1)] = jc l i := by
  unfold jc
  cases hl : l.getLast? with
  | none =>
    have : l = [] := by simpa using hl
    rw [this]; rfl
  | some p =>
    have := h p (by rw [← hl, List.getLast?_eq_getElem?])
    dsimp only
    rw [if_neg this]
def w8 (i : Int) : Int × Int × Int :=
  if i < 0 then (0, 0, 0) else if i < 8 then (0, 0, i) else if i < 40 then (1, 0, i - 8) else if i < 1064 then (2, (i - 40) / 32, (i - 40) % 32) else (0, 0, 0)
def jf (i : Int) : Int := if i < 0 then 1 else if i < 1064 then 0 else 12
def wy (n : Int) : Int := if n ≤ 0 then 0 else (n - 1) / 128 + 1
end Go.Nd
namespace Go.Proofs.YtjikpomndbkfgaaGreatDoor
open Go Go.Sx Go.Nd
variable {w0 : World} {L F : Res}
set_option maxRecDepth 10000
def yh (p : Int × Int × Int) : List Value := [.int .i64 p.1, .int .i64 p.2.1, .int .i64 p.2.2]
theorem blocks_spec (n : Int) (hn : n ≤ 9223372036854775807) : FnT Tryz.prog w0 40 #[.int .i64 n] L (fun v L' => v = .int .i64 (wy n) ∧ L' = L) := by
  refine FnT.enter (E0 := [(0, _)]) (N := 9) Tryz.func40 rfl rfl rfl rfl ?_
  refine Tr.seq <| Tr.region <| q9 (qC rfl) <| qB <| QAt.seq <| Tr.seq <| Tr.seq <| Tr.region <| q9 (qA rfl) <| q9 (Yl rfl rfl) <| qB <| QAt.seq <| qI rfl (fun hc1 => ?_) (fun hc1 => ?_)
  ·
   refine Tr.seq <| Tr.region <| q9 (qC rfl) <| qB <| QAt.seq <| Tr.ret <| qe <| zW (.inl rfl) rfl (qd rfl) ?_
   exact ⟨by unfold wy; rw [if_pos hc1], rfl⟩
  ·
   refine Tr.skip <| QAt.seq <| Tr.seq <| Tr.region <| q9 (qA rfl) <| q9 (zV rfl rfl (by omega)) <| q9 (km rfl rfl (by omega)) <| q9 (qj rfl rfl (by omega)) <| q9 (qC rfl) <| qB <| QAt.seq <| Tr.ret <| zW (.inl rfl) rfl (qd rfl) ?_
   exact ⟨by unfold wy; rw [if_neg hc1], rfl⟩
theorem Xb (i : Int) (hn : -9223372036854775808 ≤ i ∧ i ≤ 9223372036854775807) : FnT Tryz.prog w0 87 #[.int .i64 i] L (fun v L' => v = .tuple #[jn (w8 i), .int .i64 (jf i)] ∧ L' = L) := by
  refine FnT.enter (E0 := [(0, _)]) (N := 30) Tryz.func87 rfl rfl rfl rfl ?_
  refine Tr.seq <| Tr.region <| qF (qV) ?_
  rintro t2 _ ⟨b2, rfl, rfl⟩
  refine q9 (qC rfl) <| qB <| QAt.seq <| Tr.seq <| Tr.block <| Tr.seq <| Tr.region <| q9 (qA rfl) <| q9 (qv rfl rfl) <| q9 (qC rfl) <| qB <| QAt.seq <| qI rfl (fun hc1 => ?_) (fun hc1 => ?_)
  ·
   refine Tr.seq <| Tr.region <| q9 (yn rfl Tryz.underlying160 rfl (fun _ _ => ⟨_, inferInstance⟩) (fun _ _ h => by cases h)) ?_
   refine qK (wJ rfl rfl rfl rfl) <| q9 (qC rfl) <| qB <| QAt.seq <| Tr.ret <| qu <| qe <| wC L (.inl rfl) rfl (zB rfl) (qd rfl) ?_
   exact ⟨by simp [w8, jf, jn, *], rfl⟩
  ·
   refine Tr.seq <| Tr.region <| q9 (qA rfl) <| q9 (qv rfl rfl) <| q9 (qC rfl) <| qB <| QAt.seq <| qI rfl (fun hc3 => ?_) (fun hc3 => ?_)
   ·
    refine Tr.seq <| Tr.region <| q9 (qA rfl) <| q9 (wF rfl) <| qK (wJ rfl rfl rfl rfl) <| q9 (qC rfl) <| qB <| QAt.seq <| Tr.ret <| qu <| qe <| wC L (.inl rfl) rfl (zB rfl) (qd rfl) ?_
    have h1064 : i < 1064 := by omega
    exact ⟨by simp [w8, jf, jn, *], rfl⟩
   ·
    refine Tr.seq <| Tr.region <| q9 (qA rfl) <| q9 (qv rfl rfl) <| q9 (qC rfl) <| qB <| QAt.seq <| qI rfl (fun hc5 => ?_) (fun hc5 => ?_)
    ·
     refine Tr.seq <| Tr.region <| q9 (qA rfl) <| q9 (zV rfl rfl (by omega)) <| q9 (wF rfl) <| qK (wJ rfl rfl rfl rfl) <| q9 (qC rfl) <| qB <| QAt.seq <| Tr.ret <| qu <| qe <| wC L (.inl rfl) rfl (zB rfl) (qd rfl) ?_
     have h1064 : i < 1064 := by omega
     exact ⟨by simp [w8, jf, jn, *], rfl⟩
    ·
     refine Tr.seq <| Tr.region <| q9 (qA rfl) <| q9 (qv rfl rfl) <| q9 (qC rfl) <| qB <| QAt.seq <| qI rfl (fun hc7 => ?_) (fun hc7 => ?_)
     ·
      refine Tr.seq <| Tr.region <| q9 (qA rfl) <| q9 (zV rfl rfl (by omega)) <| q9 (km rfl rfl (by omega)) <| q9 (qA rfl) <| q9 (zV rfl rfl (by omega)) <| q9 (jV rfl rfl (by omega) (by omega)) <| q9 (wF rfl) <| qK (wJ rfl rfl rfl rfl) <| q9 (qC rfl) <| qB <| QAt.seq <| Tr.ret <| qu <| qe <| wC L (.inl rfl) rfl (zB rfl) (qd rfl) ?_
      exact ⟨by simp [w8, jf, jn, *], rfl⟩
     ·
      refine Tr.skip <| QAt.block <| QAt.seq <| Tr.seq <| Tr.region <| q9 (yn rfl Tryz.underlying160 rfl (fun _ _ => ⟨_, inferInstance⟩) (fun _ _ h => by cases h)) ?_
      refine qK (wJ rfl rfl rfl rfl) <| q9 (qC rfl) <| qB <| QAt.seq <| Tr.ret <| wC L (.inl rfl) rfl (zB rfl) (qd rfl) ?_
      exact ⟨by simp [w8, jf, jn, *], rfl⟩
theorem Yg (i : Int) (hn : -9223372036854775808 ≤ i ∧ i ≤ 9223372036854775807) : FnT Tryz.prog w0 72 #[.int .i64 i] L (fun v L' => v = .tuple #[jn (w8 i), .int .i64 (jf i)] ∧ L' = L) := by
  refine FnT.enter (E0 := [(0, _)]) (N := 26) Tryz.func72 rfl rfl rfl rfl ?_
  refine Tr.seq <| Tr.region <| qF (qV) ?_
  rintro t2 _ ⟨b2, rfl, rfl⟩
  refine q9 (qC rfl) <| qB <| QAt.seq <| Tr.seq <| Tr.seq <| Tr.region <| q9 (qA rfl) <| q9 (qv rfl rfl) <| qB <| QAt.seq <| qI rfl (fun hc1 => ?_) (fun hc1 => ?_)
  ·
   refine Tr.seq <| Tr.region <| q9 (yn rfl Tryz.underlying143 rfl (fun _ _ => ⟨_, inferInstance⟩) (fun _ _ h => by cases h)) ?_
   refine qK (wJ rfl rfl rfl rfl) <| q9 (qC rfl) <| qB <| QAt.seq <| Tr.ret <| qe <| wC L (.inl rfl) rfl (zB rfl) (qd rfl) ?_
   exact ⟨by simp only [w8, jf, jn]; repeat (first | rw [if_pos (by omega)] | rw [if_neg (by omega)]), rfl⟩
  ·
   refine Tr.skip <| QAt.seq <| Tr.seq <| Tr.seq <| Tr.region <| q9 (qA rfl) <| q9 (yl rfl rfl) <| qB <| QAt.seq <| qI rfl (fun hc3 => ?_) (fun hc3 => ?_)
   ·
    refine Tr.seq <| Tr.region <| q9 (yn rfl Tryz.underlying143 rfl (fun _ _ => ⟨_, inferInstance⟩) (fun _ _ h => by cases h)) ?_
    refine qK (wJ rfl rfl rfl rfl) <| q9 (qC rfl) <| qB <| QAt.seq <| Tr.ret <| qe <| wC L (.inl rfl) rfl (zB rfl) (qd rfl) ?_
    exact ⟨by simp only [w8, jf, jn]; repeat (first | rw [if_pos (by omega)] | rw [if_neg (by omega)]), rfl⟩
   ·
    refine Tr.skip <| QAt.seq <| Tr.seq <| Tr.seq <| Tr.region <| q9 (qA rfl) <| q9 (qv rfl rfl) <| qB <| QAt.seq <| qI rfl (fun hc5 => ?_) (fun hc5 => ?_)
    ·
     refine Tr.seq <| Tr.region <| q9 (qA rfl) <| q9 (wF rfl) <| qK (wJ rfl rfl rfl rfl) <| q9 (qC rfl) <| qB <| QAt.seq <| Tr.ret <| qe <| wC L (.inl rfl) rfl (zB rfl) (qd rfl) ?_
     exact ⟨by simp only [w8, jf, jn]; repeat (first | rw [if_pos (by omega)] | rw [if_neg (by omega)]), rfl⟩
    ·
     refine Tr.skip <| QAt.seq <| Tr.seq <| Tr.seq <| Tr.region <| q9 (qA rfl) <| q9 (qv rfl rfl) <| qB <| QAt.seq <| qI rfl (fun hc7 => ?_) (fun hc7 => ?_)
     ·
      refine Tr.seq <| Tr.region <| q9 (qA rfl) <| q9 (zV rfl rfl (by omega)) <| q9 (wF rfl) <| qK (wJ rfl rfl rfl rfl) <| q9 (qC rfl) <| qB <| QAt.seq <| Tr.ret <| qe <| wC L (.inl rfl) rfl (zB rfl) (qd rfl) ?_
      exact ⟨by simp only [w8, jf, jn]; repeat (first | rw [if_pos (by omega)] | rw [if_neg (by omega)]), rfl⟩
     ·
      refine Tr.skip <| QAt.seq <| Tr.seq <| Tr.region <| q9 (qA rfl) <| q9 (zV rfl rfl (by omega)) <| q9 (km rfl rfl (by omega)) <| q9 (qA rfl) <| q9 (zV rfl rfl (by omega)) <| q9 (jV rfl rfl (by omega) (by omega)) <| q9 (wF rfl) <| qK (wJ rfl rfl rfl rfl) <| q9 (qC rfl) <| qB <| QAt.seq <| Tr.ret <| wC L (.inl rfl) rfl (zB rfl) (qd rfl) ?_
      exact ⟨by simp only [w8, jf, jn]; repeat (first | rw [if_pos (by omega)] | rw [if_neg (by omega)]), rfl⟩
theorem rblocks_spec (n : Int) (hn : n ≤ 136192) : FnT Tryz.prog w0 64 #[.int .i64 n] L (fun v L' => v = .int .i64 (wy n) ∧ L' = L) := by
  refine FnT.enter (E0 := [(0, _)]) (N := 15) Tryz.func64 rfl rfl rfl rfl ?_
  refine Tr.seq <| Tr.region <| q9 (qC rfl) <| qB <| QAt.seq <| Tr.seq <| Tr.region <| q9 (qC rfl) <| qB <| QAt.seq <| Tr.seq <| Tr.block <| wB (Γ := {pΓ : (Int) // (fun (k : Int) => 0 ≤ k ∧ (k = 0 ∨ 128 * (k - 1) < n)) pΓ}) (fun g => (fun (k : Int) => [(0, .int .i64 n), (3, .int .i64 k)]) g.1) (fun g => (fun (k : Int) => L) g.1) (fun g => (fun (k : Int) => (2000 - k).toNat) g.1) ⟨0, by dsimp only; exact (by omega)⟩ (qP _) ?_
  rintro ⟨k, hloop⟩
  replace hloop : 0 ≤ k ∧ (k = 0 ∨ 128 * (k - 1) < n) := hloop
  obtain ⟨hk0, hk⟩ := hloop
  show Tr _ _ _ ([(0, .int .i64 n), (3, .int .i64 k)]) (L) _ _
  refine Tr.seq <| Tr.seq <| Tr.region <| q9 (qA rfl) <| q9 (qv rfl rfl) <| q9 (qA rfl) <| qN (s := 6) rfl (fun hg2_2 => ?_) (fun hg2_2 => ?_)
  ·
   refine qE rfl rfl (qA rfl) <| qE rfl rfl (jX rfl rfl (by omega)) <| qE rfl rfl (qA rfl) <| qE rfl rfl (qv rfl rfl) <| q9 (qT rfl rfl) <| qB <| QAt.seq <| qI rfl (fun hc2 => ?_) (fun hc2 => ?_)
   ·
    refine Tr.skip <| QAt.seq <| Tr.block <| Tr.region <| q9 (qA rfl) <| q9 (qj rfl rfl (by omega)) <| q9 (qC rfl) <| qB <| QAt.block <| qh ⟨k + 1, ?_⟩ ?_ ?_
    · (try dsimp only); omega
    · (try dsimp only); omega
    · (try dsimp only); exact qP _
   ·
    refine Tr.exit <| qX <| qY <| qS <| QAt.seq <| Tr.seq <| Tr.region <| q9 (qA rfl) <| q9 (qC rfl) <| qB <| QAt.seq <| Tr.ret <| zW (.inl rfl) rfl (qd rfl) ?_
    exact ⟨by unfold wy; congr 1; split <;> omega, rfl⟩
  · (exfalso; omega)
theorem Yz (l f s : Int) (hl : 0 ≤ l ∧ l ≤ 2) (hf : 0 ≤ f ∧ (f = 0 ∨ l = 2 ∧ f < 32)) (hs : 0 ≤ s ∧ s < (if l = 0 then 8 else 32)) :
    FnT Tryz.prog w0 99 #[.agg [.int .i64 l, .int .i64 f, .int .i64 s].toArray] L (fun v L' => v = .tuple #[.int .i64 ((if l = 0 then 0 else if l = 1 then 8 else 40) + f * 32 + s), .int .i64 0] ∧ L' = L) := by
  have hl3 : l = 0 ∨ l = 1 ∨ l = 2 := by omega
  rcases hl3 with rfl | rfl | rfl
  · simp only [if_true] at hs
    refine FnT.enter (E0 := [(0, _)]) (N := 53) Tryz.func99 rfl rfl rfl rfl ?_
    refine Tr.seq <| Tr.region <| qF (wT rfl) ?_
    rintro t1 _ ⟨b1, rfl, rfl⟩
    refine q9 (qC rfl) <| q9 (qC rfl) <| qB <| QAt.seq <| Tr.seq <| Tr.region <| q9 (yE rfl rfl rfl rfl) <| q9 (yE rfl rfl rfl rfl) <| q9 (yE rfl rfl rfl rfl) <| q9 (yE rfl rfl rfl rfl) <| qF (qV) ?_
    rintro t4 _ ⟨b4, rfl, rfl⟩
    refine qK (wJ rfl rfl rfl rfl) <| qB <| QAt.seq <| Tr.seq <| Tr.seq <| Tr.region <| q9 (qD rfl) <| q9 (qG rfl rfl) <| q9 (qv rfl rfl) <| q9 (qA rfl) <| qN (s := 13) rfl (fun hg2_3 => ?_) (fun hg2_3 => ?_)
    · (exfalso; omega)
    ·
     refine qE rfl rfl (qD rfl) <| qE rfl rfl (qG rfl rfl) <| qE rfl rfl (zd rfl rfl) <| q9 (qL rfl rfl) <| qB <| QAt.seq <| qI rfl (fun hc2 => ?_) (fun hc2 => ?_)
     · (exfalso; omega)
     ·
      refine Tr.skip <| QAt.seq <| Tr.seq <| Tr.region <| q9 (qD rfl) <| q9 (qG rfl rfl) <| q9 (wO (j := 0) (off := 0) rfl rfl rfl (by omega) rfl) <| q9 (wE rfl) <| qF (qV) ?_
      rintro t5 _ ⟨b5, rfl, rfl⟩
      refine qK (wJ rfl rfl rfl rfl) <| qB <| QAt.seq <| Tr.seq <| Tr.seq <| Tr.region <| q9 (qD rfl) <| q9 (qG rfl rfl) <| q9 (qv rfl rfl) <| q9 (qA rfl) <| qN (s := 25) rfl (fun hg5_3 => ?_) (fun hg5_3 => ?_)
      · (exfalso; omega)
      ·
       refine qE rfl rfl (qD rfl) <| qE rfl rfl (qG rfl rfl) <| qE rfl rfl (wO (j := 1) (off := 1) rfl rfl rfl (by omega) rfl) <| qE rfl rfl (qG rfl rfl) <| qE rfl rfl (yl rfl rfl) <| q9 (qL rfl rfl) <| q9 (qA rfl) <| qN (s := 32) rfl (fun hg5_10 => ?_) (fun hg5_10 => ?_)
       · (exfalso; omega)
       ·
        refine qE rfl rfl (qD rfl) <| qE rfl rfl (qG rfl rfl) <| qE rfl rfl (qv rfl rfl) <| q9 (qL rfl rfl) <| q9 (qA rfl) <| qN (s := 37) rfl (fun hg5_15 => ?_) (fun hg5_15 => ?_)
        · (exfalso; omega)
        ·
         refine qE rfl rfl (qD rfl) <| qE rfl rfl (qG rfl rfl) <| qE rfl rfl (wO (j := 2) (off := 2) rfl rfl rfl (by omega) rfl) <| qE rfl rfl (qG rfl rfl) <| qE rfl rfl (yl rfl rfl) <| q9 (qL rfl rfl) <| qB <| QAt.seq <| qI rfl (fun hc5 => ?_) (fun hc5 => ?_)
         · (exfalso; omega)
         ·
          refine Tr.skip <| QAt.seq <| Tr.seq <| Tr.region <| q9 (wO (j := 0) (off := 0) rfl rfl rfl (by omega) rfl) <| q9 (qG rfl rfl) <| q9 (qD rfl) <| q9 (qG rfl rfl) <| q9 (jX rfl rfl (by omega)) <| q9 (qj rfl rfl (by omega)) <| q9 (qD rfl) <| q9 (qG rfl rfl) <| q9 (qj rfl rfl (by omega)) <| q9 (qC rfl) <| q9 (qC rfl) <| qB <| QAt.seq <| Tr.ret <| wC L (.inl rfl) rfl (qd rfl) (qd rfl) ?_
          exact ⟨by simp, rfl⟩
  · simp only [if_neg (show ¬ (1 : Int) = 0 by omega)] at hs
    refine FnT.enter (E0 := [(0, _)]) (N := 53) Tryz.func99 rfl rfl rfl rfl ?_
    refine Tr.seq <| Tr.region <| qF (wT rfl) ?_
    rintro t1 _ ⟨b1, rfl, rfl⟩
    refine q9 (qC rfl) <| q9 (qC rfl) <| qB <| QAt.seq <| Tr.seq <| Tr.region <| q9 (yE rfl rfl rfl rfl) <| q9 (yE rfl rfl rfl rfl) <| q9 (yE rfl rfl rfl rfl) <| q9 (yE rfl rfl rfl rfl) <| qF (qV) ?_
    rintro t4 _ ⟨b4, rfl, rfl⟩
    refine qK (wJ rfl rfl rfl rfl) <| qB <| QAt.seq <| Tr.seq <| Tr.seq <| Tr.region <| q9 (qD rfl) <| q9 (qG rfl rfl) <| q9 (qv rfl rfl) <| q9 (qA rfl) <| qN (s := 13) rfl (fun hg2_3 => ?_) (fun hg2_3 => ?_)
    · (exfalso; omega)
    ·
     refine qE rfl rfl (qD rfl) <| qE rfl rfl (qG rfl rfl) <| qE rfl rfl (zd rfl rfl) <| q9 (qL rfl rfl) <| qB <| QAt.seq <| qI rfl (fun hc2 => ?_) (fun hc2 => ?_)
     · (exfalso; omega)
     ·
      refine Tr.skip <| QAt.seq <| Tr.seq <| Tr.region <| q9 (qD rfl) <| q9 (qG rfl rfl) <| q9 (wO (j := 1) (off := 3) rfl rfl rfl (by omega) rfl) <| q9 (wE rfl) <| qF (qV) ?_
      rintro t5 _ ⟨b5, rfl, rfl⟩
      refine qK (wJ rfl rfl rfl rfl) <| qB <| QAt.seq <| Tr.seq <| Tr.seq <| Tr.region <| q9 (qD rfl) <| q9 (qG rfl rfl) <| q9 (qv rfl rfl) <| q9 (qA rfl) <| qN (s := 25) rfl (fun hg5_3 => ?_) (fun hg5_3 => ?_)
      · (exfalso; omega)
      ·
       refine qE rfl rfl (qD rfl) <| qE rfl rfl (qG rfl rfl) <| qE rfl rfl (wO (j := 1) (off := 1) rfl rfl rfl (by omega) rfl) <| qE rfl rfl (qG rfl rfl) <| qE rfl rfl (yl rfl rfl) <| q9 (qL rfl rfl) <| q9 (qA rfl) <| qN (s := 32) rfl (fun hg5_10 => ?_) (fun hg5_10 => ?_)
       · (exfalso; omega)
       ·
        refine qE rfl rfl (qD rfl) <| qE rfl rfl (qG rfl rfl) <| qE rfl rfl (qv rfl rfl) <| q9 (qL rfl rfl) <| q9 (qA rfl) <| qN (s := 37) rfl (fun hg5_15 => ?_) (fun hg5_15 => ?_)
        · (exfalso; omega)
        ·
         refine qE rfl rfl (qD rfl) <| qE rfl rfl (qG rfl rfl) <| qE rfl rfl (wO (j := 2) (off := 2) rfl rfl rfl (by omega) rfl) <| qE rfl rfl (qG rfl rfl) <| qE rfl rfl (yl rfl rfl) <| q9 (qL rfl rfl) <| qB <| QAt.seq <| qI rfl (fun hc5 => ?_) (fun hc5 => ?_)
         · (exfalso; omega)
         ·
          refine Tr.skip <| QAt.seq <| Tr.seq <| Tr.region <| q9 (wO (j := 0) (off := 0) rfl rfl rfl (by omega) rfl) <| q9 (qG rfl rfl) <| q9 (qD rfl) <| q9 (qG rfl rfl) <| q9 (jX rfl rfl (by omega)) <| q9 (qj rfl rfl (by omega)) <| q9 (qD rfl) <| q9 (qG rfl rfl) <| q9 (qj rfl rfl (by omega)) <| q9 (qC rfl) <| q9 (qC rfl) <| qB <| QAt.seq <| Tr.ret <| wC L (.inl rfl) rfl (qd rfl) (qd rfl) ?_
          exact ⟨by simp, rfl⟩
  · simp only [if_neg (show ¬ (2 : Int) = 0 by omega)] at hs
    refine FnT.enter (E0 := [(0, _)]) (N := 53) Tryz.func99 rfl rfl rfl rfl ?_
    refine Tr.seq <| Tr.region <| qF (wT rfl) ?_
    rintro t1 _ ⟨b1, rfl, rfl⟩
    refine q9 (qC rfl) <| q9 (qC rfl) <| qB <| QAt.seq <| Tr.seq <| Tr.region <| q9 (yE rfl rfl rfl rfl) <| q9 (yE rfl rfl rfl rfl) <| q9 (yE rfl rfl rfl rfl) <| q9 (yE rfl rfl rfl rfl) <| qF (qV) ?_
    rintro t4 _ ⟨b4, rfl, rfl⟩
    refine qK (wJ rfl rfl rfl rfl) <| qB <| QAt.seq <| Tr.seq <| Tr.seq <| Tr.region <| q9 (qD rfl) <| q9 (qG rfl rfl) <| q9 (qv rfl rfl) <| q9 (qA rfl) <| qN (s := 13) rfl (fun hg2_3 => ?_) (fun hg2_3 => ?_)
    · (exfalso; omega)
    ·
     refine qE rfl rfl (qD rfl) <| qE rfl rfl (qG rfl rfl) <| qE rfl rfl (zd rfl rfl) <| q9 (qL rfl rfl) <| qB <| QAt.seq <| qI rfl (fun hc2 => ?_) (fun hc2 => ?_)
     · (exfalso; omega)
     ·
      refine Tr.skip <| QAt.seq <| Tr.seq <| Tr.region <| q9 (qD rfl) <| q9 (qG rfl rfl) <| q9 (wO (j := 2) (off := 6) rfl rfl rfl (by omega) rfl) <| q9 (wE rfl) <| qF (qV) ?_
      rintro t5 _ ⟨b5, rfl, rfl⟩
      refine qK (wJ rfl rfl rfl rfl) <| qB <| QAt.seq <| Tr.seq <| Tr.seq <| Tr.region <| q9 (qD rfl) <| q9 (qG rfl rfl) <| q9 (qv rfl rfl) <| q9 (qA rfl) <| qN (s := 25) rfl (fun hg5_3 => ?_) (fun hg5_3 => ?_)
      · (exfalso; omega)
      ·
       refine qE rfl rfl (qD rfl) <| qE rfl rfl (qG rfl rfl) <| qE rfl rfl (wO (j := 1) (off := 1) rfl rfl rfl (by omega) rfl) <| qE rfl rfl (qG rfl rfl) <| qE rfl rfl (yl rfl rfl) <| q9 (qL rfl rfl) <| q9 (qA rfl) <| qN (s := 32) rfl (fun hg5_10 => ?_) (fun hg5_10 => ?_)
       · (exfalso; omega)
       ·
        refine qE rfl rfl (qD rfl) <| qE rfl rfl (qG rfl rfl) <| qE rfl rfl (qv rfl rfl) <| q9 (qL rfl rfl) <| q9 (qA rfl) <| qN (s := 37) rfl (fun hg5_15 => ?_) (fun hg5_15 => ?_)
        · (exfalso; omega)
        ·
         refine qE rfl rfl (qD rfl) <| qE rfl rfl (qG rfl rfl) <| qE rfl rfl (wO (j := 2) (off := 2) rfl rfl rfl (by omega) rfl) <| qE rfl rfl (qG rfl rfl) <| qE rfl rfl (yl rfl rfl) <| q9 (qL rfl rfl) <| qB <| QAt.seq <| qI rfl (fun hc5 => ?_) (fun hc5 => ?_)
         · (exfalso; omega)
         ·
          refine Tr.skip <| QAt.seq <| Tr.seq <| Tr.region <| q9 (wO (j := 0) (off := 0) rfl rfl rfl (by omega) rfl) <| q9 (qG rfl rfl) <| q9 (qD rfl) <| q9 (qG rfl rfl) <| q9 (jX rfl rfl (by omega)) <| q9 (qj rfl rfl (by omega)) <| q9 (qD rfl) <| q9 (qG rfl rfl) <| q9 (qj rfl rfl (by omega)) <| q9 (qC rfl) <| q9 (qC rfl) <| qB <| QAt.seq <| Tr.ret <| wC L (.inl rfl) rfl (qd rfl) (qd rfl) ?_
          exact ⟨by simp, rfl⟩
def kE (at_ n : Int) : Int := if at_ < 0 ∨ n < 0 then 1 else if at_ > 136192 ∨ n > 136192 - at_ then 12 else 0
theorem cut_again {out l : List (Int × Int × Int)} {a e : Int} (h : a < e) (hcut : out ++ kD (e - a).toNat a e = l) :
    (out ++ [(a / 128, a % 128, min 128 (a % 128 + e - a))]) ++ kD (e - (a + (min 128 (a % 128 + e - a) - a % 128))).toNat (a + (min 128 (a % 128 + e - a) - a % 128)) e = l := by
  have e1 := Zr (e - (a + (min 128 (a % 128 + e - a) - a % 128))).toNat (e - a).toNat (a + (min 128 (a % 128 + e - a) - a % 128)) e (by omega) (by omega)
  rw [← hcut, cutF_step h, List.append_assoc, e1]
  rfl
theorem Jw (at_ n : Int) (h1 : -9223372036854775808 ≤ at_ ∧ at_ ≤ 9223372036854775807) (h2 : -9223372036854775808 ≤ n ∧ n ≤ 9223372036854775807) :
    FnT Tryz.prog w0 37 #[.int .i64 at_, .int .i64 n] F (fun v L' => ∃ u C, v = .tuple #[u, .int .i64 (kE at_ n)] ∧ L' = C :: F ∧
      (if kE at_ n = 0 then SlC 92 3 u (kN at_ n).length ((kN at_ n).flatMap yh) C else u = .slice none 0 0 ∧ C = [])) := by
  by_cases ha : at_ < 0 ∨ n < 0
  · have he : kE at_ n = 1 := by unfold kE; rw [if_pos ha]
    rw [he]
    refine FnT.enter (E0 := [(0, _), (1, _)]) (N := 54) Tryz.func37 rfl rfl rfl rfl ?_
    refine Tr.seq <| Tr.region <| q9 (qC rfl) <| q9 (qC rfl) <| qB <| QAt.seq <| Tr.seq <| Tr.block <| Tr.seq <| Tr.region <| q9 (qA rfl) <| q9 (qv rfl rfl) <| q9 (qA rfl) <| qN (s := 13) rfl (fun hg1_2 => ?_) (fun hg1_2 => ?_)
    ·
     refine qH rfl rfl rfl <| qH rfl rfl rfl <| q9 (qT rfl rfl) <| q9 (qC rfl) <| qB <| QAt.seq <| ww rfl <| Tr.seq <| Tr.region <| q9 (qC rfl) <| q9 (qC rfl) <| qB <| QAt.seq <| Tr.ret <| qu <| qe <| wC ([] :: F) (.inl rfl) rfl (qd rfl) (qd rfl) ?_
     exact ⟨_, [], rfl, rfl, by simp⟩
    ·
     refine qE rfl rfl (qA rfl) <| qE rfl rfl (qv rfl rfl) <| q9 (qL rfl rfl) <| q9 (qC rfl) <| qB <| QAt.seq <| qI rfl (fun hc1 => ?_) (fun hc1 => ?_)
     ·
      refine Tr.seq <| Tr.region <| q9 (qC rfl) <| q9 (qC rfl) <| qB <| QAt.seq <| Tr.ret <| qu <| qe <| wC ([] :: F) (.inl rfl) rfl (qd rfl) (qd rfl) ?_
      exact ⟨_, [], rfl, rfl, by simp⟩
     · (exfalso; omega)
  · by_cases hb : at_ > 136192 ∨ n > 136192 - at_
    · have he : kE at_ n = 12 := by unfold kE; rw [if_neg ha, if_pos hb]
      rw [he]
      refine FnT.enter (E0 := [(0, _), (1, _)]) (N := 54) Tryz.func37 rfl rfl rfl rfl ?_
      refine Tr.seq <| Tr.region <| q9 (qC rfl) <| q9 (qC rfl) <| qB <| QAt.seq <| Tr.seq <| Tr.block <| Tr.seq <| Tr.region <| q9 (qA rfl) <| q9 (qv rfl rfl) <| q9 (qA rfl) <| qN (s := 13) rfl (fun hg1_2 => ?_) (fun hg1_2 => ?_)
      · (exfalso; omega)
      ·
       refine qE rfl rfl (qA rfl) <| qE rfl rfl (qv rfl rfl) <| q9 (qL rfl rfl) <| q9 (qC rfl) <| qB <| QAt.seq <| qI rfl (fun hc1 => ?_) (fun hc1 => ?_)
       · (exfalso; omega)
       ·
        refine Tr.seq <| Tr.region <| q9 (qA rfl) <| q9 (zd rfl rfl) <| q9 (qA rfl) <| qN (s := 20) rfl (fun hg3_2 => ?_) (fun hg3_2 => ?_)
        ·
         refine qH rfl rfl rfl <| qH rfl rfl rfl <| qH rfl rfl rfl <| qH rfl rfl rfl <| q9 (qT rfl rfl) <| q9 (qC rfl) <| qB <| QAt.seq <| ww rfl <| Tr.seq <| Tr.region <| q9 (qC rfl) <| q9 (qC rfl) <| qB <| QAt.seq <| Tr.ret <| qu <| qe <| wC ([] :: F) (.inl rfl) rfl (qd rfl) (qd rfl) ?_
         exact ⟨_, [], rfl, rfl, by simp⟩
        ·
         refine qE rfl rfl (qA rfl) <| qE rfl rfl (qA rfl) <| qE rfl rfl (zV rfl rfl (by omega)) <| qE rfl rfl (zd rfl rfl) <| q9 (qL rfl rfl) <| q9 (qC rfl) <| qB <| QAt.seq <| qI rfl (fun hc3 => ?_) (fun hc3 => ?_)
         ·
          refine Tr.seq <| Tr.region <| q9 (qC rfl) <| q9 (qC rfl) <| qB <| QAt.seq <| Tr.ret <| qu <| qe <| wC ([] :: F) (.inl rfl) rfl (qd rfl) (qd rfl) ?_
          exact ⟨_, [], rfl, rfl, by simp⟩
         · (exfalso; omega)
    · have he : kE at_ n = 0 := by unfold kE; rw [if_neg ha, if_neg hb]
      rw [he]
      refine FnT.enter (E0 := [(0, _), (1, _)]) (N := 54) Tryz.func37 rfl rfl rfl rfl ?_
      refine Tr.seq <| Tr.region <| q9 (qC rfl) <| q9 (qC rfl) <| qB <| QAt.seq <| Tr.seq <| Tr.block <| Tr.seq <| Tr.region <| q9 (qA rfl) <| q9 (qv rfl rfl) <| q9 (qA rfl) <| qN (s := 13) rfl (fun hg1_2 => ?_) (fun hg1_2 => ?_)
      · (exfalso; omega)
      ·
       refine qE rfl rfl (qA rfl) <| qE rfl rfl (qv rfl rfl) <| q9 (qL rfl rfl) <| q9 (qC rfl) <| qB <| QAt.seq <| qI rfl (fun hc1 => ?_) (fun hc1 => ?_)
       · (exfalso; omega)
       ·
        refine Tr.seq <| Tr.region <| q9 (qA rfl) <| q9 (zd rfl rfl) <| q9 (qA rfl) <| qN (s := 20) rfl (fun hg3_2 => ?_) (fun hg3_2 => ?_)
        · (exfalso; omega)
        ·
         refine qE rfl rfl (qA rfl) <| qE rfl rfl (qA rfl) <| qE rfl rfl (zV rfl rfl (by omega)) <| qE rfl rfl (zd rfl rfl) <| q9 (qL rfl rfl) <| q9 (qC rfl) <| qB <| QAt.seq <| qI rfl (fun hc3 => ?_) (fun hc3 => ?_)
         · (exfalso; omega)
         ·
          refine Tr.skip <| QAt.block <| QAt.seq <| Tr.seq <| Tr.region <| q9 (qC rfl) <| qB <| QAt.seq <| Tr.seq <| Tr.seq <| Tr.region <| q9 (qA rfl) <| q9 (qA rfl) <| q9 (qj rfl rfl (by omega)) <| q9 (qC rfl) <| qB <| QAt.seq <| Tr.block <| wB (Γ := {pΓ : (List (Int × Int × Int)) × (Int) × (Value) × (qM) // (fun (out : List (Int × Int × Int)) (a : Int) (u : Value) (C : qM) => at_ ≤ a ∧ a ≤ at_ + n ∧ out ++ kD (at_ + n - a).toNat a (at_ + n) = kN at_ n ∧ SlC 92 3 u out.length (out.flatMap yh) C ∧ (out.length : Int) ≤ a - at_) pΓ.1 pΓ.2.1 pΓ.2.2.1 pΓ.2.2.2}) (fun g => (fun (out : List (Int × Int × Int)) (a : Int) (u : Value) (C : qM) => [(0, .int .i64 a), (7, .int .i64 (at_ + n)), (6, u)]) g.1.1 g.1.2.1 g.1.2.2.1 g.1.2.2.2) (fun g => (fun (out : List (Int × Int × Int)) (a : Int) (u : Value) (C : qM) => C :: F) g.1.1 g.1.2.1 g.1.2.2.1 g.1.2.2.2) (fun g => (fun (out : List (Int × Int × Int)) (a : Int) (u : Value) (C : qM) => (at_ + n - a).toNat) g.1.1 g.1.2.1 g.1.2.2.1 g.1.2.2.2) ⟨([], at_, .slice none 0 0, []), by dsimp only; exact ⟨by omega, by omega, by rw [List.nil_append]; unfold kN; congr 1; omega, zu _ _, by simp⟩⟩ (qP _) ?_
          rintro ⟨⟨out, a, u, C⟩, hloop⟩
          replace hloop : at_ ≤ a ∧ a ≤ at_ + n ∧ out ++ kD (at_ + n - a).toNat a (at_ + n) = kN at_ n ∧ SlC 92 3 u out.length (out.flatMap yh) C ∧ (out.length : Int) ≤ a - at_ := hloop
          obtain ⟨ha1, ha2, hcut, hsl, hlen⟩ := hloop
          show Tr _ _ _ ([(0, .int .i64 a), (7, .int .i64 (at_ + n)), (6, u)]) (C :: F) _ _
          refine Tr.seq <| Tr.seq <| Tr.region <| q9 (qA rfl) <| q9 (qA rfl) <| q9 (qv rfl rfl) <| qB <| QAt.seq <| qI rfl (fun hc7 => ?_) (fun hc7 => ?_)
          ·
           refine Tr.skip <| QAt.seq <| Tr.block <| Tr.seq <| Tr.region <| q9 (qA rfl) <| q9 (jV rfl rfl (by omega) (by omega)) <| q9 (qC rfl) <| qB <| QAt.seq <| Tr.seq <| Tr.region <| q9 (qA rfl) <| q9 (qA rfl) <| q9 (qj rfl rfl (by omega)) <| q9 (qA rfl) <| q9 (zV rfl rfl (by omega)) <| q9 (Wq rfl rfl) <| q9 (qC rfl) <| qB <| QAt.seq <| Tr.seq <| Tr.region <| q9 (qA rfl) <| q9 (qA rfl) <| q9 (km rfl rfl (by omega)) <| q9 (qA rfl) <| q9 (qA rfl) <| q9 (wF rfl) <| qF (w5 rfl rfl rfl) ?_
           rintro t46 _ ⟨b46, rfl, rfl⟩
           refine qF (wP rfl rfl hsl (wQ inferInstance rfl rfl) rfl Tryz.underlying85 rfl rfl (by omega)) ?_
           rintro t47 _ ⟨C', hsl', rfl⟩
           refine q9 (qC rfl) <| qB <| QAt.seq <| Tr.region <| q9 (qA rfl) <| q9 (qA rfl) <| q9 (qA rfl) <| q9 (zV rfl rfl (by omega)) <| q9 (qj rfl rfl (by omega)) <| q9 (qC rfl) <| qB <| QAt.block <| qh ⟨(out ++ [(a / 128, a % 128, min 128 (a % 128 + (at_ + n) - a))], a + (min 128 (a % 128 + (at_ + n) - a) - a % 128), t47, C'), ?_⟩ ?_ ?_
           · (try dsimp only); exact ⟨by omega, by omega, cut_again hc7 hcut, by simpa [yh] using hsl', by simp; omega⟩
           · (try dsimp only); omega
           · (try dsimp only); exact qP _
          ·
           refine Tr.exit <| qX <| qY <| qS <| QAt.seq <| Tr.seq <| Tr.region <| q9 (qA rfl) <| q9 (qC rfl) <| q9 (qC rfl) <| qB <| QAt.seq <| Tr.ret <| wC (C :: F) (.inl rfl) rfl (qd rfl) (qd rfl) ?_
           exact ⟨_, C, rfl, rfl, by rw [if_pos rfl, ← hcut, kY (by omega), List.append_nil]; exact hsl⟩
theorem yg (p : Int × Int × Int) : (yh p).length = 3 := rfl
theorem cutPush_len (l : List (Int × Int × Int)) (i : Int) : (jc l i).length ≤ l.length + 1 := by
  unfold jc
  split
  · rename_i p hp
    have hne : l ≠ [] := fun h => by rw [h] at hp; cases hp
    have : 0 < l.length := List.length_pos_iff.2 hne
    split <;> simp
  · simp
theorem rcut_spec (at_ n : Int) (h1 : -9223372036854775808 ≤ at_ ∧ at_ ≤ 9223372036854775807) (h2 : -9223372036854775808 ≤ n ∧ n ≤ 9223372036854775807) :
    FnT Tryz.prog w0 63 #[.int .i64 at_, .int .i64 n] F (fun v L' => ∃ u C, v = .tuple #[u, .int .i64 (kE at_ n)] ∧ L' = C :: F ∧
      (if kE at_ n = 0 then SlC 131 3 u (kN at_ n).length ((kN at_ n).flatMap yh) C else u = .slice none 0 0 ∧ C = [])) := by
  by_cases ha : at_ < 0 ∨ n < 0
  · have he : kE at_ n = 1 := by unfold kE; rw [if_pos ha]
    rw [he]
    refine FnT.enter (E0 := [(0, _), (1, _)]) (N := 68) Tryz.func63 rfl rfl rfl rfl ?_
    refine Tr.seq <| Tr.region <| q9 (qC rfl) <| q9 (qC rfl) <| qB <| QAt.seq <| Tr.seq <| Tr.seq <| Tr.region <| q9 (qA rfl) <| q9 (qv rfl rfl) <| q9 (qA rfl) <| qN (s := 11) rfl (fun hg1_2 => ?_) (fun hg1_2 => ?_)
    ·
     refine qH rfl rfl rfl <| qH rfl rfl rfl <| q9 (qT rfl rfl) <| qB <| QAt.seq <| ww rfl <| Tr.seq <| Tr.region <| q9 (qC rfl) <| q9 (qC rfl) <| qB <| QAt.seq <| Tr.ret <| qe <| wC ([] :: F) (.inl rfl) rfl (qd rfl) (qd rfl) ?_
     exact ⟨_, [], rfl, rfl, by simp⟩
    ·
     refine qE rfl rfl (qA rfl) <| qE rfl rfl (qv rfl rfl) <| q9 (qL rfl rfl) <| qB <| QAt.seq <| qI rfl (fun hc1 => ?_) (fun hc1 => ?_)
     ·
      refine Tr.seq <| Tr.region <| q9 (qC rfl) <| q9 (qC rfl) <| qB <| QAt.seq <| Tr.ret <| qe <| wC ([] :: F) (.inl rfl) rfl (qd rfl) (qd rfl) ?_
      exact ⟨_, [], rfl, rfl, by simp⟩
     · (exfalso; omega)
  · by_cases hb : at_ > 136192 ∨ n > 136192 - at_
    · have he : kE at_ n = 12 := by unfold kE; rw [if_neg ha, if_pos hb]
      rw [he]
      refine FnT.enter (E0 := [(0, _), (1, _)]) (N := 68) Tryz.func63 rfl rfl rfl rfl ?_
      refine Tr.seq <| Tr.region <| q9 (qC rfl) <| q9 (qC rfl) <| qB <| QAt.seq <| Tr.seq <| Tr.seq <| Tr.region <| q9 (qA rfl) <| q9 (qv rfl rfl) <| q9 (qA rfl) <| qN (s := 11) rfl (fun hg1_2 => ?_) (fun hg1_2 => ?_)
      · (exfalso; omega)
      ·
       refine qE rfl rfl (qA rfl) <| qE rfl rfl (qv rfl rfl) <| q9 (qL rfl rfl) <| qB <| QAt.seq <| qI rfl (fun hc1 => ?_) (fun hc1 => ?_)
       · (exfalso; omega)
       ·
        refine Tr.skip <| QAt.seq <| Tr.seq <| Tr.seq <| Tr.region <| q9 (qA rfl) <| q9 (zd rfl rfl) <| q9 (qA rfl) <| qN (s := 17) rfl (fun hg3_2 => ?_) (fun hg3_2 => ?_)
        ·
         refine qH rfl rfl rfl <| qH rfl rfl rfl <| qH rfl rfl rfl <| qH rfl rfl rfl <| q9 (qT rfl rfl) <| qB <| QAt.seq <| ww rfl <| Tr.seq <| Tr.region <| q9 (qC rfl) <| q9 (qC rfl) <| qB <| QAt.seq <| Tr.ret <| qe <| wC ([] :: F) (.inl rfl) rfl (qd rfl) (qd rfl) ?_
         exact ⟨_, [], rfl, rfl, by simp⟩
        ·
         refine qE rfl rfl (qA rfl) <| qE rfl rfl (qA rfl) <| qE rfl rfl (zV rfl rfl (by omega)) <| qE rfl rfl (zd rfl rfl) <| q9 (qL rfl rfl) <| qB <| QAt.seq <| qI rfl (fun hc3 => ?_) (fun hc3 => ?_)
         ·
          refine Tr.seq <| Tr.region <| q9 (qC rfl) <| q9 (qC rfl) <| qB <| QAt.seq <| Tr.ret <| qe <| wC ([] :: F) (.inl rfl) rfl (qd rfl) (qd rfl) ?_
          exact ⟨_, [], rfl, rfl, by simp⟩
         · (exfalso; omega)
    · have he : kE at_ n = 0 := by unfold kE; rw [if_neg ha, if_neg hb]
      rw [he]
      refine FnT.enter (E0 := [(0, _), (1, _)]) (N := 68) Tryz.func63 rfl rfl rfl rfl ?_
      refine Tr.seq <| Tr.region <| q9 (qC rfl) <| q9 (qC rfl) <| qB <| QAt.seq <| Tr.seq <| Tr.seq <| Tr.region <| q9 (qA rfl) <| q9 (qv rfl rfl) <| q9 (qA rfl) <| qN (s := 11) rfl (fun hg1_2 => ?_) (fun hg1_2 => ?_)
      · (exfalso; omega)
      ·
       refine qE rfl rfl (qA rfl) <| qE rfl rfl (qv rfl rfl) <| q9 (qL rfl rfl) <| qB <| QAt.seq <| qI rfl (fun hc1 => ?_) (fun hc1 => ?_)
       · (exfalso; omega)
       ·
        refine Tr.skip <| QAt.seq <| Tr.seq <| Tr.seq <| Tr.region <| q9 (qA rfl) <| q9 (zd rfl rfl) <| q9 (qA rfl) <| qN (s := 17) rfl (fun hg3_2 => ?_) (fun hg3_2 => ?_)
        · (exfalso; omega)
        ·
         refine qE rfl rfl (qA rfl) <| qE rfl rfl (qA rfl) <| qE rfl rfl (zV rfl rfl (by omega)) <| qE rfl rfl (zd rfl rfl) <| q9 (qL rfl rfl) <| qB <| QAt.seq <| qI rfl (fun hc3 => ?_) (fun hc3 => ?_)
         · (exfalso; omega)
         ·
          refine Tr.skip <| QAt.seq <| Tr.seq <| Tr.region <| q9 (qC rfl) <| qB <| QAt.seq <| Tr.seq <| Tr.seq <| Tr.region <| q9 (qA rfl) <| q9 (qC rfl) <| qB <| QAt.seq <| Tr.block <| wB (Γ := {pΓ : (Int) × (Value) × (qM) // (fun (i : Int) (u : Value) (C : qM) => at_ ≤ i ∧ i ≤ at_ + n ∧ SlC 131 3 u (kN at_ (i - at_)).length ((kN at_ (i - at_)).flatMap yh) C ∧ ((kN at_ (i - at_)).length : Int) ≤ i - at_) pΓ.1 pΓ.2.1 pΓ.2.2}) (fun g => (fun (i : Int) (u : Value) (C : qM) => [(0, .int .i64 at_), (1, .int .i64 n), (7, .int .i64 i), (6, u)]) g.1.1 g.1.2.1 g.1.2.2) (fun g => (fun (i : Int) (u : Value) (C : qM) => C :: F) g.1.1 g.1.2.1 g.1.2.2) (fun g => (fun (i : Int) (u : Value) (C : qM) => (at_ + n - i).toNat) g.1.1 g.1.2.1 g.1.2.2) ⟨(at_, .slice none 0 0, []), by dsimp only; exact ⟨by omega, by omega, by rw [Int.sub_self]; exact zu _ _, by rw [Int.sub_self, cutL_zero]; simp⟩⟩ (qP _) ?_
          rintro ⟨⟨i, u, C⟩, hloop⟩
          replace hloop : at_ ≤ i ∧ i ≤ at_ + n ∧ SlC 131 3 u (kN at_ (i - at_)).length ((kN at_ (i - at_)).flatMap yh) C ∧ ((kN at_ (i - at_)).length : Int) ≤ i - at_ := hloop
          obtain ⟨hi1, hi2, hsl, hlen⟩ := hloop
          show Tr _ _ _ ([(0, .int .i64 at_), (1, .int .i64 n), (7, .int .i64 i), (6, u)]) (C :: F) _ _
          refine Tr.seq <| Tr.seq <| Tr.region <| q9 (qA rfl) <| q9 (qA rfl) <| q9 (qA rfl) <| q9 (qj rfl rfl (by omega)) <| q9 (qv rfl rfl) <| qB <| QAt.seq <| qI rfl (fun hc7 => ?_) (fun hc7 => ?_)
          ·
           refine Tr.skip <| QAt.seq <| Tr.seq <| Tr.block <| Tr.seq ?_
           obtain ⟨l, hl⟩ : ∃ l, kN at_ (i - at_) = l := ⟨_, rfl⟩
           have hpush := cutL_push (a := at_) (n := i - at_) (by omega)
           rw [hl, show at_ + (i - at_) = i from by omega, show i - at_ + 1 = i + 1 - at_ from by omega] at hpush
           rw [hl] at hsl hlen
           have hpl := cutPush_len l i
           obtain ⟨pu, cu, hu⟩ := hsl.slice
           refine Tr.region <| q9 (qA rfl) <| q9 (qg (by rw [← hu]; rfl)) ?_
           refine q9 (zV rfl rfl (by omega)) <| q9 (qC rfl) <| qB <| QAt.seq <| Tr.seq <| Tr.region <| q9 (qA rfl) <| q9 (yl rfl rfl) <| q9 (qA rfl) <| qN (s := 36) rfl (fun hg10_2 => ?_) (fun hg10_2 => ?_)
           ·
            obtain ⟨p, hp⟩ : ∃ p, l[l.length - 1]? = some p := ⟨_, List.getElem?_eq_getElem (by omega)⟩
            refine qE rfl rfl (qA rfl) <| qE rfl rfl (qA rfl) <| WJ rfl rfl (zO (j := l.length - 1) rfl rfl hsl (by omega) (by omega)) ?_
            rintro t39 _ ⟨b, cap, spare, rfl, rfl, hcap, hnc, rfl, rfl⟩
            refine qE rfl rfl (qk rfl) <| qE rfl rfl (zF (j := l.length - 1) (k := 0) yg rfl hp rfl rfl) <| qE rfl rfl (qA rfl) <| qE rfl rfl (km rfl rfl (by omega)) <| qE rfl rfl (wR rfl rfl) <| q9 (qT rfl rfl) <| qB <| QAt.seq <| qI rfl (fun hc10 => ?_) (fun hc10 => ?_)
            ·
             refine Tr.region <| q9 (qA rfl) <| q9 (qA rfl) <| q9 (qA rfl) <| q9 (qA rfl) <| q9 (qf (j := l.length - 1) rfl rfl (by omega) (by omega) rfl) <| q9 (qk rfl) <| q9 (zF (j := l.length - 1) (k := 2) yg rfl hp (by omega) rfl) <| q9 (qj rfl rfl (by have := QF (n := i - at_) (show 0 ≤ at_ by omega) (hl ▸ List.mem_of_getElem? hp); omega)) ?_
             refine q9 (qf (j := l.length - 1) rfl rfl (by omega) (by omega) rfl) <| q9 (qk rfl) <| qK (y6 (j := l.length - 1) (k := 2) (p' := (p.1, p.2.1, p.2.2 + 1)) yg rfl rfl hp (by omega) rfl rfl) <| qB <| QAt.block <| QAt.seq <| Tr.region <| q9 (qA rfl) <| q9 (qj rfl rfl (by omega)) <| q9 (qC rfl) <| qB <| qh ⟨(i + 1, .slice (some ⟨b, 0, none⟩) l.length cap, [(b, .cells ((l.set (l.length - 1) (p.1, p.2.1, p.2.2 + 1)).flatMap yh ++ spare).toArray 131 (0, 0))]), ?_⟩ ?_ ?_
             · (try dsimp only); rw [hpush, ← cutPush_set hp hc10]; exact ⟨by omega, by omega, by have := V5 (e := 131) (sz := 3) (b := b) (cap := cap) (n := l.length) (spare := spare) (cs := (l.set (l.length - 1) (p.1, p.2.1, p.2.2 + 1)).flatMap yh) (by rw [yy yg, List.length_set]) (by simp only [List.length_append, yy yg, List.length_set] at hcap ⊢; exact hcap) hnc; rw [List.length_set]; exact this, by simp; omega⟩
             · (try dsimp only); omega
             · (try dsimp only); exact qP _
            ·
             have hnew : ∀ q, l[l.length - 1]? = some q → q.1 ≠ i / 128 := by
               intro q hq
               first | (rw [hp] at hq; cases hq; exact hc10) | (rw [List.getElem?_eq_none (by omega)] at hq; cases hq)
             refine Tr.region <| q9 (qA rfl) <| q9 (qA rfl) <| q9 (km rfl rfl (by omega)) <| q9 (qA rfl) <| q9 (jV rfl rfl (by omega) (by omega)) <| q9 (qA rfl) <| q9 (jV rfl rfl (by omega) (by omega)) <| q9 (qj rfl rfl (by omega)) <| q9 (wF rfl) <| qF (w5 rfl rfl rfl) ?_
             rintro t65 _ ⟨b65, rfl, rfl⟩
             refine qF (wP rfl rfl hsl (wQ inferInstance rfl rfl) rfl Tryz.underlying128 rfl rfl (by omega)) ?_
             rintro t66 _ ⟨C', hsl', rfl⟩
             refine q9 (qC rfl) <| qB <| QAt.block <| QAt.seq <| Tr.region <| q9 (qA rfl) <| q9 (qj rfl rfl (by omega)) <| q9 (qC rfl) <| qB <| qh ⟨(i + 1, t66, C'), ?_⟩ ?_ ?_
             · (try dsimp only); rw [hpush, ← YA (l := l) (i := i) hnew]; exact ⟨by omega, by omega, by simpa [yh] using hsl', by simp; omega⟩
             · (try dsimp only); omega
             · (try dsimp only); exact qP _
           ·
            refine qH rfl rfl rfl <| qH rfl rfl rfl <| qH rfl rfl rfl <| qH rfl rfl rfl <| qH rfl rfl rfl <| qH rfl rfl rfl <| qH rfl rfl rfl <| qH rfl rfl rfl <| q9 (qL rfl rfl) <| qB <| QAt.seq <| wD rfl ?_
            have hnew : ∀ q, l[l.length - 1]? = some q → q.1 ≠ i / 128 := by
              intro q hq
              first | (rw [hp] at hq; cases hq; exact hc10) | (rw [List.getElem?_eq_none (by omega)] at hq; cases hq)
            refine Tr.region <| q9 (qA rfl) <| q9 (qA rfl) <| q9 (km rfl rfl (by omega)) <| q9 (qA rfl) <| q9 (jV rfl rfl (by omega) (by omega)) <| q9 (qA rfl) <| q9 (jV rfl rfl (by omega) (by omega)) <| q9 (qj rfl rfl (by omega)) <| q9 (wF rfl) <| qF (w5 rfl rfl rfl) ?_
            rintro t65 _ ⟨b65, rfl, rfl⟩
            refine qF (wP rfl rfl hsl (wQ inferInstance rfl rfl) rfl Tryz.underlying128 rfl rfl (by omega)) ?_
            rintro t66 _ ⟨C', hsl', rfl⟩
            refine q9 (qC rfl) <| qB <| QAt.block <| QAt.seq <| Tr.region <| q9 (qA rfl) <| q9 (qj rfl rfl (by omega)) <| q9 (qC rfl) <| qB <| qh ⟨(i + 1, t66, C'), ?_⟩ ?_ ?_
            · (try dsimp only); rw [hpush, ← YA (l := l) (i := i) hnew]; exact ⟨by omega, by omega, by simpa [yh] using hsl', by simp; omega⟩
            · (try dsimp only); omega
            · (try dsimp only); exact qP _
          ·
           refine Tr.exit <| qX <| qY <| qS <| QAt.seq <| Tr.seq <| Tr.region <| q9 (qA rfl) <| q9 (qC rfl) <| q9 (qC rfl) <| qB <| QAt.seq <| Tr.ret <| wC (C :: F) (.inl rfl) rfl (qd rfl) (qd rfl) ?_
           have hin : i - at_ = n := by omega
           rw [hin] at hsl
           exact ⟨_, C, rfl, rfl, by rw [if_pos rfl]; exact hsl⟩
end Go.Proofs.YtjikpomndbkfgaaGreatDoor
namespace Go.Sx
open Go
section
variable {P : Program} {N : Nat} {w0 : World} {E : Env} {L : Res} {K V : Type} [DecidableEq K]
def upd {β : Type} (f : K → β) (q : K) (v : β) : K → β := fun k => if k = q then v else f k
theorem wx {β : Type} (f : K → β) (q : K) (v : β) : upd f q v q = v := by simp [upd]
theorem wI {β : Type} (f : K → β) {q k : K} (v : β) (h : k ≠ q) : upd f q v k = f k := by simp [upd, h]
def MapF (enc : K → Value) (val : V → Value) (f : K → Option V) (o : Obj) : Prop := ∃ al, MapOk enc val al o ∧ ∀ k, zi al k = f k
theorem kA (enc : K → Value) (val : V → Value) : MapF enc val (fun _ => none) (.map #[] 0) := ⟨[], MapOk.empty enc val, fun _ => rfl⟩
theorem MapF.congr {enc : K → Value} {val : V → Value} {f g : K → Option V} {o : Obj} (h : MapF enc val f o) (e : ∀ k, f k = g k) : MapF enc val g o := by
  obtain ⟨al, h1, h2⟩ := h; exact ⟨al, h1, fun k => (h2 k).trans (e k)⟩
theorem y1 {x y : Operand} {t kt et ty r : Nat} {enc : K → Value} {val : V → Value} {f : K → Option V} {ob : Obj} {S : Obj → Res} {z : V} {q : K} [ht : j9 P t kt et] [hz : TyZero P et (val z)] [hk : KeyOf P kt enc]
    (hx : opv E x = some (.map (some r))) (hy : opv E y = some (enc q)) [ha : At L r ob S] (ho : MapF enc val f ob) :
    Op1 P N w0 E L (.lookup t x y false) ty (val ((f q).getD z)) L := by
  obtain ⟨al, h1, h2⟩ := ho
  have := op_lookup (P := P) (N := N) (w0 := w0) (E := E) (ty := ty) (ht := ht) (hz := hz) (hk := hk) hx hy (ha := ha) h1
  rw [h2 q] at this
  cases h : f q <;> simpa [h] using this
theorem yO {x y : Operand} {t kt et ty r : Nat} {enc : K → Value} {val : V → Value} {f : K → Option V} {ob : Obj} {S : Obj → Res} {z : V} {q : K} [ht : j9 P t kt et] [hz : TyZero P et (val z)] [hk : KeyOf P kt enc]
    (hx : opv E x = some (.map (some r))) (hy : opv E y = some (enc q)) [ha : At L r ob S] (ho : MapF enc val f ob) :
    Op1 P N w0 E L (.lookup t x y true) ty (.tuple [val ((f q).getD z), .bool (f q).isSome].toArray) L := by
  obtain ⟨al, h1, h2⟩ := ho
  have := op_lookup2 (P := P) (N := N) (w0 := w0) (E := E) (ty := ty) (ht := ht) (hz := hz) (hk := hk) hx hy (ha := ha) h1
  rw [h2 q] at this
  cases h : f q <;> simpa [h] using this
theorem wu {x y z : Operand} {t kt et ty r : Nat} {enc : K → Value} {val : V → Value} {f : K → Option V} {ob : Obj} {S : Obj → Res} {q : K} {v : V} [ht : j9 P t kt et] [hk : KeyOf P kt enc]
    (hx : opv E x = some (.map (some r))) (hy : opv E y = some (enc q)) (hv : opv E z = some (val v)) [ha : At L r ob S] (ho : MapF enc val f ob) :
    OpT P N w0 E L (.mapUpdate t x y z) ty (fun _ L' => ∃ ob', MapF enc val (upd f q (some v)) ob' ∧ L' = S ob') := by
  obtain ⟨al, h1, h2⟩ := ho
  refine OpT.mono (op_mapUpdate hx hy hv (ha := ha) h1) (fun _ L' h => ?_)
  obtain ⟨ob', h3, h4⟩ := h
  exact ⟨ob', ⟨_, h3, fun k => by rw [yK, h2]; rfl⟩, h4⟩
theorem jh {x y z : Operand} {t kt et ty r : Nat} {enc : K → Value} {val : V → Value} {f : K → Option V} {ob : Obj} {S : Obj → Res} {q : K} {v : V} [ht : j9 P t kt et] [hk : KeyOf P kt enc]
    (hx : opv E x = some (.map (some r))) (hy : opv E y = some (enc q)) (hv : opv E z = some (val v)) [ha : At L r ob S] (ho : MapF enc val f ob) :
    OpT P N w0 E L (.insert t x y z) ty (fun _ L' => ∃ ob', MapF enc val (upd f q (some v)) ob' ∧ L' = S ob') := by
  obtain ⟨al, h1, h2⟩ := ho
  refine OpT.mono (op_insert hx hy hv (ha := ha) h1) (fun _ L' h => ?_)
  obtain ⟨ob', h3, h4⟩ := h
  exact ⟨ob', ⟨_, h3, fun k => by rw [yK, h2]; rfl⟩, h4⟩
theorem ji {x y : Operand} {t t' kt et ty r : Nat} {enc : K → Value} {val : V → Value} {f : K → Option V} {ob : Obj} {S : Obj → Res} {q : K} [ht : j9 P t kt et] [hk : KeyOf P kt enc]
    (hx : opv E x = some (.map (some r))) (hy : opv E y = some (enc q)) [ha : At L r ob S] (ho : MapF enc val f ob) :
    OpT P N w0 E L (.call ⟨.builtin .delete, #[x, y], #[t, t']⟩) ty (fun _ L' => ∃ ob', MapF enc val (upd f q none) ob' ∧ L' = S ob') := by
  obtain ⟨al, h1, h2⟩ := ho
  refine OpT.mono (op_delete hx hy (ha := ha) h1) (fun _ L' h => ?_)
  obtain ⟨ob', h3, h4⟩ := h
  exact ⟨ob', ⟨_, h3, fun k => by rw [alGet_del h1.nodup, h2]; rfl⟩, h4⟩
theorem IterOk.nodup {m n : Nat} {mo o : Obj} {vis : List Nat} (h : IterOk m mo n vis o) : vis.Nodup := by obtain ⟨_, _, _, _, h, _⟩ := h; exact h
theorem IterOk.lt {m n : Nat} {mo o : Obj} {vis : List Nat} (h : IterOk m mo n vis o) : ∀ i ∈ vis, i < n := by obtain ⟨_, _, _, _, _, h, _⟩ := h; exact h
theorem IterOk.full {m n : Nat} {mo o : Obj} {vis : List Nat} (h : IterOk m mo n vis o) (hl : vis.length = n) : ∀ i, i < n → i ∈ vis := fun i hi => by
  apply Classical.byContradiction
  intro hni
  have h1 : (i :: vis).Nodup := List.nodup_cons.2 ⟨hni, h.nodup⟩
  have h2 := yJ (l2 := List.range n) h1 (fun x hx => by
    rcases List.mem_cons.1 hx with rfl | hx
    · exact List.mem_range.2 hi
    · exact List.mem_range.2 (h.lt x hx))
  simp at h2; omega
def kC {K V : Type} (al : List (K × V)) (vis : List Nat) (k : K) : Prop := ∃ i ∈ vis, ∃ v, al[i]? = some (k, v)
theorem Qv {K V : Type} {al : List (K × V)} {k : K} : ¬ kC al [] k := fun ⟨_, h, _⟩ => by cases h
theorem yd {K V : Type} {al : List (K × V)} {vis : List Nat} {i : Nat} {p : K × V} (hp : al[i]? = some p) (k : K) : kC al (vis ++ [i]) k ↔ kC al vis k ∨ k = p.1 := by
  constructor
  · rintro ⟨j, hj, v, hv⟩
    rcases List.mem_append.1 hj with hj | hj
    · exact .inl ⟨j, hj, v, hv⟩
    · obtain rfl := List.mem_singleton.1 hj
      rw [hp] at hv; cases hv; exact .inr rfl
  · rintro (⟨j, hj, v, hv⟩ | rfl)
    · exact ⟨j, List.mem_append_left _ hj, v, hv⟩
    · exact ⟨i, by simp, p.2, hp⟩
theorem Q2 {al : List (K × V)} {m : Nat} {mo o : Obj} {vis : List Nat} (h : IterOk m mo al.length vis o) (hl : vis.length = al.length) (k : K) : kC al vis k ↔ ∃ v, zi al k = some v := by
  constructor
  · rintro ⟨i, _, v, hv⟩
    cases hg : zi al k with
    | some v => exact ⟨v, rfl⟩
    | none =>
      rw [Wy] at hg
      exact absurd (List.mem_map.2 ⟨_, List.mem_of_getElem? hv, rfl⟩) hg
  · rintro ⟨v, hv⟩
    obtain ⟨i, hi, e⟩ := List.mem_iff_getElem.1 (alGet_mem hv)
    exact ⟨i, h.full hl i hi, v, by rw [List.getElem?_eq_getElem hi, e]⟩
theorem FnT.post {f : FuncId} {args : Array Value} {R R' : Value → Res → Prop} (h : FnT P w0 f args L R) (hR : ∀ v L', R v L' → ∃ L'', R' v L'' ∧ ∀ w, Own w0 L' w → Own w0 L'' w) : FnT P w0 f args L R' :=
  ⟨fun w hw => (h.h w hw).mono fun e w' ⟨v, L', e1, hr, ho⟩ => by
    obtain ⟨L'', h1, h2⟩ := hR v L' hr
    exact ⟨v, L'', e1, h1, h2 _ ho⟩⟩
theorem wH {L L' : Res} (h : L.flatten = L'.flatten) : ∀ w, Own w0 L w → Own w0 L' w := fun _ hw => hw.perm (by rw [h])
end
end Go.Sx
namespace Go.Proofs.YtjikpomndbkfgaaGreatDoor
open Go Go.Sx Go.Nd
variable {w0 : World} {L F : Res}
set_option maxRecDepth 10000
structure NS where
  num : Int
  ver : Int
  kind : Int
  size : Int
  time : Int
  at_ : Int × Int → Option Int
  data : Int → Option Sec
  stale : Int × Int → Option Int
  gone : List Int
def kf (s : Sec) : Value := .agg (wW s).toArray
def wz (n : NS) (ma md ms : Nat) (u : Value) : List Value := [.int .u32 n.num, .int .u32 n.ver, .int .i64 n.kind, .int .i64 n.size, .int .u32 n.time, .map (some ma), .map (some md), .map (some ms), u]
def NodeC (p : Nat) (n : NS) (Cn : qM) : Prop := ∃ ma md ms oa od os u C, Cn = (p, .cells (wz n ma md ms u).toArray 90 (0, 0)) :: (ma, oa) :: (md, od) :: (ms, os) :: C ∧
  MapF yU (Value.int .i64) n.at_ oa ∧ MapF (Value.int .i64) kf n.data od ∧ MapF yU (Value.int .i64) n.stale os ∧ SlC 3 1 u n.gone.length (iV n.gone) C
def WK (p : Nat) (n : NS) (Cn : qM) : Prop := ∃ ma md ms oa od os u C, Cn = (p, .cells (wz n ma md ms u).toArray 90 (0, 0)) :: (ma, oa) :: (md, od) :: (ms, os) :: C ∧
  MapF yU (Value.int .i64) n.at_ oa ∧ MapF (Value.int .i64) kf n.data od ∧ MapF yU (Value.int .i64) n.stale os
theorem Kb {p : Nat} {n : NS} {Cn : qM} (h : NodeC p n Cn) : WK p n Cn := by
  obtain ⟨ma, md, ms, oa, od, os, u, C, e, h1, h2, h3, _⟩ := h
  exact ⟨ma, md, ms, oa, od, os, u, C, e, h1, h2, h3⟩
def kJ (G : qM) : Prop := ∃ e0 f0 e1 f1 e2 f2, G = [(0, .cells [Value.int .i64 2, Value.int .i64 0].toArray e0 f0), (1, .cells [Value.int .i64 4, Value.int .i64 0].toArray e1 f1), (2, .cells [Value.int .i64 3, Value.int .i64 0].toArray e2 f2)]
def kK (p : Nat) (n : NS) (ma md ms : Nat) (oa od os : Obj) (u : Value) (C : qM) (F : Res) : Res :=
  [(p, .cells (wz n ma md ms u).toArray 90 (0, 0))] :: [(ma, oa)] :: [(md, od)] :: [(ms, os)] :: C :: F
structure KJ (n : NS) (oa od os : Obj) (u : Value) (C : qM) : Prop where
  a : MapF yU (Value.int .i64) n.at_ oa
  d : MapF (Value.int .i64) kf n.data od
  s : MapF yU (Value.int .i64) n.stale os
  g : SlC 3 1 u n.gone.length (iV n.gone) C
structure V7 (n : NS) (oa od os : Obj) : Prop where
  a : MapF yU (Value.int .i64) n.at_ oa
  d : MapF (Value.int .i64) kf n.data od
  s : MapF yU (Value.int .i64) n.stale os
def NodeO (p : Nat) (n : NS) (F L' : Res) : Prop := ∃ ma md ms oa od os u C, KJ n oa od os u C ∧ L' = kK p n ma md ms oa od os u C F
def xW (e0 : Nat) (f0 : Nat × Nat) (e1 : Nat) (f1 : Nat × Nat) (e2 : Nat) (f2 : Nat × Nat) (F : Res) : Res :=
  [(0, .cells [Value.int .i64 2, Value.int .i64 0].toArray e0 f0)] :: [(1, .cells [Value.int .i64 4, Value.int .i64 0].toArray e1 f1)] :: [(2, .cells [Value.int .i64 3, Value.int .i64 0].toArray e2 f2)] :: F
theorem NodeO.shut {p : Nat} {n : NS} {F L' : Res} (h : NodeO p n F L') : ∃ Cn, NodeC p n Cn ∧ ∀ w, Own w0 L' w → Own w0 (Cn :: F) w := by
  obtain ⟨ma, md, ms, oa, od, os, u, C, hm, rfl⟩ := h
  exact ⟨_, ⟨ma, md, ms, oa, od, os, u, C, rfl, hm.a, hm.d, hm.s, hm.g⟩, wH (by simp [kK])⟩
section
variable {p : Nat} {n : NS} {Cn : qM} {f : FuncId} {args : Array Value}
theorem Ka {R : Value → Res → Prop} (hn : NodeC p n Cn)
    (h : ∀ ma md ms oa od os u C, KJ n oa od os u C → FnT Tryz.prog w0 f args (kK p n ma md ms oa od os u C F) R) : FnT Tryz.prog w0 f args (Cn :: F) R := by
  obtain ⟨ma, md, ms, oa, od, os, u, C, rfl, h1, h2, h3, h4⟩ := hn
  exact (h ma md ms oa od os u C ⟨h1, h2, h3, h4⟩).pre (wH (by simp [kK]))
theorem Zh {Rv : Value → Prop} (hn : NodeC p n Cn)
    (h : ∀ ma md ms oa od os u C, KJ n oa od os u C → FnT Tryz.prog w0 f args (kK p n ma md ms oa od os u C F) (fun v L' => Rv v ∧ L' = kK p n ma md ms oa od os u C F)) : FnT Tryz.prog w0 f args (Cn :: F) (fun v L' => Rv v ∧ L' = Cn :: F) := by
  obtain ⟨ma, md, ms, oa, od, os, u, C, rfl, h1, h2, h3, h4⟩ := hn
  exact ((h ma md ms oa od os u C ⟨h1, h2, h3, h4⟩).pre (wH (by simp [kK]))).post fun v L' ⟨e1, e2⟩ => ⟨_, ⟨e1, rfl⟩, by subst e2; exact wH (by simp [kK])⟩
theorem Yn {Rv : Value → Prop} (hn : WK p n Cn)
    (h : ∀ ma md ms oa od os u C, V7 n oa od os → FnT Tryz.prog w0 f args (kK p n ma md ms oa od os u C F) (fun v L' => Rv v ∧ L' = kK p n ma md ms oa od os u C F)) : FnT Tryz.prog w0 f args (Cn :: F) (fun v L' => Rv v ∧ L' = Cn :: F) := by
  obtain ⟨ma, md, ms, oa, od, os, u, C, rfl, h1, h2, h3⟩ := hn
  exact ((h ma md ms oa od os u C ⟨h1, h2, h3⟩).pre (wH (by simp [kK]))).post fun v L' ⟨e1, e2⟩ => ⟨_, ⟨e1, rfl⟩, by subst e2; exact wH (by simp [kK])⟩
theorem nodeg_read0 {G : qM} {Rv : Value → Prop} (hn : WK p n Cn) (hg : kJ G)
    (h : ∀ ma md ms oa od os u C e0 f0 e1 f1 e2 f2, V7 n oa od os → FnT Tryz.prog w0 f args (kK p n ma md ms oa od os u C (xW e0 f0 e1 f1 e2 f2 F)) (fun v L' => Rv v ∧ L' = kK p n ma md ms oa od os u C (xW e0 f0 e1 f1 e2 f2 F))) : FnT Tryz.prog w0 f args (Cn :: G :: F) (fun v L' => Rv v ∧ L' = Cn :: G :: F) := by
  obtain ⟨ma, md, ms, oa, od, os, u, C, rfl, h1, h2, h3⟩ := hn
  obtain ⟨e0, f0, e1, f1, e2, f2, rfl⟩ := hg
  exact ((h ma md ms oa od os u C e0 f0 e1 f1 e2 f2 ⟨h1, h2, h3⟩).pre (wH (by simp [kK, xW]))).post fun v L' ⟨e1, e2⟩ => ⟨_, ⟨e1, rfl⟩, by subst e2; exact wH (by simp [kK, xW])⟩
theorem glob_read {G : qM} {Rv : Value → Prop} (hg : kJ G)
    (h : ∀ e0 f0 e1 f1 e2 f2, FnT Tryz.prog w0 f args (xW e0 f0 e1 f1 e2 f2 F) (fun v L' => Rv v ∧ L' = xW e0 f0 e1 f1 e2 f2 F)) : FnT Tryz.prog w0 f args (G :: F) (fun v L' => Rv v ∧ L' = G :: F) := by
  obtain ⟨e0, f0, e1, f1, e2, f2, rfl⟩ := hg
  exact ((h e0 f0 e1 f1 e2 f2).pre (wH (by simp [xW]))).post fun v L' ⟨e1, e2⟩ => ⟨_, ⟨e1, rfl⟩, by subst e2; exact wH (by simp [xW])⟩
theorem node_change {n' : NS} {Rv : Value → Prop} (hn : NodeC p n Cn)
    (h : ∀ ma md ms oa od os u C, KJ n oa od os u C → FnT Tryz.prog w0 f args (kK p n ma md ms oa od os u C F) (fun v L' => Rv v ∧ NodeO p n' F L')) : FnT Tryz.prog w0 f args (Cn :: F) (fun v L' => Rv v ∧ ∃ Cn', NodeC p n' Cn' ∧ L' = Cn' :: F) := by
  refine (Ka hn h).post fun v L' ⟨e1, e2⟩ => ?_
  obtain ⟨Cn', h1, h2⟩ := e2.shut (w0 := w0)
  exact ⟨_, ⟨e1, Cn', h1, rfl⟩, h2⟩
theorem nodeg_change {G : qM} {n' : NS} {Rv : Value → Prop} (hn : NodeC p n Cn) (hg : kJ G)
    (h : ∀ ma md ms oa od os u C e0 f0 e1 f1 e2 f2, KJ n oa od os u C → FnT Tryz.prog w0 f args (kK p n ma md ms oa od os u C (xW e0 f0 e1 f1 e2 f2 F)) (fun v L' => Rv v ∧ NodeO p n' (xW e0 f0 e1 f1 e2 f2 F) L')) : FnT Tryz.prog w0 f args (Cn :: G :: F) (fun v L' => Rv v ∧ ∃ Cn', NodeC p n' Cn' ∧ L' = Cn' :: G :: F) := by
  obtain ⟨e0, f0, e1, f1, e2, f2, rfl⟩ := hg
  refine ((Ka hn fun ma md ms oa od os u C hm => h ma md ms oa od os u C e0 f0 e1 f1 e2 f2 hm).pre (wH (by simp [xW]))).post fun v L' ⟨e1, e2⟩ => ?_
  obtain ⟨Cn', h1, h2⟩ := e2.shut (w0 := w0)
  exact ⟨_, ⟨e1, Cn', h1, rfl⟩, fun w hw => (wH (by simp [xW])) w (h2 w hw)⟩
end
theorem J8 (p : Nat) (n : NS) (Cn : qM) (hn : NodeC p n Cn) : FnT Tryz.prog w0 10 #[.pointer (some ⟨p, 0, none⟩)] (Cn :: F) (fun v L' => v = .int .i64 n.size ∧ L' = Cn :: F) := by
  refine Zh hn ?_
  intro ma md ms oa od os u C hm
  unfold kK wz
  refine FnT.enter (E0 := [(0, _)]) (N := 7) Tryz.func10 rfl rfl rfl rfl ?_
  refine Tr.seq <| Tr.region <| q9 (qC rfl) <| qB <| QAt.seq <| Tr.seq <| Tr.region <| q9 (qA rfl) <| q9 (qJ rfl) <| q9 (qD rfl) <| q9 (qG rfl rfl) <| q9 (qC rfl) <| qB <| QAt.seq <| Tr.ret <| zW (.inl rfl) rfl (qd rfl) ?_
  exact ⟨rfl, rfl⟩
def wj (i : Int) : Int × Int := if (w8 i).1 = 1 then (3, 0) else if (w8 i).1 = 2 then (5, (w8 i).2.1) else (2, 0)
theorem ZT (i : Int) (G : qM) (hg : kJ G) (hi : -9223372036854775808 ≤ i ∧ i ≤ 9223372036854775807) : FnT Tryz.prog w0 70 #[.int .i64 i] (G :: F) (fun v L' => v = yU (wj i) ∧ L' = G :: F) := by
  refine glob_read hg ?_
  intro e0 f0 e1 f1 e2 f2
  unfold xW
  refine FnT.enter (E0 := [(0, _)]) (N := 21) Tryz.func70 rfl rfl rfl rfl ?_
  refine Tr.seq <| Tr.region <| qF (qV) ?_
  rintro t2 _ ⟨b2, rfl, rfl⟩
  refine qB <| QAt.seq <| Tr.seq <| Tr.seq <| Tr.region <| q9 (qA rfl) <| q9 (qw rfl (Xb i hi)) <| q9 (qA rfl) <| q9 (qR rfl rfl) <| q9 (qR rfl rfl) <| qF (qV) ?_
  rintro t3 _ ⟨b3, rfl, rfl⟩
  refine qK (wJ rfl rfl rfl rfl) <| q9 (qC rfl) <| qB <| QAt.seq <| Tr.seq <| Tr.region <| q9 (qD rfl) <| q9 (qG rfl rfl) <| qB <| QAt.seq <| Tr.block <| Tr.seq <| Tr.region <| q9 (wR rfl rfl) <| q9 (qC rfl) <| qB <| QAt.seq <| qI rfl (fun hc3 => ?_) (fun hc3 => ?_)
  ·
   refine Tr.seq <| Tr.region <| q9 (wE rfl) <| qK (wJ rfl rfl rfl rfl) <| qB <| QAt.seq <| Tr.ret <| qu <| qe <| qs ([(0, .cells [Value.int .i64 2, Value.int .i64 0].toArray e0 f0)] :: [(1, .cells [Value.int .i64 4, Value.int .i64 0].toArray e1 f1)] :: [(2, .cells [Value.int .i64 3, Value.int .i64 0].toArray e2 f2)] :: F) (.inl rfl) rfl (zB rfl) ?_
   exact ⟨by unfold wj; rw [if_pos hc3]; rfl, rfl⟩
  ·
   refine Tr.seq <| Tr.region <| q9 (wR rfl rfl) <| q9 (qC rfl) <| qB <| QAt.seq <| qI rfl (fun hc5 => ?_) (fun hc5 => ?_)
   ·
    refine Tr.seq <| Tr.region <| q9 (qD rfl) <| q9 (qG rfl rfl) <| q9 (wF rfl) <| qK (wJ rfl rfl rfl rfl) <| qB <| QAt.seq <| Tr.ret <| qu <| qe <| qs ([(0, .cells [Value.int .i64 2, Value.int .i64 0].toArray e0 f0)] :: [(1, .cells [Value.int .i64 4, Value.int .i64 0].toArray e1 f1)] :: [(2, .cells [Value.int .i64 3, Value.int .i64 0].toArray e2 f2)] :: F) (.inl rfl) rfl (zB rfl) ?_
    exact ⟨by unfold wj; rw [if_neg hc3, if_pos hc5]; rfl, rfl⟩
   ·
    refine Tr.skip <| QAt.block <| QAt.seq <| Tr.seq <| Tr.region <| q9 (wE rfl) <| qK (wJ rfl rfl rfl rfl) <| qB <| QAt.seq <| Tr.ret <| qs ([(0, .cells [Value.int .i64 2, Value.int .i64 0].toArray e0 f0)] :: [(1, .cells [Value.int .i64 4, Value.int .i64 0].toArray e1 f1)] :: [(2, .cells [Value.int .i64 3, Value.int .i64 0].toArray e2 f2)] :: F) (.inl rfl) rfl (zB rfl) ?_
    exact ⟨by unfold wj; rw [if_neg hc3, if_neg hc5]; rfl, rfl⟩
def blk (n : NS) (g : Int → Option Sec) (i : Int) : Option Sec :=
  match n.data i with
  | some s => some s
  | none => if (n.at_ (1, i)).getD 0 ≠ 0 then g ((n.at_ (1, i)).getD 0) else some Sec.zero
def jk (n : NS) (i : Int) : Prop := (n.data i).isSome = true ∨ (n.at_ (1, i)).getD 0 ≠ 0
instance (n : NS) (i : Int) : Decidable (jk n i) := by unfold jk; infer_instance
theorem has_spec (p : Nat) (n : NS) (Cn : qM) (hn : NodeC p n Cn) (i : Int) : FnT Tryz.prog w0 41 #[.pointer (some ⟨p, 0, none⟩), .int .i64 i] (Cn :: F) (fun v L' => v = .bool (decide (jk n i)) ∧ L' = Cn :: F) := by
  refine Zh hn ?_
  intro ma md ms oa od os u C hm
  unfold kK wz
  refine FnT.enter (E0 := [(0, _), (1, _)]) (N := 27) Tryz.func41 rfl rfl rfl rfl ?_
  refine Tr.seq <| Tr.region <| q9 (qC rfl) <| qB <| QAt.seq <| Tr.seq <| Tr.region <| q9 (qA rfl) <| q9 (qJ rfl) <| q9 (qD rfl) <| q9 (qG rfl rfl) <| q9 (qA rfl) <| q9 (yO (z := Sec.zero) (q := i) rfl rfl hm.d) <| q9 (qA rfl) <| q9 (qR rfl rfl) <| q9 (qR rfl rfl) <| qF (qV) ?_
  rintro t5 _ ⟨b5, rfl, rfl⟩
  refine qK (qW rfl rfl (by simp) (by simp) (wS _)) ?_
  refine q9 (qC rfl) <| qB <| QAt.seq <| Tr.seq <| Tr.region <| q9 (qA rfl) <| q9 (qA rfl) <| TrOs.split (s := 17) rfl (fun hg2_1 => ?_) (fun hg2_1 => ?_)
  ·
   refine qH rfl rfl rfl <| qH rfl rfl rfl <| qH rfl rfl rfl <| qH rfl rfl rfl <| qH rfl rfl rfl <| qH rfl rfl rfl <| qH rfl rfl rfl <| qH rfl rfl rfl <| q9 (qT rfl rfl) <| q9 (qC rfl) <| qB <| QAt.seq <| Tr.ret <| qs ([(p, .cells [.int .u32 n.num, .int .u32 n.ver, .int .i64 n.kind, .int .i64 n.size, .int .u32 n.time, .map (some ma), .map (some md), .map (some ms), u].toArray 90 (0, 0))] :: [(ma, oa)] :: [(md, od)] :: [(ms, os)] :: C :: F) (.inl rfl) rfl (qd rfl) <| ⟨?_, rfl⟩
   first | (rw [decide_eq_true (show jk n i from .inl hg2_1)]) | (congr 1; simp [jk, hg2_1])
  ·
   refine qE rfl rfl (qA rfl) <| qE rfl rfl (qJ rfl) <| qE rfl rfl (qD rfl) <| qE rfl rfl (qG rfl rfl) <| qE rfl rfl (qA rfl) <| qE rfl rfl (wF rfl) <| qE rfl rfl (y1 (z := 0) (q := (1, i)) rfl rfl hm.a) <| qE rfl rfl (wZ rfl rfl) <| q9 (qL rfl rfl) <| q9 (qC rfl) <| qB <| QAt.seq <| Tr.ret <| qs ([(p, .cells [.int .u32 n.num, .int .u32 n.ver, .int .i64 n.kind, .int .i64 n.size, .int .u32 n.time, .map (some ma), .map (some md), .map (some ms), u].toArray 90 (0, 0))] :: [(ma, oa)] :: [(md, od)] :: [(ms, os)] :: C :: F) (.inl rfl) rfl (qd rfl) <| ⟨?_, rfl⟩
   first | (rw [decide_eq_true (show jk n i from .inl hg2_1)]) | (congr 1; simp [jk, hg2_1])
def YJ (rv : Value) (D : qM) (g : Int → Option Sec) : Prop := ∀ (w0 : World) (F : Res) (a : Int), FnV Tryz.prog w0 rv [.int .i64 a] (D :: F) (fun v L' => v = .tuple #[kf ((g a).getD Sec.zero), .int .i64 (if (g a).isSome then 0 else 20)] ∧ L' = D :: F)
theorem ZW {P : Program} {w0 : World} {L F : Res} {g : Value} {vs : List Value} {v : Value} (c1 : qM) [ht : Take L [c1] F] (h : FnV P w0 g vs (c1 :: F) (fun v' L' => v' = v ∧ L' = c1 :: F)) : FnV P w0 g vs L (fun v' L' => v' = v ∧ L' = L) := by
  obtain ⟨f, first, captured, e1, e2, e3⟩ := h.ex
  exact ⟨f, first, captured, e1, e2, zM c1 e3⟩
theorem X0 {n : NS} {g : Int → Option Sec} {i : Int} {s : Sec} (h : n.data i = some s) : blk n g i = some s := by unfold blk; rw [h]
theorem X1 {n : NS} {g : Int → Option Sec} {i : Int} (h : n.data i = none) (h1 : (n.at_ (1, i)).getD 0 ≠ 0) : blk n g i = g ((n.at_ (1, i)).getD 0) := by unfold blk; rw [h]; exact if_pos h1
theorem X3 {n : NS} {g : Int → Option Sec} {i : Int} (h : n.data i = none) (h1 : ¬ (n.at_ (1, i)).getD 0 ≠ 0) : blk n g i = some Sec.zero := by unfold blk; rw [h]; exact if_neg h1
theorem KB (p : Nat) (n : NS) (Cn D : qM) (hn : NodeC p n Cn) (i : Int) (rv : Value) (g : Int → Option Sec) (hr : YJ rv D g) :
    FnT Tryz.prog w0 38 #[.pointer (some ⟨p, 0, none⟩), .int .i64 i, rv] (Cn :: D :: F) (fun v L' => v = .tuple #[kf ((blk n g i).getD Sec.zero), .int .i64 (if (blk n g i).isSome then 0 else 20)] ∧ L' = Cn :: D :: F) := by
  refine Zh (F := D :: F) (Rv := fun v => v = .tuple #[kf ((blk n g i).getD Sec.zero), .int .i64 (if (blk n g i).isSome then 0 else 20)]) hn ?_
  intro ma md ms oa od os u C hm
  unfold kK wz
  refine FnT.enter (E0 := [(0, _), (1, _), (2, _)]) (N := 37) Tryz.func38 rfl rfl rfl rfl ?_
  refine Tr.seq <| Tr.region <| qF (qV) ?_
  rintro t6 _ ⟨b6, rfl, rfl⟩
  refine q9 (qC rfl) <| qB <| QAt.seq <| Tr.seq <| Tr.seq <| Tr.region <| q9 (qA rfl) <| q9 (qJ rfl) <| q9 (qD rfl) <| q9 (qG rfl rfl) <| q9 (qA rfl) <| q9 (yO (z := Sec.zero) (q := i) rfl rfl hm.d) <| q9 (qA rfl) <| q9 (qR rfl rfl) <| q9 (qR rfl rfl) <| qF (qV) ?_
  rintro t8 _ ⟨b8, rfl, rfl⟩
  refine qK (qW rfl rfl (by simp) (by simp) (wS _)) ?_
  refine q9 (qC rfl) <| qB <| QAt.seq <| Tr.seq <| Tr.region <| q9 (qA rfl) <| qB <| QAt.seq <| Tr.cond rfl (fun hc2 => ?_) (fun hc2 => ?_)
  ·
   refine Tr.seq <| Tr.region <| q9 (w7 rfl (by simp)) ?_
   refine qK (qW rfl rfl (by simp) (by simp) (wS _)) ?_
   refine q9 (qC rfl) <| qB <| QAt.seq <| Tr.ret <| qe <| wC ([(p, .cells [.int .u32 n.num, .int .u32 n.ver, .int .i64 n.kind, .int .i64 n.size, .int .u32 n.time, .map (some ma), .map (some md), .map (some ms), u].toArray 90 (0, 0))] :: [(ma, oa)] :: [(md, od)] :: [(ms, os)] :: C :: D :: F) (.inl rfl) rfl (z7 rfl (by first | exact zD _ | simp)) (qd rfl) ?_
   obtain ⟨s, hs⟩ := Option.isSome_iff_exists.1 hc2
   exact ⟨by rw [X0 hs, hs]; rfl, rfl⟩
  ·
   refine Tr.skip <| QAt.seq <| Tr.seq <| Tr.seq <| Tr.region <| q9 (qA rfl) <| q9 (qJ rfl) <| q9 (qD rfl) <| q9 (qG rfl rfl) <| q9 (qA rfl) <| q9 (wF rfl) <| q9 (y1 (z := 0) (q := (1, i)) rfl rfl hm.a) <| q9 (qC rfl) <| qB <| QAt.seq <| Tr.seq <| Tr.region <| q9 (qA rfl) <| q9 (wZ rfl rfl) <| qB <| QAt.seq <| qI rfl (fun hc5 => ?_) (fun hc5 => ?_)
   ·
    refine Tr.seq <| Tr.region <| q9 (qA rfl) <| q9 (qA rfl) <| q9 (yw rfl rfl (ZW D (hr w0 _ _))) <| q9 (qR rfl rfl) <| q9 (qR rfl rfl) <| qK (qW rfl rfl (by simp) (by simp) (wS _)) ?_
    refine q9 (qC rfl) <| qB <| QAt.seq <| Tr.ret <| qe <| wC ([(p, .cells [.int .u32 n.num, .int .u32 n.ver, .int .i64 n.kind, .int .i64 n.size, .int .u32 n.time, .map (some ma), .map (some md), .map (some ms), u].toArray 90 (0, 0))] :: [(ma, oa)] :: [(md, od)] :: [(ms, os)] :: C :: D :: F) (.inl rfl) rfl (z7 rfl (by first | exact zD _ | simp)) (qd rfl) ?_
    have h0 : n.data i = none := by simpa using hc2
    exact ⟨by rw [X1 h0 hc5]; rfl, rfl⟩
   ·
    refine Tr.skip <| QAt.seq <| Tr.seq <| Tr.region <| q9 (yn (z := kf Sec.zero) rfl Tryz.underlying55 rfl (fun _ h => by cases h) (fun _ _ h => by cases h; exact ⟨_, inferInstance⟩)) ?_
    refine qK (qW rfl rfl (by simp) (by simp) (wS _)) ?_
    refine q9 (qC rfl) <| qB <| QAt.seq <| Tr.ret <| wC ([(p, .cells [.int .u32 n.num, .int .u32 n.ver, .int .i64 n.kind, .int .i64 n.size, .int .u32 n.time, .map (some ma), .map (some md), .map (some ms), u].toArray 90 (0, 0))] :: [(ma, oa)] :: [(md, od)] :: [(ms, os)] :: C :: D :: F) (.inl rfl) rfl (z7 rfl (by first | exact zD _ | simp)) (qd rfl) ?_
    have h0 : n.data i = none := by simpa using hc2
    exact ⟨by rw [X3 h0 hc5]; rfl, rfl⟩
theorem NodeC.eq {p : Nat} {n : NS} {Cn : qM} (h : NodeC p n Cn) : ∃ ma md ms oa od os u C, KJ n oa od os u C ∧ Cn = (p, .cells (wz n ma md ms u).toArray 90 (0, 0)) :: (ma, oa) :: (md, od) :: (ms, os) :: C := by
  obtain ⟨ma, md, ms, oa, od, os, u, C, e, h1, h2, h3, h4⟩ := h
  exact ⟨ma, md, ms, oa, od, os, u, C, ⟨h1, h2, h3, h4⟩, e⟩
def xg (n : NS) (g : Int → Option Sec) : List (Int × Int × Int) → Option (List Int)
  | [] => some []
  | q :: l => match blk n g q.1, xg n g l with
    | some s, some bs => some ((s.l.drop q.2.1.toNat).take (q.2.2 - q.2.1).toNat ++ bs)
    | _, _ => none
theorem readL_snoc {n : NS} {g : Int → Option Sec} {l : List (Int × Int × Int)} {bs : List Int} {q : Int × Int × Int} {s : Sec} (h : xg n g l = some bs) (hs : blk n g q.1 = some s) :
    xg n g (l ++ [q]) = some (bs ++ (s.l.drop q.2.1.toNat).take (q.2.2 - q.2.1).toNat) := by
  induction l generalizing bs with
  | nil => cases h; simp [xg, hs]
  | cons x l ih =>
    simp only [xg, List.cons_append] at h ⊢
    cases hb : blk n g x.1 with
    | none => rw [hb] at h; cases h
    | some t =>
      cases hl : xg n g l with
      | none => rw [hb, hl] at h; cases h
      | some cs =>
        rw [hb, hl] at h
        cases h
        rw [ih hl]
        simp
theorem readL_none {n : NS} {g : Int → Option Sec} {l : List (Int × Int × Int)} {q : Int × Int × Int} (h : q ∈ l) (hs : blk n g q.1 = none) : xg n g l = none := by
  induction l with
  | nil => cases h
  | cons x l ih =>
    simp only [xg]
    rcases List.mem_cons.1 h with rfl | h
    · rw [hs]
    · rw [ih h]; cases blk n g x.1 <;> rfl
theorem sec_take (s : Sec) {a b : Nat} (h1 : a ≤ b) (h2 : b ≤ 128) : ((wW s).drop a).take (b - a) = u8s ((s.l.drop a).take (b - a)) := by
  simp [wW, Qw, jR]
theorem Wj {p : Nat} (a b : Nat) (h : a < 128) : Value.slice (some (if 128 = a then (⟨p, 0, none⟩ : Addr) else ⟨p, 0 + a * 1, none⟩)) (b - a) (128 - a) = .slice (some ⟨p, a, none⟩) (b - a) (128 - a) := by
  rw [if_neg (by omega)]; simp
theorem read_node_ok (p : Nat) (n : NS) (Cn D : qM) (hn : NodeC p n Cn) (a m : Int) (rv : Value) (g : Int → Option Sec) (hr : YJ rv D g) (hsz : 0 ≤ n.size ∧ n.size ≤ 136192) (ha : 0 ≤ a ∧ a ≤ 9223372036854775807) (hm : 0 ≤ m ∧ m ≤ 9223372036854775807) :
    FnT Tryz.prog w0 9 #[.pointer (some ⟨p, 0, none⟩), .int .i64 a, .int .i64 m, rv] (Cn :: D :: F)
      (fun v L' => ∃ u2 C2, L' = C2 :: Cn :: D :: F ∧ (match xg n g (kN (min a n.size) (min m (n.size - min a n.size))) with
        | some bs => v = .tuple #[u2, .int .i64 0] ∧ SlC 5 1 u2 bs.length (u8s bs) C2
        | none => v = .tuple #[.slice none 0 0, .int .i64 20] ∧ C2 = [])) := by
  obtain ⟨ma, md, ms, oa, od, os, u, C, hM, hCn⟩ := hn.eq
  unfold wz at hCn
  have hE : kE (min a n.size) (min m (n.size - min a n.size)) = 0 := by unfold kE; rw [if_neg (by omega), if_neg (by omega)]
  obtain ⟨l, hl⟩ : ∃ l, kN (min a n.size) (min m (n.size - min a n.size)) = l := ⟨_, rfl⟩
  have hll := K5 (min a n.size) (min m (n.size - min a n.size))
  rw [hl] at hll ⊢
  refine FnT.enter (E0 := [(0, _), (1, _), (2, _), (3, _)]) (N := 72) Tryz.func9 rfl rfl rfl rfl ?_
  refine Tr.seq <| Tr.region <| q9 (qC rfl) <| q9 (qC rfl) <| qB <| QAt.seq <| Tr.seq <| Tr.seq <| Tr.region <| q9 (qA rfl) <| q9 (qv rfl rfl) <| q9 (qA rfl) <| qN (s := 19) rfl (fun hg1_2 => ?_) (fun hg1_2 => ?_)
  · (exfalso; omega)
  ·
   refine qE rfl rfl (qA rfl) <| qE rfl rfl (qv rfl rfl) <| q9 (qL rfl rfl) <| qB <| QAt.seq <| qI rfl (fun hc1 => ?_) (fun hc1 => ?_)
   · (exfalso; omega)
   ·
    refine Tr.skip <| QAt.seq <| Tr.seq <| yW (wH (L' := [(p, .cells [.int .u32 n.num, .int .u32 n.ver, .int .i64 n.kind, .int .i64 n.size, .int .u32 n.time, .map (some ma), .map (some md), .map (some ms), u].toArray 90 (0, 0))] :: [(ma, oa)] :: [(md, od)] :: [(ms, os)] :: C :: D :: F) (by rw [hCn]; simp)) ?_
    refine Tr.drawn qm <| qr [(24, .pure _), (25, .pure _), (26, .pure _), (27, .pure _), (28, .pure _), (29, .pure _), (30, .pure _), (31, .pure _), (32, .pure _), (33, .pure _), (34, .pure _), (35, .pure _), (36, .pure _), (37, .pure _), (38, .pure _), (39, .pure _), (40, .pure _), (41, .pure _), (42, .pure _)] (by kernel_rfl) rfl rfl rfl wL (ParH.pure rfl (fun X => qA rfl) <| ParH.pure rfl (fun X => qA rfl) <| ParH.pure rfl (fun X => qJ rfl) <| ParH.pure rfl (fun X => qD rfl) <| ParH.pure rfl (fun X => qG rfl rfl) <| ParH.pure rfl (fun X => Wq rfl rfl) <| ParH.pure rfl (fun X => qA rfl) <| ParH.pure rfl (fun X => qA rfl) <| ParH.pure rfl (fun X => qJ rfl) <| ParH.pure rfl (fun X => qD rfl) <| ParH.pure rfl (fun X => qG rfl rfl) <| ParH.pure rfl (fun X => qA rfl) <| ParH.pure rfl (fun X => qA rfl) <| ParH.pure rfl (fun X => qJ rfl) <| ParH.pure rfl (fun X => qD rfl) <| ParH.pure rfl (fun X => qG rfl rfl) <| ParH.pure rfl (fun X => Wq rfl rfl) <| ParH.pure rfl (fun X => zV rfl rfl (by omega)) <| ParH.pure rfl (fun X => Wq rfl rfl) <| ParH.nil rfl) ?_
    dsimp only [zG, List.drop, List.length]
    refine wa (by kernel_rfl) (qn rfl (Jw (min a n.size) (min m (n.size - min a n.size)) (by omega) (by omega))) ?_
    rintro t43 _ ⟨uc, Cc, rfl, rfl, hcu⟩
    refine qq (by kernel_rfl) (qA rfl) ?_
    refine qr [(44, .pure _), (45, .pure _), (10, .pure _)] (by kernel_rfl) rfl rfl rfl wL (ParH.pure rfl (fun X => qR rfl rfl) <| ParH.pure rfl (fun X => qR rfl rfl) <| ParH.pure rfl (fun X => qC rfl) <| ParH.nil rfl) ?_
    dsimp only [zG, List.drop, List.length]
    refine qq (by kernel_rfl) (qC rfl) ?_
    refine qt ?_
    rw [hE, if_pos rfl, hl] at hcu
    refine z8 (wH (L' := Cc :: Cn :: D :: F) (by rw [hCn]; simp)) ?_
    obtain ⟨qc, cc, rfl⟩ := hcu.slice
    refine QAt.seq <| Tr.seq <| Tr.region <| q9 (qC rfl) <| qB <| QAt.seq <| Tr.seq <| Tr.seq <| Tr.region <| q9 (qA rfl) <| q9 (qg rfl) <| q9 (qA rfl) <| qB <| QAt.seq <| Tr.block <| wB (Γ := {pΓ : (Nat) × (Value) × (qM) × (List Int) // (fun (i : Nat) (uo : Value) (Co : qM) (bs : List Int) => i ≤ l.length ∧ xg n g (l.take i) = some bs ∧ SlC 5 1 uo bs.length (u8s bs) Co ∧ bs.length ≤ 128 * i) pΓ.1 pΓ.2.1 pΓ.2.2.1 pΓ.2.2.2}) (fun g => (fun (i : Nat) (uo : Value) (Co : qM) (bs : List Int) => [(0, .pointer (some ⟨p, 0, none⟩)), (3, rv), (12, uo), (46, .slice qc l.length cc), (47, .int .i64 l.length), (48, .int .i64 i)]) g.1.1 g.1.2.1 g.1.2.2.1 g.1.2.2.2) (fun g => (fun (i : Nat) (uo : Value) (Co : qM) (bs : List Int) => Co :: Cc :: Cn :: D :: F) g.1.1 g.1.2.1 g.1.2.2.1 g.1.2.2.2) (fun g => (fun (i : Nat) (uo : Value) (Co : qM) (bs : List Int) => l.length - i) g.1.1 g.1.2.1 g.1.2.2.1 g.1.2.2.2) ⟨(0, .slice none 0 0, [], []), by dsimp only; exact ⟨by omega, rfl, zu _ _, by simp⟩⟩ (qP _) ?_
    rintro ⟨⟨i, uo, Co, bs⟩, hloop⟩
    replace hloop : i ≤ l.length ∧ xg n g (l.take i) = some bs ∧ SlC 5 1 uo bs.length (u8s bs) Co ∧ bs.length ≤ 128 * i := hloop
    obtain ⟨hi, hrd, hsl, hbl⟩ := hloop
    show Tr _ _ _ ([(0, .pointer (some ⟨p, 0, none⟩)), (3, rv), (12, uo), (46, .slice qc l.length cc), (47, .int .i64 l.length), (48, .int .i64 i)]) (Co :: Cc :: Cn :: D :: F) _ _
    refine Tr.seq <| Tr.region <| q9 (qv rfl rfl) <| qB <| QAt.seq <| Tr.seq <| qI rfl (fun hc6 => ?_) (fun hc6 => ?_)
    ·
     refine Tr.skip <| QAt.seq <| Tr.seq <| Tr.block <| Tr.seq ?_
     obtain ⟨q, hq⟩ : ∃ q, l[i]? = some q := ⟨_, List.getElem?_eq_getElem (by omega)⟩
     have hrg := QF (a := min a n.size) (n := min m (n.size - min a n.size)) (by omega) (hl ▸ List.mem_of_getElem? hq)
     refine Tr.region <| qF (zO (j := i) rfl rfl hcu (by omega) (by omega)) ?_
     rintro t50 _ ⟨b, cap, spare, hqc, rfl, hcap, hnc, rfl, rfl⟩
     refine q9 (wk (j := i) yg rfl hq rfl) <| qF (qV) ?_
     rintro t14 _ ⟨b14, rfl, rfl⟩
     refine qK (qW (l := [Value.int .i64 0, Value.int .i64 0, Value.int .i64 0]) rfl rfl rfl rfl rfl) <| qB <| QAt.seq <| Tr.seq <| Tr.region <| q9 (qA rfl) <| q9 (qD rfl) <| q9 (qG rfl rfl) <| q9 (qA rfl) <| q9 (qw rfl (yc (Cn) (D) (KB p n Cn D hn q.1 rv g hr))) <| q9 (qA rfl) <| q9 (qR rfl rfl) <| q9 (qR rfl rfl) <| qF (qV) ?_
     rintro t15 _ ⟨b15, rfl, rfl⟩
     refine qK (qW rfl rfl (by simp) (by simp) (wS _)) ?_
     refine q9 (qC rfl) <| qB <| QAt.seq <| Tr.seq <| Tr.seq <| Tr.region <| q9 (qA rfl) <| q9 (wZ rfl rfl) <| qB <| QAt.seq <| qI rfl (fun hc9 => ?_) (fun hc9 => ?_)
     ·
      have hb : blk n g q.1 = none := by
        cases h : blk n g q.1 with
        | none => rfl
        | some s => rw [h] at hc9; exact absurd rfl hc9
      refine Tr.seq <| Tr.region <| q9 (qA rfl) <| q9 (qC rfl) <| q9 (qC rfl) <| qB <| QAt.seq <| Tr.ret <| qe <| qu <| qe <| yb <| qu <| qe <| wC ([] :: Cn :: D :: F) (.inl rfl) rfl (qd rfl) (qd rfl) ?_
      exact ⟨.slice none 0 0, [], rfl, by rw [readL_none (List.mem_of_getElem? hq) hb]; exact ⟨by rw [hb]; rfl, rfl⟩⟩
     ·
      obtain ⟨s, hb⟩ : ∃ s, blk n g q.1 = some s := by
        cases h : blk n g q.1 with
        | none => rw [h] at hc9; exact absurd (by decide) hc9
        | some s => exact ⟨s, rfl⟩
      rw [hb]
      obtain ⟨qa, hqa⟩ : ∃ qa : Nat, q.2.1 = qa := ⟨q.2.1.toNat, by omega⟩
      obtain ⟨qb, hqb⟩ : ∃ qb : Nat, q.2.2 = qb := ⟨q.2.2.toNat, by omega⟩
      refine Tr.skip <| QAt.seq <| Tr.region <| q9 (qA rfl) <| q9 (qD rfl) <| q9 (qG rfl (show wG (yh q) 1 = some (.int .i64 qa) by rw [← hqa]; rfl)) <| q9 (qD rfl) <| q9 (qG rfl (show wG (yh q) 2 = some (.int .i64 qb) by rw [← hqb]; rfl)) <| q9 (k7 (l := qa) (h := qb) (kl := .i64) (kh := .i64) rfl rfl rfl (by omega) (by omega)) <| qF (wP (m := qb - qa) (sz := 1) rfl (by rw [← Wj qa qb (by omega)]; rfl) hsl (wQ (ys := u8s ((s.l.drop qa).take (qb - qa))) inferInstance (by rw [Nat.mul_one]; exact sec_take s (by omega) (by omega)) (by simp [s.len]; omega)) (jp _) Tryz.underlying23 rfl rfl (by omega)) ?_
      rintro t69 _ ⟨C', hs', rfl⟩
      refine q9 (qC rfl) <| qB <| QAt.block <| QAt.seq <| Tr.region <| q9 (qj rfl rfl (by omega)) <| q9 (qA rfl) <| qB <| qh ⟨(i + 1, t69, C', bs ++ (s.l.drop qa).take (qb - qa)), ?_⟩ ?_ ?_
      ·
       try dsimp only
       have hlen : ((s.l.drop qa).take (qb - qa)).length = qb - qa := by simp [s.len]; omega
       refine ⟨by omega, ?_, by rw [List.length_append, yH, hlen]; exact hs', by rw [List.length_append, hlen]; omega⟩
       rw [List.take_add_one, hq, Option.toList_some, readL_snoc hrd hb, hqa, hqb, show (qb - qa : Int).toNat = qb - qa from by omega, Int.toNat_natCast]
      · (try dsimp only); omega
      · (try dsimp only); exact qP _
    ·
     refine Tr.exit <| qX <| qY <| qS <| QAt.seq <| Tr.seq <| Tr.region <| q9 (qA rfl) <| q9 (qC rfl) <| q9 (qC rfl) <| qB <| QAt.seq <| Tr.ret <| wC (Co :: Cn :: D :: F) (.inl rfl) rfl (qd rfl) (qd rfl) ?_
     exact ⟨uo, Co, rfl, by rw [List.take_of_length_le (by omega)] at hrd; rw [hrd]; exact ⟨rfl, hsl⟩⟩
end Go.Proofs.YtjikpomndbkfgaaGreatDoor
