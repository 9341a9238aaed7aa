/- NodeFails: for every input that the statement's row lets in the law answers true and its arguments read as before; conditions: none beyond the row's own (part 4; joined, pruned and shortened by a program of the prover's own: names of two letters stand for longer ones.) -/
import Derived.Test.YtjikpomndbkfgaaGreatDoorFA3
set_option linter.all false
set_option linter.unusedVariables false
set_option linter.unusedSimpArgs false
set_option linter.unusedSectionVars false
namespace Go.Proofs.YtjikpomndbkfgaaGreatDoor
open Go Go.Sx Go.Nd
set_option maxRecDepth 10000
section
variable {w0 : World} {L F : Res}
theorem WD {P : Program} {N : Nat} {E : Env} {x : Operand} {t ty e sz N' b off : Nat} [ht : xK P t N' e] [hsz : TySize P e sz] (hx : opv E x = some (.pointer (some ⟨b, off, none⟩))) (hN : Nat.ble 1 N' = true := by rfl) :
    Op1 P N w0 E L (.slice t x none none none) ty (.slice (some ⟨b, off, none⟩) N' N') L := by
  have h1 := Nat.le_of_ble_eq_true hN
  have := kg (P := P) (N := N) (w0 := w0) (L := L) (ty := ty) (t := t) (lo := none) (hi := none) (l := 0) (h := N') (kl := .i64) (kh := .i64) (sz := sz) (N' := N') hx rfl rfl (by omega) (by omega)
  rw [if_neg (by omega)] at this
  simpa using this
def jx : List Int → Int → (Int × Int → Option Int) → (Int × Int → Option Int)
  | [], _, f => f
  | x :: xs, b, f => jx xs (b + 1) (if x ≠ 0 then upd f (1, b) (some x) else f)
def k7 (l f : Int) : Int := (if l = 0 then 0 else if l = 1 then 8 else 40) + f * 32
theorem blocks_node_ok (lp p ma bl off c : Nat) (n : NS) (md ms : Nat) (u rv : Value) (oa : Obj) (f : Int × Int → Option Int) (hf : MapF yO (Value.int .i64) f oa) (lc : List Value) (et : TypeId) (fr : Nat × Nat) (xs : List Int) (lv lf sl : Int)
    (hl : 0 ≤ lv ∧ lv ≤ 2) (hlf : 0 ≤ lf ∧ (lf = 0 ∨ lv = 2 ∧ lf < 32)) (hx : xs.length ≤ (if lv = 0 then 8 else 32)) (hc : ∀ (i : Nat) x, xs[i]? = some x → wX lc (off + i * 1) = some (.int .i64 x)) :
    FnT Tryz.prog w0 92 #[.pointer (some ⟨lp, 0, none⟩), .agg [.int .i64 lv, .int .i64 lf, .int .i64 sl].toArray, .slice (some ⟨bl, off, none⟩) xs.length c]
      ([(lp, .cells [.pointer (some ⟨p, 0, none⟩), rv, .int .i64 0].toArray 173 (0, 0))] :: [(p, .cells (zI n ma md ms u).toArray 90 (0, 0))] :: [(ma, oa)] :: [(bl, .cells lc.toArray et fr)] :: F)
      (fun v L' => v = .tuple #[] ∧ ∃ oa', MapF yO (Value.int .i64) (jx xs (k7 lv lf) f) oa' ∧
        L' = [(lp, .cells [.pointer (some ⟨p, 0, none⟩), rv, .int .i64 0].toArray 173 (0, 0))] :: [(p, .cells (zI n ma md ms u).toArray 90 (0, 0))] :: [(ma, oa')] :: [(bl, .cells lc.toArray et fr)] :: F) := by
  unfold zI
  have hxl : xs.length ≤ 32 := by split at hx <;> omega
  refine qh (E0 := [(0, _), (1, _), (2, _)]) (N := 37) Tryz.func92 rfl rfl rfl rfl ?_
  refine qP <| qG (wq rfl) ?_
  rintro t4 _ ⟨b4, rfl, rfl⟩
  refine qo <| qB rfl <| q9 (wD rfl) <| qB rfl <| qF <| qg <| wV (Γ := {pΓ : (Nat) × (Obj) × (Int × Int → Option Int) × (Int) // (fun (i : Nat) (oa : Obj) (f' : Int × Int → Option Int) (sl : Int) => i ≤ xs.length ∧ MapF yO (Value.int .i64) f' oa ∧ jx (xs.drop i) (k7 lv lf + i) f' = jx xs (k7 lv lf) f) pΓ.1 pΓ.2.1 pΓ.2.2.1 pΓ.2.2.2}) (fun g => (fun (i : Nat) (oa : Obj) (f' : Int × Int → Option Int) (sl : Int) => [(0, .pointer (some ⟨lp, 0, none⟩)), (4, .pointer (some ⟨b4, 0, none⟩)), (10, .slice (some ⟨bl, off, none⟩) xs.length c), (11, .int .i64 xs.length), (12, .int .i64 i)]) g.1.1 g.1.2.1 g.1.2.2.1 g.1.2.2.2) (fun g => (fun (i : Nat) (oa : Obj) (f' : Int × Int → Option Int) (sl : Int) => [(b4, .cells [.int .i64 lv, .int .i64 lf, .int .i64 sl].toArray 160 (0, 0))] :: [(lp, .cells [.pointer (some ⟨p, 0, none⟩), rv, .int .i64 0].toArray 173 (0, 0))] :: [(p, .cells [.int .u32 n.num, .int .u32 n.ver, .int .i64 n.kind, .int .i64 n.size, .int .u32 n.time, .map (some ma), .map (some md), .map (some ms), u].toArray 90 (0, 0))] :: [(ma, oa)] :: [(bl, .cells lc.toArray et fr)] :: F) g.1.1 g.1.2.1 g.1.2.2.1 g.1.2.2.2) (fun g => (fun (i : Nat) (oa : Obj) (f' : Int × Int → Option Int) (sl : Int) => xs.length - i) g.1.1 g.1.2.1 g.1.2.2.1 g.1.2.2.2) ⟨(0, oa, f, sl), by dsimp only; exact ⟨by omega, hf, by simp⟩⟩ (qX _) ?_
  rintro ⟨⟨i, oa, f', sl⟩, hloop⟩
  replace hloop : i ≤ xs.length ∧ MapF yO (Value.int .i64) f' oa ∧ jx (xs.drop i) (k7 lv lf + i) f' = jx xs (k7 lv lf) f := hloop
  obtain ⟨hi, hf', hp⟩ := hloop
  show Tr _ _ _ ([(0, .pointer (some ⟨lp, 0, none⟩)), (4, .pointer (some ⟨b4, 0, none⟩)), (10, .slice (some ⟨bl, off, none⟩) xs.length c), (11, .int .i64 xs.length), (12, .int .i64 i)]) ([(b4, .cells [.int .i64 lv, .int .i64 lf, .int .i64 sl].toArray 160 (0, 0))] :: [(lp, .cells [.pointer (some ⟨p, 0, none⟩), rv, .int .i64 0].toArray 173 (0, 0))] :: [(p, .cells [.int .u32 n.num, .int .u32 n.ver, .int .i64 n.kind, .int .i64 n.size, .int .u32 n.time, .map (some ma), .map (some md), .map (some ms), u].toArray 90 (0, 0))] :: [(ma, oa)] :: [(bl, .cells lc.toArray et fr)] :: F) _ _
  refine qP <| q9 (wL rfl rfl) <| qF <| qO <| qL rfl (fun hc2 => ?_) (fun hc2 => ?_)
  ·
   refine qZ <| qI <| qO <| qg <| qO ?_
   obtain ⟨x, hx1⟩ : ∃ x, xs[i]? = some x := ⟨_, List.getElem?_eq_getElem (by omega)⟩
   rw [kR hx1, jx] at hp
   refine qK <| qB rfl <| q9 (qw (j := i) (off := off + i * 1) rfl rfl rfl (by omega) (by simp)) ?_
   refine q9 (qH rfl (hc i x hx1)) <| qD rfl <| qD rfl <| qo <| qB rfl <| q9 (wz rfl rfl) <| qF <| qL rfl (fun hc4 => ?_) (fun hc4 => ?_)
   ·
    refine qP <| qB rfl <| q9 (qA rfl) <| qS (ws rfl rfl rfl) <| qo <| q9 (wZ rfl) <| q9 (wJ rfl (Kx lv lf i hl hlf ⟨by omega, by split at hx <;> (rename_i h; first | rw [if_pos h] | rw [if_neg h]) <;> omega⟩)) <| qB rfl <| q9 (qi rfl rfl) <| q9 (qi rfl rfl) <| qD rfl <| qD rfl <| qF <| qK <| qB rfl <| q9 (qQ rfl) <| q9 (qA rfl) <| q9 (qH rfl rfl) <| q9 (qQ rfl) <| q9 (qA rfl) <| q9 (qH rfl rfl) <| qB rfl <| q9 (wa rfl) <| qB rfl <| y5 (zR (r := ma) (q := (1, k7 lv lf + i)) (v := x) rfl rfl rfl hf') ?_
    rintro _ _ ⟨oa', hoa', rfl⟩
    refine qT <| qf <| qI <| qK <| q9 (w9 rfl rfl (by omega)) <| qB rfl <| qT <| w5 ⟨(i + 1, oa', upd f' (1, k7 lv lf + i) (some x), i), ?_⟩ ?_ ?_
    · (try dsimp only); rw [if_pos hc4] at hp; exact ⟨by omega, hoa', by rw [← hp, Int.add_assoc]; rfl⟩
    · (try dsimp only); omega
    · (try dsimp only); exact qX _
   ·
    refine qZ <| qf <| qI <| qK <| q9 (w9 rfl rfl (by omega)) <| qB rfl <| qT <| w5 ⟨(i + 1, oa, f', sl), ?_⟩ ?_ ?_
    · (try dsimp only); rw [if_neg hc4] at hp; exact ⟨by omega, hf', by rw [← hp, Int.add_assoc]; rfl⟩
    · (try dsimp only); omega
    · (try dsimp only); exact qX _
  ·
   refine wb <| qr <| qt <| qj <| kH ([(lp, .cells [.pointer (some ⟨p, 0, none⟩), rv, .int .i64 0].toArray 173 (0, 0))] :: [(p, .cells [.int .u32 n.num, .int .u32 n.ver, .int .i64 n.kind, .int .i64 n.size, .int .u32 n.time, .map (some ma), .map (some md), .map (some ms), u].toArray 90 (0, 0))] :: [(ma, oa)] :: [(bl, .cells lc.toArray et fr)] :: F) (.inr rfl) rfl  ?_
   rw [List.drop_of_length_le (by omega), jx] at hp
   exact ⟨rfl, oa, by rw [← hp]; exact hf', rfl⟩
def kS : List Int := List.replicate 32 0
theorem Ko (lp p ma : Nat) (n : NS) (md ms : Nat) (u rv : Value) (oa : Obj) (f : Int × Int → Option Int) (hf : MapF yO (Value.int .i64) f oa) (D : qV) (g : Int → Option Sec) (hr : KC rv D g) (k : Int × Int) (a : Int)
    (ll : List Int) (hll : jk ll) (h0 : a = 0 → ll = kS) (h1 : a ≠ 0 → g a = some (xC ll hll)) :
    FnT Tryz.prog w0 93 #[.pointer (some ⟨lp, 0, none⟩), yO k, .int .i64 a]
      ([(lp, .cells [.pointer (some ⟨p, 0, none⟩), rv, .int .i64 0].toArray 173 (0, 0))] :: [(p, .cells (zI n ma md ms u).toArray 90 (0, 0))] :: [(ma, oa)] :: D :: F)
      (fun v L' => v = .agg (iV ll).toArray ∧ ∃ oa', MapF yO (Value.int .i64) (if a = 0 then f else upd f k (some a)) oa' ∧
        L' = [(lp, .cells [.pointer (some ⟨p, 0, none⟩), rv, .int .i64 0].toArray 173 (0, 0))] :: [(p, .cells (zI n ma md ms u).toArray 90 (0, 0))] :: [(ma, oa')] :: D :: F) := by
  unfold zI
  rw [show yO k = Value.agg [.int .i64 k.1, .int .i64 k.2].toArray from rfl]
  have hlen := hll.len
  refine qh (E0 := [(0, _), (1, _), (2, _)]) (N := 55) Tryz.func93 rfl rfl rfl rfl ?_
  refine qP <| qG (wq rfl) ?_
  rintro t4 _ ⟨b4, rfl, rfl⟩
  refine qG (qn) ?_
  rintro t6 _ ⟨b6, rfl, rfl⟩
  refine qF <| qO <| qP <| qB rfl <| q9 (wl rfl rfl) <| qB rfl <| qY (s := 12) rfl (fun hg1_2 => ?_) (fun hg1_2 => ?_)
  ·
   have ha0 : a = 0 := hg1_2
   refine qN rfl rfl rfl <| qN rfl rfl rfl <| qN rfl rfl rfl <| qN rfl rfl rfl <| qN rfl rfl rfl <| q9 (qk rfl rfl) <| qF <| zL rfl <| qP <| q9 (kQ (z := .agg (iV kS).toArray) rfl Tryz.underlying175 rfl (fun _ h => by cases h) (fun _ _ h => by cases h; exact ⟨_, inferInstance⟩)) ?_
   refine qS (qq (vs := iV kS) rfl rfl rfl rfl (xH _)) <| qF <| qz <| w7 <| wF ([(lp, .cells [.pointer (some ⟨p, 0, none⟩), rv, .int .i64 0].toArray 173 (0, 0))] :: [(p, .cells [.int .u32 n.num, .int .u32 n.ver, .int .i64 n.kind, .int .i64 n.size, .int .u32 n.time, .map (some ma), .map (some md), .map (some ms), u].toArray 90 (0, 0))] :: [(ma, oa)] :: D :: F) (.inl rfl) rfl (zX rfl (by simp [hlen, kS])) ?_
   exact ⟨by rw [h0 ha0], oa, by rw [if_pos ha0]; exact hf, rfl⟩
  ·
   have ha0 : ¬ a = 0 := hg1_2
   refine qE rfl rfl (qM rfl) <| qE rfl rfl (qQ rfl) <| qE rfl rfl (qA rfl) <| qE rfl rfl (qH rfl rfl) <| qE rfl rfl (wz rfl rfl) <| q9 (qU rfl rfl) <| qF <| qL rfl (fun hc1 => ?_) (fun hc1 => ?_)
   · exact absurd rfl hc1
   ·
    refine qZ <| qI <| qO <| wQ w8 <| wE [(20, .pure _), (21, .pure _), (22, .pure _), (23, .pure _), (24, .pure _), (25, .pure _), (26, .pure _), (27, .pure _), (28, .pure _)] (by kernel_rfl) rfl rfl rfl wd (qC rfl (fun X => qM rfl) <| qC rfl (fun X => qQ rfl) <| qC rfl (fun X => qA rfl) <| qC rfl (fun X => qH rfl rfl) <| qC rfl (fun X => qQ rfl) <| qC rfl (fun X => qA rfl) <| qC rfl (fun X => qH rfl rfl) <| qC rfl (fun X => wZ rfl) <| qC rfl (fun X => qM rfl) <| ParH.nil rfl) ?_
    dsimp only [zQ, List.drop, List.length]
    refine zt (by kernel_rfl) (zR (r := ma) (q := k) (v := a) rfl rfl rfl hf) ?_
    rintro _ _ ⟨oa', hoa', rfl⟩
    refine wI <| qI <| qP <| qB rfl <| q9 (qQ rfl) <| q9 (qA rfl) <| q9 (qH rfl rfl) <| qB rfl <| q9 (kX rfl rfl (YL D (hr w0 _ a))) ?_
    rw [h1 ha0]
    refine qB rfl <| q9 (qi rfl rfl) <| q9 (qi rfl rfl) <| qG (qn) ?_
    rintro t7 _ ⟨b7, rfl, rfl⟩
    refine qS (qq rfl rfl (by simp) (by simp) (wt _)) ?_
    refine qD rfl <| qF <| qO <| qP <| qB rfl <| q9 (wz rfl rfl) <| qF <| qL rfl (fun hc5 => ?_) (fun hc5 => ?_)
    · exact absurd rfl hc5
    ·
     refine qZ <| qI <| qP <| q9 (wS rfl (by simp)) ?_
     refine q9 (wJ rfl (readPointers_ok ll hll)) <| qB rfl <| q9 (qi rfl rfl) <| q9 (qi rfl rfl) <| qG (qn) ?_
     rintro t9 _ ⟨b9, rfl, rfl⟩
     refine qS (qq rfl rfl (by simp) (by simp [hlen]) (xH _)) ?_
     refine qD rfl <| qo <| qB rfl <| qB rfl <| q9 (qQ rfl) <| q9 (qA rfl) <| qS (ws rfl rfl rfl) <| qo <| q9 (wS rfl (by simp [hlen])) ?_
     refine qS (qq rfl rfl (by simp) (by simp [hlen]) (xH _)) ?_
     refine qF <| qz <| wF ([(lp, .cells [.pointer (some ⟨p, 0, none⟩), rv, .int .i64 0].toArray 173 (0, 0))] :: [(p, .cells [.int .u32 n.num, .int .u32 n.ver, .int .i64 n.kind, .int .i64 n.size, .int .u32 n.time, .map (some ma), .map (some md), .map (some ms), u].toArray 90 (0, 0))] :: [(ma, oa')] :: D :: F) (.inl rfl) rfl (zX rfl (by simp [hlen, kS])) ?_
     exact ⟨rfl, oa', by rw [if_neg ha0]; exact hoa', rfl⟩
theorem Wt (lp p ma bl off c m : Nat) (n : NS) (md ms : Nat) (u rv : Value) (oa : Obj) (f : Int × Int → Option Int) (hf : MapF yO (Value.int .i64) f oa) (lc : List Value) (et : TypeId) (fr : Nat × Nat) (xs : List Int) (lv lf sl : Int) (hm : xs.length = m)
    (hl : 0 ≤ lv ∧ lv ≤ 2) (hlf : 0 ≤ lf ∧ (lf = 0 ∨ lv = 2 ∧ lf < 32)) (hx : m ≤ (if lv = 0 then 8 else 32)) (hc : ∀ (i : Nat) x, xs[i]? = some x → wX lc (off + i * 1) = some (.int .i64 x)) :
    FnT Tryz.prog w0 92 #[.pointer (some ⟨lp, 0, none⟩), .agg [.int .i64 lv, .int .i64 lf, .int .i64 sl].toArray, .slice (some ⟨bl, off, none⟩) m c]
      ([(lp, .cells [.pointer (some ⟨p, 0, none⟩), rv, .int .i64 0].toArray 173 (0, 0))] :: [(p, .cells (zI n ma md ms u).toArray 90 (0, 0))] :: [(ma, oa)] :: [(bl, .cells lc.toArray et fr)] :: F)
      (fun v L' => v = .tuple #[] ∧ ∃ oa', MapF yO (Value.int .i64) (jx xs (k7 lv lf) f) oa' ∧
        L' = [(lp, .cells [.pointer (some ⟨p, 0, none⟩), rv, .int .i64 0].toArray 173 (0, 0))] :: [(p, .cells (zI n ma md ms u).toArray 90 (0, 0))] :: [(ma, oa')] :: [(bl, .cells lc.toArray et fr)] :: F) := by
  subst hm
  exact blocks_node_ok lp p ma bl off c n md ms u rv oa f hf lc et fr xs lv lf sl hl hlf hx hc
def Wo (l2 : List Int) (ll : Nat → List Int) : Nat → (Int × Int → Option Int) → (Int × Int → Option Int)
  | 0, f => f
  | j + 1, f => jx (ll j) (k7 2 j) (if l2.getD j 0 = 0 then Wo l2 ll j f else upd (Wo l2 ll j f) (5, (j : Int)) (some (l2.getD j 0)))
def Xt (k : Int × Int) (a : Int) (f : Int × Int → Option Int) : Int × Int → Option Int := if a = 0 then f else upd f k (some a)
def Yw (x : Ino) (a : Int) (l1 l2 : List Int) (ll : Nat → List Int) : Int × Int → Option Int :=
  Wo l2 ll 32 (Xt (4, 0) x.db (jx l1 (k7 1 0) (Xt (3, 0) x.sg (jx x.d (k7 0 0) (upd (fun _ => none) (2, 0) (some a))))))
def Vt (x : Ino) (a : Int) (l1 l2 : List Int) (ll : Nat → List Int) : NS := ⟨x.num, x.ver, x.kind, x.size, x.time, Yw x a l1 l2 ll, fun _ => none, fun _ => none, []⟩
theorem load_ok (G D : qV) (hg : kn G) (x : Ino) (hx : x.Ok) (hsz : x.size ≤ 136192) (a : Int) (rv : Value) (g : Int → Option Sec) (hr : KC rv D g) (l1 l2 : List Int) (ll : Nat → List Int)
    (h1 : jk l1) (h10 : x.sg = 0 → l1 = kS) (h11 : x.sg ≠ 0 → g x.sg = some (xC l1 h1)) (h2 : jk l2) (h20 : x.db = 0 → l2 = kS) (h21 : x.db ≠ 0 → g x.db = some (xC l2 h2))
    (h3 : ∀ i, jk (ll i)) (h30 : ∀ i, l2.getD i 0 = 0 → ll i = kS) (h31 : ∀ i, i < 32 → l2.getD i 0 ≠ 0 → g (l2.getD i 0) = some (xC (ll i) (h3 i))) :
    FnT Tryz.prog w0 68 #[.agg (ww (Zx x hx)).toArray, .int .i64 a, rv] (D :: G :: F)
      (fun v L' => ∃ p Cn, v = .tuple #[.pointer (some ⟨p, 0, none⟩), .int .i64 0] ∧ NodeC p (Vt x a l1 l2 ll) Cn ∧ L' = Cn :: D :: G :: F) := by
  obtain ⟨e0, f0, e1, f1, e2, f2, hG⟩ := id hg
  have hxs := hx.size
  have hlen1 := h1.len
  have hlen2 := h2.len
  have hcv : xp rv [rv] := by
    obtain ⟨rf, ra, rc, hrv, _, _⟩ := (hr w0 F 0).ex
    rw [hrv]; infer_instance
  refine qh (E0 := [(0, _), (1, _), (2, _)]) (N := 105) Tryz.func68 rfl rfl rfl rfl ?_
  refine qP <| qG (wq rfl) ?_
  rintro t3 _ ⟨b3, rfl, rfl⟩
  refine qD rfl <| qD rfl <| qo <| q9 (wS rfl (by simp)) ?_
  refine q9 (wJ rfl (readInode_ok x hx)) <| qB rfl <| q9 (qi rfl rfl) <| q9 (qi rfl rfl) <| qG (qn) ?_
  rintro t8 _ ⟨b8, rfl, rfl⟩
  refine qS (qq rfl rfl Wq (jB hx) (Ku x)) <| qD rfl <| qF <| qO <| qP <| qB rfl <| q9 (wz rfl rfl) <| qB rfl <| qY (s := 24) rfl (fun hg2_2 => ?_) (fun hg2_2 => ?_)
  · exact absurd rfl hg2_2
  ·
   refine qE rfl rfl (qA rfl) <| qE rfl rfl (qH rfl rfl) <| qE rfl rfl (y9 rfl rfl) <| q9 (qU rfl rfl) <| qF <| qL rfl (fun hc2 => ?_) (fun hc2 => ?_)
   · (exfalso; omega)
   ·
    refine qZ <| qI <| qP <| q9 (qA rfl) <| q9 (qH rfl rfl) <| q9 (qA rfl) <| q9 (qH rfl rfl) <| q9 (qA rfl) <| q9 (qH rfl rfl) <| qG (qx rfl (wc (G) (MJ G hg x.num x.ver x.kind))) ?_
    rintro t35 _ ⟨p, Cn, rfl, hn, rfl⟩
    refine qD rfl <| qF <| qO ?_
    obtain ⟨ma, md, ms, oa, od, os, u, C, hM, hCn⟩ := hn.eq
    unfold zI Zv at hCn
    dsimp only at hCn
    obtain ⟨n, hnd⟩ : ∃ n : NS, n = ⟨x.num, x.ver, x.kind, x.size, x.time, fun _ => none, fun _ => none, fun _ => none, []⟩ := ⟨_, rfl⟩
    refine yx (L' := [(p, .cells [.int .u32 x.num, .int .u32 x.ver, .int .i64 x.kind, .int .i64 0, .int .u32 0, .map (some ma), .map (some md), .map (some ms), u].toArray 90 (0, 0))] :: [(ma, oa)] :: [(md, od)] :: [(ms, os)] :: C :: G :: [(b8, .cells (yM x).toArray 168 (0, 0))] :: D :: F) (fun w hw => (qX ([(p, .cells [.int .u32 x.num, .int .u32 x.ver, .int .i64 x.kind, .int .i64 0, .int .u32 0, .map (some ma), .map (some md), .map (some ms), u].toArray 90 (0, 0))] :: [(ma, oa)] :: [(md, od)] :: [(ms, os)] :: C :: G :: [(b8, .cells (yM x).toArray 168 (0, 0))] :: D :: F)) w ((we (L' := [(p, .cells [.int .u32 x.num, .int .u32 x.ver, .int .i64 x.kind, .int .i64 0, .int .u32 0, .map (some ma), .map (some md), .map (some ms), u].toArray 90 (0, 0))] :: [(ma, oa)] :: [(md, od)] :: [(ms, os)] :: C :: G :: [(b8, .cells (yM x).toArray 168 (0, 0))] :: [(b3, .cells (ww (Zx x hx)).toArray 55 (0, 0))] :: D :: F) (by rw [hCn]; simp)) w hw)) ?_
    refine qK <| qB rfl <| qB rfl <| q9 (qA rfl) <| q9 (qH rfl rfl) <| q9 (qA rfl) <| q9 (qH rfl rfl) <| q9 (qQ rfl) <| q9 (qA rfl) <| qS (ws rfl rfl rfl) <| q9 (qQ rfl) <| q9 (qA rfl) <| qS (ws rfl rfl rfl) <| qF <| qO <| wQ w8 <| wE [(46, .pure _), (47, .pure _), (48, .pure _), (49, .pure _), (50, .pure _), (51, .pure _)] (by kernel_rfl) rfl rfl rfl wd (qC rfl (fun X => qM rfl) <| qC rfl (fun X => qQ rfl) <| qC rfl (fun X => qA rfl) <| qC rfl (fun X => qH rfl rfl) <| qC rfl (fun X => kC (b := 0) (off := 0) (c := [Value.int .i64 2, Value.int .i64 0].toArray) (e := e0) (fr := f0) (r := [.int .i64 2, .int .i64 0]) rfl (by rw [hG]; simp) rfl (by decide)) <| qC rfl (fun X => qM rfl) <| ParH.nil rfl) ?_
    dsimp only [zQ, List.drop, List.length]
    refine zt (by kernel_rfl) (zR (r := ma) (q := (2, 0)) (v := a) rfl rfl rfl hM.a) ?_
    rintro _ _ ⟨oa1, ho1, rfl⟩
    refine wI <| qI <| qP <| qB rfl <| qG (ki) ?_
    rintro t53 _ ⟨b53, rfl, rfl⟩
    refine q9 (qQ rfl) <| q9 (qA rfl) <| qS (ws rfl rfl rfl) <| qT ?_
    have hnv : zI n ma md b53 u = [.int .u32 x.num, .int .u32 x.ver, .int .i64 x.kind, .int .i64 x.size, .int .u32 x.time, .map (some ma), .map (some md), .map (some b53), u] := by rw [hnd]; rfl
    refine zM (qX ([(p, .cells [.int .u32 x.num, .int .u32 x.ver, .int .i64 x.kind, .int .i64 x.size, .int .u32 x.time, .map (some ma), .map (some md), .map (some b53), u].toArray 90 (0, 0))] :: [(ma, oa1)] :: [(md, od)] :: [(b53, .map #[] 0)] :: C :: G :: [(b8, .cells (yM x).toArray 168 (0, 0))] :: D :: F)) ?_
    rw [← hnv]
    refine qI <| qP <| qB rfl <| qB rfl <| q9 (wa rfl) <| qG (wq rfl) ?_
    rintro t59 _ ⟨b59, rfl, rfl⟩
    refine qD rfl <| qo <| qB rfl <| q9 (kQ rfl Tryz.underlying160 rfl (fun _ _ => ⟨_, inferInstance⟩) (fun _ _ h => by cases h)) ?_
    refine q9 (qA rfl) <| q9 (WD rfl) <| qG (qx rfl (Q4 ([(b59, .cells [.pointer (some ⟨p, 0, none⟩), rv, .int .i64 0].toArray 173 (0, 0))]) ([(p, .cells (zI n ma md b53 u).toArray 90 (0, 0))]) ([(ma, oa1)]) ([(b8, .cells (yM x).toArray 168 (0, 0))]) (Wt b59 p ma b8 5 8 8 n md b53 u rv oa1 _ ho1 (yM x) 168 (0, 0) x.d 0 0 0 hx.len (by omega) (by omega) (by simp) (fun i y hy => by rw [Nat.mul_one]; exact VW hy)))) ?_
    rintro t64 _ ⟨rfl, oa2, ho2, rfl⟩
    refine qo <| qB rfl <| q9 (kC (b := 2) (off := 0) (c := [Value.int .i64 3, Value.int .i64 0].toArray) (e := e2) (fr := f2) (r := [.int .i64 3, .int .i64 0]) rfl (by rw [hG]; simp) rfl (by decide)) ?_
    refine q9 (qA rfl) <| q9 (qH rfl (KJ hx.len).1) <| qG (qx rfl (Q4 ([(b59, .cells [.pointer (some ⟨p, 0, none⟩), rv, .int .i64 0].toArray 173 (0, 0))]) ([(p, .cells (zI n ma md b53 u).toArray 90 (0, 0))]) ([(ma, oa2)]) (D) (Ko b59 p ma n md b53 u rv oa2 _ ho2 D g hr (3, 0) x.sg l1 h1 h10 h11))) ?_
    rintro t69 _ ⟨rfl, oa3, ho3, rfl⟩
    refine qG (qn) ?_
    rintro t12 _ ⟨b12, rfl, rfl⟩
    refine qS (qq rfl rfl (by simp) (by simp [hlen1]) (xH _)) ?_
    refine qo <| qB rfl <| q9 (wa rfl) <| q9 (WD rfl) <| qG (qx rfl (Q4 ([(b59, .cells [.pointer (some ⟨p, 0, none⟩), rv, .int .i64 0].toArray 173 (0, 0))]) ([(p, .cells (zI n ma md b53 u).toArray 90 (0, 0))]) ([(ma, oa3)]) ([(b12, .cells (iV l1).toArray 175 (0, 0))]) (Wt b59 p ma b12 0 32 32 n md b53 u rv oa3 _ ho3 (iV l1) 175 (0, 0) l1 1 0 0 hlen1 (by omega) (by omega) (by simp) (fun i y hy => by rw [Nat.mul_one, Nat.zero_add]; exact Ky hy)))) ?_
    rintro t73 _ ⟨rfl, oa4, ho4, rfl⟩
    refine qo <| qB rfl <| q9 (kC (b := 1) (off := 0) (c := [Value.int .i64 4, Value.int .i64 0].toArray) (e := e1) (fr := f1) (r := [.int .i64 4, .int .i64 0]) rfl (by rw [hG]; simp) rfl (by decide)) ?_
    refine q9 (qA rfl) <| q9 (qH rfl (KJ hx.len).2) <| qG (qx rfl (Q4 ([(b59, .cells [.pointer (some ⟨p, 0, none⟩), rv, .int .i64 0].toArray 173 (0, 0))]) ([(p, .cells (zI n ma md b53 u).toArray 90 (0, 0))]) ([(ma, oa4)]) (D) (Ko b59 p ma n md b53 u rv oa4 _ ho4 D g hr (4, 0) x.db l2 h2 h20 h21))) ?_
    rintro t78 _ ⟨rfl, oa5, ho5, rfl⟩
    refine qG (qn) ?_
    rintro t13 _ ⟨b13, rfl, rfl⟩
    refine qS (qq rfl rfl (by simp) (by simp [hlen2]) (xH _)) ?_
    refine qF <| qO <| qP <| q9 (wS rfl (by simp [hlen2])) ?_
    refine qB rfl <| qF <| qg <| wV (Γ := {pΓ : (Nat) × (Obj) // (fun (i : Nat) (oa : Obj) => i ≤ 32 ∧ MapF yO (Value.int .i64) (Wo l2 ll i (Xt (4, 0) x.db (jx l1 (k7 1 0) (Xt (3, 0) x.sg (jx x.d (k7 0 0) (upd (fun _ => none) (2, 0) (some a))))))) oa) pΓ.1 pΓ.2}) (fun g => (fun (i : Nat) (oa : Obj) => [(10, .pointer (some ⟨p, 0, none⟩)), (11, .pointer (some ⟨b59, 0, none⟩)), (79, .agg (iV l2).toArray), (80, .int .i64 i)]) g.1.1 g.1.2) (fun g => (fun (i : Nat) (oa : Obj) => [(b59, .cells [.pointer (some ⟨p, 0, none⟩), rv, .int .i64 0].toArray 173 (0, 0))] :: [(p, .cells (zI n ma md b53 u).toArray 90 (0, 0))] :: [(ma, oa)] :: [(md, od)] :: [(b53, .map #[] 0)] :: C :: G :: D :: F) g.1.1 g.1.2) (fun g => (fun (i : Nat) (oa : Obj) => 32 - i) g.1.1 g.1.2) ⟨(0, oa5), by dsimp only; exact ⟨by omega, ho5⟩⟩ (qX _) ?_
    rintro ⟨⟨i, oa⟩, hloop⟩
    replace hloop : i ≤ 32 ∧ MapF yO (Value.int .i64) (Wo l2 ll i (Xt (4, 0) x.db (jx l1 (k7 1 0) (Xt (3, 0) x.sg (jx x.d (k7 0 0) (upd (fun _ => none) (2, 0) (some a))))))) oa := hloop
    obtain ⟨hi, hf⟩ := hloop
    show Tr _ _ _ ([(10, .pointer (some ⟨p, 0, none⟩)), (11, .pointer (some ⟨b59, 0, none⟩)), (79, .agg (iV l2).toArray), (80, .int .i64 i)]) ([(b59, .cells [.pointer (some ⟨p, 0, none⟩), rv, .int .i64 0].toArray 173 (0, 0))] :: [(p, .cells (zI n ma md b53 u).toArray 90 (0, 0))] :: [(ma, oa)] :: [(md, od)] :: [(b53, .map #[] 0)] :: C :: G :: D :: F) _ _
    refine qP <| q9 (wL rfl rfl) <| qF <| qO <| qL rfl (fun hc14 => ?_) (fun hc14 => ?_)
    ·
     refine qZ <| qI <| qO <| qg <| qO ?_
     obtain ⟨y, hy⟩ : ∃ y, l2[i]? = some y := ⟨_, List.getElem?_eq_getElem (by omega)⟩
     have hyd : l2.getD i 0 = y := by rw [List.getD_eq_getElem?_getD, hy]; rfl
     refine qK <| qB rfl <| q9 (Jc (j := i) rfl rfl rfl (by omega) (Ky hy)) <| qD rfl <| qD rfl <| qo <| qB rfl <| qB rfl <| q9 (wa rfl) <| qB rfl <| qG (qx rfl (Q4 ([(b59, .cells [.pointer (some ⟨p, 0, none⟩), rv, .int .i64 0].toArray 173 (0, 0))]) ([(p, .cells (zI n ma md b53 u).toArray 90 (0, 0))]) ([(ma, oa)]) (D) (Ko b59 p ma n md b53 u rv oa _ hf D g hr (5, (i : Int)) y (ll i) (h3 i) (fun e => h30 i (by rw [hyd]; exact e)) (fun e => by have := h31 i (by omega) (by rw [hyd]; exact e); rw [hyd] at this; exact this)))) ?_
     rintro t88 _ ⟨rfl, oa6, ho6, rfl⟩
     refine qG (qn) ?_
     rintro t16 _ ⟨b16, rfl, rfl⟩
     refine qS (qq rfl rfl (by simp) (by simp [(h3 i).len]) (xH _)) ?_
     refine qF <| qK <| qB rfl <| qB rfl <| q9 (wa rfl) <| q9 (WD rfl) <| qG (qx rfl (Q4 ([(b59, .cells [.pointer (some ⟨p, 0, none⟩), rv, .int .i64 0].toArray 173 (0, 0))]) ([(p, .cells (zI n ma md b53 u).toArray 90 (0, 0))]) ([(ma, oa6)]) ([(b16, .cells (iV (ll i)).toArray 175 (0, 0))]) (Wt b59 p ma b16 0 32 32 n md b53 u rv oa6 _ ho6 (iV (ll i)) 175 (0, 0) (ll i) 2 i 0 (h3 i).len (by omega) (by omega) (by simp) (fun i y hy => by rw [Nat.mul_one, Nat.zero_add]; exact Ky hy)))) ?_
     rintro t93 _ ⟨rfl, oa7, ho7, rfl⟩
     refine qT <| qf <| qI <| qK <| q9 (w9 rfl rfl (by omega)) <| qB rfl <| qT <| w5 ⟨(i + 1, oa7), ?_⟩ ?_ ?_
     · (try dsimp only); exact ⟨by omega, by rw [Wo, hyd]; exact ho7⟩
     · (try dsimp only); omega
     · (try dsimp only); exact qX _
    ·
     refine wb <| qr <| qt <| qj <| qI <| qO <| qP <| qB rfl <| q9 (qQ rfl) <| q9 (qA rfl) <| q9 (qH rfl rfl) <| q9 (wz rfl rfl) <| qF <| qL rfl (fun hc19 => ?_) (fun hc19 => ?_)
     · exact absurd rfl hc19
     ·
      refine qZ <| qI <| qO ?_
      obtain rfl : i = 32 := by omega
      refine qK <| qB rfl <| qD rfl <| qD rfl <| qT <| zM (qX ([(p, .cells (zI n ma md b53 u).toArray 90 (0, 0))] :: [(ma, oa)] :: [(md, od)] :: [(b53, .map #[] 0)] :: C :: D :: G :: F)) <| zM (we (L' := ((p, .cells (zI (Vt x a l1 l2 ll) ma md b53 u).toArray 90 (0, 0)) :: (ma, oa) :: (md, od) :: (b53, .map #[] 0) :: C) :: D :: G :: F) (by rw [hnv]; simp [zI, Vt])) ?_
      refine qI <| qz <| W5 (.inl rfl) rfl (qu rfl) (qu rfl) ?_
      exact ⟨p, _, rfl, ⟨ma, md, b53, oa, od, _, u, C, rfl, hf, hM.d, kk _ _, hM.g⟩, rfl⟩
end
end Go.Proofs.YtjikpomndbkfgaaGreatDoor
namespace Go.Sx
open Go
theorem wv {P : Program} {N : Nat} {E : Env} {x y : Operand} {t e sz : TypeId} {b o1 len cap : Nat} {k : IntKind} {i : Int} {j off : Nat} [hs : y8 P t e] [hz : TySize P e sz]
    (hx : opv E x = some (.slice (some ⟨b, o1, none⟩) len cap)) (hy : opv E y = some (.int k i)) (hi : i = (j : Int)) (hj : j < len) (ho : o1 + j * sz = off) : OpY P N E (.indexAddr t x y) (.pointer (some ⟨b, off, none⟩)) := fun o a w h1 h3 => by
  subst ho; subst hi
  rw [execOp, h1]
  simp [h3.eval hx, h3.eval hy, Instr.indexAt, asIntOf, wA hs.h, hj, hz.s, yl]
theorem j4 {P : Program} {N : Nat} {w0 : World} {E : Env} {L L' : Res} {Q : Exit → Act → World → Prop} {ops : List Oper} {ls : List Bool} (hL : ∀ w, Own w0 L w → Own w0 L' w) (h : TrS P N w0 ops ls E L' Q) : TrS P N w0 ops ls E L Q :=
  ⟨fun a w ha hw => h.h a w ha (hL w hw)⟩
end Go.Sx
namespace Go.Proofs.YtjikpomndbkfgaaGreatDoor
open Go Go.Sx Go.Nd
set_option maxRecDepth 10000
section
variable {w0 : World} {L F : Res} {ba bl : Nat}
structure Blk where
  has : Bool
  at_ : Int
  fresh : Bool
  s : Sec
structure yG where
  at_ : Int
  stale : Bool
structure RS where
  num : Int
  ver : Int
  kind : Int
  size : Int
  time : Int
  all : Int → Blk
  leaves : Int → yG
  sg : yG
  db : yG
  self : yG
  gone : List Int
def Blk.zero : Blk := ⟨false, 0, false, Sec.zero⟩
def z7 (b : Blk) : List Value := .bool b.has :: .int .i64 b.at_ :: .bool b.fresh :: ww b.s
theorem zg (b : Blk) : (z7 b).length = 131 := by simp [z7]
def z6 (p : yG) : List Value := [.int .i64 p.at_, .bool p.stale]
theorem zT (p : yG) : (z6 p).length = 2 := rfl
theorem JB (b : Blk) : (z7 b).all (·.oneCell') = true := by simp [z7, Value.oneCell', ww, u8s]
def xl {β : Type} (n : Nat) (f : Int → β) : List β := (List.range n).map fun i : Nat => f i
theorem Ql {β : Type} {n : Nat} {f : Int → β} {i : Nat} (h : i < n) : (xl n f)[i]? = some (f i) := by simp [xl, h]
theorem tabL_len {β : Type} {n : Nat} {f : Int → β} : (xl n f).length = n := by simp [xl]
theorem zx {β : Type} {n : Nat} {f : Int → β} {i : Nat} {x : β} : (xl n f).set i x = xl n (upd f (i : Int) x) := by
  apply List.ext_getElem?
  intro j
  rw [List.getElem?_set]
  by_cases hj : j < n
  · have e1 := Ql (f := f) hj
    have e2 := Ql (f := upd f (i : Int) x) hj
    rw [e1, e2]
    split
    · rename_i e; subst e; rw [zW, tabL_len, if_pos hj]
    · rename_i e; rw [wk _ _ (by omega)]
  · have h1 : ∀ g : Int → β, (xl n g)[j]? = none := fun g => List.getElem?_eq_none (by simp [xl]; omega)
    rw [h1, h1]
    split <;> simp [xl]; omega
def zA (f : Int → Blk) : List Blk := xl 1064 f
def wO (f : Int → yG) : List yG := xl 32 f
theorem y2 {f : Int → Blk} {i : Nat} (h : i < 1064) : (zA f)[i]? = some (f i) := Ql h
theorem zD {f : Int → yG} {i : Nat} (h : i < 32) : (wO f)[i]? = some (f i) := Ql h
def kV (W : RS) (ba bl : Nat) (ug : Value) : List Value := [.int .u32 W.num, .int .u32 W.ver, .int .i64 W.kind, .int .i64 W.size, .int .u32 W.time, .slice (some ⟨ba, 0, none⟩) 1064 1064, .slice (some ⟨bl, 0, none⟩) 32 32, .int .i64 W.sg.at_, .bool W.sg.stale, .int .i64 W.db.at_, .bool W.db.stale, .int .i64 W.self.at_, .bool W.self.stale, ug]
def RefC (ba bl : Nat) (W : RS) (v : List Value) (C : qV) : Prop := ∃ ug Cg, v = kV W ba bl ug ∧ SlC 3 1 ug W.gone.length (iV W.gone) Cg ∧
  C = (ba, .cells ((zA W.all).flatMap z7 ++ []).toArray 125 (0, 0)) :: (bl, .cells ((wO W.leaves).flatMap z6 ++ []).toArray 38 (0, 0)) :: Cg
def JL (W : RS) (ba bl : Nat) (Cg : qV) (F : Res) : Res := [(ba, .cells ((zA W.all).flatMap z7 ++ []).toArray 125 (0, 0))] :: [(bl, .cells ((wO W.leaves).flatMap z6 ++ []).toArray 38 (0, 0))] :: Cg :: F
section
variable {W : RS} {v : List Value} {C : qV} {f : FuncId}
theorem ref_read {args : List Value → Array Value} {Rv : Value → Prop} (hw : RefC ba bl W v C)
    (h : ∀ ug Cg, SlC 3 1 ug W.gone.length (iV W.gone) Cg → FnT Tryz.prog w0 f (args (kV W ba bl ug)) (JL W ba bl Cg F) (fun v L' => Rv v ∧ L' = JL W ba bl Cg F)) : FnT Tryz.prog w0 f (args v) (C :: F) (fun v L' => Rv v ∧ L' = C :: F) := by
  obtain ⟨ug, Cg, rfl, hs, rfl⟩ := hw
  exact W7 (h ug Cg hs) (by simp [JL])
theorem Xp {args : List Value → Array Value} {G : Value → qV → Prop} (hw : RefC ba bl W v C)
    (h : ∀ ug Cg, SlC 3 1 ug W.gone.length (iV W.gone) Cg → FnT Tryz.prog w0 f (args (kV W ba bl ug)) (JL W ba bl Cg F) (fun v L' => ∃ C', G v C' ∧ L' = C' :: JL W ba bl Cg F)) : FnT Tryz.prog w0 f (args v) (C :: F) (fun v L' => ∃ C', G v C' ∧ L' = C' :: C :: F) := by
  obtain ⟨ug, Cg, rfl, hs, rfl⟩ := hw
  exact ((h ug Cg hs).pre (we (by simp [JL]))).post fun v L' ⟨C', h1, h2⟩ => ⟨_, ⟨C', h1, rfl⟩, by subst h2; exact we (by simp [JL])⟩
end
theorem YY {α : Type} (enc : α → List Value) (sz n : Nat) (x : α) (h : (enc x).length = sz) (hs : 0 < sz) :
    ((List.range (n * sz)).map fun i => ((enc x).toArray)[i % sz]!) = (List.replicate n x).flatMap enc := by
  induction n with
  | zero => simp
  | succ n ih =>
    rw [Nat.succ_mul, List.range_add, List.map_append, ih, List.replicate_succ', List.flatMap_append]
    congr 1
    rw [List.map_map]
    simp only [List.flatMap_cons, List.flatMap_nil, List.append_nil]
    apply List.ext_getElem
    · simp [h]
    · intro i h1 h2
      have hi : i < sz := by simpa using h1
      simp only [List.getElem_map, List.getElem_range, Function.comp]
      rw [show (n * sz + i) % sz = i from by rw [Nat.mul_comm, Nat.mul_add_mod, Nat.mod_eq_of_lt hi]]
      simp [h, hi]
def Qu (W : RS) : List Int := ((List.range 1064).map (fun i : Nat => (i : Int))).filter (fun i => (W.all i).has)
theorem K1 {xs : List Int} {pr : Int → Bool} {i : Nat} {q : Int} (hq : xs[i]? = some q) : (xs.take (i + 1)).filter pr = (xs.take i).filter pr ++ (if pr q then [q] else []) := by
  rw [List.take_add_one, hq, List.filter_append]
  simp only [Option.toList_some, List.filter_cons, List.filter_nil]
def zo (n : Nat) : List Int := (List.range n).map (fun i : Nat => (i : Int))
theorem kx {n i : Nat} (h : i < n) : (zo n)[i]? = some (i : Int) := by simp [zo, h]
theorem x2 (n : Nat) : (zo n).length = n := by simp [zo]
theorem We (W : RS) (v : List Value) (C : qV) (hw : RefC ba bl W v C) :
    FnT Tryz.prog w0 23 #[.agg v.toArray] (C :: F) (fun v L' => ∃ C', SlC 3 1 v (Qu W).length (iV (Qu W)) C' ∧ L' = C' :: C :: F) := by
  refine Xp (args := fun v => #[.agg v.toArray]) hw ?_
  intro ug Cg hs
  unfold JL kV
  refine qh (E0 := [(0, _)]) (N := 20) Tryz.func23 rfl rfl rfl rfl ?_
  refine qP <| qG (wq rfl) ?_
  rintro t1 _ ⟨b1, rfl, rfl⟩
  refine qD rfl <| qo <| qD rfl <| qF <| qO <| qP <| qD rfl <| qF <| qg <| wV (Γ := {pΓ : (Nat) × (Value) × (qV) × (List Int) // (fun (i : Nat) (uo : Value) (Co : qV) (out : List Int) => i ≤ 1064 ∧ out = ((zo 1064).take i).filter (fun i => (W.all i).has) ∧ SlC 3 1 uo out.length (iV out) Co ∧ out.length ≤ i) pΓ.1 pΓ.2.1 pΓ.2.2.1 pΓ.2.2.2}) (fun g => (fun (i : Nat) (uo : Value) (Co : qV) (out : List Int) => [(1, .pointer (some ⟨b1, 0, none⟩)), (3, uo), (4, .int .i64 i)]) g.1.1 g.1.2.1 g.1.2.2.1 g.1.2.2.2) (fun g => (fun (i : Nat) (uo : Value) (Co : qV) (out : List Int) => Co :: [(b1, .cells [.int .u32 W.num, .int .u32 W.ver, .int .i64 W.kind, .int .i64 W.size, .int .u32 W.time, .slice (some ⟨ba, 0, none⟩) 1064 1064, .slice (some ⟨bl, 0, none⟩) 32 32, .int .i64 W.sg.at_, .bool W.sg.stale, .int .i64 W.db.at_, .bool W.db.stale, .int .i64 W.self.at_, .bool W.self.stale, ug].toArray 41 (0, 0))] :: [(ba, .cells ((zA W.all).flatMap z7 ++ []).toArray 125 (0, 0))] :: [(bl, .cells ((wO W.leaves).flatMap z6 ++ []).toArray 38 (0, 0))] :: Cg :: F) g.1.1 g.1.2.1 g.1.2.2.1 g.1.2.2.2) (fun g => (fun (i : Nat) (uo : Value) (Co : qV) (out : List Int) => 1064 - i) g.1.1 g.1.2.1 g.1.2.2.1 g.1.2.2.2) ⟨(0, .slice none 0 0, [], []), by dsimp only; exact ⟨by omega, rfl, SlC.nil _ _, by simp⟩⟩ (qX _) ?_
  rintro ⟨⟨i, uo, Co, out⟩, hloop⟩
  replace hloop : i ≤ 1064 ∧ out = ((zo 1064).take i).filter (fun i => (W.all i).has) ∧ SlC 3 1 uo out.length (iV out) Co ∧ out.length ≤ i := hloop
  obtain ⟨hi, ho, hsl, hlen⟩ := hloop
  show Tr _ _ _ ([(1, .pointer (some ⟨b1, 0, none⟩)), (3, uo), (4, .int .i64 i)]) (Co :: [(b1, .cells [.int .u32 W.num, .int .u32 W.ver, .int .i64 W.kind, .int .i64 W.size, .int .u32 W.time, .slice (some ⟨ba, 0, none⟩) 1064 1064, .slice (some ⟨bl, 0, none⟩) 32 32, .int .i64 W.sg.at_, .bool W.sg.stale, .int .i64 W.db.at_, .bool W.db.stale, .int .i64 W.self.at_, .bool W.self.stale, ug].toArray 41 (0, 0))] :: [(ba, .cells ((zA W.all).flatMap z7 ++ []).toArray 125 (0, 0))] :: [(bl, .cells ((wO W.leaves).flatMap z6 ++ []).toArray 38 (0, 0))] :: Cg :: F) _ _
  refine qO <| qP <| qB rfl <| q9 (wL rfl rfl) <| qF <| qL rfl (fun hc3 => ?_) (fun hc3 => ?_)
  ·
   refine qZ <| qI <| qO <| qg <| qO ?_
   have hst := K1 (pr := fun i => (W.all i).has) (kx (show i < 1064 by omega))
   rw [← ho] at hst
   refine qK <| q9 (qA rfl) <| q9 (qH rfl rfl) <| qB rfl <| q9 (qw (j := i) (off := i * 131) rfl rfl rfl (by omega) (by simp)) ?_
   refine q9 (w6 rfl) <| q9 (ze (j := i) (k := 0) zg rfl (y2 (by omega)) rfl rfl) <| qF <| y3 rfl (fun hc5 => ?_) (fun hc5 => ?_)
   ·
    rw [if_pos hc5] at hst
    refine qK <| qB rfl <| qB rfl <| qG (wK rfl rfl rfl) ?_
    rintro t17 _ ⟨b17, rfl, rfl⟩
    refine qG (wg (m := 1) (sz := 1) rfl rfl hsl (wi (ys := iV [(i : Int)]) inferInstance rfl rfl) rfl Tryz.underlying39 rfl rfl (by omega)) ?_
    rintro t18 _ ⟨C', hs', rfl⟩
    refine qD rfl <| qT <| qf <| qI <| qK <| qB rfl <| q9 (w9 rfl rfl (by omega)) <| qD rfl <| qT <| w5 ⟨(i + 1, t18, C', out ++ [(i : Int)]), ?_⟩ ?_ ?_
    · (try dsimp only); exact ⟨by omega, hst.symm, by rw [List.length_append]; simpa [iV] using hs', by simp; omega⟩
    · (try dsimp only); omega
    · (try dsimp only); exact qX _
   ·
    rw [if_neg (by rw [hc5]; simp), List.append_nil] at hst
    refine qZ <| qf <| qI <| qK <| qB rfl <| q9 (w9 rfl rfl (by omega)) <| qD rfl <| qT <| w5 ⟨(i + 1, uo, Co, out), ?_⟩ ?_ ?_
    · (try dsimp only); exact ⟨by omega, hst.symm, hsl, by omega⟩
    · (try dsimp only); omega
    · (try dsimp only); exact qX _
  ·
   refine wb <| qr <| qt <| qj <| qI <| qP <| qB rfl <| qD rfl <| qF <| qz <| wF (Co :: [(ba, .cells ((zA W.all).flatMap z7 ++ []).toArray 125 (0, 0))] :: [(bl, .cells ((wO W.leaves).flatMap z6 ++ []).toArray 38 (0, 0))] :: Cg :: F) (.inl rfl) rfl (qu rfl) ?_
   rw [List.take_of_length_le (by rw [x2]; omega)] at ho
   subst ho
   exact ⟨Co, hsl, rfl⟩
instance (priority := high) : TyZero Tryz.prog 125 (.agg (z7 Blk.zero).toArray) := .of (by kernel_rfl)
theorem rep_allL : zA (fun _ => Blk.zero) = List.replicate 1064 Blk.zero := by
  unfold zA xl
  rw [List.map_const']; simp
theorem rep_leafL : wO (fun _ => ⟨0, false⟩) = List.replicate 32 ⟨0, false⟩ := by
  unfold wO xl
  rw [List.map_const']; simp
def Wj (num ver kind : Int) : RS := ⟨num, ver, kind, 0, 0, fun _ => Blk.zero, fun _ => ⟨0, false⟩, ⟨0, false⟩, ⟨0, false⟩, ⟨0, true⟩, []⟩
theorem rnew_ok (num ver kind : Int) : FnT Tryz.prog w0 26 #[.int .u32 num, .int .u32 ver, .int .i64 kind] F (fun v L' => ∃ ba bl l C, v = .agg l.toArray ∧ RefC ba bl (Wj num ver kind) l C ∧ L' = C :: F) := by
  refine qh (E0 := [(0, _), (1, _), (2, _)]) (N := 14) Tryz.func26 rfl rfl rfl rfl ?_
  refine qP <| qG (qn) ?_
  rintro t6 _ ⟨b6, rfl, rfl⟩
  refine qF <| qO <| wQ w8 <| wE [(7, .pure _), (8, .pure _), (9, .pure _), (10, .act ([]) (fun v C => ∃ b, v = .slice (some ⟨b, 0, none⟩) 1064 1064 ∧ C = [(b, .cells ((List.replicate 1064 Blk.zero).flatMap z7 ++ []).toArray 125 (0, 0))])), (11, .act ([]) (fun v C => ∃ b, v = .slice (some ⟨b, 0, none⟩) 32 32 ∧ C = [(b, .cells ((List.replicate 32 (⟨0, false⟩ : yG)).flatMap z6 ++ []).toArray 38 (0, 0))])), (12, .pure _)] (by kernel_rfl) rfl rfl rfl (jT [[], []] rfl) (qC rfl (fun X => qM rfl) <| qC rfl (fun X => qM rfl) <| qC rfl (fun X => qM rfl) <| jr rfl (fun X => OpT.mono (k8 (xy (n := 1064) (r := (List.replicate 1064 Blk.zero).flatMap z7 ++ []) rfl rfl (by decide) (by decide) (by rw [List.append_nil]; exact YY z7 131 1064 Blk.zero (zg _) (by omega))) (fun _ _ h => h) kP) (fun v L h => by obtain ⟨b, h1, h2⟩ := h; exact ⟨_, ⟨b, h1, rfl⟩, h2⟩)) <| jr rfl (fun X => OpT.mono (k8 (xy (n := 32) (r := (List.replicate 32 (⟨0, false⟩ : yG)).flatMap z6 ++ []) rfl rfl (by decide) (by decide) (by rw [List.append_nil]; exact YY z6 2 32 ⟨0, false⟩ rfl (by omega))) (fun _ _ h => h) kP) (fun v L h => by obtain ⟨b, h1, h2⟩ := h; exact ⟨_, ⟨b, h1, rfl⟩, h2⟩)) <| qC rfl (fun X => wa rfl) <| ParH.nil rfl) ?_
  rintro t10 C1 ⟨ba, rfl, rfl⟩
  rintro t11 C2 ⟨bl, rfl, rfl⟩
  dsimp only [zQ, List.drop, List.length]
  refine qm (by kernel_rfl) (wa rfl) ?_
  refine yU (by kernel_rfl) (wj rfl rfl rfl rfl) ?_
  refine wI ?_
  rw [← rep_allL, ← rep_leafL]
  refine zM (L' := [(b6, .cells [.int .u32 num, .int .u32 ver, .int .i64 kind, .int .i64 0, .int .u32 0, .slice (some ⟨ba, 0, none⟩) 1064 1064, .slice (some ⟨bl, 0, none⟩) 32 32, .int .i64 0, .bool false, .int .i64 0, .bool false, .int .i64 0, .bool true, .slice none 0 0].toArray 41 (0, 0))] :: ((ba, .cells ((zA (fun _ => Blk.zero)).flatMap z7 ++ []).toArray 125 (0, 0)) :: (bl, .cells ((wO (fun _ => ⟨0, false⟩)).flatMap z6 ++ []).toArray 38 (0, 0)) :: []) :: F) (yV (by intro f; simp only [List.flatten_cons, List.flatten_nil, List.append_nil, List.countP_append, List.countP_cons, List.countP_nil]; omega)) ?_
  refine qI <| qz <| wF (((ba, .cells ((zA (fun _ => Blk.zero)).flatMap z7 ++ []).toArray 125 (0, 0)) :: (bl, .cells ((wO (fun _ => ⟨0, false⟩)).flatMap z6 ++ []).toArray 38 (0, 0)) :: []) :: F) (.inl rfl) rfl (za rfl) ?_
  exact ⟨ba, bl, _, _, rfl, ⟨.slice none 0 0, [], rfl, SlC.nil _ _, rfl⟩, rfl⟩
def Za (W : RS) (lv lf : Int) (i : Int) : Bool := (W.all i).has && (decide ((wW i).1 = lv) && (decide ((wW i).2.1 = lf) || decide (lf < 0)))
def yD (W : RS) (lv lf : Int) : Bool := (zo 1064).any (Za W lv lf)
theorem jc (W : RS) (v : List Value) (C : qV) (hw : RefC ba bl W v C) (lv lf : Int) :
    FnT Tryz.prog w0 66 #[.agg v.toArray, .int .i64 lv, .int .i64 lf] (C :: F) (fun v L' => v = .bool (yD W lv lf) ∧ L' = C :: F) := by
  refine ref_read (args := fun v => #[.agg v.toArray, .int .i64 lv, .int .i64 lf]) (Rv := fun v => v = .bool (yD W lv lf)) hw ?_
  intro ug Cg hs
  unfold JL kV
  refine qh (E0 := [(0, _), (1, _), (2, _)]) (N := 41) Tryz.func66 rfl rfl rfl rfl ?_
  refine qP <| qG (wq rfl) ?_
  rintro t3 _ ⟨b3, rfl, rfl⟩
  refine qD rfl <| qF <| qO <| qP <| qD rfl <| qF <| qg <| wV (Γ := {pΓ : (Nat) // (fun (i : Nat) => i ≤ 1064 ∧ ((zo 1064).take i).any (Za W lv lf) = false) pΓ}) (fun g => (fun (i : Nat) => [(1, .int .i64 lv), (2, .int .i64 lf), (3, .pointer (some ⟨b3, 0, none⟩)), (7, .int .i64 i)]) g.1) (fun g => (fun (i : Nat) => [(b3, .cells [.int .u32 W.num, .int .u32 W.ver, .int .i64 W.kind, .int .i64 W.size, .int .u32 W.time, .slice (some ⟨ba, 0, none⟩) 1064 1064, .slice (some ⟨bl, 0, none⟩) 32 32, .int .i64 W.sg.at_, .bool W.sg.stale, .int .i64 W.db.at_, .bool W.db.stale, .int .i64 W.self.at_, .bool W.self.stale, ug].toArray 41 (0, 0))] :: [(ba, .cells ((zA W.all).flatMap z7 ++ []).toArray 125 (0, 0))] :: [(bl, .cells ((wO W.leaves).flatMap z6 ++ []).toArray 38 (0, 0))] :: Cg :: F) g.1) (fun g => (fun (i : Nat) => 1064 - i) g.1) ⟨0, by dsimp only; exact ⟨by omega, rfl⟩⟩ (qX _) ?_
  rintro ⟨i, hloop⟩
  replace hloop : i ≤ 1064 ∧ ((zo 1064).take i).any (Za W lv lf) = false := hloop
  obtain ⟨hi, hn⟩ := hloop
  show Tr _ _ _ ([(1, .int .i64 lv), (2, .int .i64 lf), (3, .pointer (some ⟨b3, 0, none⟩)), (7, .int .i64 i)]) ([(b3, .cells [.int .u32 W.num, .int .u32 W.ver, .int .i64 W.kind, .int .i64 W.size, .int .u32 W.time, .slice (some ⟨ba, 0, none⟩) 1064 1064, .slice (some ⟨bl, 0, none⟩) 32 32, .int .i64 W.sg.at_, .bool W.sg.stale, .int .i64 W.db.at_, .bool W.db.stale, .int .i64 W.self.at_, .bool W.self.stale, ug].toArray 41 (0, 0))] :: [(ba, .cells ((zA W.all).flatMap z7 ++ []).toArray 125 (0, 0))] :: [(bl, .cells ((wO W.leaves).flatMap z6 ++ []).toArray 38 (0, 0))] :: Cg :: F) _ _
  refine qO <| qP <| qB rfl <| q9 (wL rfl rfl) <| qF <| qL rfl (fun hc2 => ?_) (fun hc2 => ?_)
  ·
   refine qZ <| qI <| qO <| qg <| qP <| qB rfl <| q9 (wJ rfl (Kc i (by omega))) <| qB rfl <| q9 (qi rfl rfl) <| q9 (qi rfl rfl) <| qG (qn) ?_
   rintro t8 _ ⟨b8, rfl, rfl⟩
   refine qS (wj (vs := [.int .i64 (wW i).1, .int .i64 (wW i).2.1, .int .i64 (wW i).2.2]) rfl rfl rfl rfl) <| qD rfl <| qF <| zb (Γ := {pΓ : (Bool) // (fun (b : Bool) => b = Za W lv lf i) pΓ}) (fun g => (fun (b : Bool) => [(1, .int .i64 lv), (2, .int .i64 lf), (3, .pointer (some ⟨b3, 0, none⟩)), (7, .int .i64 i), (40, .bool b)]) g.1) (fun g => (fun (b : Bool) => [(b3, .cells [.int .u32 W.num, .int .u32 W.ver, .int .i64 W.kind, .int .i64 W.size, .int .u32 W.time, .slice (some ⟨ba, 0, none⟩) 1064 1064, .slice (some ⟨bl, 0, none⟩) 32 32, .int .i64 W.sg.at_, .bool W.sg.stale, .int .i64 W.db.at_, .bool W.db.stale, .int .i64 W.self.at_, .bool W.self.stale, ug].toArray 41 (0, 0))] :: [(ba, .cells ((zA W.all).flatMap z7 ++ []).toArray 125 (0, 0))] :: [(bl, .cells ((wO W.leaves).flatMap z6 ++ []).toArray 38 (0, 0))] :: Cg :: F) g.1) ?_ ?_
   ·
    refine qK <| q9 (qA rfl) <| q9 (qH rfl rfl) <| qB rfl <| q9 (qw (j := i) (off := i * 131) rfl rfl rfl (by omega) (by simp)) ?_
    refine q9 (w6 rfl) <| q9 (ze (j := i) (k := 0) zg rfl (y2 (by omega)) rfl rfl) <| qB rfl <| y0 (s := 25) rfl (fun hg5_6 => ?_) (fun hg5_6 => ?_)
    ·
     refine qE rfl rfl (qA rfl) <| qE rfl rfl (qH rfl rfl) <| qE rfl rfl (qM rfl) <| qE rfl rfl (wl rfl rfl) <| q9 (qk rfl rfl) <| qB rfl <| qY (s := 31) rfl (fun hg5_12 => ?_) (fun hg5_12 => ?_)
     ·
      refine qE rfl rfl (qA rfl) <| qE rfl rfl (qH rfl rfl) <| qE rfl rfl (qM rfl) <| qE rfl rfl (wl rfl rfl) <| qE rfl rfl (qM rfl) <| qY (s := 36) rfl (fun hg5_17 => ?_) (fun hg5_17 => ?_)
      ·
       refine qN rfl rfl rfl <| qN rfl rfl rfl <| qE rfl rfl (qk rfl rfl) <| q9 (qk rfl rfl) <| qT <| qW ⟨_, ?_⟩ ?_
       · (try dsimp only); unfold Za; simp only [*, Bool.true_and, Bool.false_and, decide_true, decide_false, Bool.true_or, Bool.false_or] <;> rfl
       · (try dsimp only); exact qX _
      ·
       refine qE rfl rfl (qM rfl) <| qE rfl rfl (wL rfl rfl) <| qE rfl rfl (qU rfl rfl) <| q9 (qk rfl rfl) <| qT <| qW ⟨_, ?_⟩ ?_
       · (try dsimp only); unfold Za; simp only [*, Bool.true_and, Bool.false_and, decide_true, decide_false, Bool.true_or, Bool.false_or] <;> rfl
       · (try dsimp only); exact qX _
     ·
      refine qN rfl rfl rfl <| qN rfl rfl rfl <| qN rfl rfl rfl <| qN rfl rfl rfl <| qN rfl rfl rfl <| j5 rfl rfl <| j5 rfl rfl <| qN rfl rfl rfl <| q9 (qU rfl rfl) <| qT <| qW ⟨_, ?_⟩ ?_
      · (try dsimp only); unfold Za; simp only [*, Bool.true_and, Bool.false_and, decide_true, decide_false, Bool.true_or, Bool.false_or] <;> rfl
      · (try dsimp only); exact qX _
    ·
     refine qN rfl rfl rfl <| qN rfl rfl rfl <| qN rfl rfl rfl <| qN rfl rfl rfl <| q9 (qU rfl rfl) <| qB rfl <| qN rfl rfl rfl <| qN rfl rfl rfl <| qN rfl rfl rfl <| qN rfl rfl rfl <| qN rfl rfl rfl <| j5 rfl rfl <| j5 rfl rfl <| qN rfl rfl rfl <| q9 (qU rfl rfl) <| qT <| qW ⟨_, ?_⟩ ?_
     · (try dsimp only); unfold Za; simp only [*, Bool.true_and, Bool.false_and, decide_true, decide_false, Bool.true_or, Bool.false_or] <;> rfl
     · (try dsimp only); exact qX _
   rintro ⟨b, hcut⟩
   replace hcut : b = Za W lv lf i := hcut
   have hb := hcut
   show Tr _ _ _ ([(1, .int .i64 lv), (2, .int .i64 lf), (3, .pointer (some ⟨b3, 0, none⟩)), (7, .int .i64 i), (40, .bool b)]) ([(b3, .cells [.int .u32 W.num, .int .u32 W.ver, .int .i64 W.kind, .int .i64 W.size, .int .u32 W.time, .slice (some ⟨ba, 0, none⟩) 1064 1064, .slice (some ⟨bl, 0, none⟩) 32 32, .int .i64 W.sg.at_, .bool W.sg.stale, .int .i64 W.db.at_, .bool W.db.stale, .int .i64 W.self.at_, .bool W.self.stale, ug].toArray 41 (0, 0))] :: [(ba, .cells ((zA W.all).flatMap z7 ++ []).toArray 125 (0, 0))] :: [(bl, .cells ((wO W.leaves).flatMap z6 ++ []).toArray 38 (0, 0))] :: Cg :: F) _ _
   refine y3 rfl (fun hc4 => ?_) (fun hc4 => ?_)
   ·
    refine qP <| qD rfl <| qF <| qz <| wN <| w7 <| kc <| wN <| w7 <| wF ([(ba, .cells ((zA W.all).flatMap z7 ++ []).toArray 125 (0, 0))] :: [(bl, .cells ((wO W.leaves).flatMap z6 ++ []).toArray 38 (0, 0))] :: Cg :: F) (.inl rfl) rfl (qu rfl) ?_
    exact ⟨by unfold yD; rw [List.any_eq_true.2 ⟨(i : Int), List.mem_of_getElem? (kx (by omega)), by rw [← hb]; exact hc4⟩], rfl⟩
   ·
    refine qZ <| qf <| qI <| qK <| qB rfl <| q9 (w9 rfl rfl (by omega)) <| qD rfl <| qT <| w5 ⟨i + 1, ?_⟩ ?_ ?_
    ·
     try dsimp only
     refine ⟨by omega, ?_⟩
     rw [List.take_add_one, kx (by omega), List.any_append, hn]
     simp [← hb, hc4]
    · (try dsimp only); omega
    · (try dsimp only); exact qX _
  ·
   refine wb <| qr <| qt <| qj <| qI <| qP <| qD rfl <| qF <| qz <| wF ([(ba, .cells ((zA W.all).flatMap z7 ++ []).toArray 125 (0, 0))] :: [(bl, .cells ((wO W.leaves).flatMap z6 ++ []).toArray 38 (0, 0))] :: Cg :: F) (.inl rfl) rfl (qu rfl) ?_
   rw [List.take_of_length_le (by rw [x2]; omega)] at hn
   exact ⟨by unfold yD; rw [hn], rfl⟩
def J8 (W : RS) (i : Int) : Int := (W.all (i / 128)).s.l.getD (i % 128).toNat 0
def ZL (W : RS) (a m : Int) : List Int := (List.range (min (W.size - a) m).toNat).map fun j : Nat => J8 W (a + j)
theorem blk_byte (b : Blk) {k : Nat} (h : k < 128) : wX (z7 b) (3 + k) = some (.int .u8 (b.s.l.getD k 0)) := by
  rw [zK, show 3 + k = k + 1 + 1 + 1 from by omega]
  show (ww b.s)[k]? = _
  have hl := b.s.len
  simp [ww, u8s, List.getD_eq_getElem?_getD, List.getElem?_eq_getElem (show k < b.s.l.length by omega)]
theorem rread_ok (W : RS) (v : List Value) (C : qV) (hw : RefC ba bl W v C) (a m : Int) (ha : -9223372036854775808 ≤ a ∧ a ≤ 9223372036854775807) (hsz : W.size ≤ 136192) :
    FnT Tryz.prog w0 29 #[.agg v.toArray, .int .i64 a, .int .i64 m] (C :: F) (fun v L' => ∃ C', (if a < 0 ∨ m < 0 then v = .tuple #[.slice none 0 0, .int .i64 1] ∧ C' = [] else ∃ u, v = .tuple #[u, .int .i64 0] ∧ SlC 5 1 u (ZL W a m).length (u8s (ZL W a m)) C') ∧ L' = C' :: C :: F) := by
  refine Xp (args := fun v => #[.agg v.toArray, .int .i64 a, .int .i64 m]) (G := fun v C' => (if a < 0 ∨ m < 0 then v = .tuple #[.slice none 0 0, .int .i64 1] ∧ C' = [] else ∃ u, v = .tuple #[u, .int .i64 0] ∧ SlC 5 1 u (ZL W a m).length (u8s (ZL W a m)) C')) hw ?_
  intro ug Cg hs
  unfold JL kV
  refine qh (E0 := [(0, _), (1, _), (2, _)]) (N := 43) Tryz.func29 rfl rfl rfl rfl ?_
  refine qP <| qG (wq rfl) ?_
  rintro t3 _ ⟨b3, rfl, rfl⟩
  refine qD rfl <| qD rfl <| qF <| qO <| zb (Γ := {pΓ : (Bool) // (fun (b : Bool) => b = decide (a < 0 ∨ m < 0)) pΓ}) (fun g => (fun (b : Bool) => [(1, .int .i64 a), (2, .int .i64 m), (3, .pointer (some ⟨b3, 0, none⟩)), (15, .bool b)]) g.1) (fun g => (fun (b : Bool) => [(b3, .cells [.int .u32 W.num, .int .u32 W.ver, .int .i64 W.kind, .int .i64 W.size, .int .u32 W.time, .slice (some ⟨ba, 0, none⟩) 1064 1064, .slice (some ⟨bl, 0, none⟩) 32 32, .int .i64 W.sg.at_, .bool W.sg.stale, .int .i64 W.db.at_, .bool W.db.stale, .int .i64 W.self.at_, .bool W.self.stale, ug].toArray 41 (0, 0))] :: [(ba, .cells ((zA W.all).flatMap z7 ++ []).toArray 125 (0, 0))] :: [(bl, .cells ((wO W.leaves).flatMap z6 ++ []).toArray 38 (0, 0))] :: Cg :: F) g.1) ?_ ?_
  ·
   refine qK <| qB rfl <| q9 (wL rfl rfl) <| qB rfl <| qY (s := 12) rfl (fun hg1_2 => ?_) (fun hg1_2 => ?_)
   ·
    refine qN rfl rfl rfl <| qN rfl rfl rfl <| q9 (qk rfl rfl) <| qT <| qW ⟨_, ?_⟩ ?_
    · (try dsimp only); simp only [*, true_or, false_or, decide_true] <;> rfl
    · (try dsimp only); exact qX _
   ·
    refine qE rfl rfl (qM rfl) <| qE rfl rfl (wL rfl rfl) <| q9 (qU rfl rfl) <| qT <| qW ⟨_, ?_⟩ ?_
    · (try dsimp only); simp only [*, true_or, false_or, decide_true] <;> rfl
    · (try dsimp only); exact qX _
  rintro ⟨b, hcut⟩
  replace hcut : b = decide (a < 0 ∨ m < 0) := hcut
  have hb := hcut
  show Tr _ _ _ ([(1, .int .i64 a), (2, .int .i64 m), (3, .pointer (some ⟨b3, 0, none⟩)), (15, .bool b)]) ([(b3, .cells [.int .u32 W.num, .int .u32 W.ver, .int .i64 W.kind, .int .i64 W.size, .int .u32 W.time, .slice (some ⟨ba, 0, none⟩) 1064 1064, .slice (some ⟨bl, 0, none⟩) 32 32, .int .i64 W.sg.at_, .bool W.sg.stale, .int .i64 W.db.at_, .bool W.db.stale, .int .i64 W.self.at_, .bool W.self.stale, ug].toArray 41 (0, 0))] :: [(ba, .cells ((zA W.all).flatMap z7 ++ []).toArray 125 (0, 0))] :: [(bl, .cells ((wO W.leaves).flatMap z6 ++ []).toArray 38 (0, 0))] :: Cg :: F) _ _
  refine y3 rfl (fun hc0 => ?_) (fun hc0 => ?_)
  ·
   refine qP <| qD rfl <| qD rfl <| qF <| qz <| w7 <| wY ([] :: [(ba, .cells ((zA W.all).flatMap z7 ++ []).toArray 125 (0, 0))] :: [(bl, .cells ((wO W.leaves).flatMap z6 ++ []).toArray 38 (0, 0))] :: Cg :: F) (.inl rfl) rfl (qu rfl) (qu rfl) ?_
   exact ⟨[], by rw [if_pos (of_decide_eq_true (hb ▸ hc0))]; exact ⟨rfl, rfl⟩, rfl⟩
  ·
   refine qZ <| qI <| qO ?_
   have hnn : ¬ (a < 0 ∨ m < 0) := of_decide_eq_false (hb ▸ hc0)
   refine qK <| qD rfl <| qF <| qO <| qP <| qB rfl <| qD rfl <| qF <| qg <| wV (Γ := {pΓ : (Nat) × (Int) × (Value) × (qV) // (fun (i : Nat) (z : Int) (uo : Value) (Co : qV) => z = a + i ∧ (i = 0 ∨ (i : Int) ≤ W.size - a ∧ (i : Int) ≤ m) ∧ SlC 5 1 uo i (u8s ((List.range i).map fun j : Nat => J8 W (a + j))) Co) pΓ.1 pΓ.2.1 pΓ.2.2.1 pΓ.2.2.2}) (fun g => (fun (i : Nat) (z : Int) (uo : Value) (Co : qV) => [(2, .int .i64 m), (3, .pointer (some ⟨b3, 0, none⟩)), (8, uo), (9, .int .i64 z)]) g.1.1 g.1.2.1 g.1.2.2.1 g.1.2.2.2) (fun g => (fun (i : Nat) (z : Int) (uo : Value) (Co : qV) => Co :: [(b3, .cells [.int .u32 W.num, .int .u32 W.ver, .int .i64 W.kind, .int .i64 W.size, .int .u32 W.time, .slice (some ⟨ba, 0, none⟩) 1064 1064, .slice (some ⟨bl, 0, none⟩) 32 32, .int .i64 W.sg.at_, .bool W.sg.stale, .int .i64 W.db.at_, .bool W.db.stale, .int .i64 W.self.at_, .bool W.self.stale, ug].toArray 41 (0, 0))] :: [(ba, .cells ((zA W.all).flatMap z7 ++ []).toArray 125 (0, 0))] :: [(bl, .cells ((wO W.leaves).flatMap z6 ++ []).toArray 38 (0, 0))] :: Cg :: F) g.1.1 g.1.2.1 g.1.2.2.1 g.1.2.2.2) (fun g => (fun (i : Nat) (z : Int) (uo : Value) (Co : qV) => (W.size - a).toNat - i) g.1.1 g.1.2.1 g.1.2.2.1 g.1.2.2.2) ⟨(0, a, .slice none 0 0, []), by dsimp only; exact ⟨by simp, .inl rfl, SlC.nil _ _⟩⟩ (qX _) ?_
   rintro ⟨⟨i, z, uo, Co⟩, hloop⟩
   replace hloop : z = a + i ∧ (i = 0 ∨ (i : Int) ≤ W.size - a ∧ (i : Int) ≤ m) ∧ SlC 5 1 uo i (u8s ((List.range i).map fun j : Nat => J8 W (a + j))) Co := hloop
   obtain ⟨hz, hi, hsl⟩ := hloop
   show Tr _ _ _ ([(2, .int .i64 m), (3, .pointer (some ⟨b3, 0, none⟩)), (8, uo), (9, .int .i64 z)]) (Co :: [(b3, .cells [.int .u32 W.num, .int .u32 W.ver, .int .i64 W.kind, .int .i64 W.size, .int .u32 W.time, .slice (some ⟨ba, 0, none⟩) 1064 1064, .slice (some ⟨bl, 0, none⟩) 32 32, .int .i64 W.sg.at_, .bool W.sg.stale, .int .i64 W.db.at_, .bool W.db.stale, .int .i64 W.self.at_, .bool W.self.stale, ug].toArray 41 (0, 0))] :: [(ba, .cells ((zA W.all).flatMap z7 ++ []).toArray 125 (0, 0))] :: [(bl, .cells ((wO W.leaves).flatMap z6 ++ []).toArray 38 (0, 0))] :: Cg :: F) _ _
   refine qO <| qO ?_
   obtain ⟨pu, cu, hu⟩ := hsl.slice
   refine qK <| qB rfl <| q9 (qA rfl) <| q9 (qH rfl rfl) <| q9 (wL rfl rfl) <| qB rfl <| qY (s := 21) rfl (fun hg5_4 => ?_) (fun hg5_4 => ?_)
   ·
    refine qE rfl rfl (qM rfl) <| qE rfl rfl (wD (by rw [← hu]; rfl)) ?_
    refine qE rfl rfl (qM rfl) <| qE rfl rfl (wL rfl rfl) <| q9 (qk rfl rfl) <| qF <| qL rfl (fun hc5 => ?_) (fun hc5 => ?_)
    ·
     refine qZ <| qI <| qO <| qg ?_
     obtain ⟨q, hq⟩ : ∃ q : Nat, z / 128 = q := ⟨(z / 128).toNat, by omega⟩
     obtain ⟨r, hr⟩ : ∃ r : Nat, z % 128 = r := ⟨(z % 128).toNat, by omega⟩
     refine qK <| qB rfl <| q9 (qA rfl) <| q9 (qH rfl rfl) <| qB rfl <| q9 (jU rfl rfl (by omega)) <| qB rfl <| q9 (xD rfl rfl (by omega) (by omega)) <| q9 (qw (j := q) (off := q * 131) rfl rfl (by omega) (by omega) (by simp)) ?_
     refine q9 (w6 rfl) <| q9 (wo (j := r) (off := q * 131 + 3 + r * 1) rfl rfl (by omega) (by omega) (by simp)) ?_
     refine q9 (ze (j := q) (k := 3 + r) (v := .int .u8 (J8 W z)) zg rfl (y2 (by omega)) (by omega) (by unfold J8; rw [hq, hr, Int.toNat_natCast]; exact blk_byte _ (by omega)) (by rw [Nat.blt_eq]; omega)) ?_
     refine qG (wK rfl rfl rfl) ?_
     rintro t40 _ ⟨b40, rfl, rfl⟩
     refine qG (wg (m := 1) (sz := 1) rfl rfl hsl (wi (ys := u8s [J8 W z]) inferInstance rfl rfl) rfl Tryz.underlying23 rfl rfl (by omega)) ?_
     rintro t41 _ ⟨C', hs', rfl⟩
     refine qD rfl <| qT <| qf <| qI <| qK <| qB rfl <| q9 (w9 rfl rfl (by omega)) <| qD rfl <| qT <| w5 ⟨(i + 1, _, t41, C'), ?_⟩ ?_ ?_
     · (try dsimp only); exact ⟨by omega, .inr (by omega), by rw [List.range_succ, List.map_append, ym]; simp only [List.map_cons, List.map_nil, ← hz]; exact hs'⟩
     · (try dsimp only); omega
     · (try dsimp only); exact qX _
    ·
     refine wb <| qr <| qt <| qj <| qI <| qP <| qB rfl <| qD rfl <| qD rfl <| qF <| qz <| wY (Co :: [(ba, .cells ((zA W.all).flatMap z7 ++ []).toArray 125 (0, 0))] :: [(bl, .cells ((wO W.leaves).flatMap z6 ++ []).toArray 38 (0, 0))] :: Cg :: F) (.inl rfl) rfl (qu rfl) (qu rfl) ?_
     have hil : i = (min (W.size - a) m).toNat := by omega
     exact ⟨Co, by rw [if_neg hnn]; exact ⟨uo, rfl, by unfold ZL; rw [← hil]; simpa using hsl⟩, rfl⟩
   ·
    refine qN rfl rfl rfl <| qN rfl rfl rfl <| qN rfl rfl rfl <| qN rfl rfl rfl <| q9 (qU rfl rfl) <| qF <| wU rfl <| wb <| qr <| qt <| qj <| qI <| qP <| qB rfl <| qD rfl <| qD rfl <| qF <| qz <| wY (Co :: [(ba, .cells ((zA W.all).flatMap z7 ++ []).toArray 125 (0, 0))] :: [(bl, .cells ((wO W.leaves).flatMap z6 ++ []).toArray 38 (0, 0))] :: Cg :: F) (.inl rfl) rfl (qu rfl) (qu rfl) ?_
    have hil : i = (min (W.size - a) m).toNat := by omega
    exact ⟨Co, by rw [if_neg hnn]; exact ⟨uo, rfl, by unfold ZL; rw [← hil]; simpa using hsl⟩, rfl⟩
def j7 : List (Int × Int × Int) → List Int → (Int → Blk) → (Int → Blk)
  | [], _, f => f
  | q :: l, bs, f => j7 l (bs.drop (q.2.2 - q.2.1).toNat) (upd f q.1 ⟨true, (f q.1).at_, true, yC (f q.1).s q.2.1.toNat (bs.take (q.2.2 - q.2.1).toNat)⟩)
def ke (W : RS) (a : Int) (bs : List Int) : Int × RS :=
  if kr a bs.length ≠ 0 ∨ bs.length = 0 then (kr a bs.length, W) else (0, { W with all := j7 (j3 a bs.length) bs W.all, size := max W.size (a + bs.length) })
theorem mem_flat_tail {c : qV} {L : Res} {x : Vc} (h : x ∈ L.flatten) : x ∈ (c :: L).flatten := by simp only [List.flatten_cons]; exact List.mem_append_right _ h
theorem Xs (s : Sec) {k : Nat} (h : k ≤ 128) : yC s k [] = s := by
  have hb : IsB ([] : List Int) := fun z hz => by cases hz
  rw [x6 (by simpa using h) hb]
  apply YK
  simp [Sec.put, Qc]
theorem M3 (b : Blk) (qa t : Nat) (m : List Int) (y : Int) (hm : m.length = t) (h : qa + t < 128) (hb : IsB (m ++ [y])) :
    (z7 { b with s := yC b.s qa m }).set (3 + (qa + t) * 1) (.int .u8 y) = z7 { b with s := yC b.s qa (m ++ [y]) } := by
  have hbm : IsB m := fun z hz => hb z (List.mem_append_left _ hz)
  have h1 : (yC b.s qa m).l = Qc b.s.l qa m := by rw [x6 (by omega) hbm]; rfl
  have h2 : (yC b.s qa (m ++ [y])).l = Qc b.s.l qa (m ++ [y]) := by rw [x6 (by simp; omega) hb]; rfl
  have key : (Qc b.s.l qa m).set (qa + t) y = Qc b.s.l qa (m ++ [y]) := by
    have hl := b.s.len
    unfold Qc
    rw [List.append_assoc, List.set_append_right _ _ (by simp; omega), List.append_assoc]
    congr 1
    rw [List.length_take, Nat.min_eq_left (by omega), Nat.add_sub_cancel_left, List.set_append_right _ _ (by omega), List.append_assoc]
    congr 1
    rw [hm, Nat.sub_self, List.length_append, hm]
    rw [List.drop_eq_getElem_cons (show qa + t < b.s.l.length by omega)]
    rfl
  unfold z7
  rw [show 3 + (qa + t) * 1 = (qa + t) + 1 + 1 + 1 from by omega]
  simp only [List.set_cons_succ, ww]
  congr 3
  rw [h1, h2, ← key]
  simp [u8s, List.map_set]
abbrev node0V : List Value := [.int .u32 0, .int .u32 0, .int .i64 0, .int .i64 0, .int .u32 0, .slice none 0 0, .slice none 0 0, .int .i64 0, .bool false, .int .i64 0, .bool false, .int .i64 0, .bool false, .slice none 0 0]
theorem jw (W : RS) (v : List Value) (C : qV) (hw : RefC ba bl W v C) (a : Int) (q : Option Addr) (c : Nat) (bs : List Int) (ha : -9223372036854775808 ≤ a ∧ a ≤ 9223372036854775807) (hbs : IsB bs) (hlen : (bs.length : Int) ≤ 9223372036854775807)
    (hb : Reads w0 F (.slice q bs.length c) bs.length 1 (u8s bs)) :
    FnT Tryz.prog w0 27 #[.agg v.toArray, .int .i64 a, .slice q bs.length c] (C :: F) (fun v L' => ∃ l C', v = .tuple #[.agg l.toArray, .int .i64 (ke W a bs).1] ∧ RefC ba bl (ke W a bs).2 l C' ∧ L' = C' :: F) := by
  obtain ⟨ug, Cg, rfl, hs, rfl⟩ := hw
  obtain ⟨pg, cg, rfl⟩ := hs.slice
  refine FnT.pre (L' := [(ba, .cells ((zA W.all).flatMap z7 ++ []).toArray 125 (0, 0))] :: [(bl, .cells ((wO W.leaves).flatMap z6 ++ []).toArray 38 (0, 0))] :: Cg :: F) ?_ (we (by simp))
  unfold kV
  refine qh (E0 := [(0, _), (1, _), (2, _)]) (N := 92) Tryz.func27 rfl rfl rfl rfl ?_
  refine qP <| qG (wq rfl) ?_
  rintro t3 _ ⟨b3, rfl, rfl⟩
  refine qG (qn) ?_
  rintro t6 _ ⟨b6, rfl, rfl⟩
  refine qD rfl <| qo <| qB rfl <| qB rfl <| q9 (wD rfl) <| qG (qx rfl (rcut_spec a bs.length ha (by omega))) ?_
  rintro t18 _ ⟨uc, Cc, rfl, rfl, hcu⟩
  refine qB rfl <| q9 (qi rfl rfl) <| q9 (qi rfl rfl) <| qD rfl <| qD rfl <| qF <| qO <| qP <| qB rfl <| q9 (wz rfl rfl) <| qB rfl <| qY (s := 23) rfl (fun hg2_2 => ?_) (fun hg2_2 => ?_)
  ·
   refine qN rfl rfl rfl <| qN rfl rfl rfl <| qN rfl rfl rfl <| q9 (qk rfl rfl) <| qF <| zL rfl <| qP <| q9 (wZ rfl) <| qB rfl <| qS (wj rfl rfl rfl rfl) <| qD rfl <| qT <| zM (qX ([(b6, .cells [.int .u32 W.num, .int .u32 W.ver, .int .i64 W.kind, .int .i64 W.size, .int .u32 W.time, .slice (some ⟨ba, 0, none⟩) 1064 1064, .slice (some ⟨bl, 0, none⟩) 32 32, .int .i64 W.sg.at_, .bool W.sg.stale, .int .i64 W.db.at_, .bool W.db.stale, .int .i64 W.self.at_, .bool W.self.stale, .slice pg W.gone.length cg].toArray 41 (0, 0))] :: [(ba, .cells ((zA W.all).flatMap z7 ++ []).toArray 125 (0, 0))] :: [(bl, .cells ((wO W.leaves).flatMap z6 ++ []).toArray 38 (0, 0))] :: Cg :: F)) <| zM (we (L' := [(b6, .cells [.int .u32 W.num, .int .u32 W.ver, .int .i64 W.kind, .int .i64 W.size, .int .u32 W.time, .slice (some ⟨ba, 0, none⟩) 1064 1064, .slice (some ⟨bl, 0, none⟩) 32 32, .int .i64 W.sg.at_, .bool W.sg.stale, .int .i64 W.db.at_, .bool W.db.stale, .int .i64 W.self.at_, .bool W.self.stale, .slice pg W.gone.length cg].toArray 41 (0, 0))] :: ((ba, .cells ((zA W.all).flatMap z7 ++ []).toArray 125 (0, 0)) :: (bl, .cells ((wO W.leaves).flatMap z6 ++ []).toArray 38 (0, 0)) :: Cg) :: F) (by simp)) ?_
   refine qI <| qz <| w7 <| wY (((ba, .cells ((zA W.all).flatMap z7 ++ []).toArray 125 (0, 0)) :: (bl, .cells ((wO W.leaves).flatMap z6 ++ []).toArray 38 (0, 0)) :: Cg) :: F) (.inl rfl) rfl (za rfl) (qu rfl) ?_
   have hE : kr a bs.length ≠ 0 ∨ bs.length = 0 := by first | exact .inl hg2_2 | exact .inr (by omega)
   have hT : ke W a bs = (kr a bs.length, W) := by unfold ke; rw [if_pos hE]
   rw [hT]
   exact ⟨_, _, rfl, ⟨_, Cg, rfl, hs, rfl⟩, rfl⟩
  ·
   refine qE rfl rfl (qM rfl) <| qE rfl rfl (wD rfl) <| qE rfl rfl (wl rfl rfl) <| q9 (qU rfl rfl) <| qF <| qL rfl (fun hc2 => ?_) (fun hc2 => ?_)
   ·
    refine qP <| q9 (wZ rfl) <| qB rfl <| qS (wj rfl rfl rfl rfl) <| qD rfl <| qT <| zM (qX ([(b6, .cells [.int .u32 W.num, .int .u32 W.ver, .int .i64 W.kind, .int .i64 W.size, .int .u32 W.time, .slice (some ⟨ba, 0, none⟩) 1064 1064, .slice (some ⟨bl, 0, none⟩) 32 32, .int .i64 W.sg.at_, .bool W.sg.stale, .int .i64 W.db.at_, .bool W.db.stale, .int .i64 W.self.at_, .bool W.self.stale, .slice pg W.gone.length cg].toArray 41 (0, 0))] :: [(ba, .cells ((zA W.all).flatMap z7 ++ []).toArray 125 (0, 0))] :: [(bl, .cells ((wO W.leaves).flatMap z6 ++ []).toArray 38 (0, 0))] :: Cg :: F)) <| zM (we (L' := [(b6, .cells [.int .u32 W.num, .int .u32 W.ver, .int .i64 W.kind, .int .i64 W.size, .int .u32 W.time, .slice (some ⟨ba, 0, none⟩) 1064 1064, .slice (some ⟨bl, 0, none⟩) 32 32, .int .i64 W.sg.at_, .bool W.sg.stale, .int .i64 W.db.at_, .bool W.db.stale, .int .i64 W.self.at_, .bool W.self.stale, .slice pg W.gone.length cg].toArray 41 (0, 0))] :: ((ba, .cells ((zA W.all).flatMap z7 ++ []).toArray 125 (0, 0)) :: (bl, .cells ((wO W.leaves).flatMap z6 ++ []).toArray 38 (0, 0)) :: Cg) :: F) (by simp)) ?_
    refine qI <| qz <| w7 <| wY (((ba, .cells ((zA W.all).flatMap z7 ++ []).toArray 125 (0, 0)) :: (bl, .cells ((wO W.leaves).flatMap z6 ++ []).toArray 38 (0, 0)) :: Cg) :: F) (.inl rfl) rfl (za rfl) (qu rfl) ?_
    have hE : kr a bs.length ≠ 0 ∨ bs.length = 0 := by first | exact .inl hg2_2 | exact .inr (by omega)
    have hT : ke W a bs = (kr a bs.length, W) := by unfold ke; rw [if_pos hE]
    rw [hT]
    exact ⟨_, _, rfl, ⟨_, Cg, rfl, hs, rfl⟩, rfl⟩
   ·
    refine qZ <| qI <| qP <| qD rfl <| qT ?_
    have hE : kr a bs.length = 0 := by simpa using hg2_2
    have hne : ¬ (kr a bs.length ≠ 0 ∨ bs.length = 0) := by simp only [hE, ne_eq, not_true, false_or]; omega
    rw [hE, if_pos rfl] at hcu
    have hb0 : 0 ≤ a ∧ a + bs.length ≤ 136192 := by unfold kr at hE; split at hE <;> first | (cases hE; done) | (split at hE <;> first | (cases hE; done) | omega)
    obtain ⟨l, hl⟩ : ∃ l, j3 a bs.length = l := ⟨_, rfl⟩
    have hll := J2 a bs.length
    have hsum := V8 (a := a) (n := bs.length) (by omega)
    rw [hl] at hcu hll hsum
    rcases hcu with ⟨-, h0, -⟩ | ⟨bc, capc, spc, rfl, hcsc, rfl, hcapc, hncc⟩
    · rw [List.length_eq_zero_iff.1 h0] at hsum; simp [kK] at hsum; omega
    obtain ⟨q', c', hqe, hylen, hyr⟩ := hb.h
    cases hqe
    rcases hyr with h0 | ⟨bb, ob, cb, eb, fb, rfl, hmem, hbc⟩
    · omega
    refine qI <| qO <| qP <| qD rfl <| qF <| qg <| wV (Γ := {pΓ : (Nat) × (Int → Blk) × (Nat) × (Int) // (fun (i : Nat) (f : Int → Blk) (k : Nat) (z : Int) => z = k ∧ i ≤ l.length ∧ k ≤ bs.length ∧ j7 (l.drop i) (bs.drop k) f = j7 l bs W.all ∧ kK (l.drop i) = bs.length - k) pΓ.1 pΓ.2.1 pΓ.2.2.1 pΓ.2.2.2}) (fun g => (fun (i : Nat) (f : Int → Blk) (k : Nat) (z : Int) => [(1, .int .i64 a), (2, .slice (some ⟨bb, ob, none⟩) bs.length c), (3, .pointer (some ⟨b3, 0, none⟩)), (6, .pointer (some ⟨b6, 0, none⟩)), (8, .slice (some ⟨bc, 0, none⟩) l.length capc), (10, .int .i64 z), (11, .int .i64 i)]) g.1.1 g.1.2.1 g.1.2.2.1 g.1.2.2.2) (fun g => (fun (i : Nat) (f : Int → Blk) (k : Nat) (z : Int) => [(bc, .cells (l.flatMap kJ ++ spc).toArray 131 (0, 0))] :: [(b3, .cells [.int .u32 W.num, .int .u32 W.ver, .int .i64 W.kind, .int .i64 W.size, .int .u32 W.time, .slice (some ⟨ba, 0, none⟩) 1064 1064, .slice (some ⟨bl, 0, none⟩) 32 32, .int .i64 W.sg.at_, .bool W.sg.stale, .int .i64 W.db.at_, .bool W.db.stale, .int .i64 W.self.at_, .bool W.self.stale, .slice pg W.gone.length cg].toArray 41 (0, 0))] :: [(b6, .cells node0V.toArray 41 (0, 0))] :: [(ba, .cells ((zA f).flatMap z7 ++ []).toArray 125 (0, 0))] :: [(bl, .cells ((wO W.leaves).flatMap z6 ++ []).toArray 38 (0, 0))] :: Cg :: F) g.1.1 g.1.2.1 g.1.2.2.1 g.1.2.2.2) (fun g => (fun (i : Nat) (f : Int → Blk) (k : Nat) (z : Int) => l.length - i) g.1.1 g.1.2.1 g.1.2.2.1 g.1.2.2.2) ⟨(0, W.all, 0, 0), by dsimp only; exact ⟨rfl, by omega, by omega, rfl, by simpa using hsum⟩⟩ (qX _) ?_
    rintro ⟨⟨i, f, k, z⟩, hloop⟩
    replace hloop : z = k ∧ i ≤ l.length ∧ k ≤ bs.length ∧ j7 (l.drop i) (bs.drop k) f = j7 l bs W.all ∧ kK (l.drop i) = bs.length - k := hloop
    obtain ⟨hz, hi, hk, hw, hps⟩ := hloop
    show Tr _ _ _ ([(1, .int .i64 a), (2, .slice (some ⟨bb, ob, none⟩) bs.length c), (3, .pointer (some ⟨b3, 0, none⟩)), (6, .pointer (some ⟨b6, 0, none⟩)), (8, .slice (some ⟨bc, 0, none⟩) l.length capc), (10, .int .i64 z), (11, .int .i64 i)]) ([(bc, .cells (l.flatMap kJ ++ spc).toArray 131 (0, 0))] :: [(b3, .cells [.int .u32 W.num, .int .u32 W.ver, .int .i64 W.kind, .int .i64 W.size, .int .u32 W.time, .slice (some ⟨ba, 0, none⟩) 1064 1064, .slice (some ⟨bl, 0, none⟩) 32 32, .int .i64 W.sg.at_, .bool W.sg.stale, .int .i64 W.db.at_, .bool W.db.stale, .int .i64 W.self.at_, .bool W.self.stale, .slice pg W.gone.length cg].toArray 41 (0, 0))] :: [(b6, .cells node0V.toArray 41 (0, 0))] :: [(ba, .cells ((zA f).flatMap z7 ++ []).toArray 125 (0, 0))] :: [(bl, .cells ((wO W.leaves).flatMap z6 ++ []).toArray 38 (0, 0))] :: Cg :: F) _ _
    refine qO <| qP <| qB rfl <| qB rfl <| q9 (wD rfl) <| q9 (wL rfl rfl) <| qF <| qL rfl (fun hc6 => ?_) (fun hc6 => ?_)
    ·
     refine qZ <| qI <| qO <| qg <| qO ?_
     obtain ⟨w, hw1⟩ : ∃ w, l[i]? = some w := ⟨_, List.getElem?_eq_getElem (by omega)⟩
     have hrg := Qw (a := a) (n := bs.length) hb0.1 (hl ▸ List.mem_of_getElem? hw1)
     rw [kR hw1] at hw hps
     simp only [kK] at hps
     have hpn := V9 (a := a) (n := bs.length) hb0.1 (l.drop (i + 1)) (fun z hz => hl ▸ List.mem_of_mem_drop hz)
     obtain ⟨Q, hQ⟩ : ∃ Q : Nat, w.1 = Q := ⟨w.1.toNat, by omega⟩
     obtain ⟨qa, hqa⟩ : ∃ qa : Nat, w.2.1 = qa := ⟨w.2.1.toNat, by omega⟩
     obtain ⟨qb, hqb⟩ : ∃ qb : Nat, w.2.2 = qb := ⟨w.2.2.toNat, by omega⟩
     rw [j7, hQ, hqa, hqb, show ((qb : Int) - qa).toNat = qb - qa from by omega, Int.toNat_natCast, List.drop_drop] at hw
     refine wQ w8 <| wE [(36, .pure _), (37, .pure _), (38, .pure _), (39, .pure _), (40, .pure _), (41, .pure _), (42, .pure _), (43, .pure _), (44, .pure _), (12, .act [] (VY _ 125))] (by kernel_rfl) rfl rfl rfl (jT [[]] rfl) (qC rfl (fun X => qA rfl) <| qC rfl (fun X => qH rfl rfl) <| qC rfl (fun X => qM rfl) <| qC rfl (fun X => qM rfl) <| qC rfl (fun X => qw (j := i) (off := i * 3) rfl rfl rfl (by omega) (by simp)) <| qC rfl (fun X => w6 rfl) <| qC rfl (fun X => ze (j := i) (k := 0) kI rfl hw1 rfl rfl) <| qC rfl (fun X => qw (j := Q) (off := Q * 131) rfl rfl hQ (by omega) (by simp)) <| qC rfl (fun X => zC (j := Q) zg rfl (y2 (by omega)) rfl) <| jr rfl (fun X => Zu) <| ParH.nil rfl) ?_
     rintro _ _ ⟨b12, rfl, rfl⟩
     dsimp only [zQ, List.drop, List.length]
     refine yU (by kernel_rfl) (qq rfl rfl (zg Blk.zero) (zg _) (JB _)) ?_
     refine wI <| qI <| qO <| qP <| qB rfl <| qB rfl <| q9 (qw (j := i) (off := i * 3) rfl rfl rfl (by omega) (by simp)) ?_
     refine q9 (w6 rfl) <| q9 (ze (j := i) (k := 1) (v := .int .i64 qa) kI rfl hw1 rfl (by rw [← hqa]; rfl)) ?_
     refine qD rfl <| qT ?_
     have e0 : z7 (f Q) = z7 { f Q with s := yC (f Q).s qa ((bs.drop k).take 0) } := by rw [List.take_zero, Xs _ (by omega)]
     rw [e0]
     refine qI <| qg <| wV (Γ := {pΓ : (Nat) × (Int) × (Int) // (fun (t : Nat) (z1 : Int) (z2 : Int) => t ≤ qb - qa ∧ z1 = k + t ∧ z2 = qa + t) pΓ.1 pΓ.2.1 pΓ.2.2}) (fun g => (fun (t : Nat) (z1 : Int) (z2 : Int) => [(1, .int .i64 a), (2, .slice (some ⟨bb, ob, none⟩) bs.length c), (3, .pointer (some ⟨b3, 0, none⟩)), (6, .pointer (some ⟨b6, 0, none⟩)), (8, .slice (some ⟨bc, 0, none⟩) l.length capc), (10, .int .i64 z1), (11, .int .i64 i), (12, .pointer (some ⟨b12, 0, none⟩)), (13, .int .i64 z2)]) g.1.1 g.1.2.1 g.1.2.2) (fun g => (fun (t : Nat) (z1 : Int) (z2 : Int) => [(b12, .cells (z7 { f Q with s := yC (f Q).s qa ((bs.drop k).take t) }).toArray 125 (0, 0))] :: [(bc, .cells (l.flatMap kJ ++ spc).toArray 131 (0, 0))] :: [(b3, .cells [.int .u32 W.num, .int .u32 W.ver, .int .i64 W.kind, .int .i64 W.size, .int .u32 W.time, .slice (some ⟨ba, 0, none⟩) 1064 1064, .slice (some ⟨bl, 0, none⟩) 32 32, .int .i64 W.sg.at_, .bool W.sg.stale, .int .i64 W.db.at_, .bool W.db.stale, .int .i64 W.self.at_, .bool W.self.stale, .slice pg W.gone.length cg].toArray 41 (0, 0))] :: [(b6, .cells node0V.toArray 41 (0, 0))] :: [(ba, .cells ((zA f).flatMap z7 ++ []).toArray 125 (0, 0))] :: [(bl, .cells ((wO W.leaves).flatMap z6 ++ []).toArray 38 (0, 0))] :: Cg :: F) g.1.1 g.1.2.1 g.1.2.2) (fun g => (fun (t : Nat) (z1 : Int) (z2 : Int) => (qb - qa) - t) g.1.1 g.1.2.1 g.1.2.2) ⟨(0, z, qa), by dsimp only; exact ⟨by omega, by omega, by omega⟩⟩ (qX _) ?_
     rintro ⟨⟨t, z1, z2⟩, hloop⟩
     replace hloop : t ≤ qb - qa ∧ z1 = k + t ∧ z2 = qa + t := hloop
     obtain ⟨ht, hz1, hz2⟩ := hloop
     show Tr _ _ _ ([(1, .int .i64 a), (2, .slice (some ⟨bb, ob, none⟩) bs.length c), (3, .pointer (some ⟨b3, 0, none⟩)), (6, .pointer (some ⟨b6, 0, none⟩)), (8, .slice (some ⟨bc, 0, none⟩) l.length capc), (10, .int .i64 z1), (11, .int .i64 i), (12, .pointer (some ⟨b12, 0, none⟩)), (13, .int .i64 z2)]) ([(b12, .cells (z7 { f Q with s := yC (f Q).s qa ((bs.drop k).take t) }).toArray 125 (0, 0))] :: [(bc, .cells (l.flatMap kJ ++ spc).toArray 131 (0, 0))] :: [(b3, .cells [.int .u32 W.num, .int .u32 W.ver, .int .i64 W.kind, .int .i64 W.size, .int .u32 W.time, .slice (some ⟨ba, 0, none⟩) 1064 1064, .slice (some ⟨bl, 0, none⟩) 32 32, .int .i64 W.sg.at_, .bool W.sg.stale, .int .i64 W.db.at_, .bool W.db.stale, .int .i64 W.self.at_, .bool W.self.stale, .slice pg W.gone.length cg].toArray 41 (0, 0))] :: [(b6, .cells node0V.toArray 41 (0, 0))] :: [(ba, .cells ((zA f).flatMap z7 ++ []).toArray 125 (0, 0))] :: [(bl, .cells ((wO W.leaves).flatMap z6 ++ []).toArray 38 (0, 0))] :: Cg :: F) _ _
     refine qO <| qP <| qB rfl <| qB rfl <| qB rfl <| q9 (qw (j := i) (off := i * 3) rfl rfl rfl (by omega) (by simp)) ?_
     refine q9 (w6 rfl) <| q9 (ze (j := i) (k := 2) (v := .int .i64 qb) kI rfl hw1 (by simp) (by rw [← hqb]; rfl)) ?_
     refine q9 (wL rfl rfl) <| qF <| qL rfl (fun hc10 => ?_) (fun hc10 => ?_)
     ·
      refine qZ <| qI <| qO <| qg <| qO ?_
      obtain ⟨y, hy⟩ : ∃ y, bs[k + t]? = some y := ⟨_, List.getElem?_eq_getElem (by omega)⟩
      have hcy : cb[ob + (k + t) * 1]? = some (.int .u8 y) := by
        have h1 : ((cb.toList.drop ob).take (bs.length * 1))[k + t]? = some (.int .u8 y) := by rw [hbc]; simp [u8s, hy]
        rw [List.getElem?_take, if_pos (by omega), List.getElem?_drop] at h1
        rw [← Array.getElem?_toList, Nat.mul_one]; exact h1
      have hm0 : IsB ((bs.drop k).take t ++ [y]) := QZ (fun z hz => hbs z (List.mem_of_mem_drop (List.mem_of_mem_take hz))) (fun z hz => by rw [List.mem_singleton.1 hz]; exact hbs y (List.mem_of_getElem? hy))
      refine qK <| qB rfl <| qB rfl <| qB rfl <| q9 (qw (o1 := ob) (j := k + t) (off := ob + (k + t) * 1) rfl rfl (by omega) (by omega) rfl) <| q9 (Yt (c := cb) (e := eb) (fr := fb) (v := .int .u8 y) rfl (by repeat (first | exact hmem | apply mem_flat_tail)) hcy) ?_
      refine q9 (qA rfl) <| q9 (wo (j := qa + t) (off := 3 + (qa + t) * 1) rfl rfl (by omega) (by omega) (by simp)) ?_
      refine qS (yA rfl rfl (by rw [zg]; omega) rfl) ?_
      refine qF <| qK <| qB rfl <| q9 (w9 rfl rfl (by omega)) <| qD rfl <| qT <| qf <| qI <| qK <| qB rfl <| q9 (w9 rfl rfl (by omega)) <| qD rfl <| qT <| w5 ⟨(t + 1, _, _), ?_⟩ ?_ ?_
      · (try dsimp only); exact ⟨by omega, by omega, by omega⟩
      · (try dsimp only); omega
      · (try dsimp only); exact (by rw [show (bs.drop k).take (t + 1) = (bs.drop k).take t ++ [y] from by rw [List.take_add_one, List.getElem?_drop, hy]; rfl]; rw [← M3 (f Q) qa t _ y (by simp; omega) (by omega) hm0]; exact qX _)
     ·
      refine wb <| qr <| qt <| qj <| qI <| qO ?_
      have htl : t = qb - qa := by omega
      subst htl
      obtain ⟨nb, hnb⟩ : ∃ nb : Blk, nb = ⟨true, (f Q).at_, true, yC (f Q).s qa ((bs.drop k).take (qb - qa))⟩ := ⟨_, rfl⟩
      refine qK <| q9 (qA rfl) <| qS (yA rfl rfl (by rw [zg]; omega) rfl) ?_
      refine qo <| q9 (qA rfl) <| qS (yA rfl rfl (by rw [List.length_set, zg]; omega) rfl) ?_
      refine qT <| zM (L' := [(b12, .cells (z7 nb).toArray 125 (0, 0))] :: [(bc, .cells (l.flatMap kJ ++ spc).toArray 131 (0, 0))] :: [(b3, .cells [.int .u32 W.num, .int .u32 W.ver, .int .i64 W.kind, .int .i64 W.size, .int .u32 W.time, .slice (some ⟨ba, 0, none⟩) 1064 1064, .slice (some ⟨bl, 0, none⟩) 32 32, .int .i64 W.sg.at_, .bool W.sg.stale, .int .i64 W.db.at_, .bool W.db.stale, .int .i64 W.self.at_, .bool W.self.stale, .slice pg W.gone.length cg].toArray 41 (0, 0))] :: [(b6, .cells node0V.toArray 41 (0, 0))] :: [(ba, .cells ((zA f).flatMap z7 ++ []).toArray 125 (0, 0))] :: [(bl, .cells ((wO W.leaves).flatMap z6 ++ []).toArray 38 (0, 0))] :: Cg :: F) (yW (by rw [hnb]; rfl)) ?_
      refine qI <| wQ w8 <| wE [(70, .pure _), (71, .pure _), (72, .pure _), (73, .pure _), (74, .pure _), (75, .pure _), (76, .pure _), (77, .pure _)] (by kernel_rfl) rfl rfl rfl wd (qC rfl (fun X => qA rfl) <| qC rfl (fun X => qH rfl rfl) <| qC rfl (fun X => qM rfl) <| qC rfl (fun X => qM rfl) <| qC rfl (fun X => qw (j := i) (off := i * 3) rfl rfl rfl (by omega) (by simp)) <| qC rfl (fun X => w6 rfl) <| qC rfl (fun X => ze (j := i) (k := 0) kI rfl hw1 rfl rfl) <| qC rfl (fun X => wS rfl (zg _)) <| ParH.nil rfl) ?_
      dsimp only [zQ, List.drop, List.length]
      refine qm (by kernel_rfl) (qw (j := Q) (off := Q * 131) rfl rfl hQ (by omega) (by simp)) ?_
      refine yU (by kernel_rfl) (zN (j := Q) (p' := nb) zg rfl rfl rfl (y2 (by omega)) rfl (JB _)) ?_
      refine wI ?_
      rw [show (zA f).set Q nb = zA (upd f (Q : Int) nb) from zx]
      refine qf <| qI <| qK <| qB rfl <| q9 (w9 rfl rfl (by omega)) <| qD rfl <| qT <| w5 ⟨(i + 1, upd f (Q : Int) nb, k + (qb - qa), _), ?_⟩ ?_ ?_
      · (try dsimp only); exact ⟨by omega, by omega, by omega, by rw [hnb]; exact hw, by omega⟩
      · (try dsimp only); omega
      · (try dsimp only); exact qX _
    ·
     refine wb <| qr <| qt <| qj <| qI <| qO <| qO ?_
     rw [List.drop_of_length_le (by omega), j7] at hw
     have hT : ke W a bs = (0, { W with all := f, size := max W.size (a + bs.length) }) := by unfold ke; rw [if_neg hne, hl, ← hw]
     refine yx (L' := [(b3, .cells [.int .u32 W.num, .int .u32 W.ver, .int .i64 W.kind, .int .i64 W.size, .int .u32 W.time, .slice (some ⟨ba, 0, none⟩) 1064 1064, .slice (some ⟨bl, 0, none⟩) 32 32, .int .i64 W.sg.at_, .bool W.sg.stale, .int .i64 W.db.at_, .bool W.db.stale, .int .i64 W.self.at_, .bool W.self.stale, .slice pg W.gone.length cg].toArray 41 (0, 0))] :: [(b6, .cells node0V.toArray 41 (0, 0))] :: ((ba, .cells ((zA f).flatMap z7 ++ []).toArray 125 (0, 0)) :: (bl, .cells ((wO W.leaves).flatMap z6 ++ []).toArray 38 (0, 0)) :: Cg) :: F) (fun w hw => we (by simp) w hw.tail) ?_
     refine qK <| qB rfl <| qB rfl <| q9 (wD rfl) <| q9 (w9 rfl rfl (by omega)) <| q9 (qA rfl) <| q9 (qH rfl rfl) <| q9 (y9 rfl rfl) <| qF <| qL rfl (fun hc17 => ?_) (fun hc17 => ?_)
     ·
      refine qK <| qB rfl <| qB rfl <| q9 (wD rfl) <| q9 (w9 rfl rfl (by omega)) <| q9 (qA rfl) <| qS (ws rfl rfl rfl) <| qo <| q9 (wZ rfl) <| qS (wj rfl rfl rfl rfl) <| qD rfl <| qF <| qz <| wY (((ba, .cells ((zA f).flatMap z7 ++ []).toArray 125 (0, 0)) :: (bl, .cells ((wO W.leaves).flatMap z6 ++ []).toArray 38 (0, 0)) :: Cg) :: F) (.inl rfl) rfl (za rfl) (qu rfl) ?_
      rw [hT]
      first
      | exact ⟨_, _, rfl, ⟨_, Cg, by rw [show max W.size (a + bs.length) = a + bs.length from by omega]; rfl, hs, rfl⟩, rfl⟩
      | exact ⟨_, _, rfl, ⟨_, Cg, by rw [show max W.size (a + bs.length) = W.size from by omega]; rfl, hs, rfl⟩, rfl⟩
     ·
      refine qZ <| qI <| qP <| q9 (wZ rfl) <| qS (wj rfl rfl rfl rfl) <| qD rfl <| qF <| qz <| wY (((ba, .cells ((zA f).flatMap z7 ++ []).toArray 125 (0, 0)) :: (bl, .cells ((wO W.leaves).flatMap z6 ++ []).toArray 38 (0, 0)) :: Cg) :: F) (.inl rfl) rfl (za rfl) (qu rfl) ?_
      rw [hT]
      first
      | exact ⟨_, _, rfl, ⟨_, Cg, by rw [show max W.size (a + bs.length) = a + bs.length from by omega]; rfl, hs, rfl⟩, rfl⟩
      | exact ⟨_, _, rfl, ⟨_, Cg, by rw [show max W.size (a + bs.length) = W.size from by omega]; rfl, hs, rfl⟩, rfl⟩
def yJ (W : RS) (p : yG) : RS := if p.at_ ≠ 0 then { W with gone := W.gone ++ [p.at_] } else W
theorem yq (W : RS) (v : List Value) (C : qV) (hw : RefC ba bl W v C) (p : yG) (hgl : W.gone.length ≤ 900000) :
    FnT Tryz.prog w0 67 #[.agg v.toArray, .agg (z6 p).toArray] (C :: F) (fun v L' => ∃ l C', v = .tuple #[.agg l.toArray, .agg (z6 ⟨0, false⟩).toArray] ∧ RefC ba bl (yJ W p) l C' ∧ L' = C' :: F) := by
  obtain ⟨ug, Cg, rfl, hs, rfl⟩ := hw
  obtain ⟨pg, cg, rfl⟩ := hs.slice
  refine FnT.pre (L' := [(ba, .cells ((zA W.all).flatMap z7 ++ []).toArray 125 (0, 0))] :: [(bl, .cells ((wO W.leaves).flatMap z6 ++ []).toArray 38 (0, 0))] :: Cg :: F) ?_ (we (by simp))
  unfold kV
  rw [show z6 p = [.int .i64 p.at_, .bool p.stale] from rfl]
  refine qh (E0 := [(0, _), (1, _)]) (N := 18) Tryz.func67 rfl rfl rfl rfl ?_
  refine qP <| qG (wq rfl) ?_
  rintro t2 _ ⟨b2, rfl, rfl⟩
  refine qG (wq rfl) ?_
  rintro t3 _ ⟨b3, rfl, rfl⟩
  refine qG (qn) ?_
  rintro t4 _ ⟨b4, rfl, rfl⟩
  refine qG (qn) ?_
  rintro t5 _ ⟨b5, rfl, rfl⟩
  refine qF <| zb (Γ := {pΓ : (List Int) × (Option Addr) × (Nat) × (qV) // (fun (gl : List Int) (pg : Option Addr) (cg : Nat) (Cg : qV) => SlC 3 1 (.slice pg gl.length cg) gl.length (iV gl) Cg ∧ gl = (yJ W p).gone) pΓ.1 pΓ.2.1 pΓ.2.2.1 pΓ.2.2.2}) (fun g => (fun (gl : List Int) (pg : Option Addr) (cg : Nat) (Cg : qV) => [(2, .pointer (some ⟨b2, 0, none⟩)), (4, .pointer (some ⟨b4, 0, none⟩)), (5, .pointer (some ⟨b5, 0, none⟩))]) g.1.1 g.1.2.1 g.1.2.2.1 g.1.2.2.2) (fun g => (fun (gl : List Int) (pg : Option Addr) (cg : Nat) (Cg : qV) => [(b2, .cells [.int .u32 W.num, .int .u32 W.ver, .int .i64 W.kind, .int .i64 W.size, .int .u32 W.time, .slice (some ⟨ba, 0, none⟩) 1064 1064, .slice (some ⟨bl, 0, none⟩) 32 32, .int .i64 W.sg.at_, .bool W.sg.stale, .int .i64 W.db.at_, .bool W.db.stale, .int .i64 W.self.at_, .bool W.self.stale, .slice pg gl.length cg].toArray 41 (0, 0))] :: [(b4, .cells node0V.toArray 41 (0, 0))] :: [(b5, .cells [Value.int .i64 0, Value.bool false].toArray 38 (0, 0))] :: [(ba, .cells ((zA W.all).flatMap z7 ++ []).toArray 125 (0, 0))] :: [(bl, .cells ((wO W.leaves).flatMap z6 ++ []).toArray 38 (0, 0))] :: Cg :: F) g.1.1 g.1.2.1 g.1.2.2.1 g.1.2.2.2) ?_ ?_
  ·
   refine qP <| q9 (qA rfl) <| q9 (qH rfl rfl) <| q9 (wz rfl rfl) <| qF <| qL rfl (fun hc1 => ?_) (fun hc1 => ?_)
   ·
    refine qK <| q9 (qA rfl) <| q9 (qH rfl rfl) <| q9 (qA rfl) <| q9 (qH rfl rfl) <| qG (wK rfl rfl rfl) ?_
    rintro t13 _ ⟨b13, rfl, rfl⟩
    refine qG (wg (m := 1) (sz := 1) rfl rfl hs (wi (ys := iV [p.at_]) inferInstance rfl rfl) rfl Tryz.underlying39 rfl rfl (by omega)) ?_
    rintro t14 _ ⟨C', hs', rfl⟩
    obtain ⟨pg', cg', rfl⟩ := hs'.slice
    refine q9 (qA rfl) <| qS (ws rfl rfl rfl) <| qT <| qW ⟨(W.gone ++ [p.at_], pg', cg', C'), ?_⟩ ?_
    · (try dsimp only); exact ⟨by rw [List.length_append]; simpa [iV] using hs', by unfold yJ; rw [if_pos hc1]⟩
    · (try dsimp only); exact (by rw [List.length_append]; exact qX _)
   ·
    refine qZ <| qW ⟨(W.gone, pg, cg, Cg), ?_⟩ ?_
    · (try dsimp only); exact ⟨hs, by unfold yJ; rw [if_neg hc1]⟩
    · (try dsimp only); exact qX _
  rintro ⟨⟨gl, pg, cg, Cg⟩, hcut⟩
  replace hcut : SlC 3 1 (.slice pg gl.length cg) gl.length (iV gl) Cg ∧ gl = (yJ W p).gone := hcut
  obtain ⟨hs2, hgl2⟩ := hcut
  show Tr _ _ _ ([(2, .pointer (some ⟨b2, 0, none⟩)), (4, .pointer (some ⟨b4, 0, none⟩)), (5, .pointer (some ⟨b5, 0, none⟩))]) ([(b2, .cells [.int .u32 W.num, .int .u32 W.ver, .int .i64 W.kind, .int .i64 W.size, .int .u32 W.time, .slice (some ⟨ba, 0, none⟩) 1064 1064, .slice (some ⟨bl, 0, none⟩) 32 32, .int .i64 W.sg.at_, .bool W.sg.stale, .int .i64 W.db.at_, .bool W.db.stale, .int .i64 W.self.at_, .bool W.self.stale, .slice pg gl.length cg].toArray 41 (0, 0))] :: [(b4, .cells node0V.toArray 41 (0, 0))] :: [(b5, .cells [Value.int .i64 0, Value.bool false].toArray 38 (0, 0))] :: [(ba, .cells ((zA W.all).flatMap z7 ++ []).toArray 125 (0, 0))] :: [(bl, .cells ((wO W.leaves).flatMap z6 ++ []).toArray 38 (0, 0))] :: Cg :: F) _ _
  refine qP <| q9 (wZ rfl) <| q9 (kQ rfl Tryz.underlying38 rfl (fun _ _ => ⟨_, inferInstance⟩) (fun _ _ h => by cases h)) ?_
  refine qS (wj rfl rfl rfl rfl) <| qS (wj rfl rfl rfl rfl) <| qT <| zM (L' := [(b4, .cells [.int .u32 W.num, .int .u32 W.ver, .int .i64 W.kind, .int .i64 W.size, .int .u32 W.time, .slice (some ⟨ba, 0, none⟩) 1064 1064, .slice (some ⟨bl, 0, none⟩) 32 32, .int .i64 W.sg.at_, .bool W.sg.stale, .int .i64 W.db.at_, .bool W.db.stale, .int .i64 W.self.at_, .bool W.self.stale, .slice pg gl.length cg].toArray 41 (0, 0))] :: [(b5, .cells [Value.int .i64 0, Value.bool false].toArray 38 (0, 0))] :: ((ba, .cells ((zA W.all).flatMap z7 ++ []).toArray 125 (0, 0)) :: (bl, .cells ((wO W.leaves).flatMap z6 ++ []).toArray 38 (0, 0)) :: Cg) :: F) (fun w hw => we (by simp) w hw.tail) ?_
  refine qI <| qz <| wY (((ba, .cells ((zA W.all).flatMap z7 ++ []).toArray 125 (0, 0)) :: (bl, .cells ((wO W.leaves).flatMap z6 ++ []).toArray 38 (0, 0)) :: Cg) :: F) (.inl rfl) rfl (za rfl) (za rfl) <| ⟨_, _, rfl, ⟨_, Cg, ?_, by rw [← hgl2]; exact hs2, ?_⟩, rfl⟩ <;> unfold yJ <;> split <;> rfl
def xg (W : RS) (i : Int) : RS := { W with
  gone := if (W.all i).at_ ≠ 0 then W.gone ++ [(W.all i).at_] else W.gone
  all := upd W.all i Blk.zero
  self := ⟨W.self.at_, true⟩
  sg := if (wW i).1 = 1 then ⟨W.sg.at_, true⟩ else W.sg
  leaves := if (wW i).1 = 2 then upd W.leaves (wW i).2.1 ⟨(W.leaves (wW i).2.1).at_, true⟩ else W.leaves
  db := if (wW i).1 = 2 then ⟨W.db.at_, true⟩ else W.db }
theorem JX {i : Int} (h : 0 ≤ i ∧ i < 1064) (h2 : (wW i).1 = 2) : 0 ≤ (wW i).2.1 ∧ (wW i).2.1 < 32 := by
  by_cases h8 : i < 8
  · unfold wW at h2; rw [if_neg (by omega), if_pos h8] at h2; simp at h2
  · by_cases h40 : i < 40
    · unfold wW at h2; rw [if_neg (by omega), if_neg h8, if_pos h40] at h2; simp at h2
    · have e : wW i = (2, (i - 40) / 32, (i - 40) % 32) := by unfold wW; rw [if_neg (by omega), if_neg h8, if_neg h40, if_pos (by omega)]
      rw [e]; dsimp only; omega
theorem rhole_ok (W : RS) (v : List Value) (C : qV) (hw : RefC ba bl W v C) (i : Nat) (hi : i < 1064) (hgl : W.gone.length ≤ 900000) :
    FnT Tryz.prog w0 65 #[.agg v.toArray, .int .i64 i] (C :: F) (fun v L' => ∃ l C', v = .agg l.toArray ∧ RefC ba bl (xg W i) l C' ∧ L' = C' :: F) := by
  obtain ⟨ug, Cg, rfl, hs, rfl⟩ := hw
  obtain ⟨pg, cg, rfl⟩ := hs.slice
  refine FnT.pre (L' := [(ba, .cells ((zA W.all).flatMap z7 ++ []).toArray 125 (0, 0))] :: [(bl, .cells ((wO W.leaves).flatMap z6 ++ []).toArray 38 (0, 0))] :: Cg :: F) ?_ (we (by simp))
  unfold kV
  refine qh (E0 := [(0, _), (1, _)]) (N := 54) Tryz.func65 rfl rfl rfl rfl ?_
  refine qP <| qG (wq rfl) ?_
  rintro t2 _ ⟨b2, rfl, rfl⟩
  refine qG (qn) ?_
  rintro t4 _ ⟨b4, rfl, rfl⟩
  refine qF <| zb (Γ := {pΓ : (List Int) × (Option Addr) × (Nat) × (qV) // (fun (gl : List Int) (pg : Option Addr) (cg : Nat) (Cg : qV) => SlC 3 1 (.slice pg gl.length cg) gl.length (iV gl) Cg ∧ gl = (xg W i).gone) pΓ.1 pΓ.2.1 pΓ.2.2.1 pΓ.2.2.2}) (fun g => (fun (gl : List Int) (pg : Option Addr) (cg : Nat) (Cg : qV) => [(1, .int .i64 i), (2, .pointer (some ⟨b2, 0, none⟩)), (4, .pointer (some ⟨b4, 0, none⟩))]) g.1.1 g.1.2.1 g.1.2.2.1 g.1.2.2.2) (fun g => (fun (gl : List Int) (pg : Option Addr) (cg : Nat) (Cg : qV) => [(b2, .cells [.int .u32 W.num, .int .u32 W.ver, .int .i64 W.kind, .int .i64 W.size, .int .u32 W.time, .slice (some ⟨ba, 0, none⟩) 1064 1064, .slice (some ⟨bl, 0, none⟩) 32 32, .int .i64 W.sg.at_, .bool W.sg.stale, .int .i64 W.db.at_, .bool W.db.stale, .int .i64 W.self.at_, .bool W.self.stale, .slice pg gl.length cg].toArray 41 (0, 0))] :: [(b4, .cells node0V.toArray 41 (0, 0))] :: [(ba, .cells ((zA W.all).flatMap z7 ++ []).toArray 125 (0, 0))] :: [(bl, .cells ((wO W.leaves).flatMap z6 ++ []).toArray 38 (0, 0))] :: Cg :: F) g.1.1 g.1.2.1 g.1.2.2.1 g.1.2.2.2) ?_ ?_
  ·
   refine qP <| q9 (qA rfl) <| q9 (qH rfl rfl) <| qB rfl <| q9 (qw (j := i) (off := i * 131) rfl rfl rfl (by omega) (by simp)) ?_
   refine q9 (w6 rfl) <| q9 (ze (j := i) (k := 1) (v := .int .i64 (W.all i).at_) zg rfl (y2 hi) rfl rfl) <| q9 (wz rfl rfl) <| qF <| qL rfl (fun hc1 => ?_) (fun hc1 => ?_)
   ·
    refine yT w8 (show TrS _ _ _ _ [false, false, false, false, false, false, false, false, false, false, false, false] _ _ _ from ?_)
    refine qJ 0 rfl rfl rfl (wn rfl) <| qJ 2 rfl rfl rfl (wn rfl) <| qJ 4 rfl rfl rfl (wP rfl) <| wy (i := 1) (j := 3) (by kernel_rfl) rfl ?_ ?_
    ·
     refine qe rfl rfl rfl (qH rfl rfl) <| qR 3 rfl <| qe rfl rfl rfl (qH rfl rfl) <| qJ 5 rfl rfl rfl (wv (j := i) (off := i * 131) rfl rfl rfl (by omega) (by simp)) ?_
     refine qJ 6 rfl rfl rfl (ZN rfl) <| qR 7 rfl <| qe rfl rfl rfl (ze (j := i) (k := 1) (v := .int .i64 (W.all i).at_) zg rfl (y2 hi) rfl rfl) <| qR 8 rfl <| wB rfl rfl rfl (wK rfl rfl rfl) ?_
     rintro t22 _ ⟨b22, rfl, rfl⟩
     refine qR 9 rfl <| wB rfl rfl rfl (wg (m := 1) (sz := 1) rfl rfl hs (wi (ys := iV [(W.all i).at_]) inferInstance rfl rfl) rfl Tryz.underlying39 rfl rfl (by omega)) ?_
     rintro t23 _ ⟨C', hs', rfl⟩
     obtain ⟨pg', cg', rfl⟩ := hs'.slice
     refine qJ 10 rfl rfl rfl (wn rfl) <| qR 11 rfl <| wR rfl rfl rfl (ws rfl rfl rfl) <| wG <| qW ⟨(W.gone ++ [(W.all i).at_], pg', cg', C'), ?_⟩ ?_
     · (try dsimp only); exact ⟨by rw [List.length_append]; simpa [iV] using hs', by unfold xg; rw [if_pos hc1]⟩
     · (try dsimp only); exact (by rw [List.length_append]; exact qX _)
    ·
     refine qe rfl rfl rfl (qH rfl rfl) <| qJ 5 rfl rfl rfl (wv (j := i) (off := i * 131) rfl rfl rfl (by omega) (by simp)) ?_
     refine qJ 6 rfl rfl rfl (ZN rfl) <| wy (i := 1) (j := 7) (by kernel_rfl) rfl ?_ ?_
     ·
      refine qe rfl rfl rfl (qH rfl rfl) <| qR 7 rfl <| qe rfl rfl rfl (ze (j := i) (k := 1) (v := .int .i64 (W.all i).at_) zg rfl (y2 hi) rfl rfl) <| qR 8 rfl <| wB rfl rfl rfl (wK rfl rfl rfl) ?_
      rintro t22 _ ⟨b22, rfl, rfl⟩
      refine qR 9 rfl <| wB rfl rfl rfl (wg (m := 1) (sz := 1) rfl rfl hs (wi (ys := iV [(W.all i).at_]) inferInstance rfl rfl) rfl Tryz.underlying39 rfl rfl (by omega)) ?_
      rintro t23 _ ⟨C', hs', rfl⟩
      obtain ⟨pg', cg', rfl⟩ := hs'.slice
      refine qJ 10 rfl rfl rfl (wn rfl) <| qR 11 rfl <| wR rfl rfl rfl (ws rfl rfl rfl) <| wG <| qW ⟨(W.gone ++ [(W.all i).at_], pg', cg', C'), ?_⟩ ?_
      · (try dsimp only); exact ⟨by rw [List.length_append]; simpa [iV] using hs', by unfold xg; rw [if_pos hc1]⟩
      · (try dsimp only); exact (by rw [List.length_append]; exact qX _)
     ·
      refine qe rfl rfl rfl (ze (j := i) (k := 1) (v := .int .i64 (W.all i).at_) zg rfl (y2 hi) rfl rfl) <| wy (i := 1) (j := 8) (by kernel_rfl) rfl ?_ ?_
      ·
       refine qe rfl rfl rfl (qH rfl rfl) <| qR 8 rfl <| wB rfl rfl rfl (wK rfl rfl rfl) ?_
       rintro t22 _ ⟨b22, rfl, rfl⟩
       refine qR 9 rfl <| wB rfl rfl rfl (wg (m := 1) (sz := 1) rfl rfl hs (wi (ys := iV [(W.all i).at_]) inferInstance rfl rfl) rfl Tryz.underlying39 rfl rfl (by omega)) ?_
       rintro t23 _ ⟨C', hs', rfl⟩
       obtain ⟨pg', cg', rfl⟩ := hs'.slice
       refine qJ 10 rfl rfl rfl (wn rfl) <| qR 11 rfl <| wR rfl rfl rfl (ws rfl rfl rfl) <| wG <| qW ⟨(W.gone ++ [(W.all i).at_], pg', cg', C'), ?_⟩ ?_
       · (try dsimp only); exact ⟨by rw [List.length_append]; simpa [iV] using hs', by unfold xg; rw [if_pos hc1]⟩
       · (try dsimp only); exact (by rw [List.length_append]; exact qX _)
      ·
       refine wB rfl rfl rfl (wK rfl rfl rfl) ?_
       rintro t22 _ ⟨b22, rfl, rfl⟩
       refine qR 1 rfl <| qe rfl rfl rfl (qH rfl rfl) <| qR 9 rfl <| wB rfl rfl rfl (wg (m := 1) (sz := 1) rfl rfl hs (wi (ys := iV [(W.all i).at_]) inferInstance rfl rfl) rfl Tryz.underlying39 rfl rfl (by omega)) ?_
       rintro t23 _ ⟨C', hs', rfl⟩
       obtain ⟨pg', cg', rfl⟩ := hs'.slice
       refine qJ 10 rfl rfl rfl (wn rfl) <| qR 11 rfl <| wR rfl rfl rfl (ws rfl rfl rfl) <| wG <| qW ⟨(W.gone ++ [(W.all i).at_], pg', cg', C'), ?_⟩ ?_
       · (try dsimp only); exact ⟨by rw [List.length_append]; simpa [iV] using hs', by unfold xg; rw [if_pos hc1]⟩
       · (try dsimp only); exact (by rw [List.length_append]; exact qX _)
   ·
    refine qZ <| qW ⟨(W.gone, pg, cg, Cg), ?_⟩ ?_
    · (try dsimp only); exact ⟨hs, by unfold xg; rw [if_neg hc1]⟩
    · (try dsimp only); exact qX _
  rintro ⟨⟨gl, pg, cg, Cg⟩, hcut⟩
  replace hcut : SlC 3 1 (.slice pg gl.length cg) gl.length (iV gl) Cg ∧ gl = (xg W i).gone := hcut
  obtain ⟨hs2, hgl2⟩ := hcut
  show Tr _ _ _ ([(1, .int .i64 i), (2, .pointer (some ⟨b2, 0, none⟩)), (4, .pointer (some ⟨b4, 0, none⟩))]) ([(b2, .cells [.int .u32 W.num, .int .u32 W.ver, .int .i64 W.kind, .int .i64 W.size, .int .u32 W.time, .slice (some ⟨ba, 0, none⟩) 1064 1064, .slice (some ⟨bl, 0, none⟩) 32 32, .int .i64 W.sg.at_, .bool W.sg.stale, .int .i64 W.db.at_, .bool W.db.stale, .int .i64 W.self.at_, .bool W.self.stale, .slice pg gl.length cg].toArray 41 (0, 0))] :: [(b4, .cells node0V.toArray 41 (0, 0))] :: [(ba, .cells ((zA W.all).flatMap z7 ++ []).toArray 125 (0, 0))] :: [(bl, .cells ((wO W.leaves).flatMap z6 ++ []).toArray 38 (0, 0))] :: Cg :: F) _ _
  refine qP <| q9 (qA rfl) <| q9 (qH rfl rfl) <| qB rfl <| q9 (kQ (z := .agg (z7 Blk.zero).toArray) rfl Tryz.underlying125 rfl (fun _ _ => ⟨_, inferInstance⟩) (fun _ _ h => by cases h)) ?_
  refine q9 (qw (j := i) (off := i * 131) rfl rfl rfl (by omega) (by simp)) ?_
  refine qS (zN (j := i) (p' := Blk.zero) zg rfl rfl rfl (y2 hi) rfl (JB _)) <| qT ?_
  rw [show (zA W.all).set i Blk.zero = zA (upd W.all i Blk.zero) from zx]
  refine qI <| qP <| q9 (qA rfl) <| q9 (w6 rfl) <| qS (ws rfl rfl rfl) <| qo <| qB rfl <| q9 (wJ rfl (Kc i (by omega))) <| qB rfl <| q9 (qi rfl rfl) <| q9 (qi rfl rfl) <| qG (qn) ?_
  rintro t5 _ ⟨b5, rfl, rfl⟩
  refine qS (wj (vs := [.int .i64 (wW i).1, .int .i64 (wW i).2.1, .int .i64 (wW i).2.2]) rfl rfl rfl rfl) <| qD rfl <| qF <| zb (Γ := {pΓ : (yG) // (fun (sg : yG) => sg = (if (wW i).1 = 1 then ⟨W.sg.at_, true⟩ else W.sg)) pΓ}) (fun g => (fun (sg : yG) => [(2, .pointer (some ⟨b2, 0, none⟩)), (4, .pointer (some ⟨b4, 0, none⟩)), (5, .pointer (some ⟨b5, 0, none⟩))]) g.1) (fun g => (fun (sg : yG) => [(b5, .cells [.int .i64 (wW i).1, .int .i64 (wW i).2.1, .int .i64 (wW i).2.2].toArray 143 (0, 0))] :: [(b2, .cells [.int .u32 W.num, .int .u32 W.ver, .int .i64 W.kind, .int .i64 W.size, .int .u32 W.time, .slice (some ⟨ba, 0, none⟩) 1064 1064, .slice (some ⟨bl, 0, none⟩) 32 32, .int .i64 sg.at_, .bool sg.stale, .int .i64 W.db.at_, .bool W.db.stale, .int .i64 W.self.at_, .bool true, .slice pg gl.length cg].toArray 41 (0, 0))] :: [(b4, .cells node0V.toArray 41 (0, 0))] :: [(ba, .cells ((zA (upd W.all i Blk.zero)).flatMap z7 ++ []).toArray 125 (0, 0))] :: [(bl, .cells ((wO W.leaves).flatMap z6 ++ []).toArray 38 (0, 0))] :: Cg :: F) g.1) ?_ ?_
  ·
   refine qP <| q9 (qA rfl) <| q9 (qH rfl rfl) <| q9 (wl rfl rfl) <| qF <| qL rfl (fun hc6 => ?_) (fun hc6 => ?_)
   ·
    refine qK <| q9 (qA rfl) <| q9 (w6 rfl) <| qS (ws rfl rfl rfl) <| qT <| qW ⟨⟨W.sg.at_, true⟩, ?_⟩ ?_
    · (try dsimp only); rw [if_pos hc6]
    · (try dsimp only); exact qX _
   ·
    refine qZ <| qW ⟨W.sg, ?_⟩ ?_
    · (try dsimp only); rw [if_neg hc6]
    · (try dsimp only); exact qX _
  rintro ⟨sg, hcut⟩
  replace hcut : sg = (if (wW i).1 = 1 then ⟨W.sg.at_, true⟩ else W.sg) := hcut
  have hsg := hcut
  show Tr _ _ _ ([(2, .pointer (some ⟨b2, 0, none⟩)), (4, .pointer (some ⟨b4, 0, none⟩)), (5, .pointer (some ⟨b5, 0, none⟩))]) ([(b5, .cells [.int .i64 (wW i).1, .int .i64 (wW i).2.1, .int .i64 (wW i).2.2].toArray 143 (0, 0))] :: [(b2, .cells [.int .u32 W.num, .int .u32 W.ver, .int .i64 W.kind, .int .i64 W.size, .int .u32 W.time, .slice (some ⟨ba, 0, none⟩) 1064 1064, .slice (some ⟨bl, 0, none⟩) 32 32, .int .i64 sg.at_, .bool sg.stale, .int .i64 W.db.at_, .bool W.db.stale, .int .i64 W.self.at_, .bool true, .slice pg gl.length cg].toArray 41 (0, 0))] :: [(b4, .cells node0V.toArray 41 (0, 0))] :: [(ba, .cells ((zA (upd W.all i Blk.zero)).flatMap z7 ++ []).toArray 125 (0, 0))] :: [(bl, .cells ((wO W.leaves).flatMap z6 ++ []).toArray 38 (0, 0))] :: Cg :: F) _ _
  refine zb (Γ := {pΓ : (Int → yG) × (yG) // (fun (lvs : Int → yG) (db : yG) => lvs = (if (wW i).1 = 2 then upd W.leaves (wW i).2.1 ⟨(W.leaves (wW i).2.1).at_, true⟩ else W.leaves) ∧ db = (if (wW i).1 = 2 then ⟨W.db.at_, true⟩ else W.db)) pΓ.1 pΓ.2}) (fun g => (fun (lvs : Int → yG) (db : yG) => [(2, .pointer (some ⟨b2, 0, none⟩)), (4, .pointer (some ⟨b4, 0, none⟩))]) g.1.1 g.1.2) (fun g => (fun (lvs : Int → yG) (db : yG) => [(b2, .cells [.int .u32 W.num, .int .u32 W.ver, .int .i64 W.kind, .int .i64 W.size, .int .u32 W.time, .slice (some ⟨ba, 0, none⟩) 1064 1064, .slice (some ⟨bl, 0, none⟩) 32 32, .int .i64 sg.at_, .bool sg.stale, .int .i64 db.at_, .bool db.stale, .int .i64 W.self.at_, .bool true, .slice pg gl.length cg].toArray 41 (0, 0))] :: [(b4, .cells node0V.toArray 41 (0, 0))] :: [(ba, .cells ((zA (upd W.all i Blk.zero)).flatMap z7 ++ []).toArray 125 (0, 0))] :: [(bl, .cells ((wO lvs).flatMap z6 ++ []).toArray 38 (0, 0))] :: Cg :: F) g.1.1 g.1.2) ?_ ?_
  ·
   refine qP <| q9 (qA rfl) <| q9 (qH rfl rfl) <| q9 (wl rfl rfl) <| qF <| qL rfl (fun hc8 => ?_) (fun hc8 => ?_)
   ·
    refine qO ?_
    have hpr := JX (i := i) (by omega) hc8
    obtain ⟨lf, hlf⟩ : ∃ lf : Nat, (wW i).2.1 = lf := ⟨(wW i).2.1.toNat, by omega⟩
    refine qK <| q9 (qA rfl) <| q9 (qH rfl rfl) <| q9 (qA rfl) <| q9 (qH rfl rfl) <| q9 (qw (j := lf) (off := lf * 2) rfl rfl hlf (by omega) (by simp)) ?_
    refine q9 (w6 rfl) <| qS (yZ (j := lf) (k := 1) (p' := ⟨(W.leaves lf).at_, true⟩) zT rfl rfl (zD (by omega)) rfl rfl rfl) <| qT ?_
    rw [show (wO W.leaves).set lf ⟨(W.leaves lf).at_, true⟩ = wO (upd W.leaves (lf : Int) ⟨(W.leaves lf).at_, true⟩) from zx]
    refine qI <| qK <| q9 (qA rfl) <| q9 (w6 rfl) <| qS (ws rfl rfl rfl) <| qT <| qW ⟨(upd W.leaves (lf : Int) ⟨(W.leaves lf).at_, true⟩, ⟨W.db.at_, true⟩), ?_⟩ ?_
    · (try dsimp only); rw [if_pos hc8, if_pos hc8, hlf]; exact ⟨rfl, rfl⟩
    · (try dsimp only); exact qX _
   ·
    refine qZ <| qW ⟨(W.leaves, W.db), ?_⟩ ?_
    · (try dsimp only); rw [if_neg hc8, if_neg hc8]; exact ⟨rfl, rfl⟩
    · (try dsimp only); exact qX _
  rintro ⟨⟨lvs, db⟩, hcut⟩
  replace hcut : lvs = (if (wW i).1 = 2 then upd W.leaves (wW i).2.1 ⟨(W.leaves (wW i).2.1).at_, true⟩ else W.leaves) ∧ db = (if (wW i).1 = 2 then ⟨W.db.at_, true⟩ else W.db) := hcut
  obtain ⟨hlv, hdb⟩ := hcut
  show Tr _ _ _ ([(2, .pointer (some ⟨b2, 0, none⟩)), (4, .pointer (some ⟨b4, 0, none⟩))]) ([(b2, .cells [.int .u32 W.num, .int .u32 W.ver, .int .i64 W.kind, .int .i64 W.size, .int .u32 W.time, .slice (some ⟨ba, 0, none⟩) 1064 1064, .slice (some ⟨bl, 0, none⟩) 32 32, .int .i64 sg.at_, .bool sg.stale, .int .i64 db.at_, .bool db.stale, .int .i64 W.self.at_, .bool true, .slice pg gl.length cg].toArray 41 (0, 0))] :: [(b4, .cells node0V.toArray 41 (0, 0))] :: [(ba, .cells ((zA (upd W.all i Blk.zero)).flatMap z7 ++ []).toArray 125 (0, 0))] :: [(bl, .cells ((wO lvs).flatMap z6 ++ []).toArray 38 (0, 0))] :: Cg :: F) _ _
  refine qP <| q9 (wZ rfl) <| qS (wj rfl rfl rfl rfl) <| qT <| zM (L' := [(b4, .cells [.int .u32 W.num, .int .u32 W.ver, .int .i64 W.kind, .int .i64 W.size, .int .u32 W.time, .slice (some ⟨ba, 0, none⟩) 1064 1064, .slice (some ⟨bl, 0, none⟩) 32 32, .int .i64 sg.at_, .bool sg.stale, .int .i64 db.at_, .bool db.stale, .int .i64 W.self.at_, .bool true, .slice pg gl.length cg].toArray 41 (0, 0))] :: ((ba, .cells ((zA (upd W.all i Blk.zero)).flatMap z7 ++ []).toArray 125 (0, 0)) :: (bl, .cells ((wO lvs).flatMap z6 ++ []).toArray 38 (0, 0)) :: Cg) :: F) (fun w hw => we (by simp) w hw.tail) ?_
  refine qI <| qz <| wF (((ba, .cells ((zA (upd W.all i Blk.zero)).flatMap z7 ++ []).toArray 125 (0, 0)) :: (bl, .cells ((wO lvs).flatMap z6 ++ []).toArray 38 (0, 0)) :: Cg) :: F) (.inl rfl) rfl (za rfl) ?_
  exact ⟨_, _, rfl, ⟨_, Cg, by rw [hsg, hdb]; rfl, by rw [← hgl2]; exact hs2, by rw [hlv]; rfl⟩, rfl⟩
theorem RefC.at {W : RS} {v : List Value} {C : qV} (h : RefC ba bl W v C) : ∃ pg cg Cg, v = kV W ba bl (.slice pg W.gone.length cg) ∧ SlC 3 1 (.slice pg W.gone.length cg) W.gone.length (iV W.gone) Cg ∧ C = ((ba, .cells ((zA W.all).flatMap z7 ++ []).toArray 125 (0, 0)) :: (bl, .cells ((wO W.leaves).flatMap z6 ++ []).toArray 38 (0, 0)) :: Cg) := by
  obtain ⟨ug, Cg, rfl, hs, rfl⟩ := h
  obtain ⟨pg, cg, rfl⟩ := hs.slice
  exact ⟨pg, cg, Cg, rfl, hs, rfl⟩
theorem RefC.len {W : RS} {v : List Value} {C : qV} (h : RefC ba bl W v C) : v.length = 14 := by
  obtain ⟨ug, Cg, rfl, hs, rfl⟩ := h; rfl
theorem RefC.one {W : RS} {v : List Value} {C : qV} (h : RefC ba bl W v C) : v.all (·.oneCell') = true := by
  obtain ⟨pg, cg, Cg, rfl, hs, rfl⟩ := h.at; rfl
section
variable {P : Program} {N : Nat} {E : Env}
theorem zY {α : Type} {enc : α → List Value} {x : Operand} {t ty sz : TypeId} {b off j k : Nat} {xs : List α} {r : List Value} {e : TypeId} {fr : Nat × Nat} {p : α} {v : Value} [ht : TyScalar P t]
    (he : ∀ x, (enc x).length = sz) (hx : opv E x = some (.pointer (some ⟨b, off, none⟩))) (hm : (b, .cells (xs.flatMap enc ++ r).toArray e fr) ∈ L.flatten) (hj : xs[j]? = some p) (ho : off = j * sz + k) (hv : wX (enc p) k = some v) (hk : Nat.blt k sz = true := by rfl) :
    Op1 P N w0 E L (.load t x) ty v L :=
  Yt hx hm (by
    rw [List.getElem?_toArray, ho, Kz he xs r hj (by simpa [Nat.blt_eq] using hk)]
    rw [zK] at hv; exact hv)
theorem zr {α : Type} {enc : α → List Value} {x : Operand} {t ty sz : TypeId} {b off j : Nat} {xs : List α} {r : List Value} {e : TypeId} {fr : Nat × Nat} {p : α} [ht : TyAgg P t sz]
    (he : ∀ x, (enc x).length = sz) (hx : opv E x = some (.pointer (some ⟨b, off, none⟩))) (hm : (b, .cells (xs.flatMap enc ++ r).toArray e fr) ∈ L.flatten) (hj : xs[j]? = some p) (ho : off = j * sz) :
    Op1 P N w0 E L (.load t x) ty (.agg (enc p).toArray) L :=
  kC hx hm (by subst ho; exact Qv he xs r hj) (by
    have hlt := (List.getElem?_eq_some_iff.1 hj).1
    have h1 := ka he xs
    have h2 : (j + 1) * sz ≤ xs.length * sz := Nat.mul_le_mul_right _ hlt
    rw [Nat.add_mul] at h2
    simp [ho]; rw [← List.length_flatMap, h1]; omega)
end
theorem RefC.setSg {W : RS} {v : List Value} {C : qV} (h : RefC ba bl W v C) (p : yG) : RefC ba bl { W with sg := p } (v.take 7 ++ z6 p ++ v.drop 9) C := by
  obtain ⟨ug, Cg, rfl, hs, rfl⟩ := h
  exact ⟨ug, Cg, rfl, hs, rfl⟩
theorem RefC.setDb {W : RS} {v : List Value} {C : qV} (h : RefC ba bl W v C) (p : yG) : RefC ba bl { W with db := p } (v.take 9 ++ z6 p ++ v.drop 11) C := by
  obtain ⟨ug, Cg, rfl, hs, rfl⟩ := h
  exact ⟨ug, Cg, rfl, hs, rfl⟩
def j9 (W : RS) (t : Int) : RS := if W.time ≠ t then { W with time := t, self := ⟨W.self.at_, true⟩ } else W
theorem QO (W : RS) (v : List Value) (C : qV) (hw : RefC ba bl W v C) (t : Int) :
    FnT Tryz.prog w0 36 #[.agg v.toArray, .int .u32 t] (C :: F) (fun v L' => ∃ l C', v = .agg l.toArray ∧ RefC ba bl (j9 W t) l C' ∧ L' = C' :: F) := by
  obtain ⟨pg, cg, Cg, rfl, hs, hC⟩ := hw.at
  unfold kV
  refine qh (E0 := [(0, _), (1, _)]) (N := 14) Tryz.func36 rfl rfl rfl rfl ?_
  refine qP <| qG (wq rfl) ?_
  rintro t2 _ ⟨b2, rfl, rfl⟩
  refine qG (qn) ?_
  rintro t4 _ ⟨b4, rfl, rfl⟩
  refine qF <| qO <| qP <| q9 (qA rfl) <| q9 (qH rfl rfl) <| qB rfl <| q9 (wz rfl rfl) <| qF <| qL rfl (fun hc1 => ?_) (fun hc1 => ?_)
  ·
   refine qP <| qB rfl <| q9 (qA rfl) <| qS (ws rfl rfl rfl) <| qF <| qK <| q9 (qA rfl) <| q9 (w6 rfl) <| qS (ws rfl rfl rfl) <| qo <| q9 (wZ rfl) <| qS (wj rfl rfl rfl rfl) <| qF <| qz <| wF (C :: F) (.inl rfl) rfl (za rfl) ?_
   first
   | exact ⟨_, C, rfl, by unfold j9; rw [if_pos hc1, hC]; exact ⟨_, Cg, rfl, hs, rfl⟩, rfl⟩
   | exact ⟨_, C, rfl, by unfold j9; rw [if_neg hc1, hC]; exact ⟨_, Cg, rfl, hs, rfl⟩, rfl⟩
  ·
   refine qZ <| qI <| qP <| q9 (wZ rfl) <| qS (wj rfl rfl rfl rfl) <| qF <| qz <| wF (C :: F) (.inl rfl) rfl (za rfl) ?_
   first
   | exact ⟨_, C, rfl, by unfold j9; rw [if_pos hc1, hC]; exact ⟨_, Cg, rfl, hs, rfl⟩, rfl⟩
   | exact ⟨_, C, rfl, by unfold j9; rw [if_neg hc1, hC]; exact ⟨_, Cg, rfl, hs, rfl⟩, rfl⟩
theorem X8 {K β : Type} [DecidableEq K] (f : K → β) (q : K) (a b : β) : upd (upd f q a) q b = upd f q b := by
  funext k; unfold upd; split <;> rfl
theorem upd_self {K β : Type} [DecidableEq K] (f : K → β) (q : K) : upd f q (f q) = f := by
  funext k; unfold upd; split
  · rename_i e; rw [e]
  · rfl
def Yi (b : Blk) (k : Nat) : Blk := { b with s := b.s.clr k, fresh := true }
def yo (W : RS) (size : Int) : RS := if size < W.size ∧ size % 128 ≠ 0 ∧ (W.all (size / 128)).has = true then { W with all := upd W.all (size / 128) (Yi (W.all (size / 128)) (size % 128).toNat) } else W
def yw (x : RS × Bool) (i : Int) : RS × Bool := if (x.1.all i).has = true then (xg x.1 i, true) else x
def kE (W : RS) (size : Int) : RS × Bool := ((zo 1064).drop (zf size).toNat).foldl yw (W, false)
def wm (w : RS) (k : Int) : RS := if yD w 2 k = true then w else { yJ w (w.leaves k) with leaves := upd w.leaves k ⟨0, false⟩ }
def WB (w : RS) : RS := if yD w 1 0 = true then w else { yJ w w.sg with sg := ⟨0, false⟩ }
def Yf (w : RS) : RS := if yD w 2 (-1) = true then w else { yJ w w.db with db := ⟨0, false⟩ }
def Zw (x : RS × Bool) : RS := if x.2 = true then Yf (WB ((zo 32).foldl wm x.1)) else x.1
def KW (W : RS) (size : Int) : RS := if W.size ≠ size then { W with size := size, self := ⟨W.self.at_, true⟩ } else W
def jl (W : RS) (size : Int) : Int × RS :=
  if size < 0 then (1, W) else if 136192 < size then (12, W) else (0, KW (Zw (kE (yo W size) size)) size)
theorem yL (W : RS) (p : yG) : (yJ W p).gone.length ≤ W.gone.length + 1 := by unfold yJ; split <;> simp
theorem holeR_gone (W : RS) (i : Int) : (xg W i).gone.length ≤ W.gone.length + 1 := by unfold xg; dsimp only; split <;> simp
theorem zz (W : RS) (p : yG) : (yJ W p).leaves = W.leaves := by unfold yJ; split <;> rfl
theorem blk_zero_step (b : Blk) (r t : Nat) (h : r + t < 128) :
    (z7 { b with s := yC b.s r (List.replicate t 0) }).set (3 + (r + t) * 1) (.int .u8 0) = z7 { b with s := yC b.s r (List.replicate (t + 1) 0) } := by
  have := M3 b r t (List.replicate t 0) 0 (by simp) h (by rw [← List.replicate_succ']; exact YN _)
  rw [this, ← List.replicate_succ']
theorem kU (W : RS) (v : List Value) (C : qV) (hw : RefC ba bl W v C) (size : Int) (hsz : -9223372036854775808 ≤ size ∧ size ≤ 9223372036854775807) (hgl : W.gone.length ≤ 800000) (hWs : W.size ≤ 136192) :
    FnT Tryz.prog w0 28 #[.agg v.toArray, .int .i64 size] (C :: F) (fun v L' => ∃ l C', v = .tuple #[.agg l.toArray, .int .i64 (jl W size).1] ∧ RefC ba bl (jl W size).2 l C' ∧ L' = C' :: F) := by
  obtain ⟨pg, cg, Cg, rfl, hs, hC⟩ := hw.at
  unfold kV at hw ⊢
  refine qh (E0 := [(0, _), (1, _)]) (N := 125) Tryz.func28 rfl rfl rfl rfl ?_
  refine qP <| qG (wq rfl) ?_
  rintro t2 _ ⟨b2, rfl, rfl⟩
  refine qG (qn) ?_
  rintro t4 _ ⟨b4, rfl, rfl⟩
  refine qD rfl <| qF <| qO <| qP <| qB rfl <| q9 (wL rfl rfl) <| qF <| qL rfl (fun hc1 => ?_) (fun hc1 => ?_)
  ·
   refine qP <| q9 (wZ rfl) <| qS (wj rfl rfl rfl rfl) <| qD rfl <| qF <| qz <| w7 <| wY (C :: F) (.inl rfl) rfl (za rfl) (qu rfl) ?_
   exact ⟨_, C, by unfold jl; rw [if_pos hc1], by unfold jl; rw [if_pos hc1]; exact hw, rfl⟩
  ·
   refine qZ <| qI <| qO <| qP <| qB rfl <| q9 (y9 rfl rfl) <| qF <| qL rfl (fun hc3 => ?_) (fun hc3 => ?_)
   ·
    refine qP <| q9 (wZ rfl) <| qS (wj rfl rfl rfl rfl) <| qD rfl <| qF <| qz <| w7 <| wY (C :: F) (.inl rfl) rfl (za rfl) (qu rfl) ?_
    exact ⟨_, C, by unfold jl; rw [if_neg hc1, if_pos hc3], by unfold jl; rw [if_neg hc1, if_pos hc3]; exact hw, rfl⟩
   ·
    refine qZ <| qI <| qP <| qB rfl <| q9 (wJ rfl (rblocks_spec size (by omega))) <| qD rfl <| qT ?_
    obtain ⟨Q, hQ⟩ : ∃ Q : Nat, size / 128 = Q := ⟨(size / 128).toNat, by omega⟩
    obtain ⟨r, hr⟩ : ∃ r : Nat, size % 128 = r := ⟨(size % 128).toNat, by omega⟩
    refine qI <| zb (Γ := {pΓ : (RS) × (List Value) × (qV) // (fun (W1 : RS) (v1 : List Value) (C1 : qV) => RefC ba bl W1 v1 C1 ∧ W1 = yo W size ∧ W1.gone.length ≤ 800000) pΓ.1 pΓ.2.1 pΓ.2.2}) (fun g => (fun (W1 : RS) (v1 : List Value) (C1 : qV) => [(1, .int .i64 size), (2, .pointer (some ⟨b2, 0, none⟩)), (4, .pointer (some ⟨b4, 0, none⟩)), (6, .int .i64 (zf size))]) g.1.1 g.1.2.1 g.1.2.2) (fun g => (fun (W1 : RS) (v1 : List Value) (C1 : qV) => [(b2, .cells v1.toArray 41 (0, 0))] :: [(b4, .cells node0V.toArray 41 (0, 0))] :: C1 :: F) g.1.1 g.1.2.1 g.1.2.2) ?_ ?_
    ·
     refine zb (Γ := {pΓ : (Bool) // (fun (b : Bool) => b = true ↔ (size < W.size ∧ size % 128 ≠ 0 ∧ (W.all (size / 128)).has = true)) pΓ}) (fun g => (fun (b : Bool) => [(1, .int .i64 size), (2, .pointer (some ⟨b2, 0, none⟩)), (4, .pointer (some ⟨b4, 0, none⟩)), (6, .int .i64 (zf size)), (36, .bool b)]) g.1) (fun g => (fun (b : Bool) => [(b2, .cells [.int .u32 W.num, .int .u32 W.ver, .int .i64 W.kind, .int .i64 W.size, .int .u32 W.time, .slice (some ⟨ba, 0, none⟩) 1064 1064, .slice (some ⟨bl, 0, none⟩) 32 32, .int .i64 W.sg.at_, .bool W.sg.stale, .int .i64 W.db.at_, .bool W.db.stale, .int .i64 W.self.at_, .bool W.self.stale, .slice pg W.gone.length cg].toArray 41 (0, 0))] :: [(b4, .cells node0V.toArray 41 (0, 0))] :: C :: F) g.1) ?_ ?_
     ·
      refine qK <| qB rfl <| q9 (qA rfl) <| q9 (qH rfl rfl) <| q9 (wL rfl rfl) <| qB rfl <| qY (s := 23) rfl (fun hg6_4 => ?_) (fun hg6_4 => ?_)
      ·
       refine qE rfl rfl (qM rfl) <| qE rfl rfl (xD rfl rfl (by omega) (by omega)) <| qE rfl rfl (wz rfl rfl) <| q9 (qk rfl rfl) <| qB rfl <| qY (s := 28) rfl (fun hg6_9 => ?_) (fun hg6_9 => ?_)
       ·
        refine qE rfl rfl (qA rfl) <| qE rfl rfl (qH rfl rfl) <| qE rfl rfl (qM rfl) <| qE rfl rfl (jU rfl rfl (by omega)) <| qE rfl rfl (qw (j := Q) (off := Q * 131) rfl rfl hQ (by omega) (by simp)) ?_
        refine qE rfl rfl (w6 rfl) <| qE rfl rfl (zY (j := Q) (k := 0) (v := .bool (W.all (size / 128)).has) zg rfl (show (ba, Obj.cells ((zA W.all).flatMap z7 ++ []).toArray 125 (0, 0)) ∈ List.flatten _ by rw [hC]; simp) (y2 (by omega)) rfl (by rw [hQ]; rfl)) ?_
        refine q9 (qk rfl rfl) <| qT <| qW ⟨_, ?_⟩ ?_
        · (try dsimp only); first | exact ⟨fun h => ⟨by omega, by omega, h⟩, fun h => h.2.2⟩ | exact ⟨fun h => (by cases h), fun h => by omega⟩
        · (try dsimp only); exact qX _
       ·
        refine qN rfl rfl rfl <| qN rfl rfl rfl <| qN rfl rfl rfl <| qN rfl rfl rfl <| qN rfl rfl rfl <| qN rfl rfl rfl <| qN rfl rfl rfl <| q9 (qU rfl rfl) <| qT <| qW ⟨_, ?_⟩ ?_
        · (try dsimp only); first | exact ⟨fun h => ⟨by omega, by omega, h⟩, fun h => h.2.2⟩ | exact ⟨fun h => (by cases h), fun h => by omega⟩
        · (try dsimp only); exact qX _
      ·
       refine qN rfl rfl rfl <| qN rfl rfl rfl <| qN rfl rfl rfl <| q9 (qU rfl rfl) <| qB rfl <| qN rfl rfl rfl <| qN rfl rfl rfl <| qN rfl rfl rfl <| qN rfl rfl rfl <| qN rfl rfl rfl <| qN rfl rfl rfl <| qN rfl rfl rfl <| q9 (qU rfl rfl) <| qT <| qW ⟨_, ?_⟩ ?_
       · (try dsimp only); first | exact ⟨fun h => ⟨by omega, by omega, h⟩, fun h => h.2.2⟩ | exact ⟨fun h => (by cases h), fun h => by omega⟩
       · (try dsimp only); exact qX _
     rintro ⟨b, hcut⟩
     replace hcut : b = true ↔ (size < W.size ∧ size % 128 ≠ 0 ∧ (W.all (size / 128)).has = true) := hcut
     have hb := hcut
     show Tr _ _ _ ([(1, .int .i64 size), (2, .pointer (some ⟨b2, 0, none⟩)), (4, .pointer (some ⟨b4, 0, none⟩)), (6, .int .i64 (zf size)), (36, .bool b)]) ([(b2, .cells [.int .u32 W.num, .int .u32 W.ver, .int .i64 W.kind, .int .i64 W.size, .int .u32 W.time, .slice (some ⟨ba, 0, none⟩) 1064 1064, .slice (some ⟨bl, 0, none⟩) 32 32, .int .i64 W.sg.at_, .bool W.sg.stale, .int .i64 W.db.at_, .bool W.db.stale, .int .i64 W.self.at_, .bool W.self.stale, .slice pg W.gone.length cg].toArray 41 (0, 0))] :: [(b4, .cells node0V.toArray 41 (0, 0))] :: C :: F) _ _
     refine y3 rfl (fun hc5 => ?_) (fun hc5 => ?_)
     ·
      refine qO <| qO ?_
      have hc := hb.1 hc5
      refine yx (L' := [(b2, .cells [.int .u32 W.num, .int .u32 W.ver, .int .i64 W.kind, .int .i64 W.size, .int .u32 W.time, .slice (some ⟨ba, 0, none⟩) 1064 1064, .slice (some ⟨bl, 0, none⟩) 32 32, .int .i64 W.sg.at_, .bool W.sg.stale, .int .i64 W.db.at_, .bool W.db.stale, .int .i64 W.self.at_, .bool W.self.stale, .slice pg W.gone.length cg].toArray 41 (0, 0))] :: [(b4, .cells node0V.toArray 41 (0, 0))] :: [(ba, .cells ((zA W.all).flatMap z7 ++ []).toArray 125 (0, 0))] :: [(bl, .cells ((wO W.leaves).flatMap z6 ++ []).toArray 38 (0, 0))] :: Cg :: F) (we (by rw [hC]; simp)) ?_
      refine qK <| qB rfl <| q9 (xD rfl rfl (by omega) (by omega)) <| qD rfl <| qT <| zM (L' := [(b2, .cells [.int .u32 W.num, .int .u32 W.ver, .int .i64 W.kind, .int .i64 W.size, .int .u32 W.time, .slice (some ⟨ba, 0, none⟩) 1064 1064, .slice (some ⟨bl, 0, none⟩) 32 32, .int .i64 W.sg.at_, .bool W.sg.stale, .int .i64 W.db.at_, .bool W.db.stale, .int .i64 W.self.at_, .bool W.self.stale, .slice pg W.gone.length cg].toArray 41 (0, 0))] :: [(b4, .cells node0V.toArray 41 (0, 0))] :: [(ba, .cells ((zA (upd W.all (Q : Int) { W.all Q with s := yC (W.all Q).s r (List.replicate 0 0) })).flatMap z7 ++ []).toArray 125 (0, 0))] :: [(bl, .cells ((wO W.leaves).flatMap z6 ++ []).toArray 38 (0, 0))] :: Cg :: F) (yW (by rw [List.replicate_zero, Xs _ (by omega)]; rw [show upd W.all (Q : Int) { W.all Q with s := (W.all Q).s } = W.all from upd_self W.all (Q : Int)])) ?_
      refine qI <| qg <| wV (Γ := {pΓ : (Nat) × (Int) // (fun (t : Nat) (z : Int) => r + t ≤ 128 ∧ z = r + t) pΓ.1 pΓ.2}) (fun g => (fun (t : Nat) (z : Int) => [(1, .int .i64 size), (2, .pointer (some ⟨b2, 0, none⟩)), (4, .pointer (some ⟨b4, 0, none⟩)), (6, .int .i64 (zf size)), (7, .int .i64 z)]) g.1.1 g.1.2) (fun g => (fun (t : Nat) (z : Int) => [(b2, .cells [.int .u32 W.num, .int .u32 W.ver, .int .i64 W.kind, .int .i64 W.size, .int .u32 W.time, .slice (some ⟨ba, 0, none⟩) 1064 1064, .slice (some ⟨bl, 0, none⟩) 32 32, .int .i64 W.sg.at_, .bool W.sg.stale, .int .i64 W.db.at_, .bool W.db.stale, .int .i64 W.self.at_, .bool W.self.stale, .slice pg W.gone.length cg].toArray 41 (0, 0))] :: [(b4, .cells node0V.toArray 41 (0, 0))] :: [(ba, .cells ((zA (upd W.all (Q : Int) { W.all Q with s := yC (W.all Q).s r (List.replicate t 0) })).flatMap z7 ++ []).toArray 125 (0, 0))] :: [(bl, .cells ((wO W.leaves).flatMap z6 ++ []).toArray 38 (0, 0))] :: Cg :: F) g.1.1 g.1.2) (fun g => (fun (t : Nat) (z : Int) => 128 - t) g.1.1 g.1.2) ⟨(0, size % 128), by dsimp only; exact ⟨by omega, by omega⟩⟩ (qX _) ?_
      rintro ⟨⟨t, z⟩, hloop⟩
      replace hloop : r + t ≤ 128 ∧ z = r + t := hloop
      obtain ⟨ht, hz⟩ := hloop
      show Tr _ _ _ ([(1, .int .i64 size), (2, .pointer (some ⟨b2, 0, none⟩)), (4, .pointer (some ⟨b4, 0, none⟩)), (6, .int .i64 (zf size)), (7, .int .i64 z)]) ([(b2, .cells [.int .u32 W.num, .int .u32 W.ver, .int .i64 W.kind, .int .i64 W.size, .int .u32 W.time, .slice (some ⟨ba, 0, none⟩) 1064 1064, .slice (some ⟨bl, 0, none⟩) 32 32, .int .i64 W.sg.at_, .bool W.sg.stale, .int .i64 W.db.at_, .bool W.db.stale, .int .i64 W.self.at_, .bool W.self.stale, .slice pg W.gone.length cg].toArray 41 (0, 0))] :: [(b4, .cells node0V.toArray 41 (0, 0))] :: [(ba, .cells ((zA (upd W.all (Q : Int) { W.all Q with s := yC (W.all Q).s r (List.replicate t 0) })).flatMap z7 ++ []).toArray 125 (0, 0))] :: [(bl, .cells ((wO W.leaves).flatMap z6 ++ []).toArray 38 (0, 0))] :: Cg :: F) _ _
      refine qO <| qP <| qB rfl <| q9 (wL rfl rfl) <| qF <| qL rfl (fun hc8 => ?_) (fun hc8 => ?_)
      ·
       refine qZ <| qI <| qO <| qg <| qK <| q9 (qA rfl) <| q9 (qH rfl rfl) <| qB rfl <| q9 (jU rfl rfl (by omega)) <| qB rfl <| q9 (qw (j := Q) (off := Q * 131) rfl rfl hQ (by omega) (by simp)) ?_
       refine q9 (w6 rfl) <| q9 (wo (j := r + t) (off := Q * 131 + 3 + (r + t) * 1) rfl rfl (by omega) (by omega) (by simp)) ?_
       refine qS (yZ (j := Q) (k := 3 + (r + t) * 1) (p' := { W.all Q with s := yC (W.all Q).s r (List.replicate (t + 1) 0) }) zg rfl rfl (by rw [y2 (by omega), zW]) (by omega) (blk_zero_step (W.all Q) r t (by omega)) rfl (by rw [Nat.blt_eq]; omega)) ?_
       refine qT <| qf <| qI <| qK <| qB rfl <| q9 (w9 rfl rfl (by omega)) <| qD rfl <| qT <| w5 ⟨(t + 1, _), ?_⟩ ?_ ?_
       · (try dsimp only); exact ⟨by omega, by omega⟩
       · (try dsimp only); omega
       · (try dsimp only); exact yW (by rw [show ∀ (f : Int → Blk) (b : Blk), (zA f).set Q b = zA (upd f (Q : Int) b) from fun _ _ => zx, X8])
      ·
       refine wb <| qr <| qt <| qj <| qI ?_
       have ht2 : t = 128 - r := by omega
       subst ht2
       refine qK <| q9 (qA rfl) <| q9 (qH rfl rfl) <| qB rfl <| q9 (jU rfl rfl (by omega)) <| q9 (qw (j := Q) (off := Q * 131) rfl rfl hQ (by omega) (by simp)) ?_
       refine q9 (w6 rfl) <| qS (yZ (j := Q) (k := 2) (p := { W.all Q with s := yC (W.all Q).s r (List.replicate (128 - r) 0) }) (p' := Yi (W.all Q) r) zg rfl rfl (by rw [y2 (by omega), zW]) rfl rfl rfl) ?_
       refine qT <| qW ⟨({ W with all := upd W.all (Q : Int) (Yi (W.all Q) r) }, [.int .u32 W.num, .int .u32 W.ver, .int .i64 W.kind, .int .i64 W.size, .int .u32 W.time, .slice (some ⟨ba, 0, none⟩) 1064 1064, .slice (some ⟨bl, 0, none⟩) 32 32, .int .i64 W.sg.at_, .bool W.sg.stale, .int .i64 W.db.at_, .bool W.db.stale, .int .i64 W.self.at_, .bool W.self.stale, .slice pg W.gone.length cg], (ba, .cells ((zA (upd W.all (Q : Int) (Yi (W.all Q) r))).flatMap z7 ++ []).toArray 125 (0, 0)) :: (bl, .cells ((wO W.leaves).flatMap z6 ++ []).toArray 38 (0, 0)) :: Cg), ?_⟩ ?_
       · (try dsimp only); exact ⟨⟨_, Cg, rfl, hs, rfl⟩, by unfold yo; rw [if_pos hc, hQ, hr, Int.toNat_natCast], hgl⟩
       · (try dsimp only); exact (by rw [show ∀ (f : Int → Blk) (b : Blk), (zA f).set Q b = zA (upd f (Q : Int) b) from fun _ _ => zx, X8]; exact we (by simp))
     ·
      refine qZ <| qW ⟨(W, [.int .u32 W.num, .int .u32 W.ver, .int .i64 W.kind, .int .i64 W.size, .int .u32 W.time, .slice (some ⟨ba, 0, none⟩) 1064 1064, .slice (some ⟨bl, 0, none⟩) 32 32, .int .i64 W.sg.at_, .bool W.sg.stale, .int .i64 W.db.at_, .bool W.db.stale, .int .i64 W.self.at_, .bool W.self.stale, .slice pg W.gone.length cg], C), ?_⟩ ?_
      · (try dsimp only); exact ⟨hw, by unfold yo; rw [if_neg (fun h => by rw [hb.2 h] at hc5; cases hc5)], hgl⟩
      · (try dsimp only); exact qX _
    rintro ⟨⟨W1, v1, C1⟩, hcut⟩
    replace hcut : RefC ba bl W1 v1 C1 ∧ W1 = yo W size ∧ W1.gone.length ≤ 800000 := hcut
    obtain ⟨hw1, hW1, hgl1⟩ := hcut
    show Tr _ _ _ ([(1, .int .i64 size), (2, .pointer (some ⟨b2, 0, none⟩)), (4, .pointer (some ⟨b4, 0, none⟩)), (6, .int .i64 (zf size))]) ([(b2, .cells v1.toArray 41 (0, 0))] :: [(b4, .cells node0V.toArray 41 (0, 0))] :: C1 :: F) _ _
    refine qP <| qD rfl <| qF <| qO <| qO ?_
    have hbd := Yk (s := size) (by omega)
    obtain ⟨bz, hbz⟩ : ∃ bz : Nat, zf size = bz := ⟨(zf size).toNat, by omega⟩
    have htr : kE W1 size = ((zo 1064).drop bz).foldl yw (W1, false) := by unfold kE; rw [hbz]; rfl
    refine qK <| qB rfl <| qD rfl <| qF <| qg <| wV (Γ := {pΓ : (Nat) × (RS) × (List Value) × (qV) × (Bool) × (Int) // (fun (i : Nat) (w : RS) (v : List Value) (C : qV) (lost : Bool) (z : Int) => i ≤ 1064 ∧ RefC ba bl w v C ∧ w.gone.length ≤ 800000 + i ∧ ((zo 1064).drop i).foldl yw (w, lost) = kE W1 size ∧ z = i) pΓ.1 pΓ.2.1 pΓ.2.2.1 pΓ.2.2.2.1 pΓ.2.2.2.2.1 pΓ.2.2.2.2.2}) (fun g => (fun (i : Nat) (w : RS) (v : List Value) (C : qV) (lost : Bool) (z : Int) => [(1, .int .i64 size), (2, .pointer (some ⟨b2, 0, none⟩)), (4, .pointer (some ⟨b4, 0, none⟩)), (8, .bool lost), (9, .int .i64 z)]) g.1.1 g.1.2.1 g.1.2.2.1 g.1.2.2.2.1 g.1.2.2.2.2.1 g.1.2.2.2.2.2) (fun g => (fun (i : Nat) (w : RS) (v : List Value) (C : qV) (lost : Bool) (z : Int) => [(b2, .cells v.toArray 41 (0, 0))] :: [(b4, .cells node0V.toArray 41 (0, 0))] :: C :: F) g.1.1 g.1.2.1 g.1.2.2.1 g.1.2.2.2.1 g.1.2.2.2.2.1 g.1.2.2.2.2.2) (fun g => (fun (i : Nat) (w : RS) (v : List Value) (C : qV) (lost : Bool) (z : Int) => 1064 - i) g.1.1 g.1.2.1 g.1.2.2.1 g.1.2.2.2.1 g.1.2.2.2.2.1 g.1.2.2.2.2.2) ⟨(bz, W1, v1, C1, false, zf size), by dsimp only; exact ⟨by omega, hw1, by omega, htr.symm, hbz⟩⟩ (qX _) ?_
    rintro ⟨⟨i, w, v, C, lost, z⟩, hloop⟩
    replace hloop : i ≤ 1064 ∧ RefC ba bl w v C ∧ w.gone.length ≤ 800000 + i ∧ ((zo 1064).drop i).foldl yw (w, lost) = kE W1 size ∧ z = i := hloop
    obtain ⟨hi, hR, hglw, hfold, hz⟩ := hloop
    show Tr _ _ _ ([(1, .int .i64 size), (2, .pointer (some ⟨b2, 0, none⟩)), (4, .pointer (some ⟨b4, 0, none⟩)), (8, .bool lost), (9, .int .i64 z)]) ([(b2, .cells v.toArray 41 (0, 0))] :: [(b4, .cells node0V.toArray 41 (0, 0))] :: C :: F) _ _
    refine qO <| qP <| qB rfl <| q9 (wL rfl rfl) <| qF <| qL rfl (fun hc14 => ?_) (fun hc14 => ?_)
    ·
     refine qZ <| qI <| qO <| qg <| qO ?_
     subst hz
     obtain ⟨pg', cg', Cg', hv, hs', hC'⟩ := hR.at
     rw [kR (kx (by omega)), List.foldl_cons, yw] at hfold
     refine qK <| q9 (qA rfl) <| q9 (qH rfl (show wX v 5 = some (.slice (some ⟨ba, 0, none⟩) 1064 1064) by rw [hv]; rfl)) <| qB rfl <| q9 (qw (j := i) (off := i * 131) rfl rfl rfl (by omega) (by simp)) ?_
     refine q9 (w6 rfl) <| q9 (zY (j := i) (k := 0) (v := .bool (w.all i).has) zg rfl (show (ba, Obj.cells ((zA w.all).flatMap z7 ++ []).toArray 125 (0, 0)) ∈ List.flatten _ by rw [hC']; simp) (y2 (by omega)) rfl rfl) <| qF <| y3 rfl (fun hc16 => ?_) (fun hc16 => ?_)
     ·
      refine qP <| q9 (wS rfl hR.len) <| qB rfl <| qG (qx rfl (wc (C) (rhole_ok w v C hR i (by omega) (by omega)))) ?_
      rintro t70 _ ⟨l', C'', rfl, hR', rfl⟩
      refine qS (qq rfl rfl hR.len hR'.len hR'.one) <| qF <| qK <| qD rfl <| qT <| qf <| qI <| qK <| qB rfl <| q9 (w9 rfl rfl (by omega)) <| qD rfl <| qT <| w5 ⟨(i + 1, xg w i, l', C'', true, _), ?_⟩ ?_ ?_
      · (try dsimp only); rw [if_pos hc16] at hfold; exact ⟨by omega, hR', by have := holeR_gone w i; omega, hfold, by omega⟩
      · (try dsimp only); omega
      · (try dsimp only); exact qX _
     ·
      refine qZ <| qf <| qI <| qK <| qB rfl <| q9 (w9 rfl rfl (by omega)) <| qD rfl <| qT <| w5 ⟨(i + 1, w, v, C, lost, _), ?_⟩ ?_ ?_
      · (try dsimp only); rw [if_neg (by rw [hc16]; simp)] at hfold; exact ⟨by omega, hR, by omega, hfold, by omega⟩
      · (try dsimp only); omega
      · (try dsimp only); exact qX _
    ·
     refine wb <| qr <| qt <| qj <| qI <| zb (Γ := {pΓ : (RS) × (List Value) × (qV) // (fun (w2 : RS) (v2 : List Value) (C2 : qV) => RefC ba bl w2 v2 C2 ∧ w2 = Zw (kE W1 size)) pΓ.1 pΓ.2.1 pΓ.2.2}) (fun g => (fun (w2 : RS) (v2 : List Value) (C2 : qV) => [(1, .int .i64 size), (2, .pointer (some ⟨b2, 0, none⟩)), (4, .pointer (some ⟨b4, 0, none⟩))]) g.1.1 g.1.2.1 g.1.2.2) (fun g => (fun (w2 : RS) (v2 : List Value) (C2 : qV) => [(b2, .cells v2.toArray 41 (0, 0))] :: [(b4, .cells node0V.toArray 41 (0, 0))] :: C2 :: F) g.1.1 g.1.2.1 g.1.2.2) ?_ ?_
     ·
      refine qO ?_
      rw [List.drop_of_length_le (by rw [x2]; omega), List.foldl_nil] at hfold
      refine qK <| qB rfl <| qF <| y3 rfl (fun hc19 => ?_) (fun hc19 => ?_)
      ·
       refine qO <| qP <| qD rfl <| qF <| qg <| wV (Γ := {pΓ : (Nat) × (RS) × (List Value) × (qV) × (Int) // (fun (k : Nat) (w' : RS) (v : List Value) (C : qV) (z : Int) => k ≤ 32 ∧ RefC ba bl w' v C ∧ w'.gone.length ≤ 802000 + k ∧ ((zo 32).drop k).foldl wm w' = (zo 32).foldl wm w ∧ z = k) pΓ.1 pΓ.2.1 pΓ.2.2.1 pΓ.2.2.2.1 pΓ.2.2.2.2}) (fun g => (fun (k : Nat) (w' : RS) (v : List Value) (C : qV) (z : Int) => [(1, .int .i64 size), (2, .pointer (some ⟨b2, 0, none⟩)), (4, .pointer (some ⟨b4, 0, none⟩)), (10, .int .i64 z)]) g.1.1 g.1.2.1 g.1.2.2.1 g.1.2.2.2.1 g.1.2.2.2.2) (fun g => (fun (k : Nat) (w' : RS) (v : List Value) (C : qV) (z : Int) => [(b2, .cells v.toArray 41 (0, 0))] :: [(b4, .cells node0V.toArray 41 (0, 0))] :: C :: F) g.1.1 g.1.2.1 g.1.2.2.1 g.1.2.2.2.1 g.1.2.2.2.2) (fun g => (fun (k : Nat) (w' : RS) (v : List Value) (C : qV) (z : Int) => 32 - k) g.1.1 g.1.2.1 g.1.2.2.1 g.1.2.2.2.1 g.1.2.2.2.2) ⟨(0, w, v, C, 0), by dsimp only; exact ⟨by omega, hR, by omega, rfl, rfl⟩⟩ (qX _) ?_
       rintro ⟨⟨k, w', v, C, z⟩, hloop⟩
       replace hloop : k ≤ 32 ∧ RefC ba bl w' v C ∧ w'.gone.length ≤ 802000 + k ∧ ((zo 32).drop k).foldl wm w' = (zo 32).foldl wm w ∧ z = k := hloop
       obtain ⟨hk, hR2, hgl2, hfold2, hz2⟩ := hloop
       show Tr _ _ _ ([(1, .int .i64 size), (2, .pointer (some ⟨b2, 0, none⟩)), (4, .pointer (some ⟨b4, 0, none⟩)), (10, .int .i64 z)]) ([(b2, .cells v.toArray 41 (0, 0))] :: [(b4, .cells node0V.toArray 41 (0, 0))] :: C :: F) _ _
       refine qO <| qP <| qB rfl <| q9 (wL rfl rfl) <| qF <| qL rfl (fun hc21 => ?_) (fun hc21 => ?_)
       ·
        refine qZ <| qI <| zb (Γ := {pΓ : (RS) × (List Value) × (qV) // (fun (w3 : RS) (v3 : List Value) (C3 : qV) => RefC ba bl w3 v3 C3 ∧ w3 = wm w' k ∧ w3.gone.length ≤ 802001 + k) pΓ.1 pΓ.2.1 pΓ.2.2}) (fun g => (fun (w3 : RS) (v3 : List Value) (C3 : qV) => [(1, .int .i64 size), (2, .pointer (some ⟨b2, 0, none⟩)), (4, .pointer (some ⟨b4, 0, none⟩)), (10, .int .i64 k)]) g.1.1 g.1.2.1 g.1.2.2) (fun g => (fun (w3 : RS) (v3 : List Value) (C3 : qV) => [(b2, .cells v3.toArray 41 (0, 0))] :: [(b4, .cells node0V.toArray 41 (0, 0))] :: C3 :: F) g.1.1 g.1.2.1 g.1.2.2) ?_ ?_
        ·
         refine qg <| qO ?_
         subst hz2
         obtain ⟨pg', cg', Cg', hv, hs', hC'⟩ := hR2.at
         rw [kR (kx (by omega)), List.foldl_cons, wm] at hfold2
         refine qK <| q9 (wS rfl hR2.len) <| qB rfl <| q9 (wJ rfl (zS (C) (jc w' v C hR2 2 k))) <| q9 (kN rfl) <| qF <| y3 rfl (fun hc23 => ?_) (fun hc23 => ?_)
         ·
          refine yT w8 (show TrS _ _ _ _ [false, false, false, false, false, false, false, false, false, false, false, false, false, false, false, false] _ _ _ from ?_)
          refine qJ 0 rfl rfl rfl (wn rfl) <| qJ 2 rfl rfl rfl (wP rfl) <| qJ 4 rfl rfl rfl (wn rfl) <| qJ 6 rfl rfl rfl (wP rfl) <| xX (i := 1) (j := 3) (k := 5) (by kernel_rfl) rfl ?_ ?_ ?_
          ·
           refine qe rfl rfl rfl (qH rfl (show wX v 6 = some (.slice (some ⟨bl, 0, none⟩) 32 32) by rw [hv]; rfl)) <| wy (i := 3) (j := 5) (by kernel_rfl) rfl ?_ ?_
           ·
            refine qe rfl rfl rfl (wS rfl hR2.len) <| qR 5 rfl <| qe rfl rfl rfl (qH rfl (show wX v 6 = some (.slice (some ⟨bl, 0, none⟩) 32 32) by rw [hv]; rfl)) <| qJ 7 rfl rfl rfl (wv (j := k) (off := k * 2) rfl rfl rfl (by omega) (by simp)) ?_
            refine qR 8 rfl <| qe rfl rfl rfl (zr (j := k) zT rfl (show (bl, Obj.cells ((wO w'.leaves).flatMap z6 ++ []).toArray 38 (0, 0)) ∈ List.flatten _ by rw [hC']; simp) (zD (by omega)) rfl) <| qR 9 rfl <| wB rfl rfl rfl (qx rfl (wc (C) (yq w' v C hR2 (w'.leaves k) (by omega)))) ?_
            rintro t90 _ ⟨l', C'', rfl, hR', rfl⟩
            refine qJ 10 rfl rfl rfl (wP rfl) <| qJ 11 rfl rfl rfl (qv rfl rfl) <| qJ 12 rfl rfl rfl (qv rfl rfl) <| qR 13 rfl <| wR rfl rfl rfl (qq rfl rfl hR2.len hR'.len hR'.one) ?_
            obtain ⟨pg2, cg2, Cg2, hv2, hs2, hC2⟩ := hR'.at
            rw [zz] at hC2
            refine j4 (L' := [(b2, .cells l'.toArray 41 (0, 0))] :: [(b4, .cells node0V.toArray 41 (0, 0))] :: [(ba, .cells ((zA (yJ w' (w'.leaves k)).all).flatMap z7 ++ []).toArray 125 (0, 0))] :: [(bl, .cells ((wO w'.leaves).flatMap z6 ++ []).toArray 38 (0, 0))] :: Cg2 :: F) (by rw [hC2]; exact (yV (by intro f; simp only [List.flatten_cons, List.flatten_nil, List.append_nil, List.countP_append, List.countP_cons, List.countP_nil]; omega))) ?_
            refine qJ 14 rfl rfl rfl (wv (j := k) (off := k * 2) rfl rfl rfl (by omega) (by simp)) ?_
            refine qR 15 rfl <| wR rfl rfl rfl (zN (j := k) (p' := ⟨0, false⟩) zT rfl rfl rfl (zD (by omega)) rfl rfl) <| wG <| qf <| qW ⟨(wm w' k, l', (ba, .cells ((zA (yJ w' (w'.leaves k)).all).flatMap z7 ++ []).toArray 125 (0, 0)) :: (bl, .cells ((wO (upd w'.leaves k ⟨0, false⟩)).flatMap z6 ++ []).toArray 38 (0, 0)) :: Cg2), ?_⟩ ?_
            ·
             try dsimp only
             have hkf : ¬ yD w' 2 k = true := by simpa using hc23
             refine ⟨?_, rfl, ?_⟩
             · unfold wm; rw [if_neg hkf]; exact ⟨_, Cg2, hv2, hs2, rfl⟩
             · unfold wm; rw [if_neg hkf]; have := yL w' (w'.leaves k); dsimp only; omega
            · (try dsimp only); exact (by rw [show ∀ (f : Int → yG) (b : yG), (wO f).set k b = wO (upd f (k : Int) b) from fun _ _ => zx]; exact we (by simp))
           ·
            refine qe rfl rfl rfl (qH rfl (show wX v 6 = some (.slice (some ⟨bl, 0, none⟩) 32 32) by rw [hv]; rfl)) <| qJ 7 rfl rfl rfl (wv (j := k) (off := k * 2) rfl rfl rfl (by omega) (by simp)) ?_
            refine wy (i := 3) (j := 8) (by kernel_rfl) rfl ?_ ?_
            ·
             refine qe rfl rfl rfl (wS rfl hR2.len) <| qR 8 rfl <| qe rfl rfl rfl (zr (j := k) zT rfl (show (bl, Obj.cells ((wO w'.leaves).flatMap z6 ++ []).toArray 38 (0, 0)) ∈ List.flatten _ by rw [hC']; simp) (zD (by omega)) rfl) <| qR 9 rfl <| wB rfl rfl rfl (qx rfl (wc (C) (yq w' v C hR2 (w'.leaves k) (by omega)))) ?_
             rintro t90 _ ⟨l', C'', rfl, hR', rfl⟩
             refine qJ 10 rfl rfl rfl (wP rfl) <| qJ 11 rfl rfl rfl (qv rfl rfl) <| qJ 12 rfl rfl rfl (qv rfl rfl) <| qR 13 rfl <| wR rfl rfl rfl (qq rfl rfl hR2.len hR'.len hR'.one) ?_
             obtain ⟨pg2, cg2, Cg2, hv2, hs2, hC2⟩ := hR'.at
             rw [zz] at hC2
             refine j4 (L' := [(b2, .cells l'.toArray 41 (0, 0))] :: [(b4, .cells node0V.toArray 41 (0, 0))] :: [(ba, .cells ((zA (yJ w' (w'.leaves k)).all).flatMap z7 ++ []).toArray 125 (0, 0))] :: [(bl, .cells ((wO w'.leaves).flatMap z6 ++ []).toArray 38 (0, 0))] :: Cg2 :: F) (by rw [hC2]; exact (yV (by intro f; simp only [List.flatten_cons, List.flatten_nil, List.append_nil, List.countP_append, List.countP_cons, List.countP_nil]; omega))) ?_
             refine qJ 14 rfl rfl rfl (wv (j := k) (off := k * 2) rfl rfl rfl (by omega) (by simp)) ?_
             refine qR 15 rfl <| wR rfl rfl rfl (zN (j := k) (p' := ⟨0, false⟩) zT rfl rfl rfl (zD (by omega)) rfl rfl) <| wG <| qf <| qW ⟨(wm w' k, l', (ba, .cells ((zA (yJ w' (w'.leaves k)).all).flatMap z7 ++ []).toArray 125 (0, 0)) :: (bl, .cells ((wO (upd w'.leaves k ⟨0, false⟩)).flatMap z6 ++ []).toArray 38 (0, 0)) :: Cg2), ?_⟩ ?_
             ·
              try dsimp only
              have hkf : ¬ yD w' 2 k = true := by simpa using hc23
              refine ⟨?_, rfl, ?_⟩
              · unfold wm; rw [if_neg hkf]; exact ⟨_, Cg2, hv2, hs2, rfl⟩
              · unfold wm; rw [if_neg hkf]; have := yL w' (w'.leaves k); dsimp only; omega
             · (try dsimp only); exact (by rw [show ∀ (f : Int → yG) (b : yG), (wO f).set k b = wO (upd f (k : Int) b) from fun _ _ => zx]; exact we (by simp))
            ·
             refine qe rfl rfl rfl (zr (j := k) zT rfl (show (bl, Obj.cells ((wO w'.leaves).flatMap z6 ++ []).toArray 38 (0, 0)) ∈ List.flatten _ by rw [hC']; simp) (zD (by omega)) rfl) <| qR 3 rfl <| qe rfl rfl rfl (wS rfl hR2.len) <| qR 9 rfl <| wB rfl rfl rfl (qx rfl (wc (C) (yq w' v C hR2 (w'.leaves k) (by omega)))) ?_
             rintro t90 _ ⟨l', C'', rfl, hR', rfl⟩
             refine qJ 10 rfl rfl rfl (wP rfl) <| qJ 11 rfl rfl rfl (qv rfl rfl) <| qJ 12 rfl rfl rfl (qv rfl rfl) <| qR 13 rfl <| wR rfl rfl rfl (qq rfl rfl hR2.len hR'.len hR'.one) ?_
             obtain ⟨pg2, cg2, Cg2, hv2, hs2, hC2⟩ := hR'.at
             rw [zz] at hC2
             refine j4 (L' := [(b2, .cells l'.toArray 41 (0, 0))] :: [(b4, .cells node0V.toArray 41 (0, 0))] :: [(ba, .cells ((zA (yJ w' (w'.leaves k)).all).flatMap z7 ++ []).toArray 125 (0, 0))] :: [(bl, .cells ((wO w'.leaves).flatMap z6 ++ []).toArray 38 (0, 0))] :: Cg2 :: F) (by rw [hC2]; exact (yV (by intro f; simp only [List.flatten_cons, List.flatten_nil, List.append_nil, List.countP_append, List.countP_cons, List.countP_nil]; omega))) ?_
             refine qJ 14 rfl rfl rfl (wv (j := k) (off := k * 2) rfl rfl rfl (by omega) (by simp)) ?_
             refine qR 15 rfl <| wR rfl rfl rfl (zN (j := k) (p' := ⟨0, false⟩) zT rfl rfl rfl (zD (by omega)) rfl rfl) <| wG <| qf <| qW ⟨(wm w' k, l', (ba, .cells ((zA (yJ w' (w'.leaves k)).all).flatMap z7 ++ []).toArray 125 (0, 0)) :: (bl, .cells ((wO (upd w'.leaves k ⟨0, false⟩)).flatMap z6 ++ []).toArray 38 (0, 0)) :: Cg2), ?_⟩ ?_
             ·
              try dsimp only
              have hkf : ¬ yD w' 2 k = true := by simpa using hc23
              refine ⟨?_, rfl, ?_⟩
              · unfold wm; rw [if_neg hkf]; exact ⟨_, Cg2, hv2, hs2, rfl⟩
              · unfold wm; rw [if_neg hkf]; have := yL w' (w'.leaves k); dsimp only; omega
             · (try dsimp only); exact (by rw [show ∀ (f : Int → yG) (b : yG), (wO f).set k b = wO (upd f (k : Int) b) from fun _ _ => zx]; exact we (by simp))
          ·
           refine qe rfl rfl rfl (wS rfl hR2.len) <| wy (i := 1) (j := 5) (by kernel_rfl) rfl ?_ ?_
           ·
            refine qe rfl rfl rfl (qH rfl (show wX v 6 = some (.slice (some ⟨bl, 0, none⟩) 32 32) by rw [hv]; rfl)) <| qR 5 rfl <| qe rfl rfl rfl (qH rfl (show wX v 6 = some (.slice (some ⟨bl, 0, none⟩) 32 32) by rw [hv]; rfl)) <| qJ 7 rfl rfl rfl (wv (j := k) (off := k * 2) rfl rfl rfl (by omega) (by simp)) ?_
            refine qR 8 rfl <| qe rfl rfl rfl (zr (j := k) zT rfl (show (bl, Obj.cells ((wO w'.leaves).flatMap z6 ++ []).toArray 38 (0, 0)) ∈ List.flatten _ by rw [hC']; simp) (zD (by omega)) rfl) <| qR 9 rfl <| wB rfl rfl rfl (qx rfl (wc (C) (yq w' v C hR2 (w'.leaves k) (by omega)))) ?_
            rintro t90 _ ⟨l', C'', rfl, hR', rfl⟩
            refine qJ 10 rfl rfl rfl (wP rfl) <| qJ 11 rfl rfl rfl (qv rfl rfl) <| qJ 12 rfl rfl rfl (qv rfl rfl) <| qR 13 rfl <| wR rfl rfl rfl (qq rfl rfl hR2.len hR'.len hR'.one) ?_
            obtain ⟨pg2, cg2, Cg2, hv2, hs2, hC2⟩ := hR'.at
            rw [zz] at hC2
            refine j4 (L' := [(b2, .cells l'.toArray 41 (0, 0))] :: [(b4, .cells node0V.toArray 41 (0, 0))] :: [(ba, .cells ((zA (yJ w' (w'.leaves k)).all).flatMap z7 ++ []).toArray 125 (0, 0))] :: [(bl, .cells ((wO w'.leaves).flatMap z6 ++ []).toArray 38 (0, 0))] :: Cg2 :: F) (by rw [hC2]; exact (yV (by intro f; simp only [List.flatten_cons, List.flatten_nil, List.append_nil, List.countP_append, List.countP_cons, List.countP_nil]; omega))) ?_
            refine qJ 14 rfl rfl rfl (wv (j := k) (off := k * 2) rfl rfl rfl (by omega) (by simp)) ?_
            refine qR 15 rfl <| wR rfl rfl rfl (zN (j := k) (p' := ⟨0, false⟩) zT rfl rfl rfl (zD (by omega)) rfl rfl) <| wG <| qf <| qW ⟨(wm w' k, l', (ba, .cells ((zA (yJ w' (w'.leaves k)).all).flatMap z7 ++ []).toArray 125 (0, 0)) :: (bl, .cells ((wO (upd w'.leaves k ⟨0, false⟩)).flatMap z6 ++ []).toArray 38 (0, 0)) :: Cg2), ?_⟩ ?_
            ·
             try dsimp only
             have hkf : ¬ yD w' 2 k = true := by simpa using hc23
             refine ⟨?_, rfl, ?_⟩
             · unfold wm; rw [if_neg hkf]; exact ⟨_, Cg2, hv2, hs2, rfl⟩
             · unfold wm; rw [if_neg hkf]; have := yL w' (w'.leaves k); dsimp only; omega
            · (try dsimp only); exact (by rw [show ∀ (f : Int → yG) (b : yG), (wO f).set k b = wO (upd f (k : Int) b) from fun _ _ => zx]; exact we (by simp))
           ·
            refine qe rfl rfl rfl (qH rfl (show wX v 6 = some (.slice (some ⟨bl, 0, none⟩) 32 32) by rw [hv]; rfl)) <| qJ 7 rfl rfl rfl (wv (j := k) (off := k * 2) rfl rfl rfl (by omega) (by simp)) ?_
            refine wy (i := 1) (j := 8) (by kernel_rfl) rfl ?_ ?_
            ·
             refine qe rfl rfl rfl (qH rfl (show wX v 6 = some (.slice (some ⟨bl, 0, none⟩) 32 32) by rw [hv]; rfl)) <| qR 8 rfl <| qe rfl rfl rfl (zr (j := k) zT rfl (show (bl, Obj.cells ((wO w'.leaves).flatMap z6 ++ []).toArray 38 (0, 0)) ∈ List.flatten _ by rw [hC']; simp) (zD (by omega)) rfl) <| qR 9 rfl <| wB rfl rfl rfl (qx rfl (wc (C) (yq w' v C hR2 (w'.leaves k) (by omega)))) ?_
             rintro t90 _ ⟨l', C'', rfl, hR', rfl⟩
             refine qJ 10 rfl rfl rfl (wP rfl) <| qJ 11 rfl rfl rfl (qv rfl rfl) <| qJ 12 rfl rfl rfl (qv rfl rfl) <| qR 13 rfl <| wR rfl rfl rfl (qq rfl rfl hR2.len hR'.len hR'.one) ?_
             obtain ⟨pg2, cg2, Cg2, hv2, hs2, hC2⟩ := hR'.at
             rw [zz] at hC2
             refine j4 (L' := [(b2, .cells l'.toArray 41 (0, 0))] :: [(b4, .cells node0V.toArray 41 (0, 0))] :: [(ba, .cells ((zA (yJ w' (w'.leaves k)).all).flatMap z7 ++ []).toArray 125 (0, 0))] :: [(bl, .cells ((wO w'.leaves).flatMap z6 ++ []).toArray 38 (0, 0))] :: Cg2 :: F) (by rw [hC2]; exact (yV (by intro f; simp only [List.flatten_cons, List.flatten_nil, List.append_nil, List.countP_append, List.countP_cons, List.countP_nil]; omega))) ?_
             refine qJ 14 rfl rfl rfl (wv (j := k) (off := k * 2) rfl rfl rfl (by omega) (by simp)) ?_
             refine qR 15 rfl <| wR rfl rfl rfl (zN (j := k) (p' := ⟨0, false⟩) zT rfl rfl rfl (zD (by omega)) rfl rfl) <| wG <| qf <| qW ⟨(wm w' k, l', (ba, .cells ((zA (yJ w' (w'.leaves k)).all).flatMap z7 ++ []).toArray 125 (0, 0)) :: (bl, .cells ((wO (upd w'.leaves k ⟨0, false⟩)).flatMap z6 ++ []).toArray 38 (0, 0)) :: Cg2), ?_⟩ ?_
             ·
              try dsimp only
              have hkf : ¬ yD w' 2 k = true := by simpa using hc23
              refine ⟨?_, rfl, ?_⟩
              · unfold wm; rw [if_neg hkf]; exact ⟨_, Cg2, hv2, hs2, rfl⟩
              · unfold wm; rw [if_neg hkf]; have := yL w' (w'.leaves k); dsimp only; omega
             · (try dsimp only); exact (by rw [show ∀ (f : Int → yG) (b : yG), (wO f).set k b = wO (upd f (k : Int) b) from fun _ _ => zx]; exact we (by simp))
            ·
             refine qe rfl rfl rfl (zr (j := k) zT rfl (show (bl, Obj.cells ((wO w'.leaves).flatMap z6 ++ []).toArray 38 (0, 0)) ∈ List.flatten _ by rw [hC']; simp) (zD (by omega)) rfl) <| wy (i := 1) (j := 9) (by kernel_rfl) rfl ?_ ?_
             ·
              refine qe rfl rfl rfl (qH rfl (show wX v 6 = some (.slice (some ⟨bl, 0, none⟩) 32 32) by rw [hv]; rfl)) <| qR 9 rfl <| wB rfl rfl rfl (qx rfl (wc (C) (yq w' v C hR2 (w'.leaves k) (by omega)))) ?_
              rintro t90 _ ⟨l', C'', rfl, hR', rfl⟩
              refine qJ 10 rfl rfl rfl (wP rfl) <| qJ 11 rfl rfl rfl (qv rfl rfl) <| qJ 12 rfl rfl rfl (qv rfl rfl) <| qR 13 rfl <| wR rfl rfl rfl (qq rfl rfl hR2.len hR'.len hR'.one) ?_
              obtain ⟨pg2, cg2, Cg2, hv2, hs2, hC2⟩ := hR'.at
              rw [zz] at hC2
              refine j4 (L' := [(b2, .cells l'.toArray 41 (0, 0))] :: [(b4, .cells node0V.toArray 41 (0, 0))] :: [(ba, .cells ((zA (yJ w' (w'.leaves k)).all).flatMap z7 ++ []).toArray 125 (0, 0))] :: [(bl, .cells ((wO w'.leaves).flatMap z6 ++ []).toArray 38 (0, 0))] :: Cg2 :: F) (by rw [hC2]; exact (yV (by intro f; simp only [List.flatten_cons, List.flatten_nil, List.append_nil, List.countP_append, List.countP_cons, List.countP_nil]; omega))) ?_
              refine qJ 14 rfl rfl rfl (wv (j := k) (off := k * 2) rfl rfl rfl (by omega) (by simp)) ?_
              refine qR 15 rfl <| wR rfl rfl rfl (zN (j := k) (p' := ⟨0, false⟩) zT rfl rfl rfl (zD (by omega)) rfl rfl) <| wG <| qf <| qW ⟨(wm w' k, l', (ba, .cells ((zA (yJ w' (w'.leaves k)).all).flatMap z7 ++ []).toArray 125 (0, 0)) :: (bl, .cells ((wO (upd w'.leaves k ⟨0, false⟩)).flatMap z6 ++ []).toArray 38 (0, 0)) :: Cg2), ?_⟩ ?_
              ·
               try dsimp only
               have hkf : ¬ yD w' 2 k = true := by simpa using hc23
               refine ⟨?_, rfl, ?_⟩
               · unfold wm; rw [if_neg hkf]; exact ⟨_, Cg2, hv2, hs2, rfl⟩
               · unfold wm; rw [if_neg hkf]; have := yL w' (w'.leaves k); dsimp only; omega
              · (try dsimp only); exact (by rw [show ∀ (f : Int → yG) (b : yG), (wO f).set k b = wO (upd f (k : Int) b) from fun _ _ => zx]; exact we (by simp))
             ·
              refine wB rfl rfl rfl (qx rfl (wc (C) (yq w' v C hR2 (w'.leaves k) (by omega)))) ?_
              rintro t90 _ ⟨l', C'', rfl, hR', rfl⟩
              refine qJ 10 rfl rfl rfl (wP rfl) <| qJ 11 rfl rfl rfl (qv rfl rfl) <| qJ 12 rfl rfl rfl (qv rfl rfl) <| qR 1 rfl <| qe rfl rfl rfl (qH rfl (show wX v 6 = some (.slice (some ⟨bl, 0, none⟩) 32 32) by rw [hv]; rfl)) <| qR 13 rfl <| wR rfl rfl rfl (qq rfl rfl hR2.len hR'.len hR'.one) ?_
              obtain ⟨pg2, cg2, Cg2, hv2, hs2, hC2⟩ := hR'.at
              rw [zz] at hC2
              refine j4 (L' := [(b2, .cells l'.toArray 41 (0, 0))] :: [(b4, .cells node0V.toArray 41 (0, 0))] :: [(ba, .cells ((zA (yJ w' (w'.leaves k)).all).flatMap z7 ++ []).toArray 125 (0, 0))] :: [(bl, .cells ((wO w'.leaves).flatMap z6 ++ []).toArray 38 (0, 0))] :: Cg2 :: F) (by rw [hC2]; exact (yV (by intro f; simp only [List.flatten_cons, List.flatten_nil, List.append_nil, List.countP_append, List.countP_cons, List.countP_nil]; omega))) ?_
              refine qJ 14 rfl rfl rfl (wv (j := k) (off := k * 2) rfl rfl rfl (by omega) (by simp)) ?_
              refine qR 15 rfl <| wR rfl rfl rfl (zN (j := k) (p' := ⟨0, false⟩) zT rfl rfl rfl (zD (by omega)) rfl rfl) <| wG <| qf <| qW ⟨(wm w' k, l', (ba, .cells ((zA (yJ w' (w'.leaves k)).all).flatMap z7 ++ []).toArray 125 (0, 0)) :: (bl, .cells ((wO (upd w'.leaves k ⟨0, false⟩)).flatMap z6 ++ []).toArray 38 (0, 0)) :: Cg2), ?_⟩ ?_
              ·
               try dsimp only
               have hkf : ¬ yD w' 2 k = true := by simpa using hc23
               refine ⟨?_, rfl, ?_⟩
               · unfold wm; rw [if_neg hkf]; exact ⟨_, Cg2, hv2, hs2, rfl⟩
               · unfold wm; rw [if_neg hkf]; have := yL w' (w'.leaves k); dsimp only; omega
              · (try dsimp only); exact (by rw [show ∀ (f : Int → yG) (b : yG), (wO f).set k b = wO (upd f (k : Int) b) from fun _ _ => zx]; exact we (by simp))
          ·
           refine qe rfl rfl rfl (qH rfl (show wX v 6 = some (.slice (some ⟨bl, 0, none⟩) 32 32) by rw [hv]; rfl)) <| qJ 7 rfl rfl rfl (wv (j := k) (off := k * 2) rfl rfl rfl (by omega) (by simp)) ?_
           refine xX (i := 1) (j := 3) (k := 8) (by kernel_rfl) rfl ?_ ?_ ?_
           ·
            refine qe rfl rfl rfl (qH rfl (show wX v 6 = some (.slice (some ⟨bl, 0, none⟩) 32 32) by rw [hv]; rfl)) <| wy (i := 3) (j := 8) (by kernel_rfl) rfl ?_ ?_
            ·
             refine qe rfl rfl rfl (wS rfl hR2.len) <| qR 8 rfl <| qe rfl rfl rfl (zr (j := k) zT rfl (show (bl, Obj.cells ((wO w'.leaves).flatMap z6 ++ []).toArray 38 (0, 0)) ∈ List.flatten _ by rw [hC']; simp) (zD (by omega)) rfl) <| qR 9 rfl <| wB rfl rfl rfl (qx rfl (wc (C) (yq w' v C hR2 (w'.leaves k) (by omega)))) ?_
             rintro t90 _ ⟨l', C'', rfl, hR', rfl⟩
             refine qJ 10 rfl rfl rfl (wP rfl) <| qJ 11 rfl rfl rfl (qv rfl rfl) <| qJ 12 rfl rfl rfl (qv rfl rfl) <| qR 13 rfl <| wR rfl rfl rfl (qq rfl rfl hR2.len hR'.len hR'.one) ?_
             obtain ⟨pg2, cg2, Cg2, hv2, hs2, hC2⟩ := hR'.at
             rw [zz] at hC2
             refine j4 (L' := [(b2, .cells l'.toArray 41 (0, 0))] :: [(b4, .cells node0V.toArray 41 (0, 0))] :: [(ba, .cells ((zA (yJ w' (w'.leaves k)).all).flatMap z7 ++ []).toArray 125 (0, 0))] :: [(bl, .cells ((wO w'.leaves).flatMap z6 ++ []).toArray 38 (0, 0))] :: Cg2 :: F) (by rw [hC2]; exact (yV (by intro f; simp only [List.flatten_cons, List.flatten_nil, List.append_nil, List.countP_append, List.countP_cons, List.countP_nil]; omega))) ?_
             refine qJ 14 rfl rfl rfl (wv (j := k) (off := k * 2) rfl rfl rfl (by omega) (by simp)) ?_
             refine qR 15 rfl <| wR rfl rfl rfl (zN (j := k) (p' := ⟨0, false⟩) zT rfl rfl rfl (zD (by omega)) rfl rfl) <| wG <| qf <| qW ⟨(wm w' k, l', (ba, .cells ((zA (yJ w' (w'.leaves k)).all).flatMap z7 ++ []).toArray 125 (0, 0)) :: (bl, .cells ((wO (upd w'.leaves k ⟨0, false⟩)).flatMap z6 ++ []).toArray 38 (0, 0)) :: Cg2), ?_⟩ ?_
             ·
              try dsimp only
              have hkf : ¬ yD w' 2 k = true := by simpa using hc23
              refine ⟨?_, rfl, ?_⟩
              · unfold wm; rw [if_neg hkf]; exact ⟨_, Cg2, hv2, hs2, rfl⟩
              · unfold wm; rw [if_neg hkf]; have := yL w' (w'.leaves k); dsimp only; omega
             · (try dsimp only); exact (by rw [show ∀ (f : Int → yG) (b : yG), (wO f).set k b = wO (upd f (k : Int) b) from fun _ _ => zx]; exact we (by simp))
            ·
             refine qe rfl rfl rfl (zr (j := k) zT rfl (show (bl, Obj.cells ((wO w'.leaves).flatMap z6 ++ []).toArray 38 (0, 0)) ∈ List.flatten _ by rw [hC']; simp) (zD (by omega)) rfl) <| qR 3 rfl <| qe rfl rfl rfl (wS rfl hR2.len) <| qR 9 rfl <| wB rfl rfl rfl (qx rfl (wc (C) (yq w' v C hR2 (w'.leaves k) (by omega)))) ?_
             rintro t90 _ ⟨l', C'', rfl, hR', rfl⟩
             refine qJ 10 rfl rfl rfl (wP rfl) <| qJ 11 rfl rfl rfl (qv rfl rfl) <| qJ 12 rfl rfl rfl (qv rfl rfl) <| qR 13 rfl <| wR rfl rfl rfl (qq rfl rfl hR2.len hR'.len hR'.one) ?_
             obtain ⟨pg2, cg2, Cg2, hv2, hs2, hC2⟩ := hR'.at
             rw [zz] at hC2
             refine j4 (L' := [(b2, .cells l'.toArray 41 (0, 0))] :: [(b4, .cells node0V.toArray 41 (0, 0))] :: [(ba, .cells ((zA (yJ w' (w'.leaves k)).all).flatMap z7 ++ []).toArray 125 (0, 0))] :: [(bl, .cells ((wO w'.leaves).flatMap z6 ++ []).toArray 38 (0, 0))] :: Cg2 :: F) (by rw [hC2]; exact (yV (by intro f; simp only [List.flatten_cons, List.flatten_nil, List.append_nil, List.countP_append, List.countP_cons, List.countP_nil]; omega))) ?_
             refine qJ 14 rfl rfl rfl (wv (j := k) (off := k * 2) rfl rfl rfl (by omega) (by simp)) ?_
             refine qR 15 rfl <| wR rfl rfl rfl (zN (j := k) (p' := ⟨0, false⟩) zT rfl rfl rfl (zD (by omega)) rfl rfl) <| wG <| qf <| qW ⟨(wm w' k, l', (ba, .cells ((zA (yJ w' (w'.leaves k)).all).flatMap z7 ++ []).toArray 125 (0, 0)) :: (bl, .cells ((wO (upd w'.leaves k ⟨0, false⟩)).flatMap z6 ++ []).toArray 38 (0, 0)) :: Cg2), ?_⟩ ?_
             ·
              try dsimp only
              have hkf : ¬ yD w' 2 k = true := by simpa using hc23
              refine ⟨?_, rfl, ?_⟩
              · unfold wm; rw [if_neg hkf]; exact ⟨_, Cg2, hv2, hs2, rfl⟩
              · unfold wm; rw [if_neg hkf]; have := yL w' (w'.leaves k); dsimp only; omega
             · (try dsimp only); exact (by rw [show ∀ (f : Int → yG) (b : yG), (wO f).set k b = wO (upd f (k : Int) b) from fun _ _ => zx]; exact we (by simp))
           ·
            refine qe rfl rfl rfl (wS rfl hR2.len) <| wy (i := 1) (j := 8) (by kernel_rfl) rfl ?_ ?_
            ·
             refine qe rfl rfl rfl (qH rfl (show wX v 6 = some (.slice (some ⟨bl, 0, none⟩) 32 32) by rw [hv]; rfl)) <| qR 8 rfl <| qe rfl rfl rfl (zr (j := k) zT rfl (show (bl, Obj.cells ((wO w'.leaves).flatMap z6 ++ []).toArray 38 (0, 0)) ∈ List.flatten _ by rw [hC']; simp) (zD (by omega)) rfl) <| qR 9 rfl <| wB rfl rfl rfl (qx rfl (wc (C) (yq w' v C hR2 (w'.leaves k) (by omega)))) ?_
             rintro t90 _ ⟨l', C'', rfl, hR', rfl⟩
             refine qJ 10 rfl rfl rfl (wP rfl) <| qJ 11 rfl rfl rfl (qv rfl rfl) <| qJ 12 rfl rfl rfl (qv rfl rfl) <| qR 13 rfl <| wR rfl rfl rfl (qq rfl rfl hR2.len hR'.len hR'.one) ?_
             obtain ⟨pg2, cg2, Cg2, hv2, hs2, hC2⟩ := hR'.at
             rw [zz] at hC2
             refine j4 (L' := [(b2, .cells l'.toArray 41 (0, 0))] :: [(b4, .cells node0V.toArray 41 (0, 0))] :: [(ba, .cells ((zA (yJ w' (w'.leaves k)).all).flatMap z7 ++ []).toArray 125 (0, 0))] :: [(bl, .cells ((wO w'.leaves).flatMap z6 ++ []).toArray 38 (0, 0))] :: Cg2 :: F) (by rw [hC2]; exact (yV (by intro f; simp only [List.flatten_cons, List.flatten_nil, List.append_nil, List.countP_append, List.countP_cons, List.countP_nil]; omega))) ?_
             refine qJ 14 rfl rfl rfl (wv (j := k) (off := k * 2) rfl rfl rfl (by omega) (by simp)) ?_
             refine qR 15 rfl <| wR rfl rfl rfl (zN (j := k) (p' := ⟨0, false⟩) zT rfl rfl rfl (zD (by omega)) rfl rfl) <| wG <| qf <| qW ⟨(wm w' k, l', (ba, .cells ((zA (yJ w' (w'.leaves k)).all).flatMap z7 ++ []).toArray 125 (0, 0)) :: (bl, .cells ((wO (upd w'.leaves k ⟨0, false⟩)).flatMap z6 ++ []).toArray 38 (0, 0)) :: Cg2), ?_⟩ ?_
             ·
              try dsimp only
              have hkf : ¬ yD w' 2 k = true := by simpa using hc23
              refine ⟨?_, rfl, ?_⟩
              · unfold wm; rw [if_neg hkf]; exact ⟨_, Cg2, hv2, hs2, rfl⟩
              · unfold wm; rw [if_neg hkf]; have := yL w' (w'.leaves k); dsimp only; omega
             · (try dsimp only); exact (by rw [show ∀ (f : Int → yG) (b : yG), (wO f).set k b = wO (upd f (k : Int) b) from fun _ _ => zx]; exact we (by simp))
            ·
             refine qe rfl rfl rfl (zr (j := k) zT rfl (show (bl, Obj.cells ((wO w'.leaves).flatMap z6 ++ []).toArray 38 (0, 0)) ∈ List.flatten _ by rw [hC']; simp) (zD (by omega)) rfl) <| wy (i := 1) (j := 9) (by kernel_rfl) rfl ?_ ?_
             ·
              refine qe rfl rfl rfl (qH rfl (show wX v 6 = some (.slice (some ⟨bl, 0, none⟩) 32 32) by rw [hv]; rfl)) <| qR 9 rfl <| wB rfl rfl rfl (qx rfl (wc (C) (yq w' v C hR2 (w'.leaves k) (by omega)))) ?_
              rintro t90 _ ⟨l', C'', rfl, hR', rfl⟩
              refine qJ 10 rfl rfl rfl (wP rfl) <| qJ 11 rfl rfl rfl (qv rfl rfl) <| qJ 12 rfl rfl rfl (qv rfl rfl) <| qR 13 rfl <| wR rfl rfl rfl (qq rfl rfl hR2.len hR'.len hR'.one) ?_
              obtain ⟨pg2, cg2, Cg2, hv2, hs2, hC2⟩ := hR'.at
              rw [zz] at hC2
              refine j4 (L' := [(b2, .cells l'.toArray 41 (0, 0))] :: [(b4, .cells node0V.toArray 41 (0, 0))] :: [(ba, .cells ((zA (yJ w' (w'.leaves k)).all).flatMap z7 ++ []).toArray 125 (0, 0))] :: [(bl, .cells ((wO w'.leaves).flatMap z6 ++ []).toArray 38 (0, 0))] :: Cg2 :: F) (by rw [hC2]; exact (yV (by intro f; simp only [List.flatten_cons, List.flatten_nil, List.append_nil, List.countP_append, List.countP_cons, List.countP_nil]; omega))) ?_
              refine qJ 14 rfl rfl rfl (wv (j := k) (off := k * 2) rfl rfl rfl (by omega) (by simp)) ?_
              refine qR 15 rfl <| wR rfl rfl rfl (zN (j := k) (p' := ⟨0, false⟩) zT rfl rfl rfl (zD (by omega)) rfl rfl) <| wG <| qf <| qW ⟨(wm w' k, l', (ba, .cells ((zA (yJ w' (w'.leaves k)).all).flatMap z7 ++ []).toArray 125 (0, 0)) :: (bl, .cells ((wO (upd w'.leaves k ⟨0, false⟩)).flatMap z6 ++ []).toArray 38 (0, 0)) :: Cg2), ?_⟩ ?_
              ·
               try dsimp only
               have hkf : ¬ yD w' 2 k = true := by simpa using hc23
               refine ⟨?_, rfl, ?_⟩
               · unfold wm; rw [if_neg hkf]; exact ⟨_, Cg2, hv2, hs2, rfl⟩
               · unfold wm; rw [if_neg hkf]; have := yL w' (w'.leaves k); dsimp only; omega
              · (try dsimp only); exact (by rw [show ∀ (f : Int → yG) (b : yG), (wO f).set k b = wO (upd f (k : Int) b) from fun _ _ => zx]; exact we (by simp))
             ·
              refine wB rfl rfl rfl (qx rfl (wc (C) (yq w' v C hR2 (w'.leaves k) (by omega)))) ?_
              rintro t90 _ ⟨l', C'', rfl, hR', rfl⟩
              refine qJ 10 rfl rfl rfl (wP rfl) <| qJ 11 rfl rfl rfl (qv rfl rfl) <| qJ 12 rfl rfl rfl (qv rfl rfl) <| qR 1 rfl <| qe rfl rfl rfl (qH rfl (show wX v 6 = some (.slice (some ⟨bl, 0, none⟩) 32 32) by rw [hv]; rfl)) <| qR 13 rfl <| wR rfl rfl rfl (qq rfl rfl hR2.len hR'.len hR'.one) ?_
              obtain ⟨pg2, cg2, Cg2, hv2, hs2, hC2⟩ := hR'.at
              rw [zz] at hC2
              refine j4 (L' := [(b2, .cells l'.toArray 41 (0, 0))] :: [(b4, .cells node0V.toArray 41 (0, 0))] :: [(ba, .cells ((zA (yJ w' (w'.leaves k)).all).flatMap z7 ++ []).toArray 125 (0, 0))] :: [(bl, .cells ((wO w'.leaves).flatMap z6 ++ []).toArray 38 (0, 0))] :: Cg2 :: F) (by rw [hC2]; exact (yV (by intro f; simp only [List.flatten_cons, List.flatten_nil, List.append_nil, List.countP_append, List.countP_cons, List.countP_nil]; omega))) ?_
              refine qJ 14 rfl rfl rfl (wv (j := k) (off := k * 2) rfl rfl rfl (by omega) (by simp)) ?_
              refine qR 15 rfl <| wR rfl rfl rfl (zN (j := k) (p' := ⟨0, false⟩) zT rfl rfl rfl (zD (by omega)) rfl rfl) <| wG <| qf <| qW ⟨(wm w' k, l', (ba, .cells ((zA (yJ w' (w'.leaves k)).all).flatMap z7 ++ []).toArray 125 (0, 0)) :: (bl, .cells ((wO (upd w'.leaves k ⟨0, false⟩)).flatMap z6 ++ []).toArray 38 (0, 0)) :: Cg2), ?_⟩ ?_
              ·
               try dsimp only
               have hkf : ¬ yD w' 2 k = true := by simpa using hc23
               refine ⟨?_, rfl, ?_⟩
               · unfold wm; rw [if_neg hkf]; exact ⟨_, Cg2, hv2, hs2, rfl⟩
               · unfold wm; rw [if_neg hkf]; have := yL w' (w'.leaves k); dsimp only; omega
              · (try dsimp only); exact (by rw [show ∀ (f : Int → yG) (b : yG), (wO f).set k b = wO (upd f (k : Int) b) from fun _ _ => zx]; exact we (by simp))
           ·
            refine qe rfl rfl rfl (zr (j := k) zT rfl (show (bl, Obj.cells ((wO w'.leaves).flatMap z6 ++ []).toArray 38 (0, 0)) ∈ List.flatten _ by rw [hC']; simp) (zD (by omega)) rfl) <| wy (i := 1) (j := 3) (by kernel_rfl) rfl ?_ ?_
            ·
             refine qe rfl rfl rfl (qH rfl (show wX v 6 = some (.slice (some ⟨bl, 0, none⟩) 32 32) by rw [hv]; rfl)) <| qR 3 rfl <| qe rfl rfl rfl (wS rfl hR2.len) <| qR 9 rfl <| wB rfl rfl rfl (qx rfl (wc (C) (yq w' v C hR2 (w'.leaves k) (by omega)))) ?_
             rintro t90 _ ⟨l', C'', rfl, hR', rfl⟩
             refine qJ 10 rfl rfl rfl (wP rfl) <| qJ 11 rfl rfl rfl (qv rfl rfl) <| qJ 12 rfl rfl rfl (qv rfl rfl) <| qR 13 rfl <| wR rfl rfl rfl (qq rfl rfl hR2.len hR'.len hR'.one) ?_
             obtain ⟨pg2, cg2, Cg2, hv2, hs2, hC2⟩ := hR'.at
             rw [zz] at hC2
             refine j4 (L' := [(b2, .cells l'.toArray 41 (0, 0))] :: [(b4, .cells node0V.toArray 41 (0, 0))] :: [(ba, .cells ((zA (yJ w' (w'.leaves k)).all).flatMap z7 ++ []).toArray 125 (0, 0))] :: [(bl, .cells ((wO w'.leaves).flatMap z6 ++ []).toArray 38 (0, 0))] :: Cg2 :: F) (by rw [hC2]; exact (yV (by intro f; simp only [List.flatten_cons, List.flatten_nil, List.append_nil, List.countP_append, List.countP_cons, List.countP_nil]; omega))) ?_
             refine qJ 14 rfl rfl rfl (wv (j := k) (off := k * 2) rfl rfl rfl (by omega) (by simp)) ?_
             refine qR 15 rfl <| wR rfl rfl rfl (zN (j := k) (p' := ⟨0, false⟩) zT rfl rfl rfl (zD (by omega)) rfl rfl) <| wG <| qf <| qW ⟨(wm w' k, l', (ba, .cells ((zA (yJ w' (w'.leaves k)).all).flatMap z7 ++ []).toArray 125 (0, 0)) :: (bl, .cells ((wO (upd w'.leaves k ⟨0, false⟩)).flatMap z6 ++ []).toArray 38 (0, 0)) :: Cg2), ?_⟩ ?_
             ·
              try dsimp only
              have hkf : ¬ yD w' 2 k = true := by simpa using hc23
              refine ⟨?_, rfl, ?_⟩
              · unfold wm; rw [if_neg hkf]; exact ⟨_, Cg2, hv2, hs2, rfl⟩
              · unfold wm; rw [if_neg hkf]; have := yL w' (w'.leaves k); dsimp only; omega
             · (try dsimp only); exact (by rw [show ∀ (f : Int → yG) (b : yG), (wO f).set k b = wO (upd f (k : Int) b) from fun _ _ => zx]; exact we (by simp))
            ·
             refine qe rfl rfl rfl (wS rfl hR2.len) <| wy (i := 1) (j := 9) (by kernel_rfl) rfl ?_ ?_
             ·
              refine qe rfl rfl rfl (qH rfl (show wX v 6 = some (.slice (some ⟨bl, 0, none⟩) 32 32) by rw [hv]; rfl)) <| qR 9 rfl <| wB rfl rfl rfl (qx rfl (wc (C) (yq w' v C hR2 (w'.leaves k) (by omega)))) ?_
              rintro t90 _ ⟨l', C'', rfl, hR', rfl⟩
              refine qJ 10 rfl rfl rfl (wP rfl) <| qJ 11 rfl rfl rfl (qv rfl rfl) <| qJ 12 rfl rfl rfl (qv rfl rfl) <| qR 13 rfl <| wR rfl rfl rfl (qq rfl rfl hR2.len hR'.len hR'.one) ?_
              obtain ⟨pg2, cg2, Cg2, hv2, hs2, hC2⟩ := hR'.at
              rw [zz] at hC2
              refine j4 (L' := [(b2, .cells l'.toArray 41 (0, 0))] :: [(b4, .cells node0V.toArray 41 (0, 0))] :: [(ba, .cells ((zA (yJ w' (w'.leaves k)).all).flatMap z7 ++ []).toArray 125 (0, 0))] :: [(bl, .cells ((wO w'.leaves).flatMap z6 ++ []).toArray 38 (0, 0))] :: Cg2 :: F) (by rw [hC2]; exact (yV (by intro f; simp only [List.flatten_cons, List.flatten_nil, List.append_nil, List.countP_append, List.countP_cons, List.countP_nil]; omega))) ?_
              refine qJ 14 rfl rfl rfl (wv (j := k) (off := k * 2) rfl rfl rfl (by omega) (by simp)) ?_
              refine qR 15 rfl <| wR rfl rfl rfl (zN (j := k) (p' := ⟨0, false⟩) zT rfl rfl rfl (zD (by omega)) rfl rfl) <| wG <| qf <| qW ⟨(wm w' k, l', (ba, .cells ((zA (yJ w' (w'.leaves k)).all).flatMap z7 ++ []).toArray 125 (0, 0)) :: (bl, .cells ((wO (upd w'.leaves k ⟨0, false⟩)).flatMap z6 ++ []).toArray 38 (0, 0)) :: Cg2), ?_⟩ ?_
              ·
               try dsimp only
               have hkf : ¬ yD w' 2 k = true := by simpa using hc23
               refine ⟨?_, rfl, ?_⟩
               · unfold wm; rw [if_neg hkf]; exact ⟨_, Cg2, hv2, hs2, rfl⟩
               · unfold wm; rw [if_neg hkf]; have := yL w' (w'.leaves k); dsimp only; omega
              · (try dsimp only); exact (by rw [show ∀ (f : Int → yG) (b : yG), (wO f).set k b = wO (upd f (k : Int) b) from fun _ _ => zx]; exact we (by simp))
             ·
              refine wB rfl rfl rfl (qx rfl (wc (C) (yq w' v C hR2 (w'.leaves k) (by omega)))) ?_
              rintro t90 _ ⟨l', C'', rfl, hR', rfl⟩
              refine qJ 10 rfl rfl rfl (wP rfl) <| qJ 11 rfl rfl rfl (qv rfl rfl) <| qJ 12 rfl rfl rfl (qv rfl rfl) <| qR 1 rfl <| qe rfl rfl rfl (qH rfl (show wX v 6 = some (.slice (some ⟨bl, 0, none⟩) 32 32) by rw [hv]; rfl)) <| qR 13 rfl <| wR rfl rfl rfl (qq rfl rfl hR2.len hR'.len hR'.one) ?_
              obtain ⟨pg2, cg2, Cg2, hv2, hs2, hC2⟩ := hR'.at
              rw [zz] at hC2
              refine j4 (L' := [(b2, .cells l'.toArray 41 (0, 0))] :: [(b4, .cells node0V.toArray 41 (0, 0))] :: [(ba, .cells ((zA (yJ w' (w'.leaves k)).all).flatMap z7 ++ []).toArray 125 (0, 0))] :: [(bl, .cells ((wO w'.leaves).flatMap z6 ++ []).toArray 38 (0, 0))] :: Cg2 :: F) (by rw [hC2]; exact (yV (by intro f; simp only [List.flatten_cons, List.flatten_nil, List.append_nil, List.countP_append, List.countP_cons, List.countP_nil]; omega))) ?_
              refine qJ 14 rfl rfl rfl (wv (j := k) (off := k * 2) rfl rfl rfl (by omega) (by simp)) ?_
              refine qR 15 rfl <| wR rfl rfl rfl (zN (j := k) (p' := ⟨0, false⟩) zT rfl rfl rfl (zD (by omega)) rfl rfl) <| wG <| qf <| qW ⟨(wm w' k, l', (ba, .cells ((zA (yJ w' (w'.leaves k)).all).flatMap z7 ++ []).toArray 125 (0, 0)) :: (bl, .cells ((wO (upd w'.leaves k ⟨0, false⟩)).flatMap z6 ++ []).toArray 38 (0, 0)) :: Cg2), ?_⟩ ?_
              ·
               try dsimp only
               have hkf : ¬ yD w' 2 k = true := by simpa using hc23
               refine ⟨?_, rfl, ?_⟩
               · unfold wm; rw [if_neg hkf]; exact ⟨_, Cg2, hv2, hs2, rfl⟩
               · unfold wm; rw [if_neg hkf]; have := yL w' (w'.leaves k); dsimp only; omega
              · (try dsimp only); exact (by rw [show ∀ (f : Int → yG) (b : yG), (wO f).set k b = wO (upd f (k : Int) b) from fun _ _ => zx]; exact we (by simp))
         ·
          refine qZ <| qf <| qW ⟨(w', v, C), ?_⟩ ?_
          ·
           try dsimp only
           have hkf : yD w' 2 k = true := by simpa using hc23
           exact ⟨hR2, by unfold wm; rw [if_pos hkf], by omega⟩
          · (try dsimp only); exact qX _
        rintro ⟨⟨w3, v3, C3⟩, hcut⟩
        replace hcut : RefC ba bl w3 v3 C3 ∧ w3 = wm w' k ∧ w3.gone.length ≤ 802001 + k := hcut
        obtain ⟨hR3, hW3, hgl3⟩ := hcut
        show Tr _ _ _ ([(1, .int .i64 size), (2, .pointer (some ⟨b2, 0, none⟩)), (4, .pointer (some ⟨b4, 0, none⟩)), (10, .int .i64 k)]) ([(b2, .cells v3.toArray 41 (0, 0))] :: [(b4, .cells node0V.toArray 41 (0, 0))] :: C3 :: F) _ _
        refine qK <| qB rfl <| q9 (w9 rfl rfl (by omega)) <| qD rfl <| qT <| w5 ⟨(k + 1, w3, v3, C3, _), ?_⟩ ?_ ?_
        ·
         try dsimp only
         refine ⟨by omega, hR3, by omega, ?_, by omega⟩
         rw [← hfold2, hW3, kR (kx (show k < 32 by omega)), List.foldl_cons]
        · (try dsimp only); omega
        · (try dsimp only); exact qX _
       ·
        refine wb <| qr <| qt <| qj <| qI <| zb (Γ := {pΓ : (RS) × (List Value) × (qV) // (fun (w4 : RS) (v4 : List Value) (C4 : qV) => RefC ba bl w4 v4 C4 ∧ w4 = WB w' ∧ w4.gone.length ≤ 803000) pΓ.1 pΓ.2.1 pΓ.2.2}) (fun g => (fun (w4 : RS) (v4 : List Value) (C4 : qV) => [(1, .int .i64 size), (2, .pointer (some ⟨b2, 0, none⟩)), (4, .pointer (some ⟨b4, 0, none⟩))]) g.1.1 g.1.2.1 g.1.2.2) (fun g => (fun (w4 : RS) (v4 : List Value) (C4 : qV) => [(b2, .cells v4.toArray 41 (0, 0))] :: [(b4, .cells node0V.toArray 41 (0, 0))] :: C4 :: F) g.1.1 g.1.2.1 g.1.2.2) ?_ ?_
        ·
         refine qO ?_
         rw [List.drop_of_length_le (by rw [x2]; omega), List.foldl_nil] at hfold2
         obtain ⟨pg', cg', Cg', hv, hs', hC'⟩ := hR2.at
         refine qK <| q9 (wS rfl hR2.len) <| q9 (wJ rfl (zS (C) (jc w' v C hR2 1 0))) <| q9 (kN rfl) <| qF <| y3 rfl (fun hc25 => ?_) (fun hc25 => ?_)
         ·
          refine qK <| q9 (wS rfl hR2.len) <| q9 (qA rfl) <| q9 (zZ (r := z6 w'.sg) rfl (by rw [hv]; rfl) rfl) ?_
          refine qG (qx rfl (wc (C) (yq w' v C hR2 w'.sg (by omega)))) ?_
          rintro t101 _ ⟨l', C'', rfl, hR', rfl⟩
          refine qB rfl <| q9 (qi rfl rfl) <| q9 (qi rfl rfl) <| qS (qq rfl rfl hR2.len hR'.len hR'.one) <| q9 (qA rfl) <| qS (k3 (r := l'.take 7 ++ z6 ⟨0, false⟩ ++ l'.drop 9) rfl rfl rfl (by rw [hR'.len]; decide) rfl rfl) ?_
          refine qT <| qW ⟨(WB w', l'.take 7 ++ z6 ⟨0, false⟩ ++ l'.drop 9, C''), ?_⟩ ?_
          ·
           try dsimp only
           have hkf : ¬ yD w' 1 0 = true := by simpa using hc25
           refine ⟨?_, rfl, ?_⟩
           · unfold WB; rw [if_neg hkf]; exact hR'.setSg ⟨0, false⟩
           · unfold WB; rw [if_neg hkf]; have := yL w' w'.sg; dsimp only; omega
          · (try dsimp only); exact qX _
         ·
          refine qZ <| qW ⟨(w', v, C), ?_⟩ ?_
          ·
           try dsimp only
           have hkf : yD w' 1 0 = true := by simpa using hc25
           exact ⟨hR2, by unfold WB; rw [if_pos hkf], by omega⟩
          · (try dsimp only); exact qX _
        rintro ⟨⟨w4, v4, C4⟩, hcut⟩
        replace hcut : RefC ba bl w4 v4 C4 ∧ w4 = WB w' ∧ w4.gone.length ≤ 803000 := hcut
        obtain ⟨hR4, hW4, hgl4⟩ := hcut
        show Tr _ _ _ ([(1, .int .i64 size), (2, .pointer (some ⟨b2, 0, none⟩)), (4, .pointer (some ⟨b4, 0, none⟩))]) ([(b2, .cells v4.toArray 41 (0, 0))] :: [(b4, .cells node0V.toArray 41 (0, 0))] :: C4 :: F) _ _
        refine qO ?_
        obtain ⟨pg', cg', Cg', hv, hs', hC'⟩ := hR4.at
        refine qK <| q9 (wS rfl hR4.len) <| q9 (wJ rfl (zS (C4) (jc w4 v4 C4 hR4 2 (-1)))) <| q9 (kN rfl) <| qF <| y3 rfl (fun hc27 => ?_) (fun hc27 => ?_)
        ·
         refine qK <| q9 (wS rfl hR4.len) <| q9 (qA rfl) <| q9 (zZ (r := z6 w4.db) rfl (by rw [hv]; rfl) rfl) ?_
         refine qG (qx rfl (wc (C4) (yq w4 v4 C4 hR4 w4.db (by omega)))) ?_
         rintro t112 _ ⟨l', C'', rfl, hR', rfl⟩
         refine qB rfl <| q9 (qi rfl rfl) <| q9 (qi rfl rfl) <| qS (qq rfl rfl hR4.len hR'.len hR'.one) <| q9 (qA rfl) <| qS (k3 (r := l'.take 9 ++ z6 ⟨0, false⟩ ++ l'.drop 11) rfl rfl rfl (by rw [hR'.len]; decide) rfl rfl) ?_
         refine qT <| qW ⟨(Yf w4, l'.take 9 ++ z6 ⟨0, false⟩ ++ l'.drop 11, C''), ?_⟩ ?_
         ·
          try dsimp only
          have hkf : ¬ yD w4 2 (-1) = true := by simpa using hc27
          refine ⟨?_, ?_⟩
          · unfold Yf; rw [if_neg hkf]; exact hR'.setDb ⟨0, false⟩
          · have h := hfold2
            rw [List.drop_of_length_le (by rw [x2]; omega), List.foldl_nil] at h
            rw [← hfold]; unfold Zw; rw [if_pos hc19, ← h, hW4]
         · (try dsimp only); exact qX _
        ·
         refine qZ <| qW ⟨(w4, v4, C4), ?_⟩ ?_
         ·
          try dsimp only
          have hkf : yD w4 2 (-1) = true := by simpa using hc27
          refine ⟨hR4, ?_⟩
          have h := hfold2
          rw [List.drop_of_length_le (by rw [x2]; omega), List.foldl_nil] at h
          rw [← hfold]; unfold Zw; rw [if_pos hc19, ← h, ← hW4]; unfold Yf; rw [if_pos hkf]
         · (try dsimp only); exact qX _
      ·
       refine qZ <| qW ⟨(w, v, C), ?_⟩ ?_
       · (try dsimp only); exact ⟨hR, by rw [← hfold]; unfold Zw; rw [if_neg (by rw [hc19]; simp)]⟩
       · (try dsimp only); exact qX _
     rintro ⟨⟨w2, v2, C2⟩, hcut⟩
     replace hcut : RefC ba bl w2 v2 C2 ∧ w2 = Zw (kE W1 size) := hcut
     obtain ⟨hw2, hW2⟩ := hcut
     show Tr _ _ _ ([(1, .int .i64 size), (2, .pointer (some ⟨b2, 0, none⟩)), (4, .pointer (some ⟨b4, 0, none⟩))]) ([(b2, .cells v2.toArray 41 (0, 0))] :: [(b4, .cells node0V.toArray 41 (0, 0))] :: C2 :: F) _ _
     refine qO <| qO ?_
     obtain ⟨pg', cg', Cg', hv, hs', hC'⟩ := hw2.at
     have hT : jl W size = (0, KW w2 size) := by unfold jl; rw [if_neg hc1, if_neg hc3, ← hW1, ← hW2]
     rw [hv]
     unfold kV
     refine qK <| q9 (qA rfl) <| q9 (qH rfl rfl) <| qB rfl <| q9 (wz rfl rfl) <| qF <| qL rfl (fun hc29 => ?_) (fun hc29 => ?_)
     ·
      refine qP <| qB rfl <| q9 (qA rfl) <| qS (ws rfl rfl rfl) <| qF <| qK <| q9 (qA rfl) <| q9 (w6 rfl) <| qS (ws rfl rfl rfl) <| qo <| q9 (wZ rfl) <| qS (wj rfl rfl rfl rfl) <| qD rfl <| qF <| qz <| wY (C2 :: F) (.inl rfl) rfl (za rfl) (qu rfl) ?_
      rw [hT]
      first
      | exact ⟨_, C2, rfl, by unfold KW; rw [if_pos hc29, hC']; exact ⟨_, Cg', rfl, hs', rfl⟩, rfl⟩
      | exact ⟨_, C2, rfl, by unfold KW; rw [if_neg hc29, hC']; exact ⟨_, Cg', rfl, hs', rfl⟩, rfl⟩
     ·
      refine qZ <| qI <| qP <| q9 (wZ rfl) <| qS (wj rfl rfl rfl rfl) <| qD rfl <| qF <| qz <| wY (C2 :: F) (.inl rfl) rfl (za rfl) (qu rfl) ?_
      rw [hT]
      first
      | exact ⟨_, C2, rfl, by unfold KW; rw [if_pos hc29, hC']; exact ⟨_, Cg', rfl, hs', rfl⟩, rfl⟩
      | exact ⟨_, C2, rfl, by unfold KW; rw [if_neg hc29, hC']; exact ⟨_, Cg', rfl, hs', rfl⟩, rfl⟩
def Qz (b : Bool) : List Value := [.bool b]
theorem Js (b : Bool) : (Qz b).length = 1 := rfl
theorem YC {n i : Nat} (h : i < n) (p : Int → Bool) : ((zo n).take (i + 1)).any p = (((zo n).take i).any p || p i) := by
  rw [List.take_add_one, kx h, List.any_append]; simp
theorem Y2 {n i : Nat} (h : i < n) (p : Int → Bool) : ((zo n).take (i + 1)).filter p = ((zo n).take i).filter p ++ (if p i then [(i : Int)] else []) := K1 (kx h)
def jO (W : RS) (lv : Int) (i : Int) : Bool := (W.all i).fresh && decide ((wW i).1 = lv)
def yR (W : RS) (i : Nat) : List (Int × Int) := (((zo 1064).take i).filter (fun j => (W.all j).fresh)).map (fun j => (1, j))
def sgS (W : RS) (i : Nat) : Bool := W.sg.stale || ((zo 1064).take i).any (jO W 1)
def jh (W : RS) (i : Nat) (k : Int) : Bool := ((zo 1064).take i).any (fun j => jO W 2 j && decide ((wW j).2.1 = k))
def Qt (W : RS) (k : Int) : Bool := (W.leaves k).stale || jh W 1064 k
def ky (W : RS) (k : Nat) : List (Int × Int) := (((zo 32).take k).filter (fun j => Qt W j && yD W 2 j)).map (fun j => (5, j))
def dbS (W : RS) (k : Nat) : Bool := W.db.stale || ((zo 32).take k).any (Qt W)
def M9 (W : RS) : Bool := !(yR W 1064).isEmpty || (W.self.stale || (W.sg.stale || W.db.stale))
def WY (W : RS) (k : Nat) : Bool := M9 W || ((zo 32).take k).any (Qt W)
def sgP (W : RS) : List (Int × Int) := if sgS W 1064 && yD W 1 0 then [(3, 0)] else []
def dbP (W : RS) : List (Int × Int) := if dbS W 32 && yD W 2 (-1) then [(4, 0)] else []
def Yq (W : RS) : List (Int × Int) := if WY W 32 then [(2, 0)] else []
def zh (W : RS) : List (Int × Int) := yR W 1064 ++ ky W 32 ++ sgP W ++ dbP W ++ Yq W
theorem freshL_step (W : RS) {i : Nat} (h : i < 1064) : yR W (i + 1) = yR W i ++ (if (W.all i).fresh then [(1, (i : Int))] else []) := by
  unfold yR; rw [Y2 h, List.map_append]; split <;> rfl
theorem QT (W : RS) {k : Nat} (h : k < 32) : ky W (k + 1) = ky W k ++ (if Qt W k && yD W 2 k then [(5, (k : Int))] else []) := by
  unfold ky; rw [Y2 h, List.map_append]; split <;> rfl
theorem sgS_step (W : RS) {i : Nat} (h : i < 1064) : sgS W (i + 1) = (sgS W i || jO W 1 i) := by
  unfold sgS; rw [YC h, Bool.or_assoc]
theorem Y4 (W : RS) {k : Nat} (h : k < 32) : dbS W (k + 1) = (dbS W k || Qt W k) := by
  unfold dbS; rw [YC h, Bool.or_assoc]
theorem ZE (W : RS) {k : Nat} (h : k < 32) : WY W (k + 1) = (WY W k || Qt W k) := by
  unfold WY; rw [YC h, Bool.or_assoc]
theorem Kp (W : RS) {i : Nat} (h : i < 1064) (k : Int) : jh W (i + 1) k = (jh W i k || (jO W 2 i && decide ((wW i).2.1 = k))) := by
  unfold jh; rw [YC h]
theorem Kq (W : RS) {i : Nat} (h : i < 1064) (hf : jO W 2 i = false) : jh W (i + 1) = jh W i := by
  funext k; rw [Kp W h, hf]; simp
theorem leafT_some (W : RS) {i : Nat} (h : i < 1064) (hf : jO W 2 i = true) : jh W (i + 1) = upd (jh W i) (wW i).2.1 true := by
  funext k; rw [Kp W h, hf]; unfold upd
  by_cases e : k = (wW i).2.1
  · rw [if_pos e, e]; simp
  · rw [if_neg e]; simp [Ne.symm e]
theorem xU (W : RS) (i : Nat) (h : i ≤ 1064) : (yR W i).length ≤ i := by
  unfold yR; rw [List.length_map]
  refine Nat.le_trans (List.length_filter_le _ _) ?_
  simp; omega
theorem WJ (W : RS) (i : Nat) (h : i ≤ 32) : (ky W i).length ≤ i := by
  unfold ky; rw [List.length_map]
  refine Nat.le_trans (List.length_filter_le _ _) ?_
  simp; omega
theorem xb (W : RS) (v : List Value) (C : qV) (hw : RefC ba bl W v C) :
    FnT Tryz.prog w0 43 #[.agg v.toArray] (C :: F) (fun v L' => ∃ C', SlC 65 2 v (zh W).length ((zh W).flatMap zP) C' ∧ L' = C' :: C :: F) := by
  obtain ⟨pg, cg, Cg, hv, hs, hC⟩ := hw.at
  have hvlen := hw.len
  refine qh (E0 := [(0, _)]) (N := 118) Tryz.func43 rfl rfl rfl rfl ?_
  refine qP <| qG (wq rfl) ?_
  rintro t1 _ ⟨b1, rfl, rfl⟩
  refine qD rfl <| qo <| qD rfl <| qo <| q9 (qA rfl) <| q9 (w6 rfl) <| q9 (qH rfl (show wX v 8 = some (.bool W.sg.stale) by rw [hv]; rfl)) <| qD rfl <| qo <| qG (xy (n := 32) (r := (List.replicate 32 false).flatMap Qz ++ []) rfl rfl (by decide) (by decide) (by rw [List.append_nil]; exact YY Qz 1 32 false rfl (by omega))) ?_
  rintro t15 _ ⟨bt, rfl, rfl⟩
  refine qD rfl <| qT ?_
  rw [show List.replicate 32 false = xl 32 (jh W 0) from by unfold xl jh; simp only [List.take_zero, List.any_nil]; rw [List.map_const', List.length_range]]
  refine qI <| qO <| qP <| qD rfl <| qF <| qg <| wV (Γ := {pΓ : (Nat) × (Value) × (qV) × (Bool) // (fun (i : Nat) (uo : Value) (Co : qV) (sb : Bool) => i ≤ 1064 ∧ SlC 65 2 uo (yR W i).length ((yR W i).flatMap zP) Co ∧ sb = sgS W i) pΓ.1 pΓ.2.1 pΓ.2.2.1 pΓ.2.2.2}) (fun g => (fun (i : Nat) (uo : Value) (Co : qV) (sb : Bool) => [(1, .pointer (some ⟨b1, 0, none⟩)), (3, uo), (4, .bool sb), (5, .slice (some ⟨bt, 0, none⟩) 32 32), (6, .int .i64 i)]) g.1.1 g.1.2.1 g.1.2.2.1 g.1.2.2.2) (fun g => (fun (i : Nat) (uo : Value) (Co : qV) (sb : Bool) => Co :: [(bt, .cells ((xl 32 (jh W i)).flatMap Qz ++ []).toArray 4 (0, 0))] :: [(b1, .cells v.toArray 41 (0, 0))] :: C :: F) g.1.1 g.1.2.1 g.1.2.2.1 g.1.2.2.2) (fun g => (fun (i : Nat) (uo : Value) (Co : qV) (sb : Bool) => 1064 - i) g.1.1 g.1.2.1 g.1.2.2.1 g.1.2.2.2) ⟨(0, .slice none 0 0, [], W.sg.stale), by dsimp only; exact ⟨by omega, SlC.nil _ _, by simp [sgS]⟩⟩ (qX _) ?_
  rintro ⟨⟨i, uo, Co, sb⟩, hloop⟩
  replace hloop : i ≤ 1064 ∧ SlC 65 2 uo (yR W i).length ((yR W i).flatMap zP) Co ∧ sb = sgS W i := hloop
  obtain ⟨hi, hsl, hsb⟩ := hloop
  show Tr _ _ _ ([(1, .pointer (some ⟨b1, 0, none⟩)), (3, uo), (4, .bool sb), (5, .slice (some ⟨bt, 0, none⟩) 32 32), (6, .int .i64 i)]) (Co :: [(bt, .cells ((xl 32 (jh W i)).flatMap Qz ++ []).toArray 4 (0, 0))] :: [(b1, .cells v.toArray 41 (0, 0))] :: C :: F) _ _
  refine qO <| qP <| qB rfl <| q9 (wL rfl rfl) <| qF <| qL rfl (fun hc5 => ?_) (fun hc5 => ?_)
  ·
   refine qZ <| qI <| qO <| qg <| qO ?_
   have hst := freshL_step W (show i < 1064 by omega)
   have hss := sgS_step W (show i < 1064 by omega)
   have hfl := xU W i (by omega)
   refine qK <| q9 (qA rfl) <| q9 (qH rfl (show wX v 5 = some (.slice (some ⟨ba, 0, none⟩) 1064 1064) by rw [hv]; rfl)) <| qB rfl <| q9 (qw (j := i) (off := i * 131) rfl rfl rfl (by omega) (by simp)) ?_
   refine q9 (w6 rfl) <| q9 (zY (j := i) (k := 2) (v := .bool (W.all i).fresh) zg rfl (show (ba, Obj.cells ((zA W.all).flatMap z7 ++ []).toArray 125 (0, 0)) ∈ List.flatten _ by rw [hC]; simp) (y2 (by omega)) rfl rfl) <| qF <| y3 rfl (fun hc7 => ?_) (fun hc7 => ?_)
   ·
    refine qP <| qB rfl <| qB rfl <| q9 (wa rfl) <| qG (wK rfl rfl rfl) ?_
    rintro t29 _ ⟨b29, rfl, rfl⟩
    refine qG (wg (m := 1) (sz := 2) rfl rfl hsl (wi (ys := zP (1, (i : Int))) inferInstance rfl rfl) rfl Tryz.underlying77 rfl rfl (by omega)) ?_
    rintro t30 _ ⟨C', hs', rfl⟩
    refine qD rfl <| qT ?_
    rw [if_pos hc7] at hst
    have hs2 : SlC 65 2 t30 (yR W (i + 1)).length ((yR W (i + 1)).flatMap zP) C' := by rw [hst, List.length_append, List.flatMap_append]; simpa using hs'
    refine qI <| qP <| qB rfl <| q9 (wJ rfl (Kc i (by omega))) <| qB rfl <| q9 (qi rfl rfl) <| q9 (qi rfl rfl) <| qG (qn) ?_
    rintro t7 _ ⟨b7, rfl, rfl⟩
    refine qS (wj (vs := [.int .i64 (wW i).1, .int .i64 (wW i).2.1, .int .i64 (wW i).2.2]) rfl rfl rfl rfl) <| qD rfl <| qF <| zb (Γ := {pΓ : (Bool) // (fun (sb2 : Bool) => sb2 = sgS W (i + 1)) pΓ}) (fun g => (fun (sb2 : Bool) => [(1, .pointer (some ⟨b1, 0, none⟩)), (4, .bool sb2), (3, t30), (5, .slice (some ⟨bt, 0, none⟩) 32 32), (6, .int .i64 i), (7, .pointer (some ⟨b7, 0, none⟩))]) g.1) (fun g => (fun (sb2 : Bool) => [(b7, .cells [.int .i64 (wW i).1, .int .i64 (wW i).2.1, .int .i64 (wW i).2.2].toArray 143 (0, 0))] :: C' :: [(bt, .cells ((xl 32 (jh W i)).flatMap Qz ++ []).toArray 4 (0, 0))] :: [(b1, .cells v.toArray 41 (0, 0))] :: C :: F) g.1) ?_ ?_
    ·
     refine qK <| qB rfl <| qB rfl <| y0 (s := 37) rfl (fun hg10_1 => ?_) (fun hg10_1 => ?_)
     ·
      refine qN rfl rfl rfl <| qN rfl rfl rfl <| qN rfl rfl rfl <| q9 (qk rfl rfl) <| qD rfl <| qT <| qW ⟨_, ?_⟩ ?_
      · (try dsimp only); rw [hss, ← hsb, hg10_1]; first | rfl | (rw [Bool.false_or]; unfold jO; rw [hc7]; rfl)
      · (try dsimp only); exact qX _
     ·
      refine qE rfl rfl (qA rfl) <| qE rfl rfl (qH rfl rfl) <| qE rfl rfl (wl rfl rfl) <| q9 (qU rfl rfl) <| qD rfl <| qT <| qW ⟨_, ?_⟩ ?_
      · (try dsimp only); rw [hss, ← hsb, hg10_1]; first | rfl | (rw [Bool.false_or]; unfold jO; rw [hc7]; rfl)
      · (try dsimp only); exact qX _
    rintro ⟨sb2, hcut⟩
    replace hcut : sb2 = sgS W (i + 1) := hcut
    have hsb2 := hcut
    show Tr _ _ _ ([(1, .pointer (some ⟨b1, 0, none⟩)), (4, .bool sb2), (3, t30), (5, .slice (some ⟨bt, 0, none⟩) 32 32), (6, .int .i64 i), (7, .pointer (some ⟨b7, 0, none⟩))]) ([(b7, .cells [.int .i64 (wW i).1, .int .i64 (wW i).2.1, .int .i64 (wW i).2.2].toArray 143 (0, 0))] :: C' :: [(bt, .cells ((xl 32 (jh W i)).flatMap Qz ++ []).toArray 4 (0, 0))] :: [(b1, .cells v.toArray 41 (0, 0))] :: C :: F) _ _
    refine qP <| q9 (qA rfl) <| q9 (qH rfl rfl) <| q9 (wl rfl rfl) <| qF <| qL rfl (fun hc11 => ?_) (fun hc11 => ?_)
    ·
     have hpr := JX (i := i) (by omega) hc11
     obtain ⟨lf, hlf⟩ : ∃ lf : Nat, (wW i).2.1 = lf := ⟨(wW i).2.1.toNat, by omega⟩
     have hlt := leafT_some W (show i < 1064 by omega) (by unfold jO; rw [hc7, decide_eq_true hc11]; rfl)
     rw [hlf] at hlt
     refine qK <| qB rfl <| q9 (qA rfl) <| q9 (qH rfl rfl) <| q9 (qw (j := lf) (off := lf * 1) rfl rfl hlf (by omega) (by simp)) ?_
     refine qS (yZ (j := lf) (k := 0) (p' := true) Js rfl rfl (Ql (by omega)) rfl rfl rfl) <| qT <| qf <| qI <| qK <| qB rfl <| q9 (w9 rfl rfl (by omega)) <| qD rfl <| qT <| w5 ⟨(i + 1, t30, C', sb2), ?_⟩ ?_ ?_
     · (try dsimp only); exact ⟨by omega, hs2, hsb2⟩
     · (try dsimp only); omega
     · (try dsimp only); exact (by rw [hlt, ← zx]; exact qX _)
    ·
     have hlt := Kq W (show i < 1064 by omega) (by unfold jO; rw [decide_eq_false hc11]; simp)
     refine qZ <| qf <| qI <| qK <| qB rfl <| q9 (w9 rfl rfl (by omega)) <| qD rfl <| qT <| w5 ⟨(i + 1, t30, C', sb2), ?_⟩ ?_ ?_
     · (try dsimp only); exact ⟨by omega, hs2, hsb2⟩
     · (try dsimp only); omega
     · (try dsimp only); exact (by rw [hlt]; exact qX _)
   ·
    rw [if_neg (by rw [hc7]; simp), List.append_nil] at hst
    have hlt := Kq W (show i < 1064 by omega) (by unfold jO; rw [hc7]; rfl)
    refine qZ <| qf <| qI <| qK <| qB rfl <| q9 (w9 rfl rfl (by omega)) <| qD rfl <| qT <| w5 ⟨(i + 1, uo, Co, sb), ?_⟩ ?_ ?_
    · (try dsimp only); exact ⟨by omega, by rw [hst]; exact hsl, by rw [hss, ← hsb]; unfold jO; rw [hc7]; simp⟩
    · (try dsimp only); omega
    · (try dsimp only); exact (by rw [hlt]; exact qX _)
  ·
   refine wb <| qr <| qt <| qj <| qI <| qO ?_
   obtain rfl : i = 1064 := by omega
   have hfl := xU W 1064 (by omega)
   obtain ⟨pu, cu, hu⟩ := hsl.slice
   have hie : (yR W 1064).isEmpty = !decide ((0 : Int) < ((yR W 1064).length : Nat)) := by cases yR W 1064 <;> simp <;> omega
   refine qK <| q9 (qA rfl) <| q9 (w6 rfl) <| q9 (qH rfl (show wX v 10 = some (.bool W.db.stale) by rw [hv]; rfl)) <| qD rfl <| qF <| zb (Γ := {pΓ : (Bool) // (fun (an : Bool) => an = WY W 0) pΓ}) (fun g => (fun (an : Bool) => [(1, .pointer (some ⟨b1, 0, none⟩)), (3, uo), (4, .bool sb), (5, .slice (some ⟨bt, 0, none⟩) 32 32), (9, .bool W.db.stale), (10, .bool an)]) g.1) (fun g => (fun (an : Bool) => Co :: [(bt, .cells ((xl 32 (jh W 1064)).flatMap Qz ++ []).toArray 4 (0, 0))] :: [(b1, .cells v.toArray 41 (0, 0))] :: C :: F) g.1) ?_ ?_
   ·
    refine qK <| qB rfl <| q9 (wD (by rw [← hu]; rfl)) ?_
    refine q9 (y9 rfl rfl) <| qB rfl <| qY (s := 55) rfl (fun hg14_3 => ?_) (fun hg14_3 => ?_)
    ·
     refine qN rfl rfl rfl <| qN rfl rfl rfl <| qN rfl rfl rfl <| q9 (qk rfl rfl) <| qB rfl <| qN rfl rfl rfl <| qN rfl rfl rfl <| qN rfl rfl rfl <| q9 (qk rfl rfl) <| qB rfl <| qN rfl rfl rfl <| qN rfl rfl rfl <| qN rfl rfl rfl <| q9 (qk rfl rfl) <| qD rfl <| qT <| qW ⟨_, ?_⟩ ?_
     · (try dsimp only); unfold WY M9; rw [List.take_zero, List.any_nil, Bool.or_false, hie]; first | (rw [decide_eq_true hg14_3]; rfl) | (rw [decide_eq_false hg14_3, hg14_8]; rfl) | (rw [decide_eq_false hg14_3, hg14_8, hg14_13]; rfl)
     · (try dsimp only); exact qX _
    ·
     refine qE rfl rfl (qA rfl) <| qE rfl rfl (w6 rfl) <| qE rfl rfl (qH rfl (show wX v 12 = some (.bool W.self.stale) by rw [hv]; rfl)) <| q9 (qU rfl rfl) <| qB rfl <| y0 (s := 60) rfl (fun hg14_8 => ?_) (fun hg14_8 => ?_)
     ·
      refine qN rfl rfl rfl <| qN rfl rfl rfl <| qN rfl rfl rfl <| q9 (qk rfl rfl) <| qB rfl <| qN rfl rfl rfl <| qN rfl rfl rfl <| qN rfl rfl rfl <| q9 (qk rfl rfl) <| qD rfl <| qT <| qW ⟨_, ?_⟩ ?_
      · (try dsimp only); unfold WY M9; rw [List.take_zero, List.any_nil, Bool.or_false, hie]; first | (rw [decide_eq_true hg14_3]; rfl) | (rw [decide_eq_false hg14_3, hg14_8]; rfl) | (rw [decide_eq_false hg14_3, hg14_8, hg14_13]; rfl)
      · (try dsimp only); exact qX _
     ·
      refine qE rfl rfl (qA rfl) <| qE rfl rfl (w6 rfl) <| qE rfl rfl (qH rfl (show wX v 8 = some (.bool W.sg.stale) by rw [hv]; rfl)) <| q9 (qU rfl rfl) <| qB rfl <| y0 (s := 65) rfl (fun hg14_13 => ?_) (fun hg14_13 => ?_)
      ·
       refine qN rfl rfl rfl <| qN rfl rfl rfl <| qN rfl rfl rfl <| q9 (qk rfl rfl) <| qD rfl <| qT <| qW ⟨_, ?_⟩ ?_
       · (try dsimp only); unfold WY M9; rw [List.take_zero, List.any_nil, Bool.or_false, hie]; first | (rw [decide_eq_true hg14_3]; rfl) | (rw [decide_eq_false hg14_3, hg14_8]; rfl) | (rw [decide_eq_false hg14_3, hg14_8, hg14_13]; rfl)
       · (try dsimp only); exact qX _
      ·
       refine qE rfl rfl (qA rfl) <| qE rfl rfl (w6 rfl) <| qE rfl rfl (qH rfl (show wX v 10 = some (.bool W.db.stale) by rw [hv]; rfl)) <| q9 (qU rfl rfl) <| qD rfl <| qT <| qW ⟨_, ?_⟩ ?_
       · (try dsimp only); unfold WY M9; rw [List.take_zero, List.any_nil, Bool.or_false, hie]; first | (rw [decide_eq_true hg14_3]; rfl) | (rw [decide_eq_false hg14_3, hg14_8]; rfl) | (rw [decide_eq_false hg14_3, hg14_8, hg14_13]; rfl)
       · (try dsimp only); exact qX _
   rintro ⟨an, hcut⟩
   replace hcut : an = WY W 0 := hcut
   have han := hcut
   show Tr _ _ _ ([(1, .pointer (some ⟨b1, 0, none⟩)), (3, uo), (4, .bool sb), (5, .slice (some ⟨bt, 0, none⟩) 32 32), (9, .bool W.db.stale), (10, .bool an)]) (Co :: [(bt, .cells ((xl 32 (jh W 1064)).flatMap Qz ++ []).toArray 4 (0, 0))] :: [(b1, .cells v.toArray 41 (0, 0))] :: C :: F) _ _
   refine qO <| qP <| qD rfl <| qF <| qg <| wV (Γ := {pΓ : (Nat) × (Value) × (qV) × (Bool) × (Bool) // (fun (k : Nat) (uo : Value) (Co : qV) (db : Bool) (an : Bool) => k ≤ 32 ∧ SlC 65 2 uo (yR W 1064 ++ ky W k).length ((yR W 1064 ++ ky W k).flatMap zP) Co ∧ db = dbS W k ∧ an = WY W k) pΓ.1 pΓ.2.1 pΓ.2.2.1 pΓ.2.2.2.1 pΓ.2.2.2.2}) (fun g => (fun (k : Nat) (uo : Value) (Co : qV) (db : Bool) (an : Bool) => [(1, .pointer (some ⟨b1, 0, none⟩)), (3, uo), (4, .bool sb), (5, .slice (some ⟨bt, 0, none⟩) 32 32), (9, .bool db), (10, .bool an), (11, .int .i64 k)]) g.1.1 g.1.2.1 g.1.2.2.1 g.1.2.2.2.1 g.1.2.2.2.2) (fun g => (fun (k : Nat) (uo : Value) (Co : qV) (db : Bool) (an : Bool) => Co :: [(bt, .cells ((xl 32 (jh W 1064)).flatMap Qz ++ []).toArray 4 (0, 0))] :: [(b1, .cells v.toArray 41 (0, 0))] :: C :: F) g.1.1 g.1.2.1 g.1.2.2.1 g.1.2.2.2.1 g.1.2.2.2.2) (fun g => (fun (k : Nat) (uo : Value) (Co : qV) (db : Bool) (an : Bool) => 32 - k) g.1.1 g.1.2.1 g.1.2.2.1 g.1.2.2.2.1 g.1.2.2.2.2) ⟨(0, uo, Co, W.db.stale, an), by dsimp only; exact ⟨by omega, by simpa [ky] using hsl, by simp [dbS], han⟩⟩ (qX _) ?_
   rintro ⟨⟨k, uo, Co, db, an⟩, hloop⟩
   replace hloop : k ≤ 32 ∧ SlC 65 2 uo (yR W 1064 ++ ky W k).length ((yR W 1064 ++ ky W k).flatMap zP) Co ∧ db = dbS W k ∧ an = WY W k := hloop
   obtain ⟨hk, hsl2, hdb, han2⟩ := hloop
   show Tr _ _ _ ([(1, .pointer (some ⟨b1, 0, none⟩)), (3, uo), (4, .bool sb), (5, .slice (some ⟨bt, 0, none⟩) 32 32), (9, .bool db), (10, .bool an), (11, .int .i64 k)]) (Co :: [(bt, .cells ((xl 32 (jh W 1064)).flatMap Qz ++ []).toArray 4 (0, 0))] :: [(b1, .cells v.toArray 41 (0, 0))] :: C :: F) _ _
   refine qO <| qP <| qB rfl <| q9 (wL rfl rfl) <| qF <| qL rfl (fun hc16 => ?_) (fun hc16 => ?_)
   ·
    refine qZ <| qI <| qO <| qg <| zb (Γ := {pΓ : (Bool) // (fun (b : Bool) => b = Qt W k) pΓ}) (fun g => (fun (b : Bool) => [(1, .pointer (some ⟨b1, 0, none⟩)), (3, uo), (4, .bool sb), (5, .slice (some ⟨bt, 0, none⟩) 32 32), (9, .bool db), (10, .bool an), (11, .int .i64 k), (85, .bool b)]) g.1) (fun g => (fun (b : Bool) => Co :: [(bt, .cells ((xl 32 (jh W 1064)).flatMap Qz ++ []).toArray 4 (0, 0))] :: [(b1, .cells v.toArray 41 (0, 0))] :: C :: F) g.1) ?_ ?_
    ·
     have hst := QT W (show k < 32 by omega)
     have hds := Y4 W (show k < 32 by omega)
     have has := ZE W (show k < 32 by omega)
     have hfl := WJ W k (by omega)
     have hfl0 := xU W 1064 (by omega)
     refine qK <| q9 (qA rfl) <| q9 (qH rfl (show wX v 6 = some (.slice (some ⟨bl, 0, none⟩) 32 32) by rw [hv]; rfl)) <| qB rfl <| q9 (qw (j := k) (off := k * 2) rfl rfl rfl (by omega) (by simp)) ?_
     refine q9 (w6 rfl) <| q9 (zY (j := k) (k := 1) (v := .bool (W.leaves k).stale) zT rfl (show (bl, Obj.cells ((wO W.leaves).flatMap z6 ++ []).toArray 38 (0, 0)) ∈ List.flatten _ by rw [hC]; simp) (zD (by omega)) rfl rfl) <| qB rfl <| y0 (s := 80) rfl (fun hg18_6 => ?_) (fun hg18_6 => ?_)
     ·
      refine qN rfl rfl rfl <| qN rfl rfl rfl <| qN rfl rfl rfl <| qN rfl rfl rfl <| q9 (qk rfl rfl) <| qT <| qW ⟨_, ?_⟩ ?_
      · (try dsimp only); unfold Qt; first | (rw [hg18_6]; rfl) | (rw [hg18_6, Bool.false_or])
      · (try dsimp only); exact qX _
     ·
      refine qE rfl rfl (qM rfl) <| qE rfl rfl (qM rfl) <| qE rfl rfl (qw (j := k) (off := k * 1) rfl rfl rfl (by omega) (by simp)) ?_
      refine qE rfl rfl (ze (j := k) (k := 0) (v := .bool (jh W 1064 k)) Js rfl (Ql (by omega)) rfl rfl) <| q9 (qU rfl rfl) <| qT <| qW ⟨_, ?_⟩ ?_
      · (try dsimp only); unfold Qt; first | (rw [hg18_6]; rfl) | (rw [hg18_6, Bool.false_or])
      · (try dsimp only); exact qX _
    rintro ⟨b, hcut⟩
    replace hcut : b = Qt W k := hcut
    have hb := hcut
    show Tr _ _ _ ([(1, .pointer (some ⟨b1, 0, none⟩)), (3, uo), (4, .bool sb), (5, .slice (some ⟨bt, 0, none⟩) 32 32), (9, .bool db), (10, .bool an), (11, .int .i64 k), (85, .bool b)]) (Co :: [(bt, .cells ((xl 32 (jh W 1064)).flatMap Qz ++ []).toArray 4 (0, 0))] :: [(b1, .cells v.toArray 41 (0, 0))] :: C :: F) _ _
    refine y3 rfl (fun hc16 => ?_) (fun hc16 => ?_)
    ·
     refine qP <| qD rfl <| qo <| qD rfl <| qo <| q9 (wS rfl hvlen) <| qB rfl <| q9 (wJ rfl (zS (C) (jc W v C hw 2 k))) <| qF <| y3 rfl (fun hc21 => ?_) (fun hc21 => ?_)
     ·
      have hst := QT W (show k < 32 by omega)
      have hfl := WJ W k (by omega)
      have hfl0 := xU W 1064 (by omega)
      rw [← hb, hc16, hc21, if_pos (by rfl)] at hst
      refine qK <| qB rfl <| qB rfl <| q9 (wa rfl) <| qG (wK rfl rfl rfl) ?_
      rintro t92 _ ⟨b92, rfl, rfl⟩
      refine qG (wg (m := 1) (sz := 2) rfl rfl hsl2 (wi (ys := zP (5, (k : Int))) inferInstance rfl rfl) rfl Tryz.underlying77 rfl rfl (by rw [List.length_append]; omega)) ?_
      rintro t93 _ ⟨C', hs', rfl⟩
      refine qD rfl <| qT <| qf <| qI <| qK <| qB rfl <| q9 (w9 rfl rfl (by omega)) <| qD rfl <| qT <| w5 ⟨(k + 1, t93, C', true, true), ?_⟩ ?_ ?_
      · (try dsimp only); exact ⟨by omega, by rw [hst, ← List.append_assoc, List.length_append, List.flatMap_append]; simpa using hs', by rw [Y4 W (show k < 32 by omega), ← hb, hc16]; simp, by rw [ZE W (show k < 32 by omega), ← hb, hc16]; simp⟩
      · (try dsimp only); omega
      · (try dsimp only); exact qX _
     ·
      refine qZ <| qf <| qI <| qK <| qB rfl <| q9 (w9 rfl rfl (by omega)) <| qD rfl <| qT <| w5 ⟨(k + 1, uo, Co, true, true), ?_⟩ ?_ ?_
      · (try dsimp only); exact ⟨by omega, by rw [QT W (show k < 32 by omega), ← hb, hc16, hc21]; simpa using hsl2, by rw [Y4 W (show k < 32 by omega), ← hb, hc16]; simp, by rw [ZE W (show k < 32 by omega), ← hb, hc16]; simp⟩
      · (try dsimp only); omega
      · (try dsimp only); exact qX _
    ·
     refine qZ <| qf <| qI <| qK <| qB rfl <| q9 (w9 rfl rfl (by omega)) <| qD rfl <| qT <| w5 ⟨(k + 1, uo, Co, db, an), ?_⟩ ?_ ?_
     · (try dsimp only); exact ⟨by omega, by rw [QT W (show k < 32 by omega), ← hb, hc16]; simpa using hsl2, by rw [Y4 W (show k < 32 by omega), ← hb, hc16, hdb]; simp, by rw [ZE W (show k < 32 by omega), ← hb, hc16, han2]; simp⟩
     · (try dsimp only); omega
     · (try dsimp only); exact qX _
   ·
    refine wb <| qr <| qt <| qj <| qI <| zb (Γ := {pΓ : (Value) × (qV) × (List (Int × Int)) // (fun (u1 : Value) (C1 : qV) (l1 : List (Int × Int)) => SlC 65 2 u1 l1.length (l1.flatMap zP) C1 ∧ l1 = yR W 1064 ++ ky W 32 ++ sgP W ∧ l1.length ≤ 1097) pΓ.1 pΓ.2.1 pΓ.2.2}) (fun g => (fun (u1 : Value) (C1 : qV) (l1 : List (Int × Int)) => [(1, .pointer (some ⟨b1, 0, none⟩)), (3, u1), (9, .bool db), (10, .bool an)]) g.1.1 g.1.2.1 g.1.2.2) (fun g => (fun (u1 : Value) (C1 : qV) (l1 : List (Int × Int)) => C1 :: [(b1, .cells v.toArray 41 (0, 0))] :: C :: F) g.1.1 g.1.2.1 g.1.2.2) ?_ ?_
    ·
     refine zb (Γ := {pΓ : (Bool) × (List (Int × Int)) // (fun (b : Bool) (l0 : List (Int × Int)) => b = (sgS W 1064 && yD W 1 0) ∧ l0 = yR W 1064 ++ ky W 32 ∧ l0.length ≤ 1096 ∧ SlC 65 2 uo l0.length (l0.flatMap zP) Co ∧ db = dbS W 32 ∧ an = WY W 32) pΓ.1 pΓ.2}) (fun g => (fun (b : Bool) (l0 : List (Int × Int)) => [(1, .pointer (some ⟨b1, 0, none⟩)), (3, uo), (9, .bool db), (10, .bool an), (98, .bool b)]) g.1.1 g.1.2) (fun g => (fun (b : Bool) (l0 : List (Int × Int)) => Co :: [(b1, .cells v.toArray 41 (0, 0))] :: C :: F) g.1.1 g.1.2) ?_ ?_
     ·
      obtain rfl : k = 32 := by omega
      have hfl := WJ W 32 (by omega)
      have hfl0 := xU W 1064 (by omega)
      obtain ⟨l0, hl0⟩ : ∃ l0, yR W 1064 ++ ky W 32 = l0 := ⟨_, rfl⟩
      have hll0 : l0.length ≤ 1096 := by rw [← hl0, List.length_append]; omega
      rw [hl0] at hsl2
      refine qK <| qB rfl <| qB rfl <| y0 (s := 95) rfl (fun hg23_1 => ?_) (fun hg23_1 => ?_)
      ·
       refine qE rfl rfl (wS rfl hvlen) <| qE rfl rfl (wJ rfl (zS (C) (jc W v C hw 1 0))) <| q9 (qk rfl rfl) <| qT <| qW ⟨(_, l0), ?_⟩ ?_
       ·
        try dsimp only
        refine ⟨?_, hl0.symm, hll0, hsl2, hdb, han2⟩
        rw [← hsb]; rw [hg23_1]; first | rfl | simp
       · (try dsimp only); exact qX _
      ·
       refine qN rfl rfl rfl <| qN rfl rfl rfl <| q9 (qU rfl rfl) <| qT <| qW ⟨(_, l0), ?_⟩ ?_
       ·
        try dsimp only
        refine ⟨?_, hl0.symm, hll0, hsl2, hdb, han2⟩
        rw [← hsb]; rw [hg23_1]; first | rfl | simp
       · (try dsimp only); exact qX _
     rintro ⟨⟨b, l0⟩, hcut⟩
     replace hcut : b = (sgS W 1064 && yD W 1 0) ∧ l0 = yR W 1064 ++ ky W 32 ∧ l0.length ≤ 1096 ∧ SlC 65 2 uo l0.length (l0.flatMap zP) Co ∧ db = dbS W 32 ∧ an = WY W 32 := hcut
     obtain ⟨hb3, hl0, hll0, hsl2, hdb3, han3⟩ := hcut
     show Tr _ _ _ ([(1, .pointer (some ⟨b1, 0, none⟩)), (3, uo), (9, .bool db), (10, .bool an), (98, .bool b)]) (Co :: [(b1, .cells v.toArray 41 (0, 0))] :: C :: F) _ _
     refine y3 rfl (fun hc16 => ?_) (fun hc16 => ?_)
     ·
      refine qK <| qB rfl <| q9 (wa rfl) <| qG (wK rfl rfl rfl) ?_
      rintro t101 _ ⟨b101, rfl, rfl⟩
      refine qG (wg (m := 1) (sz := 2) rfl rfl hsl2 (wi (ys := zP (3, 0)) inferInstance rfl rfl) rfl Tryz.underlying77 rfl rfl (by omega)) ?_
      rintro t102 _ ⟨C', hs', rfl⟩
      refine qD rfl <| qT <| qW ⟨(t102, C', l0 ++ [(3, 0)]), ?_⟩ ?_
      · (try dsimp only); exact ⟨by rw [List.length_append, List.flatMap_append]; simpa using hs', by rw [hl0]; unfold sgP; rw [if_pos (hb3 ▸ hc16)], by simp; omega⟩
      · (try dsimp only); exact qX _
     ·
      refine qZ <| qW ⟨(uo, Co, l0), ?_⟩ ?_
      · (try dsimp only); exact ⟨hsl2, by rw [hl0]; unfold sgP; rw [if_neg (by rw [← hb3, hc16]; simp), List.append_nil], by omega⟩
      · (try dsimp only); exact qX _
    rintro ⟨⟨u1, C1, l1⟩, hcut⟩
    replace hcut : SlC 65 2 u1 l1.length (l1.flatMap zP) C1 ∧ l1 = yR W 1064 ++ ky W 32 ++ sgP W ∧ l1.length ≤ 1097 := hcut
    obtain ⟨hs1, hl1, hll1⟩ := hcut
    show Tr _ _ _ ([(1, .pointer (some ⟨b1, 0, none⟩)), (3, u1), (9, .bool db), (10, .bool an)]) (C1 :: [(b1, .cells v.toArray 41 (0, 0))] :: C :: F) _ _
    refine zb (Γ := {pΓ : (Value) × (qV) × (List (Int × Int)) // (fun (u2 : Value) (C2 : qV) (l2 : List (Int × Int)) => SlC 65 2 u2 l2.length (l2.flatMap zP) C2 ∧ l2 = yR W 1064 ++ ky W 32 ++ sgP W ++ dbP W ∧ l2.length ≤ 1098) pΓ.1 pΓ.2.1 pΓ.2.2}) (fun g => (fun (u2 : Value) (C2 : qV) (l2 : List (Int × Int)) => [(1, .pointer (some ⟨b1, 0, none⟩)), (3, u2), (10, .bool an)]) g.1.1 g.1.2.1 g.1.2.2) (fun g => (fun (u2 : Value) (C2 : qV) (l2 : List (Int × Int)) => C2 :: [(b1, .cells v.toArray 41 (0, 0))] :: C :: F) g.1.1 g.1.2.1 g.1.2.2) ?_ ?_
    ·
     refine zb (Γ := {pΓ : (Bool) // (fun (b : Bool) => b = (dbS W 32 && yD W 2 (-1))) pΓ}) (fun g => (fun (b : Bool) => [(1, .pointer (some ⟨b1, 0, none⟩)), (3, u1), (10, .bool an), (107, .bool b)]) g.1) (fun g => (fun (b : Bool) => C1 :: [(b1, .cells v.toArray 41 (0, 0))] :: C :: F) g.1) ?_ ?_
     ·
      refine qK <| qB rfl <| qB rfl <| y0 (s := 104) rfl (fun hg25_1 => ?_) (fun hg25_1 => ?_)
      ·
       refine qE rfl rfl (wS rfl hvlen) <| qE rfl rfl (wJ rfl (zS (C) (jc W v C hw 2 (-1)))) <| q9 (qk rfl rfl) <| qT <| qW ⟨_, ?_⟩ ?_
       ·
        try dsimp only
        have e : dbS W 32 = db := by rw [hdb]; congr 1; omega
        rw [e]; rw [hg25_1]; first | rfl | simp
       · (try dsimp only); exact qX _
      ·
       refine qN rfl rfl rfl <| qN rfl rfl rfl <| q9 (qU rfl rfl) <| qT <| qW ⟨_, ?_⟩ ?_
       ·
        try dsimp only
        have e : dbS W 32 = db := by rw [hdb]; congr 1; omega
        rw [e]; rw [hg25_1]; first | rfl | simp
       · (try dsimp only); exact qX _
     rintro ⟨b, hcut⟩
     replace hcut : b = (dbS W 32 && yD W 2 (-1)) := hcut
     have hb4 := hcut
     show Tr _ _ _ ([(1, .pointer (some ⟨b1, 0, none⟩)), (3, u1), (10, .bool an), (107, .bool b)]) (C1 :: [(b1, .cells v.toArray 41 (0, 0))] :: C :: F) _ _
     refine y3 rfl (fun hc16 => ?_) (fun hc16 => ?_)
     ·
      refine qK <| qB rfl <| q9 (wa rfl) <| qG (wK rfl rfl rfl) ?_
      rintro t110 _ ⟨b110, rfl, rfl⟩
      refine qG (wg (m := 1) (sz := 2) rfl rfl hs1 (wi (ys := zP (4, 0)) inferInstance rfl rfl) rfl Tryz.underlying77 rfl rfl (by omega)) ?_
      rintro t111 _ ⟨C', hs', rfl⟩
      refine qD rfl <| qT <| qW ⟨(t111, C', l1 ++ [(4, 0)]), ?_⟩ ?_
      · (try dsimp only); exact ⟨by rw [List.length_append, List.flatMap_append]; simpa using hs', by rw [hl1]; unfold dbP; rw [if_pos (hb4 ▸ hc16)], by simp; omega⟩
      · (try dsimp only); exact qX _
     ·
      refine qZ <| qW ⟨(u1, C1, l1), ?_⟩ ?_
      · (try dsimp only); exact ⟨hs1, by rw [hl1]; unfold dbP; rw [if_neg (by rw [← hb4, hc16]; simp), List.append_nil], by omega⟩
      · (try dsimp only); exact qX _
    rintro ⟨⟨u2, C2, l2⟩, hcut⟩
    replace hcut : SlC 65 2 u2 l2.length (l2.flatMap zP) C2 ∧ l2 = yR W 1064 ++ ky W 32 ++ sgP W ++ dbP W ∧ l2.length ≤ 1098 := hcut
    obtain ⟨hs2, hl2, hll2⟩ := hcut
    show Tr _ _ _ ([(1, .pointer (some ⟨b1, 0, none⟩)), (3, u2), (10, .bool an)]) (C2 :: [(b1, .cells v.toArray 41 (0, 0))] :: C :: F) _ _
    refine zb (Γ := {pΓ : (Value) × (qV) // (fun (u3 : Value) (C3 : qV) => SlC 65 2 u3 (zh W).length ((zh W).flatMap zP) C3) pΓ.1 pΓ.2}) (fun g => (fun (u3 : Value) (C3 : qV) => [(3, u3)]) g.1.1 g.1.2) (fun g => (fun (u3 : Value) (C3 : qV) => C3 :: [(b1, .cells v.toArray 41 (0, 0))] :: C :: F) g.1.1 g.1.2) ?_ ?_
    ·
     refine qP <| qB rfl <| qF <| y3 rfl (fun hc27 => ?_) (fun hc27 => ?_)
     ·
      refine qK <| qB rfl <| q9 (wa rfl) <| qG (wK rfl rfl rfl) ?_
      rintro t115 _ ⟨b115, rfl, rfl⟩
      refine qG (wg (m := 1) (sz := 2) rfl rfl hs2 (wi (ys := zP (2, 0)) inferInstance rfl rfl) rfl Tryz.underlying77 rfl rfl (by omega)) ?_
      rintro t116 _ ⟨C', hs', rfl⟩
      refine qD rfl <| qT <| qW ⟨(t116, C'), ?_⟩ ?_
      ·
       try dsimp only
       have e : zh W = l2 ++ [(2, 0)] := by rw [hl2]; unfold zh Yq; rw [if_pos (by rw [show WY W 32 = an from by rw [han2]; congr 1; omega]; exact hc27)]
       rw [e, List.length_append, List.flatMap_append]; simpa using hs'
      · (try dsimp only); exact qX _
     ·
      refine qZ <| qW ⟨(u2, C2), ?_⟩ ?_
      ·
       try dsimp only
       have e : zh W = l2 := by rw [hl2]; unfold zh Yq; rw [if_neg (by rw [show WY W 32 = an from by rw [han2]; congr 1; omega, hc27]; simp), List.append_nil]
       rw [e]; exact hs2
      · (try dsimp only); exact qX _
    rintro ⟨⟨u3, C3⟩, hcut⟩
    replace hcut : SlC 65 2 u3 (zh W).length ((zh W).flatMap zP) C3 := hcut
    have hs3 := hcut
    show Tr _ _ _ ([(3, u3)]) (C3 :: [(b1, .cells v.toArray 41 (0, 0))] :: C :: F) _ _
    refine qP <| qB rfl <| qD rfl <| qF <| qz <| wF (C3 :: C :: F) (.inl rfl) rfl (qu rfl) ?_
    exact ⟨C3, hs3, rfl⟩
theorem Vm {k : Int × Int} (h : wC k) (e : k.1 = 1) : ∃ i : Nat, k.2 = i ∧ i < 1064 := by
  rcases h with ⟨-, h1, h2⟩ | h | h | h | ⟨h, -⟩
  · exact ⟨k.2.toNat, by omega, by omega⟩
  all_goals first | (rw [h] at e; exact absurd e (by decide)) | omega
theorem Vl {k : Int × Int} (h : wC k) (e : k.1 = 5) : ∃ i : Nat, k.2 = i ∧ i < 32 := by
  rcases h with ⟨h, -⟩ | h | h | h | ⟨-, h1, h2⟩
  · omega
  · rw [h] at e; exact absurd e (by decide)
  · rw [h] at e; exact absurd e (by decide)
  · rw [h] at e; exact absurd e (by decide)
  · exact ⟨k.2.toNat, by omega, by omega⟩
def RefC0 (ba bl : Nat) (W : RS) (v : List Value) (C : qV) : Prop := ∃ pg gn cg, v = kV W ba bl (.slice pg gn cg) ∧
  C = [(ba, .cells ((zA W.all).flatMap z7 ++ []).toArray 125 (0, 0)), (bl, .cells ((wO W.leaves).flatMap z6 ++ []).toArray 38 (0, 0))]
theorem RefC0.len {W : RS} {v : List Value} {C : qV} (h : RefC0 ba bl W v C) : v.length = 14 := by
  obtain ⟨pg, gn, cg, rfl, rfl⟩ := h; rfl
theorem RefC0.one {W : RS} {v : List Value} {C : qV} (h : RefC0 ba bl W v C) : v.all (·.oneCell') = true := by
  obtain ⟨pg, gn, cg, rfl, rfl⟩ := h; rfl
theorem RefC.split {W : RS} {v : List Value} {C : qV} (h : RefC ba bl W v C) : ∃ C0 Cg pg cg, RefC0 ba bl W v C0 ∧ C = C0 ++ Cg ∧ v = kV W ba bl (.slice pg W.gone.length cg) ∧ SlC 3 1 (.slice pg W.gone.length cg) W.gone.length (iV W.gone) Cg := by
  obtain ⟨ug, Cg, rfl, hs, rfl⟩ := h
  obtain ⟨pg, cg, rfl⟩ := hs.slice
  exact ⟨_, Cg, pg, cg, ⟨_, _, _, rfl, rfl⟩, rfl, rfl, hs⟩
def qy (W : RS) (k : Int × Int) : Int :=
  if k.1 = 1 then (W.all k.2).at_ else if k.1 = 5 then (W.leaves k.2).at_ else if k.1 = 3 then W.sg.at_ else if k.1 = 4 then W.db.at_ else W.self.at_
theorem ZS (W : RS) (v : List Value) (C : qV) (hw : RefC0 ba bl W v C) (k : Int × Int) (hk : wC k) :
    FnT Tryz.prog w0 20 #[.agg v.toArray, .agg (zP k).toArray] (C :: F) (fun v L' => v = .int .i64 (qy W k) ∧ L' = C :: F) := by
  obtain ⟨pg, gn, cg, hv, hC⟩ := hw
  rw [show zP k = [.int .i64 k.1, .int .i64 k.2] from rfl]
  refine qh (E0 := [(0, _), (1, _)]) (N := 38) Tryz.func20 rfl rfl rfl rfl ?_
  refine qP <| qG (wq rfl) ?_
  rintro t2 _ ⟨b2, rfl, rfl⟩
  refine qG (wq rfl) ?_
  rintro t3 _ ⟨b3, rfl, rfl⟩
  refine qD rfl <| qF <| qO <| qP <| q9 (qA rfl) <| q9 (qH rfl rfl) <| qF <| qg <| qP <| q9 (wl rfl rfl) <| qD rfl <| qF <| qL rfl (fun hc2 => ?_) (fun hc2 => ?_)
  ·
   refine qO ?_
   obtain ⟨i, hi, hlt⟩ := Vm hk hc2
   refine qK <| q9 (qA rfl) <| q9 (qH rfl (show wX v 5 = some (.slice (some ⟨ba, 0, none⟩) 1064 1064) by rw [hv]; rfl)) <| q9 (qA rfl) <| q9 (qH rfl rfl) <| q9 (qw (j := i) (off := i * 131) rfl rfl hi (by omega) (by simp)) ?_
   refine q9 (w6 rfl) <| q9 (zY (j := i) (k := 1) (v := .int .i64 (W.all i).at_) zg rfl (show (ba, Obj.cells ((zA W.all).flatMap z7 ++ []).toArray 125 (0, 0)) ∈ List.flatten _ by rw [hC]; simp) (y2 (by omega)) rfl rfl) <| qD rfl <| qF <| qz <| wN <| w7 <| wF (C :: F) (.inl rfl) rfl (qu rfl) ?_
   exact ⟨by unfold qy; rw [if_pos hc2, hi], rfl⟩
  ·
   refine qP <| q9 (wl rfl rfl) <| qD rfl <| qF <| qL rfl (fun hc4 => ?_) (fun hc4 => ?_)
   ·
    refine qO ?_
    obtain ⟨i, hi, hlt⟩ := Vl hk hc4
    refine qK <| q9 (qA rfl) <| q9 (qH rfl (show wX v 6 = some (.slice (some ⟨bl, 0, none⟩) 32 32) by rw [hv]; rfl)) <| q9 (qA rfl) <| q9 (qH rfl rfl) <| q9 (qw (j := i) (off := i * 2) rfl rfl hi (by omega) (by simp)) ?_
    refine q9 (w6 rfl) <| q9 (zY (j := i) (k := 0) (v := .int .i64 (W.leaves i).at_) zT rfl (show (bl, Obj.cells ((wO W.leaves).flatMap z6 ++ []).toArray 38 (0, 0)) ∈ List.flatten _ by rw [hC]; simp) (zD (by omega)) rfl rfl) <| qD rfl <| qF <| qz <| wN <| w7 <| wF (C :: F) (.inl rfl) rfl (qu rfl) ?_
    exact ⟨by unfold qy; rw [if_neg hc2, if_pos hc4, hi], rfl⟩
   ·
    refine qP <| q9 (wl rfl rfl) <| qD rfl <| qF <| qL rfl (fun hc6 => ?_) (fun hc6 => ?_)
    ·
     refine qP <| q9 (qA rfl) <| q9 (w6 rfl) <| q9 (qH rfl (show wX v 7 = some (.int .i64 W.sg.at_) by rw [hv]; rfl)) <| qD rfl <| qF <| qz <| wN <| w7 <| wF (C :: F) (.inl rfl) rfl (qu rfl) ?_
     exact ⟨by unfold qy; rw [if_neg hc2, if_neg hc4, if_pos hc6], rfl⟩
    ·
     refine qP <| q9 (wl rfl rfl) <| qD rfl <| qF <| qL rfl (fun hc8 => ?_) (fun hc8 => ?_)
     ·
      refine qP <| q9 (qA rfl) <| q9 (w6 rfl) <| q9 (qH rfl (show wX v 9 = some (.int .i64 W.db.at_) by rw [hv]; rfl)) <| qD rfl <| qF <| qz <| wN <| w7 <| wF (C :: F) (.inl rfl) rfl (qu rfl) ?_
      exact ⟨by unfold qy; rw [if_neg hc2, if_neg hc4, if_neg hc6, if_pos hc8], rfl⟩
     ·
      refine qZ <| qf <| qI <| qP <| q9 (qA rfl) <| q9 (w6 rfl) <| q9 (qH rfl (show wX v 11 = some (.int .i64 W.self.at_) by rw [hv]; rfl)) <| qD rfl <| qF <| qz <| wF (C :: F) (.inl rfl) rfl (qu rfl) ?_
      exact ⟨by unfold qy; rw [if_neg hc2, if_neg hc4, if_neg hc6, if_neg hc8], rfl⟩
theorem YR (W : RS) (v : List Value) (C : qV) (hw : RefC ba bl W v C) (k : Int × Int) (hk : wC k) :
    FnT Tryz.prog w0 20 #[.agg v.toArray, .agg (zP k).toArray] (C :: F) (fun v L' => v = .int .i64 (qy W k) ∧ L' = C :: F) := by
  obtain ⟨C0, Cg, pg, cg, h0, rfl, -, -⟩ := hw.split
  exact W7 (ZS (F := Cg :: F) W v C0 h0 k hk) (by simp)
def kW (W : RS) (k : Int × Int) (a : Int) : RS :=
  if k.1 = 1 then { W with all := upd W.all k.2 { W.all k.2 with at_ := a, fresh := false } }
  else if k.1 = 5 then { W with leaves := upd W.leaves k.2 ⟨a, false⟩ }
  else if k.1 = 3 then { W with sg := ⟨a, false⟩ }
  else if k.1 = 4 then { W with db := ⟨a, false⟩ }
  else { W with self := ⟨a, false⟩ }
theorem Qo (W : RS) (v : List Value) (C : qV) (hw : RefC0 ba bl W v C) (k : Int × Int) (hk : wC k) (a : Int) :
    FnT Tryz.prog w0 76 #[.agg v.toArray, .agg (zP k).toArray, .int .i64 a] (C :: F) (fun v L' => ∃ l C', v = .agg l.toArray ∧ RefC0 ba bl (kW W k a) l C' ∧ L' = C' :: F) := by
  obtain ⟨pg, gn, cg, rfl, rfl⟩ := hw
  unfold kV
  rw [show zP k = [.int .i64 k.1, .int .i64 k.2] from rfl]
  refine FnT.pre (L' := [(ba, .cells ((zA W.all).flatMap z7 ++ []).toArray 125 (0, 0))] :: [(bl, .cells ((wO W.leaves).flatMap z6 ++ []).toArray 38 (0, 0))] :: F) ?_ (we (by simp))
  refine qh (E0 := [(0, _), (1, _), (2, _)]) (N := 47) Tryz.func76 rfl rfl rfl rfl ?_
  refine qP <| qG (wq rfl) ?_
  rintro t3 _ ⟨b3, rfl, rfl⟩
  refine qG (wq rfl) ?_
  rintro t4 _ ⟨b4, rfl, rfl⟩
  refine qG (qn) ?_
  rintro t6 _ ⟨b6, rfl, rfl⟩
  refine qF <| zb (Γ := {pΓ : (RS) × (List Value) // (fun (X : RS) (v1 : List Value) => X = kW W k a ∧ v1 = kV X ba bl (.slice pg gn cg)) pΓ.1 pΓ.2}) (fun g => (fun (X : RS) (v1 : List Value) => [(3, .pointer (some ⟨b3, 0, none⟩)), (6, .pointer (some ⟨b6, 0, none⟩))]) g.1.1 g.1.2) (fun g => (fun (X : RS) (v1 : List Value) => [(b3, .cells v1.toArray 41 (0, 0))] :: [(b6, .cells node0V.toArray 41 (0, 0))] :: [(ba, .cells ((zA X.all).flatMap z7 ++ []).toArray 125 (0, 0))] :: [(bl, .cells ((wO X.leaves).flatMap z6 ++ []).toArray 38 (0, 0))] :: F) g.1.1 g.1.2) ?_ ?_
  ·
   refine qP <| q9 (qA rfl) <| q9 (qH rfl rfl) <| qF <| qg <| qP <| q9 (wl rfl rfl) <| qD rfl <| qF <| qL rfl (fun hc3 => ?_) (fun hc3 => ?_)
   ·
    refine qO ?_
    obtain ⟨i, hi, hlt⟩ := Vm hk hc3
    refine qK <| q9 (qA rfl) <| q9 (qH rfl rfl) <| q9 (qA rfl) <| q9 (qH rfl rfl) <| qB rfl <| q9 (qw (j := i) (off := i * 131) rfl rfl hi (by omega) (by simp)) ?_
    refine q9 (w6 rfl) <| qS (yZ (j := i) (k := 1) (p' := { W.all i with at_ := a }) zg rfl rfl (y2 (by omega)) rfl rfl rfl) <| qT ?_
    rw [show (zA W.all).set i { W.all i with at_ := a } = zA (upd W.all (i : Int) { W.all i with at_ := a }) from zx]
    refine qI <| qK <| q9 (qA rfl) <| q9 (qH rfl rfl) <| q9 (qA rfl) <| q9 (qH rfl rfl) <| q9 (qw (j := i) (off := i * 131) rfl rfl hi (by omega) (by simp)) ?_
    refine q9 (w6 rfl) <| qS (yZ (j := i) (k := 2) (p := { W.all i with at_ := a }) (p' := { W.all i with at_ := a, fresh := false }) zg rfl rfl (by rw [y2 (by omega), zW]) rfl rfl rfl) ?_
    refine qT <| qf <| qW ⟨(kW W k a, kV (kW W k a) ba bl (.slice pg gn cg)), ?_⟩ ?_
    · (try dsimp only); exact ⟨rfl, rfl⟩
    · (try dsimp only); exact (by rw [show ∀ (f : Int → Blk) (b : Blk), (zA f).set i b = zA (upd f (i : Int) b) from fun _ _ => zx, X8]; unfold kV kW; rw [if_pos hc3, hi]; exact qX _)
   ·
    refine qP <| q9 (wl rfl rfl) <| qD rfl <| qF <| qL rfl (fun hc6 => ?_) (fun hc6 => ?_)
    ·
     obtain ⟨i, hi, hlt⟩ := Vl hk hc6
     refine qK <| q9 (qA rfl) <| q9 (qH rfl rfl) <| q9 (qA rfl) <| q9 (qH rfl rfl) <| qB rfl <| q9 (wa rfl) <| q9 (qw (j := i) (off := i * 2) rfl rfl hi (by omega) (by simp)) ?_
     refine qS (zN (j := i) (p' := ⟨a, false⟩) zT rfl rfl rfl (zD (by omega)) rfl rfl) <| qT <| qf <| qW ⟨(kW W k a, kV (kW W k a) ba bl (.slice pg gn cg)), ?_⟩ ?_
     · (try dsimp only); exact ⟨rfl, rfl⟩
     · (try dsimp only); exact (by rw [show ∀ (f : Int → yG) (b : yG), (wO f).set i b = wO (upd f (i : Int) b) from fun _ _ => zx]; unfold kV kW; rw [if_neg hc3, if_pos hc6, hi]; exact qX _)
    ·
     refine qP <| q9 (wl rfl rfl) <| qD rfl <| qF <| qL rfl (fun hc8 => ?_) (fun hc8 => ?_)
     ·
      refine qK <| qB rfl <| q9 (wa rfl) <| q9 (qA rfl) <| qS (wj rfl rfl rfl rfl) <| qT <| qf <| qW ⟨(kW W k a, kV (kW W k a) ba bl (.slice pg gn cg)), ?_⟩ ?_
      · (try dsimp only); exact ⟨rfl, rfl⟩
      · (try dsimp only); exact (by unfold kV kW; rw [if_neg hc3, if_neg hc6, if_pos hc8]; exact qX _)
     ·
      refine qP <| q9 (wl rfl rfl) <| qD rfl <| qF <| qL rfl (fun hc10 => ?_) (fun hc10 => ?_)
      ·
       refine qK <| qB rfl <| q9 (wa rfl) <| q9 (qA rfl) <| qS (wj rfl rfl rfl rfl) <| qT <| qf <| qW ⟨(kW W k a, kV (kW W k a) ba bl (.slice pg gn cg)), ?_⟩ ?_
       · (try dsimp only); exact ⟨rfl, rfl⟩
       · (try dsimp only); exact (by unfold kV kW; rw [if_neg hc3, if_neg hc6, if_neg hc8, if_pos hc10]; exact qX _)
      ·
       refine qK <| qB rfl <| q9 (wa rfl) <| q9 (qA rfl) <| qS (wj rfl rfl rfl rfl) <| qT <| qf <| qW ⟨(kW W k a, kV (kW W k a) ba bl (.slice pg gn cg)), ?_⟩ ?_
       · (try dsimp only); exact ⟨rfl, rfl⟩
       · (try dsimp only); exact (by unfold kV kW; rw [if_neg hc3, if_neg hc6, if_neg hc8, if_neg hc10]; exact qX _)
  rintro ⟨⟨X, v1⟩, hcut⟩
  replace hcut : X = kW W k a ∧ v1 = kV X ba bl (.slice pg gn cg) := hcut
  obtain ⟨hX, hv1⟩ := hcut
  show Tr _ _ _ ([(3, .pointer (some ⟨b3, 0, none⟩)), (6, .pointer (some ⟨b6, 0, none⟩))]) ([(b3, .cells v1.toArray 41 (0, 0))] :: [(b6, .cells node0V.toArray 41 (0, 0))] :: [(ba, .cells ((zA X.all).flatMap z7 ++ []).toArray 125 (0, 0))] :: [(bl, .cells ((wO X.leaves).flatMap z6 ++ []).toArray 38 (0, 0))] :: F) _ _
  refine qP <| q9 (wS rfl (by rw [hv1]; rfl)) ?_
  refine qS (qq rfl rfl rfl (by rw [hv1]; rfl) (by rw [hv1]; rfl)) ?_
  refine qT <| zM (L' := [(b6, .cells v1.toArray 41 (0, 0))] :: ((ba, .cells ((zA X.all).flatMap z7 ++ []).toArray 125 (0, 0)) :: (bl, .cells ((wO X.leaves).flatMap z6 ++ []).toArray 38 (0, 0)) :: []) :: F) (fun w hw => we (by simp) w hw.tail) ?_
  refine qI <| qz <| wF (((ba, .cells ((zA X.all).flatMap z7 ++ []).toArray 125 (0, 0)) :: (bl, .cells ((wO X.leaves).flatMap z6 ++ []).toArray 38 (0, 0)) :: []) :: F) (.inl rfl) rfl (zX rfl (by rw [hv1]; rfl)) ?_
  exact ⟨_, _, rfl, ⟨_, _, _, by rw [← hX]; exact hv1, by rw [← hX]⟩, rfl⟩
def yX (W : RS) (k : Int × Int) : RS :=
  if k.1 = 1 then { W with all := upd W.all k.2 { W.all k.2 with fresh := true } }
  else if k.1 = 5 then { W with leaves := upd W.leaves k.2 ⟨(W.leaves k.2).at_, true⟩ }
  else if k.1 = 3 then { W with sg := ⟨W.sg.at_, true⟩ }
  else if k.1 = 4 then { W with db := ⟨W.db.at_, true⟩ }
  else { W with self := ⟨W.self.at_, true⟩ }
theorem Xo (W : RS) (v : List Value) (C : qV) (hw : RefC ba bl W v C) (k : Int × Int) (hk : wC k) :
    FnT Tryz.prog w0 34 #[.agg v.toArray, .agg (zP k).toArray] (C :: F) (fun v L' => ∃ l C', v = .agg l.toArray ∧ RefC ba bl (yX W k) l C' ∧ L' = C' :: F) := by
  obtain ⟨pg, cg, Cg, rfl, hs, rfl⟩ := hw.at
  unfold kV
  rw [show zP k = [.int .i64 k.1, .int .i64 k.2] from rfl]
  refine FnT.pre (L' := [(ba, .cells ((zA W.all).flatMap z7 ++ []).toArray 125 (0, 0))] :: [(bl, .cells ((wO W.leaves).flatMap z6 ++ []).toArray 38 (0, 0))] :: Cg :: F) ?_ (we (by simp))
  refine qh (E0 := [(0, _), (1, _)]) (N := 34) Tryz.func34 rfl rfl rfl rfl ?_
  refine qP <| qG (wq rfl) ?_
  rintro t2 _ ⟨b2, rfl, rfl⟩
  refine qG (wq rfl) ?_
  rintro t3 _ ⟨b3, rfl, rfl⟩
  refine qG (qn) ?_
  rintro t4 _ ⟨b4, rfl, rfl⟩
  refine qF <| zb (Γ := {pΓ : (RS) × (List Value) // (fun (X : RS) (v1 : List Value) => X = yX W k ∧ v1 = kV X ba bl (.slice pg W.gone.length cg)) pΓ.1 pΓ.2}) (fun g => (fun (X : RS) (v1 : List Value) => [(2, .pointer (some ⟨b2, 0, none⟩)), (4, .pointer (some ⟨b4, 0, none⟩))]) g.1.1 g.1.2) (fun g => (fun (X : RS) (v1 : List Value) => [(b2, .cells v1.toArray 41 (0, 0))] :: [(b4, .cells node0V.toArray 41 (0, 0))] :: [(ba, .cells ((zA X.all).flatMap z7 ++ []).toArray 125 (0, 0))] :: [(bl, .cells ((wO X.leaves).flatMap z6 ++ []).toArray 38 (0, 0))] :: Cg :: F) g.1.1 g.1.2) ?_ ?_
  ·
   refine qP <| q9 (qA rfl) <| q9 (qH rfl rfl) <| qF <| qg <| qP <| q9 (wl rfl rfl) <| qD rfl <| qF <| qL rfl (fun hc3 => ?_) (fun hc3 => ?_)
   ·
    obtain ⟨i, hi, hlt⟩ := Vm hk hc3
    refine qK <| q9 (qA rfl) <| q9 (qH rfl rfl) <| q9 (qA rfl) <| q9 (qH rfl rfl) <| q9 (qw (j := i) (off := i * 131) rfl rfl hi (by omega) (by simp)) ?_
    refine q9 (w6 rfl) <| qS (yZ (j := i) (k := 2) (p' := { W.all i with fresh := true }) zg rfl rfl (y2 (by omega)) rfl rfl rfl) <| qT <| qf <| qW ⟨(yX W k, kV (yX W k) ba bl (.slice pg W.gone.length cg)), ?_⟩ ?_
    · (try dsimp only); exact ⟨rfl, rfl⟩
    · (try dsimp only); exact (by rw [show ∀ (f : Int → Blk) (b : Blk), (zA f).set i b = zA (upd f (i : Int) b) from fun _ _ => zx]; unfold kV yX; rw [if_pos hc3, hi]; exact qX _)
   ·
    refine qP <| q9 (wl rfl rfl) <| qD rfl <| qF <| qL rfl (fun hc5 => ?_) (fun hc5 => ?_)
    ·
     obtain ⟨i, hi, hlt⟩ := Vl hk hc5
     refine qK <| q9 (qA rfl) <| q9 (qH rfl rfl) <| q9 (qA rfl) <| q9 (qH rfl rfl) <| q9 (qw (j := i) (off := i * 2) rfl rfl hi (by omega) (by simp)) ?_
     refine q9 (w6 rfl) <| qS (yZ (j := i) (k := 1) (p' := ⟨(W.leaves i).at_, true⟩) zT rfl rfl (zD (by omega)) rfl rfl rfl) <| qT <| qf <| qW ⟨(yX W k, kV (yX W k) ba bl (.slice pg W.gone.length cg)), ?_⟩ ?_
     · (try dsimp only); exact ⟨rfl, rfl⟩
     · (try dsimp only); exact (by rw [show ∀ (f : Int → yG) (b : yG), (wO f).set i b = wO (upd f (i : Int) b) from fun _ _ => zx]; unfold kV yX; rw [if_neg hc3, if_pos hc5, hi]; exact qX _)
    ·
     refine qP <| q9 (wl rfl rfl) <| qD rfl <| qF <| qL rfl (fun hc7 => ?_) (fun hc7 => ?_)
     ·
      refine qK <| q9 (qA rfl) <| q9 (w6 rfl) <| qS (ws rfl rfl rfl) <| qT <| qf <| qW ⟨(yX W k, kV (yX W k) ba bl (.slice pg W.gone.length cg)), ?_⟩ ?_
      · (try dsimp only); exact ⟨rfl, rfl⟩
      · (try dsimp only); exact (by unfold kV yX; rw [if_neg hc3, if_neg hc5, if_pos hc7]; exact qX _)
     ·
      refine qP <| q9 (wl rfl rfl) <| qD rfl <| qF <| qL rfl (fun hc9 => ?_) (fun hc9 => ?_)
      ·
       refine qK <| q9 (qA rfl) <| q9 (w6 rfl) <| qS (ws rfl rfl rfl) <| qT <| qf <| qW ⟨(yX W k, kV (yX W k) ba bl (.slice pg W.gone.length cg)), ?_⟩ ?_
       · (try dsimp only); exact ⟨rfl, rfl⟩
       · (try dsimp only); exact (by unfold kV yX; rw [if_neg hc3, if_neg hc5, if_neg hc7, if_pos hc9]; exact qX _)
      ·
       refine qK <| q9 (qA rfl) <| q9 (w6 rfl) <| qS (ws rfl rfl rfl) <| qT <| qf <| qW ⟨(yX W k, kV (yX W k) ba bl (.slice pg W.gone.length cg)), ?_⟩ ?_
       · (try dsimp only); exact ⟨rfl, rfl⟩
       · (try dsimp only); exact (by unfold kV yX; rw [if_neg hc3, if_neg hc5, if_neg hc7, if_neg hc9]; exact qX _)
  rintro ⟨⟨X, v1⟩, hcut⟩
  replace hcut : X = yX W k ∧ v1 = kV X ba bl (.slice pg W.gone.length cg) := hcut
  obtain ⟨hX, hv1⟩ := hcut
  show Tr _ _ _ ([(2, .pointer (some ⟨b2, 0, none⟩)), (4, .pointer (some ⟨b4, 0, none⟩))]) ([(b2, .cells v1.toArray 41 (0, 0))] :: [(b4, .cells node0V.toArray 41 (0, 0))] :: [(ba, .cells ((zA X.all).flatMap z7 ++ []).toArray 125 (0, 0))] :: [(bl, .cells ((wO X.leaves).flatMap z6 ++ []).toArray 38 (0, 0))] :: Cg :: F) _ _
  refine qO ?_
  have hg : X.gone = W.gone := by rw [hX]; unfold yX; split <;> first | rfl | (split <;> first | rfl | (split <;> first | rfl | (split <;> rfl)))
  refine qK <| q9 (wS rfl (by rw [hv1]; rfl)) ?_
  refine qS (qq rfl rfl rfl (by rw [hv1]; rfl) (by rw [hv1]; rfl)) ?_
  refine qT <| zM (L' := [(b4, .cells v1.toArray 41 (0, 0))] :: ((ba, .cells ((zA X.all).flatMap z7 ++ []).toArray 125 (0, 0)) :: (bl, .cells ((wO X.leaves).flatMap z6 ++ []).toArray 38 (0, 0)) :: Cg) :: F) (fun w hw => we (by simp) w hw.tail) ?_
  refine qI <| qz <| wF (((ba, .cells ((zA X.all).flatMap z7 ++ []).toArray 125 (0, 0)) :: (bl, .cells ((wO X.leaves).flatMap z6 ++ []).toArray 38 (0, 0)) :: Cg) :: F) (.inl rfl) rfl (zX rfl (by rw [hv1]; rfl)) ?_
  exact ⟨_, _, rfl, ⟨_, Cg, by rw [← hX]; exact hv1, by rw [← hX, hg]; exact hs, by rw [← hX]⟩, rfl⟩
theorem flat_sub {α : Type} {enc : α → List Value} {sz : Nat} (he : ∀ x, (enc x).length = sz) (xs : List α) (r : List Value) {j : Nat} {p : α} (hj : xs[j]? = some p) {k n : Nat} (hkn : k + n ≤ sz) :
    ((xs.flatMap enc ++ r).drop (j * sz + k)).take n = ((enc p).drop k).take n := by
  have h := Qv he xs r hj
  rw [← List.drop_drop, ← h, List.drop_take, List.take_take, Nat.min_eq_left (by omega)]
theorem QQ {P : Program} {N : Nat} {E : Env} {α : Type} {enc : α → List Value} {x : Operand} {t ty sz n : TypeId} {b off j k : Nat} {xs : List α} {r q : List Value} {e : TypeId} {fr : Nat × Nat} {p : α} [ht : TyAgg P t n]
    (he : ∀ x, (enc x).length = sz) (hx : opv E x = some (.pointer (some ⟨b, off, none⟩))) (hm : (b, .cells (xs.flatMap enc ++ r).toArray e fr) ∈ L.flatten) (hj : xs[j]? = some p) (ho : off = j * sz + k) (hkn : k + n ≤ sz) (hq : ((enc p).drop k).take n = q) :
    Op1 P N w0 E L (.load t x) ty (.agg q.toArray) L :=
  kC hx hm (by subst ho; rw [← hq]; exact flat_sub he xs r hj hkn) (by
    have hlt := (List.getElem?_eq_some_iff.1 hj).1
    have h1 := ka he xs
    have h2 : (j + 1) * sz ≤ xs.length * sz := Nat.mul_le_mul_right _ hlt
    rw [Nat.add_mul] at h2
    simp [ho]; rw [← List.length_flatMap, h1]; omega)
open Classical in
noncomputable def ZM (l : List Int) : Sec := if h : jk l then xC l h else Sec.zero
open Classical in
noncomputable def Vu (x : Ino) : Sec := if h : x.Ok then Zx x h else Sec.zero
theorem Wf {l : List Int} (h : jk l) : ZM l = xC l h := by unfold ZM; rw [dif_pos h]
theorem Kv {x : Ino} (h : x.Ok) : Vu x = Zx x h := by unfold Vu; rw [dif_pos h]
def y6 (W : RS) (h : Int → Int × Int) : List Int := (List.range 32).map fun j : Nat => qy W (h j)
def je (W : RS) : Ino := ⟨W.num, W.ver, W.kind, W.size, W.time, (List.range 8).map (fun j : Nat => qy W (1, j)), W.sg.at_, W.db.at_⟩
noncomputable def zB (W : RS) (k : Int × Int) : Sec :=
  if k.1 = 1 then (W.all k.2).s
  else if k.1 = 5 then ZM (y6 W (zV 2 k.2))
  else if k.1 = 3 then ZM (y6 W (zV 1 0))
  else if k.1 = 4 then ZM (y6 W (fun j => (5, j)))
  else Vu (je W)
structure ROk (W : RS) : Prop where
  num : 0 ≤ W.num ∧ W.num < 65536
  ver : 0 ≤ W.ver ∧ W.ver < 4294967296
  kind : 1 ≤ W.kind ∧ W.kind ≤ 2
  size : 0 ≤ W.size ∧ W.size ≤ 136192
  time : 0 ≤ W.time ∧ W.time < 4294967296
  at_ : ∀ k, wC k → 0 ≤ qy W k ∧ qy W k ≤ 65535
theorem ZC {W : RS} (h : ROk W) {f : Int → Int × Int} (hf : ∀ j : Nat, j < 32 → wC (f j)) : jk (y6 W f) := ⟨by simp [y6], fun a ha => by
  obtain ⟨j, hj, rfl⟩ := List.mem_map.1 ha
  exact h.at_ _ (hf j (by simpa using hj))⟩
theorem KK {W : RS} (h : ROk W) : (je W).Ok := by
  have hs := h.size
  refine ⟨h.num, h.ver, h.kind, ?_, h.time, by simp [je], fun a ha => ?_, ?_, ?_⟩
  · show 0 ≤ W.size ∧ W.size < _; omega
  · obtain ⟨j, hj, rfl⟩ := List.mem_map.1 ha
    have hj : j < 8 := by simpa using hj
    have := h.at_ (1, j) (.inl ⟨rfl, by dsimp only; omega, by dsimp only; omega⟩); omega
  · have : _ ∧ _ := h.at_ (3, 0) (.inr (.inr (.inl rfl))); show 0 ≤ W.sg.at_ ∧ W.sg.at_ < 4294967296
    rw [show qy W (3, 0) = W.sg.at_ from rfl] at this; omega
  · have : _ ∧ _ := h.at_ (4, 0) (.inr (.inr (.inr (.inl rfl)))); show 0 ≤ W.db.at_ ∧ W.db.at_ < 4294967296
    rw [show qy W (4, 0) = W.db.at_ from rfl] at this; omega
theorem QU {l f : Int} (h : l = 1 ∧ f = 0 ∨ l = 2 ∧ 0 ≤ f ∧ f < 32) (j : Nat) (hj : j < 32) : wC (zV l f j) := by
  refine .inl ⟨rfl, ?_, ?_⟩ <;> unfold zV <;> dsimp only <;> rcases h with ⟨rfl, rfl⟩ | ⟨rfl, h⟩ <;> simp <;> omega
theorem Yo (W : RS) (l f : Int) (j : Int) : qy W (zV l f j) = (W.all ((if l = 0 then 0 else if l = 1 then 8 else 40) + f * 32 + j)).at_ := rfl
theorem kw (W : RS) (j : Int) : qy W (5, j) = (W.leaves j).at_ := rfl
theorem yK (W : RS) (j : Int) : qy W (1, j) = (W.all j).at_ := rfl
theorem W0 (W : RS) (h : Int → Int × Int) {j : Nat} (hj : j < 32) : (y6 W h)[j]? = some (qy W (h j)) := by simp [y6, hj]
instance (priority := high) : TyZero Tryz.prog 183 (.agg (yM MM).toArray) := .of (by kernel_rfl)
theorem Kb (W : RS) (v : List Value) (C : qV) (hw : RefC0 ba bl W v C) (hr : ROk W) (k : Int × Int) (hk : wC k) :
    FnT Tryz.prog w0 77 #[.agg v.toArray, .agg (zP k).toArray] (C :: F) (fun v L' => v = .agg (ww (zB W k)).toArray ∧ L' = C :: F) := by
  obtain ⟨pg, gn, cg, hv, hC⟩ := hw
  obtain ⟨l8, hl8⟩ : ∃ l, (List.range 8).map (fun j : Nat => qy W (1, j)) = l := ⟨_, rfl⟩
  have hlen8 : l8.length = 8 := by rw [← hl8]; simp
  have hget8 : ∀ j : Nat, j < 8 → l8[j]? = some ((W.all j).at_) := fun j hj => by rw [← hl8]; simp [hj]; rfl
  rw [show zP k = [.int .i64 k.1, .int .i64 k.2] from rfl]
  refine qh (E0 := [(0, _), (1, _)]) (N := 116) Tryz.func77 rfl rfl rfl rfl ?_
  refine qP <| qG (wq rfl) ?_
  rintro t2 _ ⟨b2, rfl, rfl⟩
  refine qG (wq rfl) ?_
  rintro t3 _ ⟨b3, rfl, rfl⟩
  refine qG (qn) ?_
  rintro t4 _ ⟨b4, rfl, rfl⟩
  refine qo <| qG (qn) ?_
  rintro t5 _ ⟨b5, rfl, rfl⟩
  refine qF <| zb (Γ := {pΓ : (List Int) // (fun (l : List Int) => ZM l = zB W k ∧ jk l) pΓ}) (fun g => (fun (l : List Int) => [(4, .pointer (some ⟨b4, 0, none⟩)), (5, .pointer (some ⟨b5, 0, none⟩))]) g.1) (fun g => (fun (l : List Int) => [(b4, .cells (ww Sec.zero).toArray 54 (0, 0))] :: [(b5, .cells (iV l).toArray 175 (0, 0))] :: C :: F) g.1) ?_ ?_
  ·
   refine qP <| q9 (qA rfl) <| q9 (qH rfl rfl) <| qF <| qg <| qP <| q9 (wl rfl rfl) <| qD rfl <| qF <| qL rfl (fun hc10 => ?_) (fun hc10 => ?_)
   ·
    refine qO ?_
    obtain ⟨i, hi, hlt⟩ := Vm hk hc10
    refine qK <| q9 (qA rfl) <| q9 (qH rfl (show wX v 5 = some (.slice (some ⟨ba, 0, none⟩) 1064 1064) by rw [hv]; rfl)) <| q9 (qA rfl) <| q9 (qH rfl rfl) <| q9 (qw (j := i) (off := i * 131) rfl rfl hi (by omega) (by simp)) ?_
    refine q9 (w6 rfl) <| q9 (QQ (j := i) (k := 3) (q := ww (W.all i).s) zg rfl (show (ba, Obj.cells ((zA W.all).flatMap z7 ++ []).toArray 125 (0, 0)) ∈ List.flatten _ by rw [hC]; simp) (y2 (by omega)) rfl (by decide) (by rw [show (z7 (W.all i)).drop 3 = ww (W.all i).s from rfl, List.take_of_length_le (by simp)])) ?_
    refine qS (qq rfl rfl (by simp) (by simp) (wt _)) ?_
    refine qF <| qz <| wN <| kD <| wF (C :: F) (.inl rfl) rfl (zX rfl (by simp)) ?_
    exact ⟨by unfold zB; rw [if_pos hc10, hi], rfl⟩
   ·
    refine qP <| q9 (wl rfl rfl) <| qD rfl <| qF <| qL rfl (fun hc12 => ?_) (fun hc12 => ?_)
    ·
     refine qO ?_
     obtain ⟨q, hq, hlt⟩ := Vl hk hc12
     refine qK <| qD rfl <| qF <| qg <| wV (Γ := {pΓ : (Nat) // (fun (i : Nat) => i ≤ 32) pΓ}) (fun g => (fun (i : Nat) => [(2, .pointer (some ⟨b2, 0, none⟩)), (3, .pointer (some ⟨b3, 0, none⟩)), (4, .pointer (some ⟨b4, 0, none⟩)), (5, .pointer (some ⟨b5, 0, none⟩)), (6, .int .i64 i)]) g.1) (fun g => (fun (i : Nat) => [(b5, .cells (iV ((y6 W (zV 2 k.2)).take i) ++ List.replicate (32 - i) (Value.int .i64 0)).toArray 175 (0, 0))] :: [(b4, .cells (ww Sec.zero).toArray 54 (0, 0))] :: [(b3, .cells [.int .i64 k.1, .int .i64 k.2].toArray 65 (0, 0))] :: [(b2, .cells v.toArray 41 (0, 0))] :: C :: F) g.1) (fun g => (fun (i : Nat) => 32 - i) g.1) ⟨0, by dsimp only; exact (by omega)⟩ (yW rfl) ?_
     rintro ⟨i, hloop⟩
     replace hloop : i ≤ 32 := hloop
     obtain hi := hloop
     show Tr _ _ _ ([(2, .pointer (some ⟨b2, 0, none⟩)), (3, .pointer (some ⟨b3, 0, none⟩)), (4, .pointer (some ⟨b4, 0, none⟩)), (5, .pointer (some ⟨b5, 0, none⟩)), (6, .int .i64 i)]) ([(b5, .cells (iV ((y6 W (zV 2 k.2)).take i) ++ List.replicate (32 - i) (Value.int .i64 0)).toArray 175 (0, 0))] :: [(b4, .cells (ww Sec.zero).toArray 54 (0, 0))] :: [(b3, .cells [.int .i64 k.1, .int .i64 k.2].toArray 65 (0, 0))] :: [(b2, .cells v.toArray 41 (0, 0))] :: C :: F) _ _
     refine qO <| qP <| qB rfl <| q9 (wL rfl rfl) <| qF <| qL rfl (fun hc14 => ?_) (fun hc14 => ?_)
     ·
      refine qZ <| qI <| qO <| qg ?_
      have ha : (y6 W (zV 2 k.2))[i]? = some ((W.all ((40 + 32 * q + i : Nat) : Int)).at_) := by rw [W0 _ _ (by omega), Yo]; congr 3; rw [hq]; simp; omega
      refine qK <| qB rfl <| q9 (qA rfl) <| q9 (qH rfl (show wX v 5 = some (.slice (some ⟨ba, 0, none⟩) 1064 1064) by rw [hv]; rfl)) <| q9 (qA rfl) <| q9 (qH rfl rfl) <| q9 (xF rfl rfl (by omega)) <| q9 (w9 rfl rfl (by omega)) <| qB rfl <| q9 (w9 rfl rfl (by omega)) <| q9 (qw (j := 40 + 32 * q + i) (off := (40 + 32 * q + i) * 131) rfl rfl (by omega) (by omega) (by simp)) ?_
      refine q9 (w6 rfl) <| q9 (zY (j := 40 + 32 * q + i) (k := 1) (v := .int .i64 (W.all ((40 + 32 * q + i : Nat) : Int)).at_) zg rfl (show (ba, Obj.cells ((zA W.all).flatMap z7 ++ []).toArray 125 (0, 0)) ∈ List.flatten _ by rw [hC]; simp) (y2 (by omega)) rfl rfl) <| q9 (wo (j := i) (off := i * 1) rfl rfl rfl (by omega) (by simp)) ?_
      refine qS (yA rfl rfl (by simp [y6]; omega) rfl) ?_
      refine qT <| qf <| qI <| qK <| qB rfl <| q9 (w9 rfl rfl (by omega)) <| qD rfl <| qT <| w5 ⟨i + 1, ?_⟩ ?_ ?_
      · (try dsimp only); omega
      · (try dsimp only); omega
      · (try dsimp only); exact yW (by rw [Y0 ha (by omega)])
     ·
      refine wb <| qr <| qt <| qj <| qf <| qW ⟨y6 W (zV 2 k.2), ?_⟩ ?_
      · (try dsimp only); exact ⟨by unfold zB; rw [if_neg (by omega), if_pos hc12], ZC hr (fun j hj => QU (.inr ⟨rfl, by omega, by omega⟩) j hj)⟩
      · (try dsimp only); exact (by obtain rfl : i = 32 := (by omega); rw [List.take_of_length_le (by simp [y6]), Nat.sub_self, List.replicate_zero, List.append_nil]; exact qX _)
    ·
     refine qP <| q9 (wl rfl rfl) <| qD rfl <| qF <| qL rfl (fun hc17 => ?_) (fun hc17 => ?_)
     ·
      refine qP <| qD rfl <| qF <| qg <| wV (Γ := {pΓ : (Nat) // (fun (i : Nat) => i ≤ 32) pΓ}) (fun g => (fun (i : Nat) => [(2, .pointer (some ⟨b2, 0, none⟩)), (3, .pointer (some ⟨b3, 0, none⟩)), (4, .pointer (some ⟨b4, 0, none⟩)), (5, .pointer (some ⟨b5, 0, none⟩)), (7, .int .i64 i)]) g.1) (fun g => (fun (i : Nat) => [(b5, .cells (iV ((y6 W (zV 1 0)).take i) ++ List.replicate (32 - i) (Value.int .i64 0)).toArray 175 (0, 0))] :: [(b4, .cells (ww Sec.zero).toArray 54 (0, 0))] :: [(b3, .cells [.int .i64 k.1, .int .i64 k.2].toArray 65 (0, 0))] :: [(b2, .cells v.toArray 41 (0, 0))] :: C :: F) g.1) (fun g => (fun (i : Nat) => 32 - i) g.1) ⟨0, by dsimp only; exact (by omega)⟩ (yW rfl) ?_
      rintro ⟨i, hloop⟩
      replace hloop : i ≤ 32 := hloop
      obtain hi := hloop
      show Tr _ _ _ ([(2, .pointer (some ⟨b2, 0, none⟩)), (3, .pointer (some ⟨b3, 0, none⟩)), (4, .pointer (some ⟨b4, 0, none⟩)), (5, .pointer (some ⟨b5, 0, none⟩)), (7, .int .i64 i)]) ([(b5, .cells (iV ((y6 W (zV 1 0)).take i) ++ List.replicate (32 - i) (Value.int .i64 0)).toArray 175 (0, 0))] :: [(b4, .cells (ww Sec.zero).toArray 54 (0, 0))] :: [(b3, .cells [.int .i64 k.1, .int .i64 k.2].toArray 65 (0, 0))] :: [(b2, .cells v.toArray 41 (0, 0))] :: C :: F) _ _
      refine qO <| qP <| qB rfl <| q9 (wL rfl rfl) <| qF <| qL rfl (fun hc19 => ?_) (fun hc19 => ?_)
      ·
       refine qZ <| qI <| qO <| qg ?_
       have ha : (y6 W (zV 1 0))[i]? = some ((W.all ((8 + i : Nat) : Int)).at_) := by rw [W0 _ _ (by omega), Yo]; congr 3
       refine qK <| qB rfl <| q9 (qA rfl) <| q9 (qH rfl (show wX v 5 = some (.slice (some ⟨ba, 0, none⟩) 1064 1064) by rw [hv]; rfl)) <| qB rfl <| q9 (w9 rfl rfl (by omega)) <| q9 (qw (j := 8 + i) (off := (8 + i) * 131) rfl rfl (by omega) (by omega) (by simp)) ?_
       refine q9 (w6 rfl) <| q9 (zY (j := 8 + i) (k := 1) (v := .int .i64 (W.all ((8 + i : Nat) : Int)).at_) zg rfl (show (ba, Obj.cells ((zA W.all).flatMap z7 ++ []).toArray 125 (0, 0)) ∈ List.flatten _ by rw [hC]; simp) (y2 (by omega)) rfl rfl) <| q9 (wo (j := i) (off := i * 1) rfl rfl rfl (by omega) (by simp)) ?_
       refine qS (yA rfl rfl (by simp [y6]; omega) rfl) ?_
       refine qT <| qf <| qI <| qK <| qB rfl <| q9 (w9 rfl rfl (by omega)) <| qD rfl <| qT <| w5 ⟨i + 1, ?_⟩ ?_ ?_
       · (try dsimp only); omega
       · (try dsimp only); omega
       · (try dsimp only); exact yW (by rw [Y0 ha (by omega)])
      ·
       refine wb <| qr <| qt <| qj <| qf <| qW ⟨y6 W (zV 1 0), ?_⟩ ?_
       · (try dsimp only); exact ⟨by unfold zB; rw [if_neg (by omega), if_neg (by omega), if_pos hc17], ZC hr (fun j hj => QU (.inl ⟨rfl, rfl⟩) j hj)⟩
       · (try dsimp only); exact (by obtain rfl : i = 32 := (by omega); rw [List.take_of_length_le (by simp [y6]), Nat.sub_self, List.replicate_zero, List.append_nil]; exact qX _)
     ·
      refine qP <| q9 (wl rfl rfl) <| qD rfl <| qF <| qL rfl (fun hc22 => ?_) (fun hc22 => ?_)
      ·
       refine qP <| qD rfl <| qF <| qg <| wV (Γ := {pΓ : (Nat) // (fun (i : Nat) => i ≤ 32) pΓ}) (fun g => (fun (i : Nat) => [(2, .pointer (some ⟨b2, 0, none⟩)), (3, .pointer (some ⟨b3, 0, none⟩)), (4, .pointer (some ⟨b4, 0, none⟩)), (5, .pointer (some ⟨b5, 0, none⟩)), (8, .int .i64 i)]) g.1) (fun g => (fun (i : Nat) => [(b5, .cells (iV ((y6 W (fun j => (5, j))).take i) ++ List.replicate (32 - i) (Value.int .i64 0)).toArray 175 (0, 0))] :: [(b4, .cells (ww Sec.zero).toArray 54 (0, 0))] :: [(b3, .cells [.int .i64 k.1, .int .i64 k.2].toArray 65 (0, 0))] :: [(b2, .cells v.toArray 41 (0, 0))] :: C :: F) g.1) (fun g => (fun (i : Nat) => 32 - i) g.1) ⟨0, by dsimp only; exact (by omega)⟩ (yW rfl) ?_
       rintro ⟨i, hloop⟩
       replace hloop : i ≤ 32 := hloop
       obtain hi := hloop
       show Tr _ _ _ ([(2, .pointer (some ⟨b2, 0, none⟩)), (3, .pointer (some ⟨b3, 0, none⟩)), (4, .pointer (some ⟨b4, 0, none⟩)), (5, .pointer (some ⟨b5, 0, none⟩)), (8, .int .i64 i)]) ([(b5, .cells (iV ((y6 W (fun j => (5, j))).take i) ++ List.replicate (32 - i) (Value.int .i64 0)).toArray 175 (0, 0))] :: [(b4, .cells (ww Sec.zero).toArray 54 (0, 0))] :: [(b3, .cells [.int .i64 k.1, .int .i64 k.2].toArray 65 (0, 0))] :: [(b2, .cells v.toArray 41 (0, 0))] :: C :: F) _ _
       refine qO <| qP <| qB rfl <| q9 (wL rfl rfl) <| qF <| qL rfl (fun hc24 => ?_) (fun hc24 => ?_)
       ·
        refine qZ <| qI <| qO <| qg ?_
        have ha : (y6 W (fun j => (5, j)))[i]? = some ((W.leaves i).at_) := by rw [W0 _ _ (by omega), kw]
        refine qK <| qB rfl <| q9 (qA rfl) <| q9 (qH rfl (show wX v 6 = some (.slice (some ⟨bl, 0, none⟩) 32 32) by rw [hv]; rfl)) <| qB rfl <| q9 (qw (j := i) (off := i * 2) rfl rfl rfl (by omega) (by simp)) ?_
        refine q9 (w6 rfl) <| q9 (zY (j := i) (k := 0) (v := .int .i64 (W.leaves i).at_) zT rfl (show (bl, Obj.cells ((wO W.leaves).flatMap z6 ++ []).toArray 38 (0, 0)) ∈ List.flatten _ by rw [hC]; simp) (zD (by omega)) rfl rfl) <| q9 (wo (j := i) (off := i * 1) rfl rfl rfl (by omega) (by simp)) ?_
        refine qS (yA rfl rfl (by simp [y6]; omega) rfl) ?_
        refine qT <| qf <| qI <| qK <| qB rfl <| q9 (w9 rfl rfl (by omega)) <| qD rfl <| qT <| w5 ⟨i + 1, ?_⟩ ?_ ?_
        · (try dsimp only); omega
        · (try dsimp only); omega
        · (try dsimp only); exact yW (by rw [Y0 ha (by omega)])
       ·
        refine wb <| qr <| qt <| qj <| qf <| qW ⟨y6 W (fun j => (5, j)), ?_⟩ ?_
        · (try dsimp only); exact ⟨by unfold zB; rw [if_neg (by omega), if_neg (by omega), if_neg (by omega), if_pos hc22], ZC hr (fun j hj => .inr (.inr (.inr (.inr ⟨rfl, by dsimp only; omega, by dsimp only; omega⟩))))⟩
        · (try dsimp only); exact (by obtain rfl : i = 32 := (by omega); rw [List.take_of_length_le (by simp [y6]), Nat.sub_self, List.replicate_zero, List.append_nil]; exact qX _)
      ·
       refine qP <| q9 (qA rfl) <| q9 (qH rfl (show wX v 0 = some (.int .u32 W.num) by rw [hv]; rfl)) <| q9 (qA rfl) <| q9 (qH rfl (show wX v 1 = some (.int .u32 W.ver) by rw [hv]; rfl)) <| q9 (qA rfl) <| q9 (qH rfl (show wX v 2 = some (.int .i64 W.kind) by rw [hv]; rfl)) <| q9 (qA rfl) <| q9 (qH rfl (show wX v 3 = some (.int .i64 W.size) by rw [hv]; rfl)) <| q9 (qA rfl) <| q9 (qH rfl (show wX v 4 = some (.int .u32 W.time) by rw [hv]; rfl)) <| q9 (qA rfl) <| q9 (w6 rfl) <| q9 (qH rfl (show wX v 7 = some (.int .i64 W.sg.at_) by rw [hv]; rfl)) <| q9 (qA rfl) <| q9 (w6 rfl) <| q9 (qH rfl (show wX v 9 = some (.int .i64 W.db.at_) by rw [hv]; rfl)) <| q9 (wa (z := [Value.int .u32 0, Value.int .u32 0, Value.int .i64 0, Value.int .i64 0, Value.int .u32 0, Value.int .i64 0, Value.int .i64 0, Value.int .i64 0, Value.int .i64 0, Value.int .i64 0, Value.int .i64 0, Value.int .i64 0, Value.int .i64 0, Value.int .i64 0, Value.int .i64 0]) (hz := .of (by kernel_rfl)) rfl) ?_
       refine qG (qn) ?_
       rintro t9 _ ⟨b9, rfl, rfl⟩
       refine qS (qq rfl rfl Wq rfl (by simp [Value.oneCell'])) ?_
       refine qF <| qO <| qP <| qD rfl <| qF <| qg <| wV (Γ := {pΓ : (Nat) // (fun (i : Nat) => i ≤ 8) pΓ}) (fun g => (fun (i : Nat) => [(2, .pointer (some ⟨b2, 0, none⟩)), (4, .pointer (some ⟨b4, 0, none⟩)), (9, .pointer (some ⟨b9, 0, none⟩)), (10, .int .i64 i)]) g.1) (fun g => (fun (i : Nat) => [(b9, .cells (yM { je W with d := l8.take i ++ List.replicate (8 - i) 0 }).toArray 183 (0, 0))] :: [(b5, .cells (List.replicate 32 (Value.int .i64 0)).toArray 175 (0, 0))] :: [(b4, .cells (ww Sec.zero).toArray 54 (0, 0))] :: [(b3, .cells [.int .i64 k.1, .int .i64 k.2].toArray 65 (0, 0))] :: [(b2, .cells v.toArray 41 (0, 0))] :: C :: F) g.1) (fun g => (fun (i : Nat) => 8 - i) g.1) ⟨0, by dsimp only; exact (by omega)⟩ (yW rfl) ?_
       rintro ⟨i, hloop⟩
       replace hloop : i ≤ 8 := hloop
       obtain hi := hloop
       show Tr _ _ _ ([(2, .pointer (some ⟨b2, 0, none⟩)), (4, .pointer (some ⟨b4, 0, none⟩)), (9, .pointer (some ⟨b9, 0, none⟩)), (10, .int .i64 i)]) ([(b9, .cells (yM { je W with d := l8.take i ++ List.replicate (8 - i) 0 }).toArray 183 (0, 0))] :: [(b5, .cells (List.replicate 32 (Value.int .i64 0)).toArray 175 (0, 0))] :: [(b4, .cells (ww Sec.zero).toArray 54 (0, 0))] :: [(b3, .cells [.int .i64 k.1, .int .i64 k.2].toArray 65 (0, 0))] :: [(b2, .cells v.toArray 41 (0, 0))] :: C :: F) _ _
       refine qO <| qP <| qB rfl <| q9 (wL rfl rfl) <| qF <| qL rfl (fun hc5 => ?_) (fun hc5 => ?_)
       ·
        refine qZ <| qI <| qO <| qg <| qK <| qB rfl <| q9 (qA rfl) <| q9 (qH rfl (show wX v 5 = some (.slice (some ⟨ba, 0, none⟩) 1064 1064) by rw [hv]; rfl)) <| qB rfl <| q9 (qw (j := i) (off := i * 131) rfl rfl rfl (by omega) (by simp)) ?_
        refine q9 (w6 rfl) <| q9 (zY (j := i) (k := 1) (v := .int .i64 (W.all i).at_) zg rfl (show (ba, Obj.cells ((zA W.all).flatMap z7 ++ []).toArray 125 (0, 0)) ∈ List.flatten _ by rw [hC]; simp) (y2 (by omega)) rfl rfl) <| q9 (qA rfl) <| q9 (wo (j := i) (off := 5 + i * 1) rfl rfl rfl (by omega) (by simp)) ?_
        refine qS (yA rfl rfl (by simp [yM]; omega) rfl) ?_
        refine qT <| qf <| qI <| qK <| qB rfl <| q9 (w9 rfl rfl (by omega)) <| qD rfl <| qT <| w5 ⟨i + 1, ?_⟩ ?_ ?_
        · (try dsimp only); omega
        · (try dsimp only); omega
        · (try dsimp only); exact yW (by have e := MD (y := { je W with d := l8.take i ++ List.replicate (8 - i) 0 }) (i := i) (a := (W.all i).at_) (by simp; omega); have e2 := VX (hget8 i (by omega)) (by omega) (by omega); dsimp only at e e2; rw [e2] at e; rw [show i * 1 = i from by omega]; rw [e])
       ·
        refine wb <| qr <| qt <| qj <| qI <| qO ?_
        obtain rfl : i = 8 := by omega
        have he : { je W with d := l8.take 8 ++ List.replicate (8 - 8) 0 } = je W := by rw [List.take_of_length_le (by omega), Nat.sub_self, List.replicate_zero, List.append_nil, ← hl8]; rfl
        rw [he]
        refine qK <| q9 (wS rfl (jB (KK hr))) <| q9 (wJ rfl (rwriteInode_ok (je W) (KK hr))) <| qB rfl <| q9 (qi rfl rfl) <| q9 (qi rfl rfl) <| qG (qn) ?_
        rintro t11 _ ⟨b11, rfl, rfl⟩
        refine qS (qq rfl rfl (by simp) (by simp) (by exact wt _)) ?_
        refine qD rfl <| qo <| q9 (wS rfl (by simp)) ?_
        refine qS (qq rfl rfl (by simp) (by simp) (by exact wt _)) ?_
        refine qF <| qz <| wN <| kD <| wF (C :: F) (.inl rfl) rfl (zX rfl (by simp)) ?_
        exact ⟨by unfold zB; rw [if_neg (by omega), if_neg (by omega), if_neg (by omega), if_neg (by omega), Kv (KK hr)], rfl⟩
  rintro ⟨l, hcut⟩
  replace hcut : ZM l = zB W k ∧ jk l := hcut
  obtain ⟨hl, hpl⟩ := hcut
  show Tr _ _ _ ([(4, .pointer (some ⟨b4, 0, none⟩)), (5, .pointer (some ⟨b5, 0, none⟩))]) ([(b4, .cells (ww Sec.zero).toArray 54 (0, 0))] :: [(b5, .cells (iV l).toArray 175 (0, 0))] :: C :: F) _ _
  refine qP <| q9 (wS rfl (by simp [hpl.len])) ?_
  refine q9 (wJ rfl (rwritePointers_ok l hpl)) <| qB rfl <| q9 (qi rfl rfl) <| q9 (qi rfl rfl) <| qG (qn) ?_
  rintro t13 _ ⟨b13, rfl, rfl⟩
  refine qS (qq rfl rfl (by simp) (by simp) (by exact wt _)) ?_
  refine qD rfl <| qo <| q9 (wS rfl (by simp)) ?_
  refine qS (qq rfl rfl (by simp) (by simp) (by exact wt _)) ?_
  refine qF <| qz <| wF (C :: F) (.inl rfl) rfl (zX rfl (by simp)) ?_
  exact ⟨by rw [← hl, Wf hpl], rfl⟩
end
end Go.Proofs.YtjikpomndbkfgaaGreatDoor
