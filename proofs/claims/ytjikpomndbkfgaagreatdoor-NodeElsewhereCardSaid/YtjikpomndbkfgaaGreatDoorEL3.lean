/- NodeElsewhere: for every input that the statement's row lets in the law answers true and its arguments read as before; conditions: none beyond the row's own (part 3; joined, pruned and shortened by a program of the prover's own: names of two letters stand for longer ones.) -/
import Derived.Test.YtjikpomndbkfgaaGreatDoorEL2
import Derived.Orders
import Derived.Laws.Externs
import Derived.MapKept
set_option linter.all false
set_option linter.unusedVariables false
set_option linter.unusedSimpArgs false
set_option linter.unusedSectionVars false
namespace Go.Proofs.YtjikpomndbkfgaaGreatDoor
open Go Go.Sx Go.Nd
variable {w0 : World} {L F : Res}
set_option maxRecDepth 10000
def KL {β : Type} (g f : Int → Option β) : Int → Option β := fun k => match g k with | some v => some v | none => f k
theorem mapsCopy_ok (md mf : Nat) (od oof : Obj) (f g : Int → Option Sec) (hd : MapF (Value.int .i64) kf f od) (hf : MapF (Value.int .i64) kf g oof) :
    FnT Tryz.prog w0 39 #[.map (some md), .map (some mf)] ([(md, od)] :: [(mf, oof)] :: F)
      (fun v L' => v = .tuple #[] ∧ ∃ od', MapF (Value.int .i64) kf (KL g f) od' ∧ L' = [(md, od')] :: [(mf, oof)] :: F) := by
  obtain ⟨al, hal, hag⟩ := hf
  refine FnT.enter (E0 := [(0, _), (1, _)]) (N := 16) Tryz.func39 rfl rfl rfl rfl ?_
  refine Tr.seq <| Tr.region <| q9 (qA rfl) <| qF (jW (r := mf) rfl hal) ?_
  rintro t7 _ ⟨it, io, rfl, hio, rfl⟩
  refine qB <| QAt.seq <| Tr.block <| wB (Γ := {pΓ : (List Nat) × (Obj) × (Obj) × (Int → Option Sec) // (fun (vis : List Nat) (io : Obj) (oo : Obj) (h : Int → Option Sec) => IterOk mf oof al.length vis io ∧ MapF (Value.int .i64) kf h oo ∧ (∀ k, (kC al vis k → h k = g k) ∧ (¬ kC al vis k → h k = f k))) pΓ.1 pΓ.2.1 pΓ.2.2.1 pΓ.2.2.2}) (fun g => (fun (vis : List Nat) (io : Obj) (oo : Obj) (h : Int → Option Sec) => [(0, .map (some md)), (7, .pointer (some ⟨it, 0, none⟩))]) g.1.1 g.1.2.1 g.1.2.2.1 g.1.2.2.2) (fun g => (fun (vis : List Nat) (io : Obj) (oo : Obj) (h : Int → Option Sec) => [(it, io)] :: [(md, oo)] :: [(mf, oof)] :: F) g.1.1 g.1.2.1 g.1.2.2.1 g.1.2.2.2) (fun g => (fun (vis : List Nat) (io : Obj) (oo : Obj) (h : Int → Option Sec) => al.length - vis.length) g.1.1 g.1.2.1 g.1.2.2.1 g.1.2.2.2) ⟨([], io, od, f), by dsimp only; exact ⟨hio, hd, fun k => ⟨fun h => absurd h Qv, fun _ => rfl⟩⟩⟩ (qP _) ?_
  rintro ⟨⟨vis, io, oo, h⟩, hloop⟩
  replace hloop : IterOk mf oof al.length vis io ∧ MapF (Value.int .i64) kf h oo ∧ (∀ k, (kC al vis k → h k = g k) ∧ (¬ kC al vis k → h k = f k)) := hloop
  obtain ⟨hio, hd, hk⟩ := hloop
  show Tr _ _ _ ([(0, .map (some md)), (7, .pointer (some ⟨it, 0, none⟩))]) ([(it, io)] :: [(md, oo)] :: [(mf, oof)] :: F) _ _
  refine Tr.seq <| Tr.region <| qF (js (r := mf) (ob := oof) (vis := vis) rfl (fun w hw => Own.get hw (inferInstance : At _ mf oof _)) hal hio) ?_
  rintro t8 _ (⟨rfl, hfin, rfl⟩ | ⟨i, q, io', rfl, hq, hni, hio', rfl⟩)
  ·
   refine q9 (qR rfl rfl) <| qB <| QAt.seq <| Tr.seq <| wD rfl <| Tr.exit <| qX <| qY <| qS <| ye ([(md, oo)] :: [(mf, oof)] :: F) (.inr rfl) rfl  <| ⟨rfl, oo, hd.congr fun k => ?_, rfl⟩
   have hsf := Q2 hio hfin k
   unfold KL
   by_cases hs : kC al vis k
   · obtain ⟨v, hv⟩ := hsf.1 hs
     rw [(hk k).1 hs, ← hag, hv]
   · rw [(hk k).2 hs]
     cases hg : g k with
     | none => rfl
     | some v => exact absurd (hsf.2 ⟨v, by rw [hag, hg]⟩) hs
  ·
   refine q9 (qR rfl rfl) <| qB <| QAt.seq <| Tr.seq <| ww rfl <| Tr.skip <| QAt.seq <| Tr.block <| Tr.seq <| Tr.region <| q9 (jY (r := mf) (ob := oof) (vis := vis) rfl (fun w hw => Own.get hw (inferInstance : At _ mf oof _)) hal hio' hq) ?_
   refine q9 (qR rfl rfl) <| q9 (qR rfl rfl) <| qF (qV) ?_
   rintro t5 _ ⟨b5, rfl, rfl⟩
   refine q9 (qC rfl) <| qK (qW rfl rfl (by simp) (by simp) (wS _)) ?_
   refine qB <| QAt.seq <| Tr.region <| q9 (qA rfl) <| q9 (qA rfl) <| q9 (w7 rfl (by simp)) ?_
   refine zY (wu (r := md) (q := q.1) (v := q.2) rfl rfl rfl hd) ?_
   rintro _ _ ⟨oo', hoo', rfl⟩
   refine qB <| QAt.block <| qh ⟨(vis ++ [i], io', oo', upd h q.1 (some q.2)), ?_⟩ ?_ ?_
   ·
    try dsimp only
    refine ⟨hio', hoo', fun k => ?_⟩
    rw [yd hq]
    by_cases hkq : k = q.1
    · subst hkq
      rw [wx]
      exact ⟨fun _ => by rw [← hag, xI hal.nodup (List.mem_of_getElem? hq)], fun hn => absurd (.inr rfl) hn⟩
    · rw [wI _ _ hkq]
      exact ⟨fun hs => (hk k).1 (hs.resolve_right hkq), fun hn => (hk k).2 (fun hs => hn (.inl hs))⟩
   ·
    try dsimp only
    have := hio'.lt i (by simp)
    have h1 := yJ (l2 := List.range al.length) hio'.nodup (fun x hx => List.mem_range.2 (hio'.lt x hx))
    simp at h1 ⊢
    omega
   · (try dsimp only); exact qP _
instance (l : List Int) : Decidable (IsB l) := by unfold IsB; infer_instance
def ze (s : Sec) (k : Nat) (m : List Int) : Sec := if h : k + m.length ≤ 128 ∧ IsB m then s.put k m h.1 h.2 else s
def jD (n : NS) (g : Int → Option Sec) : List (Int × Int × Int) → List Int → (Int → Option Sec) → Option (Int → Option Sec)
  | [], _, f => some f
  | q :: l, bs, f => match blk n g q.1 with
    | none => none
    | some s => jD n g l (bs.drop (q.2.2 - q.2.1).toNat) (upd f q.1 (some (ze s q.2.1.toNat (bs.take (q.2.2 - q.2.1).toNat))))
def jC (n : NS) (g : Int → Option Sec) (a : Int) (bs : List Int) : Int × NS :=
  if kE a bs.length ≠ 0 ∨ bs.length = 0 then (kE a bs.length, n)
  else match jD n g (kN a bs.length) bs (fun _ => none) with
    | some f => (0, { n with data := KL f n.data, size := max n.size (a + bs.length) })
    | none => (20, n)
theorem Wz {n : NS} {g : Int → Option Sec} {a : Int} {bs : List Int} (h : kE a bs.length ≠ 0 ∨ bs.length = 0) : jC n g a bs = (kE a bs.length, n) := by unfold jC; rw [if_pos h]
theorem XQ {n : NS} {g : Int → Option Sec} {a : Int} {bs : List Int} {l : List (Int × Int × Int)} (h : ¬ (kE a bs.length ≠ 0 ∨ bs.length = 0)) (hl : kN a bs.length = l) (hT : jD n g l bs (fun _ => none) = none) : jC n g a bs = (20, n) := by
  unfold jC; rw [if_neg h, hl, hT]
theorem XP {n : NS} {g : Int → Option Sec} {a : Int} {bs : List Int} {l : List (Int × Int × Int)} {f : Int → Option Sec} (h : ¬ (kE a bs.length ≠ 0 ∨ bs.length = 0)) (hl : kN a bs.length = l) (hT : jD n g l bs (fun _ => none) = some f) :
    jC n g a bs = (0, { n with data := KL f n.data, size := max n.size (a + bs.length) }) := by
  unfold jC; rw [if_neg h, hl, hT]
theorem jP {s : Sec} {k : Nat} {m : List Int} (h1 : k + m.length ≤ 128) (h2 : IsB m) : ze s k m = s.put k m h1 h2 := by unfold ze; rw [dif_pos ⟨h1, h2⟩]
theorem Jy {a n : Int} (ha : 0 ≤ a) : ∀ (m : List (Int × Int × Int)), (∀ z ∈ m, z ∈ kN a n) → 0 ≤ yi m := by
  intro m
  induction m with
  | nil => intro _; exact Int.le_refl _
  | cons q m ih =>
    intro h
    have h1 := QF ha (h q (by simp))
    have h2 := ih (fun z hz => h z (by simp [hz]))
    simp only [yi]; omega
theorem XU (s : Sec) (k : Nat) (m : List Int) (h : k + m.length ≤ 128) (hm : IsB m) : (wW s).take k ++ u8s m ++ (wW s).drop (k + (u8s m).length) = wW (s.put k m h hm) := by
  simp only [wW, Sec.put, xw, yH, jR, Qw, WO]
theorem Reads.first {L : Res} {q : Option Addr} {m c k : Nat} {ys : List Int} (h : Reads w0 L (.slice q m c) m 1 (u8s ys)) (hk : k ≤ m) (w : World) (hw : Own w0 L w) {P : Program} : (Builtin.firstCells 1 k (.slice q m c)).run P w = .ok (u8s (ys.take k)).toArray w := by
  obtain ⟨p, c', e, hlen, hor⟩ := h.h
  cases e
  rcases hor with h0 | ⟨b, off, cs, et, fr, rfl, hm, hy⟩
  · have hk0 : k = 0 := by omega
    subst hk0
    cases q <;> rfl
  · simp only [Builtin.firstCells]
    rw [Nat.mul_one]
    refine YM (hw.at_ _ hm) ?_ (by simp at hlen ⊢; omega)
    rw [← jR, ← hy, List.take_take]; congr 1; omega
theorem Reads.dropB {L : Res} {q : Option Addr} {m c k : Nat} {ys : List Value} (h : Reads w0 L (.slice q m c) m 1 ys) (hk : k ≤ m) (hc : m ≤ c) :
    Reads w0 L (.slice (if c = k then q else q.map (·.add (k * 1))) (m - k) (c - k)) (m - k) 1 (ys.drop k) := by
  obtain ⟨p, c', e, hlen, hor⟩ := h.h
  cases e
  refine ⟨_, _, rfl, by simp [hlen], ?_⟩
  rcases hor with h0 | ⟨b, off, cs, et, fr, rfl, hm, hy⟩
  · exact .inl (by omega)
  · by_cases hck : c = k
    · exact .inl (by omega)
    · refine .inr ⟨b, off + k, cs, et, fr, ?_, hm, ?_⟩
      · rw [if_neg hck]; simp [yP]
      · rw [← hy, List.drop_take, List.drop_drop]; congr 1; omega
theorem yo {α : Type} {l : List α} {i : Nat} {q : α} (h : l[i]? = some q) : l.drop i = q :: l.drop (i + 1) := by
  have hlt := (List.getElem?_eq_some_iff.1 h).1
  rw [List.drop_eq_getElem_cons hlt, (List.getElem?_eq_some_iff.1 h).2]
theorem xu (p : Nat) (n : NS) (Cn D : qM) (hn : NodeC p n Cn) (a : Int) (q : Option Addr) (c : Nat) (bs : List Int) (rv : Value) (g : Int → Option Sec) (hr : YJ rv D g) (hsz : 0 ≤ n.size ∧ n.size ≤ 136192) (ha : -9223372036854775808 ≤ a ∧ a ≤ 9223372036854775807) (hbs : IsB bs) (hlen : (bs.length : Int) ≤ 9223372036854775807) (hc : bs.length ≤ c)
    (hq : q = none → bs.length = 0) (hb : ∀ A : Res, Reads w0 (A ++ F) (.slice q bs.length c) bs.length 1 (u8s bs)) :
    FnT Tryz.prog w0 12 #[.pointer (some ⟨p, 0, none⟩), .int .i64 a, .slice q bs.length c, rv] (Cn :: D :: F)
      (fun v L' => ∃ Cn', v = .int .i64 (jC n g a bs).1 ∧ NodeC p (jC n g a bs).2 Cn' ∧ L' = Cn' :: D :: F) := by
  obtain ⟨ma, md, ms, oa, od, os, u, C, hM, hCn⟩ := hn.eq
  unfold wz at hCn
  refine FnT.enter (E0 := [(0, _), (1, _), (2, _), (3, _)]) (N := 88) Tryz.func12 rfl rfl rfl rfl ?_
  refine Tr.seq <| Tr.region <| q9 (qC rfl) <| qB <| QAt.seq <| Tr.seq <| Tr.region <| q9 (qA rfl) <| q9 (qA rfl) <| q9 (qg rfl) <| qF (qn rfl (Jw a bs.length ha (by omega))) ?_
  rintro t21 _ ⟨uc, Cc, rfl, rfl, hcu⟩
  refine q9 (qA rfl) <| q9 (qR rfl rfl) <| q9 (qR rfl rfl) <| q9 (qC rfl) <| q9 (qC rfl) <| qB <| QAt.seq <| Tr.seq <| Tr.seq <| Tr.region <| q9 (qA rfl) <| q9 (wZ rfl rfl) <| q9 (qA rfl) <| qN (s := 26) rfl (fun hg2_2 => ?_) (fun hg2_2 => ?_)
  ·
   refine qH rfl rfl rfl <| qH rfl rfl rfl <| qH rfl rfl rfl <| q9 (qT rfl rfl) <| qB <| QAt.seq <| ww rfl <| Tr.seq <| Tr.region <| q9 (qA rfl) <| q9 (qC rfl) <| qB <| QAt.seq <| Tr.ret <| qe <| qs (Cn :: D :: F) (.inl rfl) rfl (qd rfl) ?_
   exact ⟨Cn, by rw [Wz (by first | exact .inl hg2_2 | (exact .inr (by omega)))], by rw [Wz (by first | exact .inl hg2_2 | (exact .inr (by omega)))]; exact hn, rfl⟩
  ·
   refine qE rfl rfl (qA rfl) <| qE rfl rfl (qg rfl) <| qE rfl rfl (wR rfl rfl) <| q9 (qL rfl rfl) <| qB <| QAt.seq <| qI rfl (fun hc2 => ?_) (fun hc2 => ?_)
   ·
    refine Tr.seq <| Tr.region <| q9 (qA rfl) <| q9 (qC rfl) <| qB <| QAt.seq <| Tr.ret <| qe <| qs (Cn :: D :: F) (.inl rfl) rfl (qd rfl) ?_
    exact ⟨Cn, by rw [Wz (by first | exact .inl hg2_2 | (exact .inr (by omega)))], by rw [Wz (by first | exact .inl hg2_2 | (exact .inr (by omega)))]; exact hn, rfl⟩
   ·
    refine Tr.skip <| QAt.seq <| Tr.seq <| Tr.region <| qF (k8) ?_
    rintro t32 _ ⟨b32, rfl, rfl⟩
    refine q9 (qC rfl) <| qB ?_
    have hE : kE a bs.length = 0 := by simpa using hg2_2
    have hne : ¬ (kE a bs.length ≠ 0 ∨ bs.length = 0) := by simp only [hE, ne_eq, not_true, false_or]; omega
    rw [hE, if_pos rfl] at hcu
    have hb0 : 0 ≤ a ∧ a + bs.length ≤ 136192 := by unfold kE at hE; split at hE <;> first | (cases hE; done) | (split at hE <;> first | (cases hE; done) | omega)
    obtain ⟨l, hl⟩ : ∃ l, kN a bs.length = l := ⟨_, rfl⟩
    have hll := K5 a bs.length
    have hsum := Jx (a := a) (n := bs.length) (by omega)
    rw [hl] at hcu hll hsum
    obtain ⟨qc, cc, rfl⟩ := hcu.slice
    refine QAt.seq <| Tr.seq <| Tr.region <| q9 (qA rfl) <| q9 (qC rfl) <| qB <| QAt.seq <| Tr.seq <| Tr.seq <| Tr.region <| q9 (qA rfl) <| q9 (qg rfl) <| q9 (qA rfl) <| qB <| QAt.seq <| Tr.block <| wB (Γ := {pΓ : (Nat) × (Obj) × (Int → Option Sec) × (List Int) × (Option Addr) × (Nat) × (Nat) // (fun (i : Nat) (mo : Obj) (f : Int → Option Sec) (rb : List Int) (ql : Option Addr) (nl : Nat) (cl : Nat) => i ≤ l.length ∧ MapF (Value.int .i64) kf f mo ∧ jD n g (l.drop i) rb f = jD n g l bs (fun _ => none) ∧ yi (l.drop i) = rb.length ∧ IsB rb ∧ rb.length = nl ∧ nl ≤ cl ∧ (∀ A : Res, Reads w0 (A ++ F) (.slice ql nl cl) nl 1 (u8s rb))) pΓ.1 pΓ.2.1 pΓ.2.2.1 pΓ.2.2.2.1 pΓ.2.2.2.2.1 pΓ.2.2.2.2.2.1 pΓ.2.2.2.2.2.2}) (fun g => (fun (i : Nat) (mo : Obj) (f : Int → Option Sec) (rb : List Int) (ql : Option Addr) (nl : Nat) (cl : Nat) => [(0, .pointer (some ⟨p, 0, none⟩)), (1, .int .i64 a), (2, .slice q bs.length c), (3, rv), (11, .map (some b32)), (12, .slice ql nl cl), (34, .slice qc l.length cc), (35, .int .i64 l.length), (36, .int .i64 i)]) g.1.1 g.1.2.1 g.1.2.2.1 g.1.2.2.2.1 g.1.2.2.2.2.1 g.1.2.2.2.2.2.1 g.1.2.2.2.2.2.2) (fun g => (fun (i : Nat) (mo : Obj) (f : Int → Option Sec) (rb : List Int) (ql : Option Addr) (nl : Nat) (cl : Nat) => [(b32, mo)] :: Cc :: Cn :: D :: F) g.1.1 g.1.2.1 g.1.2.2.1 g.1.2.2.2.1 g.1.2.2.2.2.1 g.1.2.2.2.2.2.1 g.1.2.2.2.2.2.2) (fun g => (fun (i : Nat) (mo : Obj) (f : Int → Option Sec) (rb : List Int) (ql : Option Addr) (nl : Nat) (cl : Nat) => l.length - i) g.1.1 g.1.2.1 g.1.2.2.1 g.1.2.2.2.1 g.1.2.2.2.2.1 g.1.2.2.2.2.2.1 g.1.2.2.2.2.2.2) ⟨(0, _, fun _ => none, bs, q, bs.length, c), by dsimp only; exact ⟨by omega, kA _ _, rfl, hsum, hbs, rfl, hc, hb⟩⟩ (qP _) ?_
    rintro ⟨⟨i, mo, f, rb, ql, nl, cl⟩, hloop⟩
    replace hloop : i ≤ l.length ∧ MapF (Value.int .i64) kf f mo ∧ jD n g (l.drop i) rb f = jD n g l bs (fun _ => none) ∧ yi (l.drop i) = rb.length ∧ IsB rb ∧ rb.length = nl ∧ nl ≤ cl ∧ (∀ A : Res, Reads w0 (A ++ F) (.slice ql nl cl) nl 1 (u8s rb)) := hloop
    obtain ⟨hi, hmo, hw, hps, hrb, hnl, hcl, hrl⟩ := hloop
    show Tr _ _ _ ([(0, .pointer (some ⟨p, 0, none⟩)), (1, .int .i64 a), (2, .slice q bs.length c), (3, rv), (11, .map (some b32)), (12, .slice ql nl cl), (34, .slice qc l.length cc), (35, .int .i64 l.length), (36, .int .i64 i)]) ([(b32, mo)] :: Cc :: Cn :: D :: F) _ _
    refine Tr.seq <| Tr.region <| q9 (qv rfl rfl) <| qB <| QAt.seq <| Tr.seq <| qI rfl (fun hc7 => ?_) (fun hc7 => ?_)
    ·
     refine Tr.skip <| QAt.seq <| Tr.seq <| Tr.block <| Tr.seq ?_
     obtain ⟨w, hw1⟩ : ∃ w, l[i]? = some w := ⟨_, List.getElem?_eq_getElem (by omega)⟩
     have hrg := QF (a := a) (n := bs.length) hb0.1 (hl ▸ List.mem_of_getElem? hw1)
     rw [yo hw1] at hw hps
     simp only [yi] at hps
     have hpn := Jy (a := a) (n := bs.length) hb0.1 (l.drop (i + 1)) (fun z hz => hl ▸ List.mem_of_mem_drop hz)
     refine Tr.region <| qF (zO (j := i) rfl rfl hcu (by omega) (by omega)) ?_
     rintro t38 _ ⟨b, cap, spare, hqc, rfl, hcap, hnc, rfl, rfl⟩
     refine q9 (wk (j := i) yg rfl hw1 rfl) <| qF (qV) ?_
     rintro t14 _ ⟨b14, rfl, rfl⟩
     refine qK (qW (l := [Value.int .i64 0, Value.int .i64 0, Value.int .i64 0]) rfl rfl rfl rfl rfl) <| qB <| QAt.seq <| Tr.seq <| Tr.region <| q9 (qA rfl) <| q9 (qD rfl) <| q9 (qG rfl rfl) <| q9 (qA rfl) <| q9 (qw rfl (yc (Cn) (D) (KB p n Cn D hn w.1 rv g hr))) <| q9 (qA rfl) <| q9 (qR rfl rfl) <| q9 (qR rfl rfl) <| qF (qV) ?_
     rintro t15 _ ⟨b15, rfl, rfl⟩
     refine qK (qW rfl rfl (by simp) (by simp) (wS _)) ?_
     refine q9 (qC rfl) <| qB <| QAt.seq <| Tr.seq <| Tr.seq <| Tr.region <| q9 (qA rfl) <| q9 (wZ rfl rfl) <| qB <| QAt.seq <| qI rfl (fun hc10 => ?_) (fun hc10 => ?_)
     ·
      have hbk : blk n g w.1 = none := by
        cases h : blk n g w.1 with
        | none => rfl
        | some s => rw [h] at hc10; exact absurd rfl hc10
      refine Tr.seq <| Tr.region <| q9 (qA rfl) <| q9 (qC rfl) <| qB <| QAt.seq <| Tr.ret <| qe <| qu <| qe <| yb <| qu <| qe <| qs (Cn :: D :: F) (.inl rfl) rfl (qd rfl) ?_
      have hT : jD n g l bs (fun _ => none) = none := by rw [← hw]; simp only [jD, hbk]
      exact ⟨Cn, by rw [XQ hne hl hT, hbk]; rfl, by rw [XQ hne hl hT]; exact hn, rfl⟩
     ·
      obtain ⟨s, hbk⟩ : ∃ s, blk n g w.1 = some s := by
        cases h : blk n g w.1 with
        | none => rw [h] at hc10; exact absurd (by decide) hc10
        | some s => exact ⟨s, rfl⟩
      rw [hbk]
      obtain ⟨qa, hqa⟩ : ∃ qa : Nat, w.2.1 = qa := ⟨w.2.1.toNat, by omega⟩
      obtain ⟨qb, hqb⟩ : ∃ qb : Nat, w.2.2 = qb := ⟨w.2.2.toNat, by omega⟩
      have htk : (rb.take (qb - qa)).length = qb - qa := by simp; omega
      have htb : IsB (rb.take (qb - qa)) := fun z hz => hrb z (List.mem_of_mem_take hz)
      refine Tr.skip <| QAt.seq <| Tr.seq <| Tr.region <| q9 (qD rfl) <| q9 (qG rfl (show wG (yh w) 1 = some (.int .i64 qa) by rw [← hqa]; rfl)) <| q9 (qD rfl) <| q9 (qG rfl (show wG (yh w) 2 = some (.int .i64 qb) by rw [← hqb]; rfl)) <| q9 (k7 (l := qa) (h := qb) (kl := .i64) (kh := .i64) rfl rfl rfl (by omega) (by omega)) <| q9 (qA rfl) <| q9 (Xa (b := b15) (off := qa) (n := qb - qa) (c := 128 - qa) (m := nl) (k := qb - qa) (sz := 1) (ys := u8s (rb.take (qb - qa))) (r := wW (s.put qa (rb.take (qb - qa)) (by omega) htb)) (by rw [← Wj qa qb (by omega)]; rfl) rfl (by omega) (fun w => by simp [Builtin.lenOf]) (fun w hw => Reads.first (hrl [_, _, _, _, _, _]) (by omega) w hw) (jp _) (by simp; omega) (XU s qa _ (by omega) htb)) ?_
      refine qB <| QAt.seq <| Tr.seq <| Tr.region <| q9 (qA rfl) <| q9 (qD rfl) <| q9 (qG rfl (show wG (yh w) 2 = some (.int .i64 qb) by rw [← hqb]; rfl)) <| q9 (qD rfl) <| q9 (qG rfl (show wG (yh w) 1 = some (.int .i64 qa) by rw [← hqa]; rfl)) <| q9 (zV rfl rfl (by omega)) <| q9 (kk (kl := .i64) (kh := .i64) (l := qb - qa) (h := nl) rfl (by show some (Value.int .i64 ((qb : Int) - qa)) = _; rw [show ((qb : Int) - qa) = ((qb - qa : Nat) : Int) from by omega]) rfl (by omega) (by omega) (by omega)) ?_
      refine q9 (qC rfl) <| qB <| QAt.seq <| Tr.region <| q9 (qA rfl) <| q9 (qD rfl) <| q9 (qG rfl rfl) <| q9 (w7 rfl (by simp)) ?_
      refine zY (wu (r := b32) (q := w.1) (v := s.put qa (rb.take (qb - qa)) (by omega) htb) rfl rfl rfl hmo) ?_
      rintro _ _ ⟨mo', hmo', rfl⟩
      refine qB <| QAt.block <| QAt.seq <| Tr.region <| q9 (qj rfl rfl (by omega)) <| q9 (qA rfl) <| qB <| qh ⟨(i + 1, mo', upd f w.1 (some (s.put qa (rb.take (qb - qa)) (by omega) htb)), rb.drop (qb - qa), _, nl - (qb - qa), cl - (qb - qa)), ?_⟩ ?_ ?_
      ·
       try dsimp only
       refine ⟨by omega, hmo', ?_, by rw [List.length_drop]; omega, fun z hz => hrb z (List.mem_of_mem_drop hz), by rw [List.length_drop]; omega, by omega, fun A => by have := Reads.dropB (hrl A) (k := qb - qa) (by omega) (by omega); rw [Qw] at this; exact this⟩
       rw [← hw]
       simp only [jD, hbk]
       rw [hqa, hqb, show (qb - qa : Int).toNat = qb - qa from by omega, Int.toNat_natCast, jP]
      · (try dsimp only); omega
      · (try dsimp only); exact qP _
    ·
     refine Tr.exit <| qX <| qY <| qS <| QAt.seq <| Tr.seq ?_
     rw [List.drop_of_length_le (by omega)] at hw
     refine yW (wH (L' := [(b32, mo)] :: Cc :: [(p, .cells [.int .u32 n.num, .int .u32 n.ver, .int .i64 n.kind, .int .i64 n.size, .int .u32 n.time, .map (some ma), .map (some md), .map (some ms), u].toArray 90 (0, 0))] :: [(ma, oa)] :: [(md, od)] :: [(ms, os)] :: C :: D :: F) (by rw [hCn]; simp)) ?_
     refine Tr.region <| q9 (qA rfl) <| q9 (qJ rfl) <| q9 (qD rfl) <| q9 (qG rfl rfl) <| q9 (qA rfl) <| qF (qn rfl (k5 ([(md, od)]) ([(b32, mo)]) (mapsCopy_ok md b32 od mo n.data f hM.d hmo))) ?_
     rintro t75 _ ⟨rfl, od', hod', rfl⟩
     refine qB <| QAt.seq <| Tr.seq <| Tr.region <| q9 (qA rfl) <| q9 (qA rfl) <| q9 (qJ rfl) <| q9 (qD rfl) <| q9 (qG rfl rfl) <| q9 (qA rfl) <| q9 (qA rfl) <| q9 (qg rfl) <| q9 (qj rfl rfl (by omega)) <| q9 (JI rfl rfl) <| q9 (qJ rfl) <| q9 (qD rfl) <| qK (wX rfl rfl rfl) <| qB <| QAt.seq <| Tr.seq <| Tr.region <| q9 (qC rfl) <| qB <| z8 (qP ([(p, .cells [.int .u32 n.num, .int .u32 n.ver, .int .i64 n.kind, .int .i64 (max n.size (a + bs.length)), .int .u32 n.time, .map (some ma), .map (some md), .map (some ms), u].toArray 90 (0, 0))] :: [(ma, oa)] :: [(md, od')] :: [(ms, os)] :: C :: D :: F)) <| z8 (wH (L' := ((p, .cells [.int .u32 n.num, .int .u32 n.ver, .int .i64 n.kind, .int .i64 (max n.size (a + bs.length)), .int .u32 n.time, .map (some ma), .map (some md), .map (some ms), u].toArray 90 (0, 0)) :: (ma, oa) :: (md, od') :: (ms, os) :: C) :: D :: F) (by simp)) ?_
     refine QAt.seq <| Tr.ret <| zW (.inl rfl) rfl (qd rfl) ?_
     exact ⟨_, by rw [XP hne hl hw.symm], by rw [XP hne hl hw.symm]; exact ⟨ma, md, ms, oa, od', os, u, C, rfl, hM.a, hod', hM.s, hM.g⟩, rfl⟩
end Go.Proofs.YtjikpomndbkfgaaGreatDoor
namespace Go.Sx
open Go
def Qn (Q : Exit → Act → World → Prop) : Exit → Act → World → Prop
  | .normal, a, w => Q .normal a w
  | _, _, _ => False
theorem Xo {Q : Exit → Act → World → Prop} (h : LetsOut (Qn Q)) : False := by obtain ⟨a, w, h⟩ := h; exact h
theorem calls_endings {P : Program} {f : FuncId} {args : Array Value} {w : World} {R R' : Ending → World → Prop} (h : Calls P f args w R) (hR : ∀ e w, R e w → R' e w) : Calls P f args w R' := h.mono hR
theorem wp_qn {P : Program} {o : Oper} {a : Act} {w : World} {K K' : Act → World → Prop} {Q : Exit → Act → World → Prop} (hK : ∀ a w, K a w → K' a w) (h : o.wp P a w K (Qn Q)) : o.wp P a w K' Q := by
  unfold Oper.wp at *
  generalize (execOp a.eval o).run P w = r at *
  cases r with
  | ok n w' =>
    cases n <;> simp only [Oper.upon] at h ⊢ <;> first
      | exact hK _ _ h
      | exact h.elim
      | (refine calls_endings h fun e w'' hr => ?_
         cases e with
         | returned v => exact hK _ _ hr
         | panicked c => exact hr.elim
         | outgrown => exact (Xo hr).elim)
      | exact Rows.mono h (fun v w h => hK _ _ h)
      | exact h.mono (fun v w h => hK _ _ h)
  | halt x w' => cases x <;> simp only [Oper.upon] at h ⊢ <;> first | exact h.elim | exact h
theorem any_qn {P : Program} {ops : Array Oper} {Q : Exit → Act → World → Prop} : ∀ (fuel : Nat) (ls : Array Bool) (a : Act) (w : World), wpAny P .any ops (Qn Q) fuel ls a w → wpAny P .any ops Q fuel ls a w := by
  intro fuel
  induction fuel with
  | zero => intro ls a w h; exact ⟨h.1, h.2⟩
  | succ fuel ih =>
    intro ls a w h
    refine ⟨fun hn => h.1 hn, fun i hi => ?_⟩
    have := h.2 i hi
    unfold wpOp at this ⊢
    split
    · rename_i hn; simp only [hn] at this; exact ih _ _ _ this
    · rename_i o ho
      simp only [ho] at this
      split
      · rename_i hw
        rw [if_pos hw] at this
        rcases this with h1 | ⟨_, h2⟩
        · exact .inl (wp_qn (fun a w h => ih _ a w h) h1)
        · exact (Xo h2).elim
      · rename_i hw
        rw [if_neg hw] at this
        exact ih _ _ _ this
section
variable (P : Program) (N : Nat) (w0 : World)
structure TrS (ops : List Oper) (ls : List Bool) (E : Env) (L : Res) (Q : Exit → Act → World → Prop) : Prop where
  h : ∀ a w, EnvOk N E a → Own w0 L w → ∀ fuel, ls.count false ≤ fuel → wpAny P .any ops.toArray (Qn Q) fuel ls.toArray a w
end
section
variable {P : Program} {N : Nat} {w0 : World} {E : Env} {L : Res} {Q : Exit → Act → World → Prop}
theorem yL {id : Nat} {ops : List Oper} (hm : P.follows .mixedOrders = true) (h : TrS P N w0 ops (List.replicate ops.length false) E L Q) : Tr P N w0 E L (.region id ops.toArray true) Q :=
  ⟨fun a w ha hw => by
    refine wp_region_any hm ?_
    have := h.h a _ ha (hw.draw (w.drawn + 1) (Nat.le_succ _)) ops.length (by simp)
    have h2 := any_qn _ _ _ _ this
    simpa using h2⟩
theorem qy {ops : List Oper} {ls : List Bool} (hr : Region.ready .any ops.toArray ls.toArray = []) (h : QAt N w0 .normal E L Q) : TrS P N w0 ops ls E L Q :=
  ⟨fun a w ha hw fuel _ => wpAny_done (Q := Qn Q) hr (show Qn Q .normal a w from h.h a w ha hw) fuel⟩
theorem QH {ls : List Bool} {i : Nat} (h : ls[i]? = some false) : (ls.set i true).count false + 1 = ls.count false := by
  induction ls generalizing i with
  | nil => simp at h
  | cons b ls ih =>
    cases i with
    | zero => simp at h; subst h; simp
    | succ i =>
      have := ih (i := i) (by simpa using h)
      simp only [List.set_cons_succ, List.count_cons]
      omega
def OpY (P : Program) (N : Nat) (E : Env) (op : Op) (v : Value) : Prop := ∀ (o : Oper) (a : Act) (w : World), o.op = op → EnvOk N E a → (execOp a.eval o).run P w = .ok (.value v) w
theorem w6 {x : Operand} {v : Value} (hx : opv E x = some v) : OpY P N E (.move x) v := fun o a w h1 h3 => by rw [execOp, h1]; simp [h3.eval hx]
theorem wA {x : Operand} {v : Value} (hx : opv E x = some v) : OpY P N E (.assign x) v := fun o a w h1 h3 => by rw [execOp, h1]; simp [h3.eval hx]
theorem y0 {x : Operand} {a0 : Addr} (hx : opv E x = some (.pointer (some a0))) : OpY P N E (.nilCheck x) (.pointer (some a0)) := fun o a w h1 h3 => by rw [execOp, h1]; simp [h3.eval hx]
theorem qU {x : Operand} {vs : List Value} {i : Nat} {v : Value} (hx : opv E x = some (.tuple vs.toArray)) (hv : wG vs i = some v) : OpY P N E (.extract x i) v := fun o a w h1 h3 => by
  rw [wi] at hv
  rw [execOp, h1]; simp [h3.eval hx, Instr.extract, hv]
theorem wY {x : Operand} {t : TypeId} {i b off : Nat} [hf : TyField P t i off] (hx : opv E x = some (.pointer (some ⟨b, 0, none⟩))) : OpY P N E (.fieldAddr t x i) (.pointer (some ⟨b, off, none⟩)) := fun o a w h1 h3 => by
  rw [execOp, h1]; simp [h3.eval hx, hf.h]
theorem Wf {x : Operand} {t : TypeId} {i b o1 off : Nat} [hf : TyField P t i off] (hx : opv E x = some (.pointer (some ⟨b, o1, none⟩))) : OpY P N E (.fieldAddr t x i) (.pointer (some ⟨b, o1 + off, none⟩)) := fun o a w h1 h3 => by
  rw [execOp, h1]; simp [h3.eval hx, hf.h]
def Xv (ops : List Oper) (ls : List Bool) (i : Nat) : Bool := Region.noSelect ops.toArray && Region.free .any ops.toArray ls.toArray i && (Region.ready .any ops.toArray ls.toArray).contains i
theorem TrS.take {ops : List Oper} {ls ls' : List Bool} (i : Nat) {d : Nat} {op : Op} {ty : TypeId} {pos : String} {af : Array Edge} {v : Value} (hi : ops[i]? = some ⟨some d, op, ty, pos, af, none⟩) (hl : ls[i]? = some false) (hc : Xv ops ls i = true)
    (hls : ls.set i true = ls') (hy : OpY P N E op v) (next : TrS P N w0 ops ls' ((d, v) :: E) L Q) (hd : Nat.blt d N = true := by rfl) : TrS P N w0 ops ls E L Q :=
  ⟨fun a w ha hw fuel hf => by
    simp only [Xv, Bool.and_eq_true] at hc
    have hcnt := QH hl
    obtain ⟨f', rfl⟩ : ∃ f', fuel = f' + 1 := ⟨fuel - 1, by omega⟩
    have hset : ls.toArray.setIfInBounds i true = ls'.toArray := by rw [← hls]; simp
    refine wpAny_take (oi := ⟨some d, op, ty, pos, af, none⟩) (v := v) (by simpa using hi) hc.1.1 hc.1.2 hc.2 (fun _ _ _ h => h.elim) (.inl ⟨rfl, fun w => hy _ a w rfl ha⟩) ?_
    rw [hset]
    exact next.h _ w (ha.put (dst := some d) hd v) hw f' (by rw [← hls]; omega)⟩
structure TrB (P : Program) (N : Nat) (w0 : World) (ops : List Oper) (ls : List Bool) (i : Nat) (E : Env) (L : Res) (Q : Exit → Act → World → Prop) : Prop where
  h : ∀ a w, EnvOk N E a → Own w0 L w → ∀ fuel, ls.count false ≤ fuel + 1 → wpOp P ops.toArray (Qn Q) i (wpAny P .any ops.toArray (Qn Q) fuel (ls.toArray.setIfInBounds i true)) a w
theorem TrB.run {ops : List Oper} {ls ls' : List Bool} {i : Nat} {dst : Option Nat} {op : Op} {ty : TypeId} {pos : String} {af : Array Edge} {G : Value → Res → Prop} (hi : ops[i]? = some ⟨dst, op, ty, pos, af, none⟩) (hl : ls[i]? = some false) (hls : ls.set i true = ls')
    (hop : OpT P N w0 E L op ty G) (next : ∀ v L', G v L' → TrS P N w0 ops ls' (V9 dst v E) L' Q) (hd : Jv dst N = true := by rfl) : TrB P N w0 ops ls i E L Q :=
  ⟨fun a w ha hw fuel hf => by
    have hcnt := QH hl
    have hset : ls.toArray.setIfInBounds i true = ls'.toArray := by rw [← hls]; simp
    unfold wpOp
    rw [show ops.toArray[i]? = some ⟨dst, op, ty, pos, af, none⟩ from by simpa using hi]
    dsimp only
    rw [if_pos (show Region.wanted (⟨dst, op, ty, pos, af, none⟩ : Oper) (yielded ops.toArray a.tmps) = true from rfl), hset]
    refine .inl (hop.h _ a w rfl rfl ha hw _ _ fun v L' w' hg ho => ?_)
    exact (next v L' hg).h _ w' (ha.put hd v) ho fuel (by rw [← hls]; omega)⟩
theorem qp {ops : List Oper} {ls ls' : List Bool} {i d : Nat} {op : Op} {ty : TypeId} {pos : String} {af : Array Edge} {G : Value → Res → Prop} (hi : ops[i]? = some ⟨some d, op, ty, pos, af, none⟩) (hl : ls[i]? = some false) (hls : ls.set i true = ls')
    (hop : OpT P N w0 E L op ty G) (next : ∀ v L', G v L' → TrS P N w0 ops ls' ((d, v) :: E) L' Q) (hd : Nat.blt d N = true := by rfl) : TrB P N w0 ops ls i E L Q := TrB.run hi hl hls hop next hd
theorem qQ {ops : List Oper} {ls ls' : List Bool} {i d : Nat} {op : Op} {ty : TypeId} {pos : String} {af : Array Edge} {v : Value} {L' : Res} (hi : ops[i]? = some ⟨some d, op, ty, pos, af, none⟩) (hl : ls[i]? = some false) (hls : ls.set i true = ls')
    (hop : Op1 P N w0 E L op ty v L') (next : TrS P N w0 ops ls' ((d, v) :: E) L' Q) (hd : Nat.blt d N = true := by rfl) : TrB P N w0 ops ls i E L Q := TrB.run hi hl hls hop (fun _ _ ⟨e1, e2⟩ => by subst e1; subst e2; exact next) hd
theorem xN {ops : List Oper} {ls ls' : List Bool} {i : Nat} {op : Op} {ty : TypeId} {pos : String} {af : Array Edge} {G : Value → Res → Prop} (hi : ops[i]? = some ⟨none, op, ty, pos, af, none⟩) (hl : ls[i]? = some false) (hls : ls.set i true = ls')
    (hop : OpT P N w0 E L op ty G) (next : ∀ v L', G v L' → TrS P N w0 ops ls' E L' Q) : TrB P N w0 ops ls i E L Q := TrB.run hi hl hls hop next rfl
theorem w9 {ops : List Oper} {ls ls' : List Bool} {i : Nat} {op : Op} {ty : TypeId} {pos : String} {af : Array Edge} {v : Value} {L' : Res} (hi : ops[i]? = some ⟨none, op, ty, pos, af, none⟩) (hl : ls[i]? = some false) (hls : ls.set i true = ls')
    (hop : Op1 P N w0 E L op ty v L') (next : TrS P N w0 ops ls' E L' Q) : TrB P N w0 ops ls i E L Q := TrB.run hi hl hls hop (fun _ _ ⟨e1, e2⟩ => by subst e1; subst e2; exact next) rfl
theorem xM {ops : List Oper} {ls : List Bool} {i j k : Nat} (hr : Region.ready .any ops.toArray ls.toArray = [i, j, k]) (hl : ls[i]? = some false) (h1 : TrB P N w0 ops ls i E L Q) (h2 : TrB P N w0 ops ls j E L Q) (h3 : TrB P N w0 ops ls k E L Q) : TrS P N w0 ops ls E L Q :=
  ⟨fun a w ha hw fuel hf => by
    have hcnt := QH hl
    obtain ⟨f', rfl⟩ : ∃ f', fuel = f' + 1 := ⟨fuel - 1, by omega⟩
    refine wpAny_all hr (by simp) fun m hm => ?_
    simp only [List.mem_cons, List.not_mem_nil, or_false] at hm
    rcases hm with rfl | rfl | rfl
    · exact h1.h a w ha hw f' hf
    · exact h2.h a w ha hw f' hf
    · exact h3.h a w ha hw f' hf⟩
theorem TrS.one {ops : List Oper} {ls : List Bool} {i : Nat} (hr : Region.ready .any ops.toArray ls.toArray = [i]) (hl : ls[i]? = some false) (h : TrB P N w0 ops ls i E L Q) : TrS P N w0 ops ls E L Q :=
  ⟨fun a w ha hw fuel hf => by
    have hcnt := QH hl
    obtain ⟨f', rfl⟩ : ∃ f', fuel = f' + 1 := ⟨fuel - 1, by omega⟩
    refine wpAny_all hr (by simp) fun j hj => ?_
    obtain rfl := List.mem_singleton.1 hj
    exact h.h a w ha hw f' hf⟩
theorem wg {ops : List Oper} {ls : List Bool} {i j : Nat} (hr : Region.ready .any ops.toArray ls.toArray = [i, j]) (hl : ls[i]? = some false) (h1 : TrB P N w0 ops ls i E L Q) (h2 : TrB P N w0 ops ls j E L Q) : TrS P N w0 ops ls E L Q :=
  ⟨fun a w ha hw fuel hf => by
    have hcnt := QH hl
    obtain ⟨f', rfl⟩ : ∃ f', fuel = f' + 1 := ⟨fuel - 1, by omega⟩
    refine wpAny_all hr (by simp) fun k hk => ?_
    rcases List.mem_cons.1 hk with rfl | hk
    · exact h1.h a w ha hw f' hf
    · obtain rfl := List.mem_singleton.1 hk
      exact h2.h a w ha hw f' hf⟩
end
end Go.Sx
namespace Go.Proofs.YtjikpomndbkfgaaGreatDoor
open Go Go.Sx Go.Nd
variable {w0 : World} {L F : Res}
set_option maxRecDepth 10000
def srt (xs : List Int) : List Int := xs.mergeSort (fun a b => decide (a ≤ b))
structure j3 (w0 : World) : Prop where
  sort : ∀ (F : Res) (u : Value) (n : Nat) (xs : List Int) (C : qM), SlC 3 1 u n (iV xs) C → xs.length = n → n ≤ 1000000 →
    FnT Tryz.prog w0 51 #[u] (C :: F) (fun v L' => v = .tuple #[] ∧ ∃ C', SlC 3 1 u n (iV (srt xs)) C' ∧ L' = C' :: F)
  keys : ∀ (F : Res) (b md : Nat) (e : TypeId) (fr : Nat × Nat) (od : Obj) (f : Int → Option Sec), MapF (Value.int .i64) kf f od → (∀ k, f k ≠ none → 0 ≤ k ∧ k < 1064) →
    FnT Tryz.prog w0 49 #[.func (.func 90) [].toArray [.pointer (some ⟨b, 0, none⟩)].toArray] ([(b, .cells [Value.map (some md)].toArray e fr)] :: [(md, od)] :: F)
      (fun v L' => ∃ ks C, SlC 3 1 v ks.length (iV ks) C ∧ ks.Nodup ∧ (∀ k, k ∈ ks ↔ f k ≠ none) ∧ L' = C :: [(b, .cells [Value.map (some md)].toArray e fr)] :: [(md, od)] :: F)
theorem mapsKeys_ok (md : Nat) : FnT Tryz.prog w0 57 #[.map (some md)] F (fun v L' => ∃ b, v = .func (.func 90) [].toArray [.pointer (some ⟨b, 0, none⟩)].toArray ∧ L' = [(b, .cells [Value.map (some md)].toArray 42 (0, 0))] :: F) := by
  refine FnT.enter (E0 := [(0, _)]) (N := 4) Tryz.func57 rfl rfl rfl rfl ?_
  refine Tr.seq <| Tr.region <| qF (wT rfl) ?_
  rintro t1 _ ⟨b1, rfl, rfl⟩
  refine q9 (qC rfl) <| qB <| QAt.seq <| Tr.seq <| Tr.region <| q9 (wV rfl rfl) <| q9 (qC rfl) <| qB <| QAt.seq <| Tr.ret <| zW (.inl rfl) rfl (qd rfl) ?_
  exact ⟨_, rfl, rfl⟩
structure NOk (n : NS) : Prop where
  data : ∀ k, n.data k ≠ none → 0 ≤ k ∧ k < 1064
  at1 : ∀ k, n.at_ k ≠ none → (k.1 = 1 ∧ 0 ≤ k.2 ∧ k.2 < 1064) ∨ k = (2, 0) ∨ k = (3, 0) ∨ k = (4, 0) ∨ (k.1 = 5 ∧ 0 ≤ k.2 ∧ k.2 < 32)
  at2 : ∀ k a, n.at_ k = some a → 1 ≤ a ∧ a ≤ 65535
  stale : ∀ k, n.stale k ≠ none → (k.1 = 1 ∧ 0 ≤ k.2 ∧ k.2 < 1064) ∨ k = (2, 0) ∨ k = (3, 0) ∨ k = (4, 0) ∨ (k.1 = 5 ∧ 0 ≤ k.2 ∧ k.2 < 32)
def jb (n : NS) : List Int := ((List.range 1064).map (fun i : Nat => (i : Int))).filter (fun i => decide (jk n i))
theorem Jd {K V : Type} [DecidableEq K] {al : List (K × V)} {vis : List Nat} {i : Nat} {p : K × V} (hn : (zS al).Nodup) (hp : al[i]? = some p) (hi : i ∉ vis) : ¬ kC al vis p.1 := by
  rintro ⟨j, hj, v, hv⟩
  have h1 : (zS al)[i]? = (zS al)[j]? := by simp [zS, hp, hv]
  have hlt : i < (zS al).length := by have := (List.getElem?_eq_some_iff.1 hp).1; simpa [zS] using this
  exact hi ((List.getElem?_inj hlt hn).1 h1 ▸ hj)
theorem xB (m : Nat) : ((List.range m).map (fun i : Nat => (i : Int))).Pairwise (· < ·) := by
  rw [List.pairwise_map]
  exact List.pairwise_lt_range.imp (fun h => by omega)
theorem srt_eq {xs ys : List Int} (hx : xs.Nodup) (hy : ys.Pairwise (· < ·)) (h : ∀ k, k ∈ xs ↔ k ∈ ys) : srt xs = ys := by
  have hyn : ys.Nodup := hy.imp (fun h => Int.ne_of_lt h)
  have hp : (srt xs).Perm ys := (List.mergeSort_perm xs _).trans ((List.perm_ext_iff_of_nodup hx hyn).2 h)
  have hs : (srt xs).Pairwise (fun a b => decide (a ≤ b) = true) := List.pairwise_mergeSort (fun a b c h1 h2 => by simp at *; omega) (fun a b => by simp; omega) xs
  exact List.Perm.eq_of_pairwise (fun a b _ _ h1 h2 => by simp at h1 h2; omega) hs (hy.imp (fun h => by simp; omega)) hp
theorem mem_idxN {n : NS} (h : NOk n) (k : Int) : k ∈ jb n ↔ jk n k := by
  unfold jb
  rw [List.mem_filter, List.mem_map]
  simp only [List.mem_range, decide_eq_true_eq]
  constructor
  · exact fun h => h.2
  · intro hk
    refine ⟨?_, hk⟩
    have : 0 ≤ k ∧ k < 1064 := by
      rcases hk with hk | hk
      · exact h.data k (fun e => by rw [e] at hk; cases hk)
      · have := h.at1 (1, k) (fun e => by rw [e] at hk; exact hk rfl)
        simp at this; omega
    exact ⟨k.toNat, by omega, by omega⟩
theorem Y3 {xs : List Int} (h : xs.Nodup) (hr : ∀ k ∈ xs, 0 ≤ k ∧ k < 1064) : xs.length ≤ 1064 := by
  have := yJ (l2 := (List.range 1064).map (fun i : Nat => (i : Int))) h (fun x hx => by
    have := hr x hx
    exact List.mem_map.2 ⟨x.toNat, List.mem_range.2 (by omega), by omega⟩)
  simpa using this
theorem jL {m n : Nat} {mo o : Obj} {vis : List Nat} {i : Nat} (h : IterOk m mo n (vis ++ [i]) o) : n - (vis ++ [i]).length < n - vis.length := by
  have h1 := yJ (l2 := List.range n) h.nodup (fun x hx => List.mem_range.2 (h.lt x hx))
  simp at h1 ⊢; omega
theorem YK (xs : List Int) : (srt xs).length = xs.length := List.length_mergeSort xs
section
variable {n : NS} {al : List ((Int × Int) × Int)} {oa : Obj} {out : List Int} {vis : List Nat} {i : Nat} {q : (Int × Int) × Int}
theorem XZ (hok : NOk n) (hal : MapOk yU (Value.int .i64) al oa) (hag : ∀ k, zi al k = n.at_ k) {k : Int} (h : n.data k ≠ none ∨ kC al vis (1, k)) : 0 ≤ k ∧ k < 1064 := by
  rcases h with h | ⟨j, _, v, hv⟩
  · exact hok.data k h
  · have := hok.at1 (1, k) (by rw [← hag, xI hal.nodup (List.mem_of_getElem? hv)]; simp)
    simp at this; omega
theorem Z5 (hq : al[i]? = some q) (hmem : ∀ k, k ∈ out ↔ n.data k ≠ none ∨ kC al vis (1, k)) (h : ¬ q.1.1 = 1 ∨ (n.data q.1.2).isSome = true) : ∀ k, k ∈ out ↔ n.data k ≠ none ∨ kC al (vis ++ [i]) (1, k) := fun k => by
  rw [hmem, yd hq]
  constructor
  · rintro (h | h)
    · exact .inl h
    · exact .inr (.inl h)
  · rintro (h1 | h1 | h1)
    · exact .inl h1
    · exact .inr h1
    · rcases h with h | h
      · exact absurd (by rw [← h1]) h
      · refine .inl (fun e => ?_)
        rw [← h1, e] at h; cases h
theorem out_mem (hq : al[i]? = some q) (hmem : ∀ k, k ∈ out ↔ n.data k ≠ none ∨ kC al vis (1, k)) (h : n.data q.1.2 = none) (h1 : q.1.1 = 1) : ∀ k, k ∈ out ++ [q.1.2] ↔ n.data k ≠ none ∨ kC al (vis ++ [i]) (1, k) := fun k => by
  rw [List.mem_append, hmem, yd hq, List.mem_singleton, or_assoc]
  have : (1, k) = q.1 ↔ k = q.1.2 := by
    constructor
    · intro e; rw [← e]
    · intro e; rw [e]; exact Prod.ext h1.symm rfl
  rw [this]
theorem out_push (hal : MapOk yU (Value.int .i64) al oa) (hq : al[i]? = some q) (hni : ¬ i ∈ vis) (hnd : out.Nodup) (hmem : ∀ k, k ∈ out ↔ n.data k ≠ none ∨ kC al vis (1, k)) (h : n.data q.1.2 = none) (h1 : q.1.1 = 1) : (out ++ [q.1.2]).Nodup := by
  rw [List.nodup_append]
  refine ⟨hnd, by simp, fun a ha b hb => ?_⟩
  obtain rfl := List.mem_singleton.1 hb
  rintro rfl
  rcases (hmem _).1 ha with h2 | h2
  · exact h2 h
  · refine Jd hal.nodup hq hni ?_
    have : q.1 = (1, q.1.2) := Prod.ext h1 rfl
    rw [this]; exact h2
theorem idx_eq (hok : NOk n) (hal : MapOk yU (Value.int .i64) al oa) (hag : ∀ k, zi al k = n.at_ k) (hnd : out.Nodup) (hmem : ∀ k, k ∈ out ↔ n.data k ≠ none ∨ kC al vis (1, k)) (hf : ∀ k, kC al vis k ↔ ∃ v, zi al k = some v) : srt out = jb n := by
  refine srt_eq hnd ?_ (fun k => ?_)
  · exact (xB 1064).filter _
  · rw [hmem, mem_idxN hok, hf, hag]
    unfold jk
    constructor
    · rintro (h | ⟨v, hv⟩)
      · left; cases hd : n.data k with
        | none => exact absurd hd h
        | some s => rfl
      · right; rw [hv]; have := hok.at2 _ _ hv; simp; omega
    · rintro (h | h)
      · left; intro e; rw [e] at h; cases h
      · right; cases hv : n.at_ (1, k) with
        | none => rw [hv] at h; exact absurd rfl h
        | some v => exact ⟨v, rfl⟩
end
theorem Qd (H : j3 w0) (p : Nat) (n : NS) (Cn : qM) (hn : NodeC p n Cn) (hok : NOk n) :
    FnT Tryz.prog w0 22 #[.pointer (some ⟨p, 0, none⟩)] (Cn :: F) (fun v L' => ∃ C', SlC 3 1 v (jb n).length (iV (jb n)) C' ∧ L' = C' :: Cn :: F) := by
  obtain ⟨ma, md, ms, oa, od, os, u, C, hM, hCn⟩ := hn.eq
  unfold wz at hCn
  obtain ⟨al, hal, hag⟩ := hM.a
  refine FnT.pre (L' := [(p, .cells [.int .u32 n.num, .int .u32 n.ver, .int .i64 n.kind, .int .i64 n.size, .int .u32 n.time, .map (some ma), .map (some md), .map (some ms), u].toArray 90 (0, 0))] :: [(ma, oa)] :: [(md, od)] :: [(ms, os)] :: C :: F) ?_ (wH (by rw [hCn]; simp))
  refine FnT.enter (E0 := [(0, _)]) (N := 47) Tryz.func22 rfl rfl rfl rfl ?_
  refine Tr.seq <| Tr.region <| q9 (qC rfl) <| qB <| QAt.seq <| Tr.seq <| Tr.region <| q9 (qA rfl) <| q9 (qJ rfl) <| q9 (qD rfl) <| q9 (qG rfl rfl) <| qF (qn rfl (mapsKeys_ok md)) ?_
  rintro t11 _ ⟨bk, rfl, rfl⟩
  refine qF (qn rfl (k5 ([(bk, .cells [Value.map (some md)].toArray 42 (0, 0))]) ([(md, od)]) (H.keys _ bk md 42 (0, 0) od n.data hM.d hok.data))) ?_
  rintro t12 _ ⟨ks, Ck, hks, hnd, hmem, rfl⟩
  refine q9 (qC rfl) <| qB <| QAt.seq <| Tr.seq <| Tr.seq <| Tr.region <| q9 (qA rfl) <| q9 (qJ rfl) <| q9 (qD rfl) <| q9 (qG rfl rfl) <| qF (jW (r := ma) rfl hal) ?_
  rintro t17 _ ⟨it, io, rfl, hio, rfl⟩
  refine qB <| QAt.seq <| Tr.block <| wB (Γ := {pΓ : (List Nat) × (Obj) × (Value) × (qM) × (List Int) // (fun (vis : List Nat) (io : Obj) (uo : Value) (Co : qM) (out : List Int) => IterOk ma oa al.length vis io ∧ SlC 3 1 uo out.length (iV out) Co ∧ out.Nodup ∧ (∀ k, k ∈ out ↔ n.data k ≠ none ∨ kC al vis (1, k))) pΓ.1 pΓ.2.1 pΓ.2.2.1 pΓ.2.2.2.1 pΓ.2.2.2.2}) (fun g => (fun (vis : List Nat) (io : Obj) (uo : Value) (Co : qM) (out : List Int) => [(0, .pointer (some ⟨p, 0, none⟩)), (3, uo), (17, .pointer (some ⟨it, 0, none⟩))]) g.1.1 g.1.2.1 g.1.2.2.1 g.1.2.2.2.1 g.1.2.2.2.2) (fun g => (fun (vis : List Nat) (io : Obj) (uo : Value) (Co : qM) (out : List Int) => [(it, io)] :: Co :: [(p, .cells [.int .u32 n.num, .int .u32 n.ver, .int .i64 n.kind, .int .i64 n.size, .int .u32 n.time, .map (some ma), .map (some md), .map (some ms), u].toArray 90 (0, 0))] :: [(ma, oa)] :: [(md, od)] :: [(ms, os)] :: C :: F) g.1.1 g.1.2.1 g.1.2.2.1 g.1.2.2.2.1 g.1.2.2.2.2) (fun g => (fun (vis : List Nat) (io : Obj) (uo : Value) (Co : qM) (out : List Int) => al.length - vis.length) g.1.1 g.1.2.1 g.1.2.2.1 g.1.2.2.2.1 g.1.2.2.2.2) ⟨([], io, t12, Ck, ks), by dsimp only; exact ⟨hio, hks, hnd, fun k => by rw [hmem]; exact ⟨fun h => .inl h, fun h => h.resolve_right Qv⟩⟩⟩ (qP _) ?_
  rintro ⟨⟨vis, io, uo, Co, out⟩, hloop⟩
  replace hloop : IterOk ma oa al.length vis io ∧ SlC 3 1 uo out.length (iV out) Co ∧ out.Nodup ∧ (∀ k, k ∈ out ↔ n.data k ≠ none ∨ kC al vis (1, k)) := hloop
  obtain ⟨hio, hsl, hnd, hmem⟩ := hloop
  show Tr _ _ _ ([(0, .pointer (some ⟨p, 0, none⟩)), (3, uo), (17, .pointer (some ⟨it, 0, none⟩))]) ([(it, io)] :: Co :: [(p, .cells [.int .u32 n.num, .int .u32 n.ver, .int .i64 n.kind, .int .i64 n.size, .int .u32 n.time, .map (some ma), .map (some md), .map (some ms), u].toArray 90 (0, 0))] :: [(ma, oa)] :: [(md, od)] :: [(ms, os)] :: C :: F) _ _
  refine Tr.seq <| Tr.region <| qF (js (r := ma) (ob := oa) (vis := vis) rfl (fun w hw => Own.get hw (inferInstance : At _ ma oa _)) hal hio) ?_
  rintro t18 _ (⟨rfl, hfin, rfl⟩ | ⟨i, q, io', rfl, hq, hni, hio', rfl⟩)
  ·
   refine q9 (qR rfl rfl) <| qB <| QAt.seq <| Tr.seq <| wD rfl <| Tr.exit <| qX <| qY <| qS <| QAt.seq <| Tr.seq ?_
   have hlen := Y3 hnd (fun k hk => XZ hok hal hag ((hmem k).1 hk))
   have hsrt : srt out = jb n := idx_eq hok hal hag hnd hmem (fun k => Q2 hio hfin k)
   refine Tr.region <| q9 (qA rfl) <| qF (qn rfl (wM (Co) (H.sort _ uo out.length out Co hsl rfl (by omega)))) ?_
   rintro t45 _ ⟨rfl, C', hs', rfl⟩
   refine qB <| QAt.seq <| Tr.seq <| Tr.region <| q9 (qA rfl) <| q9 (qC rfl) <| qB ?_
   rw [hsrt] at hs'
   refine z8 (qP (C' :: [(p, .cells [.int .u32 n.num, .int .u32 n.ver, .int .i64 n.kind, .int .i64 n.size, .int .u32 n.time, .map (some ma), .map (some md), .map (some ms), u].toArray 90 (0, 0))] :: [(ma, oa)] :: [(md, od)] :: [(ms, os)] :: C :: F)) <| z8 (wH (L' := C' :: Cn :: F) (by rw [hCn]; simp)) ?_
   refine QAt.seq <| Tr.ret <| zW (.inl rfl) rfl (qd rfl) ?_
   exact ⟨C', by rw [← hsrt, YK]; rw [← hsrt] at hs'; exact hs', rfl⟩
  ·
   refine q9 (qR rfl rfl) <| qB <| QAt.seq <| Tr.seq <| ww rfl <| Tr.skip <| QAt.seq <| Tr.block <| Tr.seq <| Tr.region <| q9 (jY (r := ma) (ob := oa) (vis := vis) rfl (fun w hw => Own.get hw (inferInstance : At _ ma oa _)) hal hio' hq) ?_
   refine q9 (qR rfl rfl) <| qF (qV) ?_
   rintro t4 _ ⟨b4, rfl, rfl⟩
   refine qK (wJ (vs := [.int .i64 q.1.1, .int .i64 q.1.2]) rfl rfl rfl rfl) <| qB <| QAt.seq <| zA (Γ := {pΓ : (Unit) // (fun (x : Unit) => True) pΓ}) (fun g => (fun (x : Unit) => [(0, .pointer (some ⟨p, 0, none⟩)), (3, uo), (4, .pointer (some ⟨b4, 0, none⟩)), (6, .bool (n.data q.1.2).isSome), (17, .pointer (some ⟨it, 0, none⟩))]) g.1) (fun g => (fun (x : Unit) => [(b4, .cells [Value.int .i64 q.1.1, Value.int .i64 q.1.2].toArray 100 (0, 0))] :: [(it, io')] :: Co :: [(p, .cells [.int .u32 n.num, .int .u32 n.ver, .int .i64 n.kind, .int .i64 n.size, .int .u32 n.time, .map (some ma), .map (some md), .map (some ms), u].toArray 90 (0, 0))] :: [(ma, oa)] :: [(md, od)] :: [(ms, os)] :: C :: F) g.1) ?_ ?_
   ·
    refine yL qm (show TrS _ _ _ _ [false, false, false, false, false, false, false, false, false, false, false, false, false] _ _ _ from ?_)
    refine TrS.take 0 rfl rfl (by kernel_rfl) rfl (w6 rfl) ?_
    refine TrS.take 1 rfl rfl (by kernel_rfl) rfl (y0 rfl) ?_
    refine TrS.take 2 rfl rfl (by kernel_rfl) rfl (wY rfl) ?_
    refine TrS.take 4 rfl rfl (by kernel_rfl) rfl (wY rfl) ?_
    refine xM (i := 3) (j := 5) (k := 10) (by kernel_rfl) rfl ?_ ?_ ?_
    ·
     refine qQ rfl rfl rfl (qG rfl rfl) <| wg (i := 5) (j := 10) (by kernel_rfl) rfl ?_ ?_
     ·
      refine qQ rfl rfl rfl (qG rfl rfl) <| wg (i := 6) (j := 10) (by kernel_rfl) rfl ?_ ?_
      ·
       refine qQ rfl rfl rfl (yO (z := Sec.zero) (q := q.1.2) rfl rfl hM.d) <| TrS.take 7 rfl rfl (by kernel_rfl) rfl (w6 rfl) ?_
       refine TrS.take 8 rfl rfl (by kernel_rfl) rfl (qU rfl rfl) ?_
       refine TrS.take 9 rfl rfl (by kernel_rfl) rfl (qU rfl rfl) ?_
       refine TrS.one (i := 10) (by kernel_rfl) rfl ?_
       refine qp rfl rfl rfl (qV) ?_
       rintro t5 _ ⟨b5, rfl, rfl⟩
       refine TrS.one (i := 11) (by kernel_rfl) rfl ?_
       refine w9 rfl rfl rfl (qW rfl rfl (by simp) (by simp) (wS _)) ?_
       refine TrS.take 12 rfl rfl (by kernel_rfl) rfl (wA rfl) ?_
       refine qy (by kernel_rfl) ?_
       refine qO ⟨(), ?_⟩ ?_
       · (try dsimp only); all_goals trivial
       · (try dsimp only); exact qP _
      ·
       refine qp rfl rfl rfl (qV) ?_
       rintro t5 _ ⟨b5, rfl, rfl⟩
       refine TrS.one (i := 6) (by kernel_rfl) rfl ?_
       refine qQ rfl rfl rfl (yO (z := Sec.zero) (q := q.1.2) rfl rfl hM.d) <| TrS.take 7 rfl rfl (by kernel_rfl) rfl (w6 rfl) ?_
       refine TrS.take 8 rfl rfl (by kernel_rfl) rfl (qU rfl rfl) ?_
       refine TrS.take 9 rfl rfl (by kernel_rfl) rfl (qU rfl rfl) ?_
       refine TrS.one (i := 11) (by kernel_rfl) rfl ?_
       refine w9 rfl rfl rfl (qW rfl rfl (by simp) (by simp) (wS _)) ?_
       refine TrS.take 12 rfl rfl (by kernel_rfl) rfl (wA rfl) ?_
       refine qy (by kernel_rfl) ?_
       refine qO ⟨(), ?_⟩ ?_
       · (try dsimp only); all_goals trivial
       · (try dsimp only); exact qP _
     ·
      refine qp rfl rfl rfl (qV) ?_
      rintro t5 _ ⟨b5, rfl, rfl⟩
      refine TrS.one (i := 5) (by kernel_rfl) rfl ?_
      refine qQ rfl rfl rfl (qG rfl rfl) <| TrS.one (i := 6) (by kernel_rfl) rfl ?_
      refine qQ rfl rfl rfl (yO (z := Sec.zero) (q := q.1.2) rfl rfl hM.d) <| TrS.take 7 rfl rfl (by kernel_rfl) rfl (w6 rfl) ?_
      refine TrS.take 8 rfl rfl (by kernel_rfl) rfl (qU rfl rfl) ?_
      refine TrS.take 9 rfl rfl (by kernel_rfl) rfl (qU rfl rfl) ?_
      refine TrS.one (i := 11) (by kernel_rfl) rfl ?_
      refine w9 rfl rfl rfl (qW rfl rfl (by simp) (by simp) (wS _)) ?_
      refine TrS.take 12 rfl rfl (by kernel_rfl) rfl (wA rfl) ?_
      refine qy (by kernel_rfl) ?_
      refine qO ⟨(), ?_⟩ ?_
      · (try dsimp only); all_goals trivial
      · (try dsimp only); exact qP _
    ·
     refine qQ rfl rfl rfl (qG rfl rfl) <| wg (i := 3) (j := 10) (by kernel_rfl) rfl ?_ ?_
     ·
      refine qQ rfl rfl rfl (qG rfl rfl) <| wg (i := 6) (j := 10) (by kernel_rfl) rfl ?_ ?_
      ·
       refine qQ rfl rfl rfl (yO (z := Sec.zero) (q := q.1.2) rfl rfl hM.d) <| TrS.take 7 rfl rfl (by kernel_rfl) rfl (w6 rfl) ?_
       refine TrS.take 8 rfl rfl (by kernel_rfl) rfl (qU rfl rfl) ?_
       refine TrS.take 9 rfl rfl (by kernel_rfl) rfl (qU rfl rfl) ?_
       refine TrS.one (i := 10) (by kernel_rfl) rfl ?_
       refine qp rfl rfl rfl (qV) ?_
       rintro t5 _ ⟨b5, rfl, rfl⟩
       refine TrS.one (i := 11) (by kernel_rfl) rfl ?_
       refine w9 rfl rfl rfl (qW rfl rfl (by simp) (by simp) (wS _)) ?_
       refine TrS.take 12 rfl rfl (by kernel_rfl) rfl (wA rfl) ?_
       refine qy (by kernel_rfl) ?_
       refine qO ⟨(), ?_⟩ ?_
       · (try dsimp only); all_goals trivial
       · (try dsimp only); exact qP _
      ·
       refine qp rfl rfl rfl (qV) ?_
       rintro t5 _ ⟨b5, rfl, rfl⟩
       refine TrS.one (i := 6) (by kernel_rfl) rfl ?_
       refine qQ rfl rfl rfl (yO (z := Sec.zero) (q := q.1.2) rfl rfl hM.d) <| TrS.take 7 rfl rfl (by kernel_rfl) rfl (w6 rfl) ?_
       refine TrS.take 8 rfl rfl (by kernel_rfl) rfl (qU rfl rfl) ?_
       refine TrS.take 9 rfl rfl (by kernel_rfl) rfl (qU rfl rfl) ?_
       refine TrS.one (i := 11) (by kernel_rfl) rfl ?_
       refine w9 rfl rfl rfl (qW rfl rfl (by simp) (by simp) (wS _)) ?_
       refine TrS.take 12 rfl rfl (by kernel_rfl) rfl (wA rfl) ?_
       refine qy (by kernel_rfl) ?_
       refine qO ⟨(), ?_⟩ ?_
       · (try dsimp only); all_goals trivial
       · (try dsimp only); exact qP _
     ·
      refine qp rfl rfl rfl (qV) ?_
      rintro t5 _ ⟨b5, rfl, rfl⟩
      refine TrS.one (i := 3) (by kernel_rfl) rfl ?_
      refine qQ rfl rfl rfl (qG rfl rfl) <| TrS.one (i := 6) (by kernel_rfl) rfl ?_
      refine qQ rfl rfl rfl (yO (z := Sec.zero) (q := q.1.2) rfl rfl hM.d) <| TrS.take 7 rfl rfl (by kernel_rfl) rfl (w6 rfl) ?_
      refine TrS.take 8 rfl rfl (by kernel_rfl) rfl (qU rfl rfl) ?_
      refine TrS.take 9 rfl rfl (by kernel_rfl) rfl (qU rfl rfl) ?_
      refine TrS.one (i := 11) (by kernel_rfl) rfl ?_
      refine w9 rfl rfl rfl (qW rfl rfl (by simp) (by simp) (wS _)) ?_
      refine TrS.take 12 rfl rfl (by kernel_rfl) rfl (wA rfl) ?_
      refine qy (by kernel_rfl) ?_
      refine qO ⟨(), ?_⟩ ?_
      · (try dsimp only); all_goals trivial
      · (try dsimp only); exact qP _
    ·
     refine qp rfl rfl rfl (qV) ?_
     rintro t5 _ ⟨b5, rfl, rfl⟩
     refine wg (i := 3) (j := 5) (by kernel_rfl) rfl ?_ ?_
     ·
      refine qQ rfl rfl rfl (qG rfl rfl) <| TrS.one (i := 5) (by kernel_rfl) rfl ?_
      refine qQ rfl rfl rfl (qG rfl rfl) <| TrS.one (i := 6) (by kernel_rfl) rfl ?_
      refine qQ rfl rfl rfl (yO (z := Sec.zero) (q := q.1.2) rfl rfl hM.d) <| TrS.take 7 rfl rfl (by kernel_rfl) rfl (w6 rfl) ?_
      refine TrS.take 8 rfl rfl (by kernel_rfl) rfl (qU rfl rfl) ?_
      refine TrS.take 9 rfl rfl (by kernel_rfl) rfl (qU rfl rfl) ?_
      refine TrS.one (i := 11) (by kernel_rfl) rfl ?_
      refine w9 rfl rfl rfl (qW rfl rfl (by simp) (by simp) (wS _)) ?_
      refine TrS.take 12 rfl rfl (by kernel_rfl) rfl (wA rfl) ?_
      refine qy (by kernel_rfl) ?_
      refine qO ⟨(), ?_⟩ ?_
      · (try dsimp only); all_goals trivial
      · (try dsimp only); exact qP _
     ·
      refine qQ rfl rfl rfl (qG rfl rfl) <| TrS.one (i := 3) (by kernel_rfl) rfl ?_
      refine qQ rfl rfl rfl (qG rfl rfl) <| TrS.one (i := 6) (by kernel_rfl) rfl ?_
      refine qQ rfl rfl rfl (yO (z := Sec.zero) (q := q.1.2) rfl rfl hM.d) <| TrS.take 7 rfl rfl (by kernel_rfl) rfl (w6 rfl) ?_
      refine TrS.take 8 rfl rfl (by kernel_rfl) rfl (qU rfl rfl) ?_
      refine TrS.take 9 rfl rfl (by kernel_rfl) rfl (qU rfl rfl) ?_
      refine TrS.one (i := 11) (by kernel_rfl) rfl ?_
      refine w9 rfl rfl rfl (qW rfl rfl (by simp) (by simp) (wS _)) ?_
      refine TrS.take 12 rfl rfl (by kernel_rfl) rfl (wA rfl) ?_
      refine qy (by kernel_rfl) ?_
      refine qO ⟨(), ?_⟩ ?_
      · (try dsimp only); all_goals trivial
      · (try dsimp only); exact qP _
   rintro ⟨x, hcut⟩
   replace hcut : True := hcut
   show Tr _ _ _ ([(0, .pointer (some ⟨p, 0, none⟩)), (3, uo), (4, .pointer (some ⟨b4, 0, none⟩)), (6, .bool (n.data q.1.2).isSome), (17, .pointer (some ⟨it, 0, none⟩))]) ([(b4, .cells [Value.int .i64 q.1.1, Value.int .i64 q.1.2].toArray 100 (0, 0))] :: [(it, io')] :: Co :: [(p, .cells [.int .u32 n.num, .int .u32 n.ver, .int .i64 n.kind, .int .i64 n.size, .int .u32 n.time, .map (some ma), .map (some md), .map (some ms), u].toArray 90 (0, 0))] :: [(ma, oa)] :: [(md, od)] :: [(ms, os)] :: C :: F) _ _
   refine Tr.seq <| Tr.region <| q9 (qD rfl) <| q9 (qG rfl rfl) <| q9 (wR rfl rfl) <| q9 (qA rfl) <| qN (s := 35) rfl (fun hg6_3 => ?_) (fun hg6_3 => ?_)
   ·
    refine qE rfl rfl (qA rfl) <| qE rfl rfl (kM rfl) <| q9 (qT rfl rfl) <| qB <| QAt.seq <| Tr.cond rfl (fun hc6 => ?_) (fun hc6 => ?_)
    ·
     have hlen := Y3 hnd (fun k hk => XZ hok hal hag ((hmem k).1 hk))
     refine Tr.region <| q9 (qA rfl) <| q9 (qD rfl) <| q9 (qG rfl rfl) <| qF (w5 rfl rfl rfl) ?_
     rintro t42 _ ⟨b42, rfl, rfl⟩
     refine qF (wP (m := 1) (sz := 1) rfl rfl hsl (wQ (ys := iV [q.1.2]) inferInstance rfl rfl) rfl Tryz.underlying39 rfl rfl (by omega)) ?_
     rintro t43 _ ⟨C', hs', rfl⟩
     refine q9 (qC rfl) <| qB <| QAt.block <| qh ⟨(vis ++ [i], io', t43, C', out ++ [q.1.2]), ?_⟩ ?_ ?_
     · (try dsimp only); exact ⟨hio', by rw [List.length_append]; simpa [iV] using hs', out_push hal hq hni hnd hmem (by simpa using hc6) hg6_3, out_mem hq hmem (by simpa using hc6) hg6_3⟩
     · (try dsimp only); exact jL hio'
     · (try dsimp only); exact qP _
    ·
     refine Tr.skip <| QAt.block <| qh ⟨(vis ++ [i], io', uo, Co, out), ?_⟩ ?_ ?_
     · (try dsimp only); exact ⟨hio', hsl, hnd, by first | exact Z5 hq hmem (.inl hg6_3) | exact Z5 hq hmem (.inr (by simpa using hc6))⟩
     · (try dsimp only); exact jL hio'
     · (try dsimp only); exact qP _
   ·
    refine qH rfl rfl rfl <| qH rfl rfl rfl <| q9 (qL rfl rfl) <| qB <| QAt.seq <| wD rfl <| Tr.skip <| QAt.block <| qh ⟨(vis ++ [i], io', uo, Co, out), ?_⟩ ?_ ?_
    · (try dsimp only); exact ⟨hio', hsl, hnd, by first | exact Z5 hq hmem (.inl hg6_3) | exact Z5 hq hmem (.inr (by simpa using hc6))⟩
    · (try dsimp only); exact jL hio'
    · (try dsimp only); exact qP _
def kT (n : NS) (k : Int × Int) : NS := { n with
  gone := if (n.at_ k).getD 0 ≠ 0 then n.gone ++ [(n.at_ k).getD 0] else n.gone
  at_ := upd n.at_ k none
  stale := upd n.stale k none }
theorem Xd (p : Nat) (n : NS) (Cn : qM) (hn : NodeC p n Cn) (k : Int × Int) (hg : n.gone.length ≤ 1000000) :
    FnT Tryz.prog w0 69 #[.pointer (some ⟨p, 0, none⟩), yU k] (Cn :: F) (fun v L' => v = .tuple #[] ∧ ∃ Cn', NodeC p (kT n k) Cn' ∧ L' = Cn' :: F) := by
  refine node_change hn ?_
  intro ma md ms oa od os u C hM
  unfold kK wz yU
  refine FnT.enter (E0 := [(0, _), (1, _)]) (N := 33) Tryz.func69 rfl rfl rfl rfl ?_
  refine Tr.seq <| Tr.region <| qF (wT rfl) ?_
  rintro t3 _ ⟨b3, rfl, rfl⟩
  refine qB <| QAt.seq <| Tr.seq <| Tr.seq <| Tr.drawn qm <| qr [(5, .pure _), (6, .pure _), (7, .pure _), (8, .pure _), (9, .pure _)] (by kernel_rfl) rfl rfl rfl wL (ParH.pure rfl (fun X => qA rfl) <| ParH.pure rfl (fun X => qJ rfl) <| ParH.pure rfl (fun X => qD rfl) <| ParH.pure rfl (fun X => qG rfl rfl) <| ParH.pure rfl (fun X => wE rfl) <| ParH.nil rfl) ?_
  dsimp only [zG, List.drop, List.length]
  refine qq (by kernel_rfl) (y1 (z := 0) (q := k) rfl rfl hM.a) ?_
  refine qq (by kernel_rfl) (qC rfl) ?_
  refine qt <| QAt.seq <| Tr.seq <| Tr.region <| q9 (qA rfl) <| q9 (wZ rfl rfl) <| qB <| QAt.seq <| qI rfl (fun hc2 => ?_) (fun hc2 => ?_)
  ·
   refine Tr.region <| q9 (qA rfl) <| q9 (qA rfl) <| q9 (qJ rfl) <| q9 (qD rfl) <| q9 (qG rfl rfl) <| q9 (qA rfl) <| qF (w5 rfl rfl rfl) ?_
   rintro t19 _ ⟨b19, rfl, rfl⟩
   refine qF (wP (m := 1) (sz := 1) rfl rfl hM.g (wQ (ys := iV [(n.at_ k).getD 0]) inferInstance rfl rfl) rfl Tryz.underlying39 rfl rfl (by omega)) ?_
   rintro t20 _ ⟨C', hs', rfl⟩
   obtain ⟨gq, gc, rfl⟩ := hs'.slice
   refine q9 (qJ rfl) <| q9 (qD rfl) <| qK (wX rfl rfl rfl) <| qB <| QAt.seq <| Tr.seq <| Tr.drawn qm <| qr [(23, .pure _), (24, .pure _), (25, .pure _), (26, .pure _), (27, .pure _)] (by kernel_rfl) rfl rfl rfl wL (ParH.pure rfl (fun X => qA rfl) <| ParH.pure rfl (fun X => qJ rfl) <| ParH.pure rfl (fun X => qD rfl) <| ParH.pure rfl (fun X => qG rfl rfl) <| ParH.pure rfl (fun X => wE rfl) <| ParH.nil rfl) ?_
   dsimp only [zG, List.drop, List.length]
   refine zL (by kernel_rfl) (ji (q := k) rfl rfl hM.a) ?_
   rintro _ _ ⟨oa', hoa', rfl⟩
   refine qt <| QAt.seq <| Tr.drawn qm <| qr [(28, .pure _), (29, .pure _), (30, .pure _), (31, .pure _), (32, .pure _)] (by kernel_rfl) rfl rfl rfl wL (ParH.pure rfl (fun X => qA rfl) <| ParH.pure rfl (fun X => qJ rfl) <| ParH.pure rfl (fun X => qD rfl) <| ParH.pure rfl (fun X => qG rfl rfl) <| ParH.pure rfl (fun X => wE rfl) <| ParH.nil rfl) ?_
   dsimp only [zG, List.drop, List.length]
   refine zL (by kernel_rfl) (ji (q := k) rfl rfl hM.s) ?_
   rintro _ _ ⟨os', hos', rfl⟩
   refine qt <| ye ([(p, .cells [.int .u32 n.num, .int .u32 n.ver, .int .i64 n.kind, .int .i64 n.size, .int .u32 n.time, .map (some ma), .map (some md), .map (some ms), .slice gq (n.gone.length + 1) gc].toArray 90 (0, 0))] :: [(ma, oa')] :: [(md, od)] :: [(ms, os')] :: C' :: F) (.inr rfl) rfl  ?_
   exact ⟨rfl, ma, md, ms, oa', od, os', _, C', ⟨hoa', hM.d, hos', by simp only [kT, if_pos hc2]; simpa [iV] using hs'⟩, rfl⟩
  ·
   refine Tr.skip <| QAt.seq <| Tr.seq <| Tr.drawn qm <| qr [(23, .pure _), (24, .pure _), (25, .pure _), (26, .pure _), (27, .pure _)] (by kernel_rfl) rfl rfl rfl wL (ParH.pure rfl (fun X => qA rfl) <| ParH.pure rfl (fun X => qJ rfl) <| ParH.pure rfl (fun X => qD rfl) <| ParH.pure rfl (fun X => qG rfl rfl) <| ParH.pure rfl (fun X => wE rfl) <| ParH.nil rfl) ?_
   dsimp only [zG, List.drop, List.length]
   refine zL (by kernel_rfl) (ji (q := k) rfl rfl hM.a) ?_
   rintro _ _ ⟨oa', hoa', rfl⟩
   refine qt <| QAt.seq <| Tr.drawn qm <| qr [(28, .pure _), (29, .pure _), (30, .pure _), (31, .pure _), (32, .pure _)] (by kernel_rfl) rfl rfl rfl wL (ParH.pure rfl (fun X => qA rfl) <| ParH.pure rfl (fun X => qJ rfl) <| ParH.pure rfl (fun X => qD rfl) <| ParH.pure rfl (fun X => qG rfl rfl) <| ParH.pure rfl (fun X => wE rfl) <| ParH.nil rfl) ?_
   dsimp only [zG, List.drop, List.length]
   refine zL (by kernel_rfl) (ji (q := k) rfl rfl hM.s) ?_
   rintro _ _ ⟨os', hos', rfl⟩
   refine qt <| ye ([(p, .cells [.int .u32 n.num, .int .u32 n.ver, .int .i64 n.kind, .int .i64 n.size, .int .u32 n.time, .map (some ma), .map (some md), .map (some ms), u].toArray 90 (0, 0))] :: [(ma, oa')] :: [(md, od)] :: [(ms, os')] :: C :: F) (.inr rfl) rfl  ?_
   exact ⟨rfl, ma, md, ms, oa', od, os', u, C, ⟨hoa', hM.d, hos', by simp only [kT, if_neg hc2]; exact hM.g⟩, rfl⟩
theorem yI {L L' : Res} (h : ∀ f : XO → Bool, L.flatten.countP f = L'.flatten.countP f) : ∀ w, Own w0 L w → Own w0 L' w := fun w hw => by
  classical
  exact hw.perm (List.perm_iff_count.2 fun a => h _)
def KI (gv : Value) (K : qM) (xs : List Int) (pr : Int → Bool) : Prop := ∀ (w0 : World) (F : Res), ∀ a ∈ xs, FnV Tryz.prog w0 gv [.int .i64 a] (K :: F) (fun v L' => v = .bool (pr a) ∧ L' = K :: F)
def V1 (xs : List Int) (pr : Int → Bool) : Int := if xs.any pr then (xs.findIdx pr : Int) else -1
theorem idxF_hit {xs : List Int} {pr : Int → Bool} {i : Nat} {q : Int} (hn : (xs.take i).any pr = false) (hq : xs[i]? = some q) (h : pr q = true) : V1 xs pr = (i : Int) := by
  unfold V1
  obtain ⟨hlt, he⟩ := List.getElem?_eq_some_iff.1 hq
  rw [if_pos (List.any_eq_true.2 ⟨q, List.mem_of_getElem? hq, h⟩)]
  congr 1
  rw [List.findIdx_eq hlt]
  refine ⟨by rw [he]; exact h, fun j hj => ?_⟩
  have := List.any_eq_false.1 hn (xs[j]'(by omega)) (List.mem_iff_getElem.2 ⟨j, by simp; omega, by simp⟩)
  simpa using this
theorem any_snoc {xs : List Int} {pr : Int → Bool} {i : Nat} {q : Int} (hn : (xs.take i).any pr = false) (hq : xs[i]? = some q) (h : pr q = false) : (xs.take (i + 1)).any pr = false := by
  rw [List.take_add_one, hq, List.any_append, hn]; simp [h]
theorem indexFunc_ok (gv u : Value) (K C : qM) (xs : List Int) (pr : Int → Bool) (hp : KI gv K xs pr) (hs : SlC 3 1 u xs.length (iV xs) C) (hl : xs.length ≤ 1000000) :
    FnT Tryz.prog w0 96 #[u, gv] (C :: K :: F) (fun v L' => v = .int .i64 (V1 xs pr) ∧ L' = C :: K :: F) := by
  obtain ⟨pu, cu, hu⟩ := hs.slice
  refine FnT.enter (E0 := [(0, _), (1, _)]) (N := 19) Tryz.func96 rfl rfl rfl rfl ?_
  refine Tr.seq <| Tr.region <| q9 (qC rfl) <| qB <| QAt.seq <| Tr.seq <| Tr.seq <| Tr.region <| q9 (qA rfl) <| q9 (qg (by rw [← hu]; rfl)) ?_
  refine q9 (qA rfl) <| qB <| QAt.seq <| Tr.block <| wB (Γ := {pΓ : (Nat) // (fun (i : Nat) => i ≤ xs.length ∧ (xs.take i).any pr = false) pΓ}) (fun g => (fun (i : Nat) => [(0, u), (1, gv), (7, .int .i64 xs.length), (8, .int .i64 i)]) g.1) (fun g => (fun (i : Nat) => C :: K :: F) g.1) (fun g => (fun (i : Nat) => xs.length - i) g.1) ⟨0, by dsimp only; exact ⟨by omega, rfl⟩⟩ (qP _) ?_
  rintro ⟨i, hloop⟩
  replace hloop : i ≤ xs.length ∧ (xs.take i).any pr = false := hloop
  obtain ⟨hi, hn⟩ := hloop
  show Tr _ _ _ ([(0, u), (1, gv), (7, .int .i64 xs.length), (8, .int .i64 i)]) (C :: K :: F) _ _
  refine Tr.seq <| Tr.region <| q9 (qv rfl rfl) <| qB <| QAt.seq <| Tr.seq <| qI rfl (fun hc2 => ?_) (fun hc2 => ?_)
  ·
   refine Tr.skip <| QAt.seq <| Tr.seq <| Tr.block <| Tr.seq ?_
   obtain ⟨q, hq⟩ : ∃ q, xs[i]? = some q := ⟨_, List.getElem?_eq_getElem (by omega)⟩
   refine Tr.region <| q9 (qA rfl) <| q9 (qC rfl) <| qB <| QAt.seq <| Tr.seq <| Tr.region <| q9 (qA rfl) <| q9 (qA rfl) <| q9 (qA rfl) <| qF (zO (j := i) rfl rfl hs (by omega) (by omega)) ?_
   rintro t14 _ ⟨b, cap, spare, hqc, rfl, hcap, hnc, rfl, rfl⟩
   refine q9 (qG rfl (show wG _ _ = some (.int .i64 q) by rw [wi, Nat.mul_one, List.getElem?_append_left (by simp [iV]; omega)]; simp [iV, hq])) ?_
   refine q9 (yw rfl rfl (ZW K (hp w0 _ q (List.mem_of_getElem? hq)))) <| qB <| QAt.seq <| Tr.cond rfl (fun hc4 => ?_) (fun hc4 => ?_)
   ·
    refine Tr.seq <| Tr.region <| q9 (qA rfl) <| q9 (qC rfl) <| qB <| QAt.seq <| Tr.ret <| qu <| qe <| yb <| qu <| qe <| zW (.inl rfl) rfl (qd rfl) ?_
    exact ⟨by rw [idxF_hit hn hq hc4], rfl⟩
   ·
    refine Tr.skip <| QAt.block <| QAt.seq <| Tr.region <| q9 (qj rfl rfl (by omega)) <| q9 (qA rfl) <| qB <| qh ⟨i + 1, ?_⟩ ?_ ?_
    · (try dsimp only); exact ⟨by omega, any_snoc hn hq (by simpa using hc4)⟩
    · (try dsimp only); omega
    · (try dsimp only); exact qP _
  ·
   refine Tr.exit <| qX <| qY <| qS <| QAt.seq <| Tr.seq <| Tr.region <| q9 (qC rfl) <| qB <| QAt.seq <| Tr.ret <| zW (.inl rfl) rfl (qd rfl) ?_
   exact ⟨by rw [List.take_of_length_le (by omega)] at hn; unfold V1; rw [hn]; rfl, rfl⟩
theorem x4 (gv u : Value) (K C : qM) (xs : List Int) (pr : Int → Bool) (hp : KI gv K xs pr) (hs : SlC 3 1 u xs.length (iV xs) C) (hl : xs.length ≤ 1000000) :
    FnT Tryz.prog w0 73 #[u, gv] (C :: K :: F) (fun v L' => v = .bool (xs.any pr) ∧ L' = C :: K :: F) := by
  refine FnT.enter (E0 := [(0, _), (1, _)]) (N := 9) Tryz.func73 rfl rfl rfl rfl ?_
  refine Tr.seq <| Tr.region <| q9 (qC rfl) <| qB <| QAt.seq <| Tr.seq <| Tr.region <| q9 (qA rfl) <| q9 (qA rfl) <| q9 (qw rfl (yc (C) (K) (indexFunc_ok gv u K C xs pr hp hs hl))) <| q9 (yl rfl rfl) <| q9 (qC rfl) <| qB <| QAt.seq <| Tr.ret <| zW (.inl rfl) rfl (qd rfl) ?_
  exact ⟨by congr 1; unfold V1; cases h : xs.any pr <;> simp, rfl⟩
theorem ZX {P : Program} {f : FuncId} {vs : List Value} {R : Value → Res → Prop} [he : Enters P f] (h : FnT P w0 f vs.toArray L R) : FnV P w0 (.func (.func f) #[] #[]) vs L R := by
  have := FnV.of (first := []) (captured := []) (vs := vs) (f := f) (P := P) (w0 := w0) (L := L) (R := R) (by simpa using h)
  exact this
theorem FnV.of1 {P : Program} {f : FuncId} {vs : List Value} {c : Value} {R : Value → Res → Prop} [he : Enters P f] (h : FnT P w0 f (vs ++ [c]).toArray L R) : FnV P w0 (.func (.func f) #[] #[c]) vs L R := by
  have := FnV.of (first := []) (captured := [c]) (vs := vs) (f := f) (P := P) (w0 := w0) (L := L) (R := R) (by simpa using h)
  exact this
theorem FnV.pre {P : Program} {g : Value} {vs : List Value} {L L' : Res} {R : Value → Res → Prop} (h : FnV P w0 g vs L' R) (hL : ∀ w, Own w0 L w → Own w0 L' w) : FnV P w0 g vs L R := by
  obtain ⟨f, first, captured, e1, e2, e3⟩ := h.ex
  exact ⟨f, first, captured, e1, e2, e3.pre hL⟩
theorem QN {P : Program} {f : FuncId} {args : Array Value} {L L1 : Res} {Rv : Value → Prop} (h : FnT P w0 f args L1 (fun v L' => Rv v ∧ L' = L1)) (e : L.flatten = L1.flatten) : FnT P w0 f args L (fun v L' => Rv v ∧ L' = L) :=
  (h.pre (wH e)).post fun v L' ⟨h1, h2⟩ => ⟨_, ⟨h1, rfl⟩, by subst h2; exact wH e.symm⟩
theorem YR {n : NS} {i : Int} (h : i ∈ jb n) : 0 ≤ i ∧ i < 1064 := by
  unfold jb at h
  obtain ⟨k, hk, rfl⟩ := List.mem_map.1 (List.mem_filter.1 h).1
  rw [List.mem_range] at hk; omega
theorem ZC (n : NS) : (jb n).length ≤ 1064 := by
  unfold jb
  refine Nat.le_trans (List.length_filter_le _ _) ?_
  simp
def Qs (n : NS) (p : Int × Int) : Bool := if p = (4, 0) then (jb n).any (fun i => decide ((wj i).1 = 5)) else (jb n).any (fun i => decide (wj i = p))
theorem isLeaf_ok (G : qM) (hg : kJ G) (xs : List Int) (hx : ∀ x ∈ xs, 0 ≤ x ∧ x < 1064) : KI (.func (.func 94) #[] #[]) G xs (fun i => decide ((wj i).1 = 5)) := by
  intro w0 F a ha
  have hr := hx a ha
  refine ZX ?_
  refine FnT.enter (E0 := [(0, _)]) (N := 7) Tryz.func94 rfl rfl rfl rfl ?_
  refine Tr.seq <| Tr.region <| q9 (qC rfl) <| qB <| QAt.seq <| Tr.seq <| Tr.region <| q9 (qA rfl) <| q9 (qw rfl (zM (G) (ZT a G hg (by omega)))) <| q9 (op_field (n := 0) rfl Tryz.underlying100 rfl rfl) <| q9 (wR rfl rfl) <| q9 (qC rfl) <| qB <| QAt.seq <| Tr.ret <| zW (.inl rfl) rfl (qd rfl) ?_
  exact ⟨rfl, rfl⟩
theorem isAbove_ok (G : qM) (hg : kJ G) (xs : List Int) (hx : ∀ x ∈ xs, 0 ≤ x ∧ x < 1064) (b : Nat) (p : Int × Int) :
    KI (.func (.func 95) #[] #[.pointer (some ⟨b, 0, none⟩)]) ((b, .cells [.int .i64 p.1, .int .i64 p.2].toArray 100 (0, 0)) :: G) xs (fun i => decide (wj i = p)) := by
  intro w0 F a ha
  have hr := hx a ha
  refine FnV.of1 ?_
  refine QN (L1 := [(b, .cells [.int .i64 p.1, .int .i64 p.2].toArray 100 (0, 0))] :: G :: F) ?_ (by simp)
  refine FnT.enter (E0 := [(0, _), (1, _)]) (N := 8) Tryz.func95 rfl rfl rfl rfl ?_
  refine Tr.seq <| Tr.region <| q9 (qC rfl) <| qB <| QAt.seq <| Tr.seq <| Tr.drawn qm <| qr [(4, .pure _), (5, .pure _), (6, .pure _)] (by kernel_rfl) rfl rfl rfl wL (ParH.pure rfl (fun X => qA rfl) <| ParH.pure rfl (fun X => qw rfl (zM (G) (ZT a G hg (by omega)))) <| ParH.pure rfl (fun X => wE rfl) <| ParH.nil rfl) ?_
  dsimp only [zG, List.drop, List.length]
  refine qq (by kernel_rfl) (WQ rfl rfl) ?_
  refine qq (by kernel_rfl) (qC rfl) ?_
  refine qt <| QAt.seq <| Tr.ret <| zW (.inl rfl) rfl (qd rfl) ?_
  exact ⟨by congr 1; simp [Prod.ext_iff], rfl⟩
theorem YD (H : j3 w0) (p : Nat) (n : NS) (Cn G : qM) (hn : NodeC p n Cn) (hg : kJ G) (hok : NOk n) (q : Int × Int) :
    FnT Tryz.prog w0 71 #[.pointer (some ⟨p, 0, none⟩), yU q] (Cn :: G :: F) (fun v L' => v = .bool (Qs n q) ∧ L' = Cn :: G :: F) := by
  obtain ⟨e0, f0, e1, f1, e2, f2, hG⟩ := id hg
  have hGl : ([G] : Res).flatten = ([(0, .cells [Value.int .i64 2, Value.int .i64 0].toArray e0 f0)] :: [(1, .cells [Value.int .i64 4, Value.int .i64 0].toArray e1 f1)] :: [(2, .cells [Value.int .i64 3, Value.int .i64 0].toArray e2 f2)] :: []).flatten := by rw [hG]; simp
  refine QN (L1 := Cn :: [(0, .cells [Value.int .i64 2, Value.int .i64 0].toArray e0 f0)] :: [(1, .cells [Value.int .i64 4, Value.int .i64 0].toArray e1 f1)] :: [(2, .cells [Value.int .i64 3, Value.int .i64 0].toArray e2 f2)] :: F) ?_ (by rw [hG]; simp)
  unfold yU
  refine FnT.enter (E0 := [(0, _), (1, _)]) (N := 15) Tryz.func71 rfl rfl rfl rfl ?_
  refine Tr.seq <| Tr.region <| qF (wT rfl) ?_
  rintro t3 _ ⟨b3, rfl, rfl⟩
  refine q9 (qC rfl) <| qB <| QAt.seq <| Tr.seq <| Tr.seq <| Tr.region <| q9 (wE rfl) <| q9 (wE rfl) <| q9 (WQ rfl rfl) <| qB <| QAt.seq <| qI rfl (fun hc1 => ?_) (fun hc1 => ?_)
  ·
   refine Tr.seq <| yW (wH (L' := [(b3, .cells [.int .i64 q.1, .int .i64 q.2].toArray 100 (0, 0))] :: Cn :: G :: F) (by rw [hG]; simp)) ?_
   refine Tr.region <| q9 (qA rfl) <| qF (qn rfl (wM (Cn) (Qd H p n Cn hn hok))) ?_
   rintro t9 _ ⟨C', hs, rfl⟩
   refine q9 (qw rfl (yc (C') (G) (x4 _ t9 G C' (jb n) _ (isLeaf_ok G hg _ (fun x hx => YR hx)) hs (by have := ZC n; omega)))) ?_
   refine q9 (qC rfl) <| qB <| z8 (qP (Cn :: G :: F)) <| z8 (wH (L' := Cn :: [(0, .cells [Value.int .i64 2, Value.int .i64 0].toArray e0 f0)] :: [(1, .cells [Value.int .i64 4, Value.int .i64 0].toArray e1 f1)] :: [(2, .cells [Value.int .i64 3, Value.int .i64 0].toArray e2 f2)] :: F) (by rw [hG]; simp)) ?_
   refine QAt.seq <| Tr.ret <| qe <| zW (.inl rfl) rfl (qd rfl) ?_
   exact ⟨by unfold Qs; rw [if_pos (by simpa [Prod.ext_iff] using hc1)], rfl⟩
  ·
   refine Tr.skip <| QAt.seq <| Tr.seq <| yW (L' := ((b3, .cells [.int .i64 q.1, .int .i64 q.2].toArray 100 (0, 0)) :: G) :: Cn :: F) (by rw [hG]; exact (yI (by intro f; simp only [List.flatten_cons, List.flatten_nil, List.append_nil, List.countP_append, List.countP_cons, List.countP_nil]; omega))) ?_
   refine Tr.region <| q9 (qA rfl) <| qF (qn rfl (wM (Cn) (Qd H p n Cn hn hok))) ?_
   rintro t12 _ ⟨C', hs, rfl⟩
   refine q9 (wV rfl rfl) <| q9 (qw rfl (yc (C') (((b3, .cells [.int .i64 q.1, .int .i64 q.2].toArray 100 (0, 0)) :: G)) (x4 _ t12 _ C' (jb n) _ (isAbove_ok G hg _ (fun x hx => YR hx) b3 q) hs (by have := ZC n; omega)))) ?_
   refine q9 (qC rfl) <| qB <| z8 (L' := [(b3, .cells [.int .i64 q.1, .int .i64 q.2].toArray 100 (0, 0))] :: C' :: Cn :: G :: F) (yI (by intro f; simp only [List.flatten_cons, List.flatten_nil, List.append_nil, List.countP_append, List.countP_cons, List.countP_nil]; omega)) ?_
   refine z8 (qP (Cn :: G :: F)) <| z8 (wH (L' := Cn :: [(0, .cells [Value.int .i64 2, Value.int .i64 0].toArray e0 f0)] :: [(1, .cells [Value.int .i64 4, Value.int .i64 0].toArray e1 f1)] :: [(2, .cells [Value.int .i64 3, Value.int .i64 0].toArray e2 f2)] :: F) (by rw [hG]; simp)) ?_
   refine QAt.seq <| Tr.ret <| zW (.inl rfl) rfl (qd rfl) ?_
   exact ⟨by unfold Qs; rw [if_neg (by simpa [Prod.ext_iff] using hc1)], rfl⟩
end Go.Proofs.YtjikpomndbkfgaaGreatDoor
namespace Go.Nd
def qo (k : Int × Int) : Prop := (k.1 = 1 ∧ 0 ≤ k.2 ∧ k.2 < 1064) ∨ k = (2, 0) ∨ k = (3, 0) ∨ k = (4, 0) ∨ (k.1 = 5 ∧ 0 ≤ k.2 ∧ k.2 < 32)
def Yj (k : Int) : Int := if k = 5 then 1 else if k = 3 then 2 else if k = 4 then 3 else if k = 2 then 4 else 0
def k9 (a b : Int × Int) : Int := if a.1 ≠ b.1 then Yj a.1 - Yj b.1 else a.2 - b.2
def allParts : List (Int × Int) := (List.range 1064).map (fun i : Nat => ((1 : Int), (i : Int))) ++ ((List.range 32).map (fun i : Nat => ((5 : Int), (i : Int))) ++ [(3, 0), (4, 0), (2, 0)])
theorem ja (k : Int × Int) : k ∈ allParts ↔ qo k := by
  unfold allParts qo
  simp only [List.mem_append, List.mem_map, List.mem_range, List.mem_cons, List.not_mem_nil, or_false]
  constructor
  · rintro (⟨i, hi, rfl⟩ | ⟨i, hi, rfl⟩ | rfl | rfl | rfl)
    · exact .inl ⟨rfl, by simp, by simp; omega⟩
    · exact .inr (.inr (.inr (.inr ⟨rfl, by simp, by simp; omega⟩)))
    · exact .inr (.inr (.inl rfl))
    · exact .inr (.inr (.inr (.inl rfl)))
    · exact .inr (.inl rfl)
  · rintro (⟨h1, h2, h3⟩ | h | h | h | ⟨h1, h2, h3⟩)
    · exact .inl ⟨k.2.toNat, by omega, Prod.ext h1.symm (by simp; omega)⟩
    · exact .inr (.inr (.inr (.inr h)))
    · exact .inr (.inr (.inl h))
    · exact .inr (.inr (.inr (.inl h)))
    · exact .inr (.inl ⟨k.2.toNat, by omega, Prod.ext h1.symm (by simp; omega)⟩)
theorem allParts_sorted : allParts.Pairwise (fun a b => k9 a b < 0) := by
  unfold allParts
  rw [List.pairwise_append, List.pairwise_append]
  refine ⟨?_, ⟨?_, ?_, ?_⟩, ?_⟩
  · rw [List.pairwise_map]
    exact List.pairwise_lt_range.imp (fun h => by simp [k9]; omega)
  · rw [List.pairwise_map]
    exact List.pairwise_lt_range.imp (fun h => by simp [k9]; omega)
  · simp [k9, Yj]
  · intro a ha b hb
    obtain ⟨i, _, rfl⟩ := List.mem_map.1 ha
    simp only [List.mem_cons, List.not_mem_nil, or_false] at hb
    rcases hb with rfl | rfl | rfl <;> simp [k9, Yj]
  · intro a ha b hb
    obtain ⟨i, _, rfl⟩ := List.mem_map.1 ha
    simp only [List.mem_append, List.mem_cons, List.not_mem_nil, or_false] at hb
    rcases hb with hb | rfl | rfl | rfl
    · obtain ⟨j, _, rfl⟩ := List.mem_map.1 hb
      simp [k9, Yj]
    all_goals simp [k9, Yj]
theorem YC (a : Int × Int) : ¬ k9 a a < 0 := by simp [k9]
theorem Jp {a b : Int × Int} (ha : qo a) (hb : qo b) (h : Yj a.1 = Yj b.1) : a.1 = b.1 := by
  have key : ∀ c : Int × Int, qo c → c.1 = 1 ∨ c.1 = 2 ∨ c.1 = 3 ∨ c.1 = 4 ∨ c.1 = 5 := by
    intro c hc
    rcases hc with ⟨h, _⟩ | h | h | h | ⟨h, _⟩
    · exact .inl h
    · exact .inr (.inl (by rw [h]))
    · exact .inr (.inr (.inl (by rw [h])))
    · exact .inr (.inr (.inr (.inl (by rw [h]))))
    · exact .inr (.inr (.inr (.inr h)))
  rcases key a ha with h1 | h1 | h1 | h1 | h1 <;> rcases key b hb with h2 | h2 | h2 | h2 | h2 <;> rw [h1, h2] at h ⊢ <;> revert h <;> decide
theorem Kp {a b : Int × Int} (ha : qo a) (hb : qo b) (h1 : k9 a b ≤ 0) (h2 : k9 b a ≤ 0) : a = b := by
  unfold k9 at h1 h2
  by_cases h : a.1 = b.1
  · rw [if_neg (by simp [h])] at h1
    rw [if_neg (by simp [h])] at h2
    exact Prod.ext h (by omega)
  · rw [if_pos h] at h1
    rw [if_pos (Ne.symm h)] at h2
    exact absurd (Jp ha hb (by omega)) h
theorem Qh {a b c : Int × Int} (ha : qo a) (hb : qo b) (hc : qo c) (h1 : k9 a b ≤ 0) (h2 : k9 b c ≤ 0) : k9 a c ≤ 0 := by
  unfold k9 at *
  split
  · rename_i hac
    split at h1
    · split at h2
      · omega
      · rename_i hbc
        have : b.1 = c.1 := by omega
        rw [← this]; exact h1
    · rename_i hab
      have e : a.1 = b.1 := by omega
      split at h2
      · rw [e]; exact h2
      · omega
  · rename_i hac
    have e : a.1 = c.1 := by omega
    split at h1
    · rename_i hab
      split at h2
      · rename_i hbc
        have := Jp ha hb (by rw [e] at h1 ⊢; omega)
        omega
      · omega
    · split at h2
      · omega
      · omega
theorem cmpP_total (a b : Int × Int) : k9 a b ≤ 0 ∨ k9 b a ≤ 0 := by
  unfold k9
  by_cases h : a.1 = b.1
  · rw [if_neg (by simp [h]), if_neg (by simp [h])]; omega
  · rw [if_pos h, if_pos (Ne.symm h)]; omega
theorem sorted_parts_eq {xs ys : List (Int × Int)} (hx : xs.Pairwise (fun a b => k9 a b ≤ 0)) (hy : ys.Pairwise (fun a b => k9 a b ≤ 0)) (hp : xs.Perm ys) (hok : ∀ x ∈ xs, qo x) : xs = ys :=
  List.Perm.eq_of_pairwise (le := fun a b => k9 a b ≤ 0) (fun a b ha hb h1 h2 => Kp (hok a ha) (hok b (hp.mem_iff.2 hb)) h1 h2) hx hy hp
theorem Qq {xs : List (Int × Int)} (hn : xs.Nodup) (hok : ∀ x ∈ xs, qo x) : xs.length ≤ 1099 := by
  have h : ∀ (l1 l2 : List (Int × Int)), l1.Nodup → (∀ x ∈ l1, x ∈ l2) → l1.length ≤ l2.length := by
    intro l1
    induction l1 with
    | nil => intro l2 _ _; simp
    | cons a l ih =>
      intro l2 hn hs
      have h1 := List.nodup_cons.1 hn
      have ha := hs a (by simp)
      have := ih (l2.erase a) h1.2 (fun x hx => (List.mem_erase_of_ne (fun e => h1.1 (by subst e; exact hx))).2 (hs x (by simp [hx])))
      have e := List.length_erase_of_mem ha
      have pos : 0 < l2.length := List.length_pos_of_mem ha
      simp; omega
  have := h xs allParts hn (fun x hx => (ja x).2 (hok x hx))
  have e : allParts.length = 1099 := by simp [allParts]
  omega
theorem Qp {out : List (Int × Int)} {pr : Int × Int → Bool} (hn : out.Nodup) (hm : ∀ k, k ∈ out ↔ qo k ∧ pr k = true) {xs : List (Int × Int)} (hp : xs.Perm out) (hs : xs.Pairwise (fun a b => k9 a b ≤ 0)) : xs = allParts.filter pr := by
  refine sorted_parts_eq hs ((allParts_sorted.filter pr).imp (fun h => by omega)) ?_ (fun x hx => ((hm x).1 (hp.mem_iff.1 hx)).1)
  refine hp.trans ((List.perm_ext_iff_of_nodup hn ?_).2 fun k => ?_)
  · exact (allParts_sorted.filter pr).imp (fun {a b} h e => by subst e; exact YC a h)
  · rw [hm, List.mem_filter, ja]
end Go.Nd
namespace Go.Proofs.YtjikpomndbkfgaaGreatDoor
open Go Go.Sx Go.Nd
variable {w0 : World} {L F : Res}
set_option maxRecDepth 10000
def setStale (n : NS) (k : Int × Int) : NS := { n with stale := upd n.stale k (some 1) }
def zT (n : NS) (i : Int) (s : Option Sec) : NS := { n with data := upd n.data i s }
def loseIf (n : NS) (k : Int × Int) : NS := if Qs n k then n else kT n k
def jM (n : NS) (i : Int) : NS :=
  if wj i = (2, 0) then setStale (kT (zT n i none) (1, i)) (2, 0)
  else ([wj i, (4, 0)] : List (Int × Int)).foldl loseIf (if (wj i).1 = 5 then setStale (setStale (setStale (kT (zT n i none) (1, i)) (2, 0)) (wj i)) (4, 0) else setStale (setStale (kT (zT n i none) (1, i)) (2, 0)) (wj i))
theorem xb {i : Int} (h : 0 ≤ i ∧ i < 1064) : qo (wj i) := by
  unfold wj qo w8
  repeat' split
  all_goals simp_all
  all_goals omega
theorem NOk.lose {n : NS} (h : NOk n) (k : Int × Int) : NOk (kT n k) :=
  ⟨h.data, fun q hq => h.at1 q (fun e => hq (by simp only [kT, upd]; split <;> first | rfl | exact e)),
   fun q a hq => h.at2 q a (by simp only [kT, upd] at hq; split at hq; · cases hq
                               · exact hq),
   fun q hq => h.stale q (fun e => hq (by simp only [kT, upd]; split <;> first | rfl | exact e))⟩
theorem NOk.setStale {n : NS} (h : NOk n) {k : Int × Int} (hk : qo k) : NOk (setStale n k) :=
  ⟨h.data, h.at1, h.at2, fun q hq => by
    by_cases e : q = k
    · subst e; exact hk
    · exact h.stale q (fun e' => hq (by simp only [Proofs.YtjikpomndbkfgaaGreatDoor.setStale]; rw [wI _ _ e]; exact e'))⟩
theorem NOk.dataNone {n : NS} (h : NOk n) (i : Int) : NOk (zT n i none) :=
  ⟨fun k hk => h.data k (fun e => hk (by simp only [zT, upd]; split <;> first | rfl | exact e)), h.at1, h.at2, h.stale⟩
theorem NOk.dataSome {n : NS} (h : NOk n) {i : Int} (hi : 0 ≤ i ∧ i < 1064) (s : Sec) : NOk (zT n i (some s)) :=
  ⟨fun k hk => by
    by_cases e : k = i
    · subst e; exact hi
    · exact h.data k (fun e' => hk (by simp only [zT]; rw [wI _ _ e]; exact e')), h.at1, h.at2, h.stale⟩
theorem NOk.loseIf {n : NS} (h : NOk n) (k : Int × Int) : NOk (loseIf n k) := by
  unfold Proofs.YtjikpomndbkfgaaGreatDoor.loseIf
  split
  · exact h
  · exact h.lose k
theorem WR (n : NS) (k : Int × Int) : (kT n k).gone.length ≤ n.gone.length + 1 := by
  simp only [kT]; split <;> simp
theorem xk (n : NS) (k : Int × Int) : (loseIf n k).gone.length ≤ n.gone.length + 1 := by
  unfold loseIf; split
  · omega
  · exact WR n k
def wt (p : Int × Int) : List Value := [.int .i64 p.1, .int .i64 p.2]
theorem zb (p : Int × Int) : (wt p).length = 2 := rfl
theorem hole_ok (H : j3 w0) (p : Nat) (n : NS) (Cn G : qM) (hn : NodeC p n Cn) (hg : kJ G) (hok : NOk n) (i : Int) (hi : 0 ≤ i ∧ i < 1064) (hgl : n.gone.length ≤ 900000) :
    FnT Tryz.prog w0 42 #[.pointer (some ⟨p, 0, none⟩), .int .i64 i] (Cn :: G :: F) (fun v L' => v = .tuple #[] ∧ ∃ Cn', NodeC p (jM n i) Cn' ∧ L' = Cn' :: G :: F) := by
  obtain ⟨e0, f0, e1, f1, e2, f2, hG⟩ := id hg
  obtain ⟨ma, md, ms, oa, od, os, u, C, hM, hCn⟩ := hn.eq
  unfold wz at hCn
  refine FnT.pre (L' := [(p, .cells [.int .u32 n.num, .int .u32 n.ver, .int .i64 n.kind, .int .i64 n.size, .int .u32 n.time, .map (some ma), .map (some md), .map (some ms), u].toArray 90 (0, 0))] :: [(ma, oa)] :: [(md, od)] :: [(ms, os)] :: C :: G :: F) ?_ (wH (by rw [hCn]; simp))
  have hpa := xb hi
  obtain ⟨ab, hab⟩ : ∃ ab, wj i = ab := ⟨_, rfl⟩
  rw [hab] at hpa
  refine FnT.enter (E0 := [(0, _), (1, _)]) (N := 55) Tryz.func42 rfl rfl rfl rfl ?_
  refine Tr.seq <| Tr.region <| q9 (qA rfl) <| q9 (qJ rfl) <| q9 (qD rfl) <| q9 (qG rfl rfl) <| q9 (qA rfl) <| zY (ji (q := i) rfl rfl hM.d) ?_
  rintro _ _ ⟨od', hod', rfl⟩
  refine qB <| QAt.seq <| Tr.seq ?_
  obtain ⟨C1, hC1⟩ : ∃ C1, C1 = ((p, .cells (wz (zT n i none) ma md ms u).toArray 90 (0, 0)) :: (ma, oa) :: (md, od') :: (ms, os) :: C : qM) := ⟨_, rfl⟩
  have hn1 : NodeC p (zT n i none) C1 := ⟨ma, md, ms, oa, od', os, u, C, hC1, hM.a, hod', hM.s, hM.g⟩
  refine yW (wH (L' := C1 :: G :: F) (by rw [hC1]; simp [wz, zT])) ?_
  refine Tr.region <| q9 (qA rfl) <| q9 (qA rfl) <| q9 (wF rfl) <| qF (qn rfl (wM (C1) (Xd p (zT n i none) C1 hn1 (1, i) (by show n.gone.length ≤ _; omega)))) ?_
  rintro t15 _ ⟨rfl, C2, hn2, rfl⟩
  refine qB ?_
  obtain ⟨m, hm⟩ : ∃ m, kT (zT n i none) (1, i) = m := ⟨_, rfl⟩
  have hok2 : NOk m := hm ▸ (hok.dataNone i).lose _
  have hgl2 : m.gone.length ≤ 900001 := by have := WR (zT n i none) (1, i); rw [hm] at this; have e : (zT n i none).gone = n.gone := rfl; rw [e] at this; omega
  rw [hm] at hn2
  refine QAt.seq <| Tr.seq <| Tr.region <| q9 (qA rfl) <| q9 (qw rfl (zM (G) (ZT i G hg (by omega)))) <| qF (qV) ?_
  rintro t4 _ ⟨b4, rfl, rfl⟩
  refine qK (qW (l := [Value.int .i64 0, Value.int .i64 0]) (vs := [.int .i64 ab.1, .int .i64 ab.2]) rfl (by rw [hab]; rfl) rfl rfl rfl) ?_
  refine qB <| QAt.seq <| Tr.seq ?_
  obtain ⟨ma, md, ms, oa, od, os, u, C, hM2, hC2⟩ := hn2.eq
  unfold wz at hC2
  obtain ⟨n0, hn0⟩ : ∃ n0, n0 = n := ⟨_, rfl⟩
  obtain ⟨n, hnm⟩ : ∃ n, n = m := ⟨_, rfl⟩
  rw [← hnm] at hC2 hM2 hok2 hgl2 hm
  refine yW (L' := [(b4, .cells [.int .i64 ab.1, .int .i64 ab.2].toArray 100 (0, 0))] :: [(p, .cells [.int .u32 n.num, .int .u32 n.ver, .int .i64 n.kind, .int .i64 n.size, .int .u32 n.time, .map (some ma), .map (some md), .map (some ms), u].toArray 90 (0, 0))] :: [(ma, oa)] :: [(md, od)] :: [(ms, os)] :: C :: [(0, .cells [Value.int .i64 2, Value.int .i64 0].toArray e0 f0)] :: [(1, .cells [Value.int .i64 4, Value.int .i64 0].toArray e1 f1)] :: [(2, .cells [Value.int .i64 3, Value.int .i64 0].toArray e2 f2)] :: F) (wH (by rw [hC2, hG]; simp)) ?_
  refine Tr.drawn qm <| qr [(18, .pure _), (19, .pure _), (20, .pure _), (21, .pure _), (22, .pure _)] (by kernel_rfl) rfl rfl rfl wL (ParH.pure rfl (fun X => qA rfl) <| ParH.pure rfl (fun X => qJ rfl) <| ParH.pure rfl (fun X => qD rfl) <| ParH.pure rfl (fun X => qG rfl rfl) <| ParH.pure rfl (fun X => wE rfl) <| ParH.nil rfl) ?_
  dsimp only [zG, List.drop, List.length]
  refine zL (by kernel_rfl) (wu (q := (2, 0)) (v := (1 : Int)) rfl rfl rfl hM2.s) ?_
  rintro _ _ ⟨os', hos', rfl⟩
  refine qt ?_
  have hM3 : KJ (setStale n (2, 0)) oa od os' u C := ⟨hM2.a, hM2.d, hos', hM2.g⟩
  have hok3 := hok2.setStale (k := (2, 0)) (.inr (.inl rfl))
  refine QAt.seq <| Tr.seq <| Tr.seq <| Tr.region <| q9 (wE rfl) <| q9 (wE rfl) <| q9 (WQ rfl rfl) <| qB <| QAt.seq <| qI rfl (fun hc4 => ?_) (fun hc4 => ?_)
  ·
   refine yW (L' := (((p, .cells (wz (setStale n (2, 0)) ma md ms u).toArray 90 (0, 0)) :: (ma, oa) :: (md, od) :: (ms, os') :: C : qM) :: G :: F)) (fun w hw => wH (by rw [hG]; simp [wz, setStale]) w hw.tail) ?_
   refine Tr.ret <| qe <| ye (((p, .cells (wz (setStale n (2, 0)) ma md ms u).toArray 90 (0, 0)) :: (ma, oa) :: (md, od) :: (ms, os') :: C : qM) :: G :: F) (.inl rfl) rfl  ?_
   have e1 : ab = (2, 0) := by simpa [Prod.ext_iff] using hc4
   refine ⟨rfl, ((p, .cells (wz (setStale n (2, 0)) ma md ms u).toArray 90 (0, 0)) :: (ma, oa) :: (md, od) :: (ms, os') :: C : qM), ?_, rfl⟩
   rw [← hn0, show jM n0 i = setStale n (2, 0) from by unfold jM; rw [hab, if_pos e1, hn0, hm]]
   exact ⟨ma, md, ms, oa, od, os', u, C, rfl, hM3.a, hM3.d, hM3.s, hM3.g⟩
  ·
   refine Tr.skip <| QAt.seq <| Tr.seq <| Tr.drawn qm <| qr [(26, .pure _), (27, .pure _), (28, .pure _), (29, .pure _), (30, .pure _)] (by kernel_rfl) rfl rfl rfl wL (ParH.pure rfl (fun X => qA rfl) <| ParH.pure rfl (fun X => qJ rfl) <| ParH.pure rfl (fun X => qD rfl) <| ParH.pure rfl (fun X => qG rfl rfl) <| ParH.pure rfl (fun X => wE rfl) <| ParH.nil rfl) ?_
   dsimp only [zG, List.drop, List.length]
   refine zL (by kernel_rfl) (wu (q := ab) (v := (1 : Int)) rfl rfl rfl hM3.s) ?_
   rintro _ _ ⟨os4, hos4, rfl⟩
   refine qt <| QAt.seq <| zA (Γ := {pΓ : (NS) × (qM) // (fun (m4 : NS) (C4 : qM) => NodeC p m4 C4 ∧ m4 = (if ab.1 = 5 then setStale (setStale (setStale n (2, 0)) ab) (4, 0) else setStale (setStale n (2, 0)) ab) ∧ NOk m4 ∧ m4.gone.length ≤ 900001) pΓ.1 pΓ.2}) (fun g => (fun (m4 : NS) (C4 : qM) => [(0, .pointer (some ⟨p, 0, none⟩)), (4, .pointer (some ⟨b4, 0, none⟩))]) g.1.1 g.1.2) (fun g => (fun (m4 : NS) (C4 : qM) => [(b4, .cells [.int .i64 ab.1, .int .i64 ab.2].toArray 100 (0, 0))] :: C4 :: G :: F) g.1.1 g.1.2) ?_ ?_
   ·
    refine Tr.seq <| Tr.region <| q9 (qD rfl) <| q9 (qG rfl rfl) <| q9 (wR rfl rfl) <| qB <| QAt.seq <| qI rfl (fun hc6 => ?_) (fun hc6 => ?_)
    ·
     refine Tr.drawn qm <| qr [(34, .pure _), (35, .pure _), (36, .pure _), (37, .pure _), (38, .pure _)] (by kernel_rfl) rfl rfl rfl wL (ParH.pure rfl (fun X => qA rfl) <| ParH.pure rfl (fun X => qJ rfl) <| ParH.pure rfl (fun X => qD rfl) <| ParH.pure rfl (fun X => qG rfl rfl) <| ParH.pure rfl (fun X => wE rfl) <| ParH.nil rfl) ?_
     dsimp only [zG, List.drop, List.length]
     refine zL (by kernel_rfl) (wu (q := (4, 0)) (v := (1 : Int)) rfl rfl rfl hos4) ?_
     rintro _ _ ⟨os5, hos5, rfl⟩
     refine qt <| qO ⟨(setStale (setStale (setStale n (2, 0)) ab) (4, 0), ((p, .cells (wz (setStale n (2, 0)) ma md ms u).toArray 90 (0, 0)) :: (ma, oa) :: (md, od) :: (ms, os5) :: C : qM)), ?_⟩ ?_
     · (try dsimp only); exact ⟨⟨ma, md, ms, oa, od, os5, u, C, rfl, hM3.a, hM3.d, hos5, hM3.g⟩, by rw [if_pos hc6], (hok3.setStale hpa).setStale (.inr (.inr (.inr (.inl rfl)))), hgl2⟩
     · (try dsimp only); exact wH (by rw [hG]; simp [wz, setStale])
    ·
     refine Tr.skip <| qO ⟨(setStale (setStale n (2, 0)) ab, ((p, .cells (wz (setStale n (2, 0)) ma md ms u).toArray 90 (0, 0)) :: (ma, oa) :: (md, od) :: (ms, os4) :: C : qM)), ?_⟩ ?_
     · (try dsimp only); exact ⟨⟨ma, md, ms, oa, od, os4, u, C, rfl, hM3.a, hM3.d, hos4, hM3.g⟩, by rw [if_neg hc6], (hok3.setStale hpa), hgl2⟩
     · (try dsimp only); exact wH (by rw [hG]; simp [wz, setStale])
   rintro ⟨⟨m4, C4⟩, hcut⟩
   replace hcut : NodeC p m4 C4 ∧ m4 = (if ab.1 = 5 then setStale (setStale (setStale n (2, 0)) ab) (4, 0) else setStale (setStale n (2, 0)) ab) ∧ NOk m4 ∧ m4.gone.length ≤ 900001 := hcut
   obtain ⟨hn4, hm4, hok4, hgl4⟩ := hcut
   show Tr _ _ _ ([(0, .pointer (some ⟨p, 0, none⟩)), (4, .pointer (some ⟨b4, 0, none⟩))]) ([(b4, .cells [.int .i64 ab.1, .int .i64 ab.2].toArray 100 (0, 0))] :: C4 :: G :: F) _ _
   refine Tr.seq <| yW (L' := [(b4, .cells [.int .i64 ab.1, .int .i64 ab.2].toArray 100 (0, 0))] :: [(0, .cells [Value.int .i64 2, Value.int .i64 0].toArray e0 f0)] :: [(1, .cells [Value.int .i64 4, Value.int .i64 0].toArray e1 f1)] :: [(2, .cells [Value.int .i64 3, Value.int .i64 0].toArray e2 f2)] :: C4 :: F) (by rw [hG]; exact (yI (by intro f; simp only [List.flatten_cons, List.flatten_nil, List.append_nil, List.countP_append, List.countP_cons, List.countP_nil]; omega))) ?_
   refine Tr.region <| q9 (wE rfl) <| q9 (wE rfl) <| qF (w5 rfl rfl rfl) ?_
   rintro t41 _ ⟨b41, rfl, rfl⟩
   refine q9 (qg rfl) <| q9 (qA rfl) <| qB <| z8 (L' := [(b41, .cells [.int .i64 ab.1, .int .i64 ab.2, .int .i64 4, .int .i64 0].toArray 100 (0, 0))] :: [(0, .cells [Value.int .i64 2, Value.int .i64 0].toArray e0 f0)] :: [(1, .cells [Value.int .i64 4, Value.int .i64 0].toArray e1 f1)] :: [(2, .cells [Value.int .i64 3, Value.int .i64 0].toArray e2 f2)] :: C4 :: F) (qP _) <| z8 (L' := [(b41, .cells [.int .i64 ab.1, .int .i64 ab.2, .int .i64 4, .int .i64 0].toArray 100 (0, 0))] :: C4 :: G :: F) (by rw [hG]; exact (yI (by intro f; simp only [List.flatten_cons, List.flatten_nil, List.append_nil, List.countP_append, List.countP_cons, List.countP_nil]; omega))) ?_
   refine z8 (L' := [(b41, .cells (([ab, (4, 0)] : List (Int × Int)).flatMap wt ++ []).toArray 100 (0, 0))] :: C4 :: G :: F) (fun _ h => h) ?_
   refine QAt.seq <| Tr.block <| wB (Γ := {pΓ : (Nat) × (NS) × (qM) // (fun (j : Nat) (m : NS) (Cm : qM) => j ≤ 2 ∧ NodeC p m Cm ∧ NOk m ∧ m.gone.length ≤ 900001 + j ∧ (([ab, (4, 0)] : List (Int × Int)).drop j).foldl loseIf m = ([ab, (4, 0)] : List (Int × Int)).foldl loseIf m4) pΓ.1 pΓ.2.1 pΓ.2.2}) (fun g => (fun (j : Nat) (m : NS) (Cm : qM) => [(0, .pointer (some ⟨p, 0, none⟩)), (41, .slice (some ⟨b41, 0, none⟩) 2 2), (42, .int .i64 2), (43, .int .i64 j)]) g.1.1 g.1.2.1 g.1.2.2) (fun g => (fun (j : Nat) (m : NS) (Cm : qM) => [(b41, .cells (([ab, (4, 0)] : List (Int × Int)).flatMap wt ++ []).toArray 100 (0, 0))] :: Cm :: G :: F) g.1.1 g.1.2.1 g.1.2.2) (fun g => (fun (j : Nat) (m : NS) (Cm : qM) => 2 - j) g.1.1 g.1.2.1 g.1.2.2) ⟨(0, m4, C4), by dsimp only; exact ⟨by omega, hn4, hok4, by omega, rfl⟩⟩ (qP _) ?_
   rintro ⟨⟨j, m, Cm⟩, hloop⟩
   replace hloop : j ≤ 2 ∧ NodeC p m Cm ∧ NOk m ∧ m.gone.length ≤ 900001 + j ∧ (([ab, (4, 0)] : List (Int × Int)).drop j).foldl loseIf m = ([ab, (4, 0)] : List (Int × Int)).foldl loseIf m4 := hloop
   obtain ⟨hj, hnm', hokm, hglm, hfold⟩ := hloop
   show Tr _ _ _ ([(0, .pointer (some ⟨p, 0, none⟩)), (41, .slice (some ⟨b41, 0, none⟩) 2 2), (42, .int .i64 2), (43, .int .i64 j)]) ([(b41, .cells (([ab, (4, 0)] : List (Int × Int)).flatMap wt ++ []).toArray 100 (0, 0))] :: Cm :: G :: F) _ _
   refine Tr.seq <| Tr.region <| q9 (qv rfl rfl) <| qB <| QAt.seq <| Tr.seq <| qI rfl (fun hc9 => ?_) (fun hc9 => ?_)
   ·
    refine Tr.skip <| QAt.seq <| Tr.seq <| Tr.block <| Tr.seq ?_
    obtain ⟨q, hq⟩ : ∃ q, ([ab, (4, 0)] : List (Int × Int))[j]? = some q := ⟨_, List.getElem?_eq_getElem (by simp; omega)⟩
    rw [yo hq, List.foldl_cons] at hfold
    refine Tr.region <| q9 (qf (j := j) (off := j * 2) rfl rfl rfl (by omega) (by simp)) ?_
    refine q9 (wk (j := j) zb rfl hq rfl) <| qF (qV) ?_
    rintro t6 _ ⟨b6, rfl, rfl⟩
    refine qK (qW (l := [Value.int .i64 0, Value.int .i64 0]) (vs := [.int .i64 q.1, .int .i64 q.2]) rfl rfl rfl rfl rfl) <| qB <| QAt.seq <| Tr.seq <| Tr.region <| q9 (qA rfl) <| q9 (wE rfl) <| q9 (qw rfl (yc (Cm) (G) (YD H p m Cm G hnm' hg hokm q))) <| q9 (kM rfl) <| qB <| QAt.seq <| Tr.cond rfl (fun hc11 => ?_) (fun hc11 => ?_)
    ·
     refine Tr.region <| q9 (qA rfl) <| q9 (wE rfl) <| qF (qn rfl (wM (Cm) (Xd p m Cm hnm' q (by omega)))) ?_
     rintro t53 _ ⟨rfl, Cm', hn', rfl⟩
     refine qB <| QAt.block <| QAt.seq <| Tr.region <| q9 (qj rfl rfl (by omega)) <| q9 (qA rfl) <| qB <| qh ⟨(j + 1, kT m q, Cm'), ?_⟩ ?_ ?_
     ·
      try dsimp only
      have hk : Qs m q = false := by simpa using hc11
      have hl : loseIf m q = kT m q := by unfold loseIf; rw [hk]; rfl
      rw [hl] at hfold
      exact ⟨by omega, hn', hokm.lose q, by have := WR m q; omega, hfold⟩
     · (try dsimp only); omega
     · (try dsimp only); exact qP _
    ·
     refine Tr.skip <| QAt.block <| QAt.seq <| Tr.region <| q9 (qj rfl rfl (by omega)) <| q9 (qA rfl) <| qB <| qh ⟨(j + 1, m, Cm), ?_⟩ ?_ ?_
     ·
      try dsimp only
      have hk : Qs m q = true := by simpa using hc11
      have hl : loseIf m q = m := by unfold loseIf; rw [hk]; rfl
      rw [hl] at hfold
      exact ⟨by omega, hnm', hokm, by omega, hfold⟩
     · (try dsimp only); omega
     · (try dsimp only); exact qP _
   ·
    refine Tr.exit <| qX <| qY <| qS <| ye (Cm :: G :: F) (.inr rfl) rfl  ?_
    have hj2 : j = 2 := by omega
    subst hj2
    have e1 : ¬ ab = (2, 0) := by simpa [Prod.ext_iff] using hc4
    exact ⟨rfl, Cm, by rw [← hn0, show jM n0 i = m from by unfold jM; rw [hab, if_neg e1, hn0, hm, ← hm4]; exact hfold.symm]; exact hnm', rfl⟩
theorem ZY (n : Nat) : IsB (List.replicate n 0) := fun b hb => by rw [List.mem_replicate] at hb; omega
def _root_.Go.Nd.Sec.clr (s : Sec) (k : Nat) : Sec := ze s k (List.replicate (128 - k) 0)
theorem zeroCells_u8 (n : Nat) : (Builtin.zeroCells #[Value.int .u8 0] n).toList = u8s (List.replicate n 0) := by
  apply List.ext_getElem
  · simp [Builtin.zeroCells]
  · intro i h1 h2
    simp [Builtin.zeroCells, u8s, Nat.mod_one]
theorem clr_sec (s : Sec) (k : Nat) (h : k < 128) : (wW s).take k ++ (Builtin.zeroCells #[Value.int .u8 0] (128 - k)).toList ++ (wW s).drop (k + (128 - k) * 1) = wW (s.clr k) := by
  rw [zeroCells_u8]
  have := XU s k (List.replicate (128 - k) 0) (by simp; omega) (ZY _)
  unfold Go.Nd.Sec.clr
  rw [jP (by simp; omega) (ZY _), ← this]
  simp
theorem NOk.hole {n : NS} (h : NOk n) {i : Int} (hi : 0 ≤ i ∧ i < 1064) : NOk (jM n i) := by
  have h2 : NOk (Proofs.YtjikpomndbkfgaaGreatDoor.setStale (kT (zT n i none) (1, i)) (2, 0)) := ((h.dataNone i).lose _).setStale (.inr (.inl rfl))
  unfold jM
  split
  · exact h2
  · simp only [List.foldl_cons, List.foldl_nil]
    refine NOk.loseIf (NOk.loseIf ?_ _) _
    split
    · exact (h2.setStale (xb hi)).setStale (.inr (.inr (.inr (.inl rfl))))
    · exact h2.setStale (xb hi)
theorem hole_gone (n : NS) (i : Int) : (jM n i).gone.length ≤ n.gone.length + 3 := by
  have h1 : ∀ m k, (setStale m k).gone = m.gone := fun _ _ => rfl
  have h2 := WR (zT n i none) (1, i)
  have h3 : (zT n i none).gone = n.gone := rfl
  rw [h3] at h2
  unfold jM
  split
  · rw [h1]; omega
  · simp only [List.foldl_cons, List.foldl_nil]
    split
    · have a := xk (setStale (setStale (setStale (kT (zT n i none) (1, i)) (2, 0)) (wj i)) (4, 0)) (wj i)
      have b := xk (loseIf (setStale (setStale (setStale (kT (zT n i none) (1, i)) (2, 0)) (wj i)) (4, 0)) (wj i)) (4, 0)
      simp only [h1] at a; omega
    · have a := xk (setStale (setStale (kT (zT n i none) (1, i)) (2, 0)) (wj i)) (wj i)
      have b := xk (loseIf (setStale (setStale (kT (zT n i none) (1, i)) (2, 0)) (wj i)) (wj i)) (4, 0)
      simp only [h1] at a; omega
def kg (n : NS) (g : Int → Option Sec) (size : Int) : Option NS :=
  if size < n.size ∧ size % 128 ≠ 0 ∧ jk n (wy size - 1) then (blk n g (wy size - 1)).map (fun s => zT n (wy size - 1) (some (s.clr (size % 128).toNat))) else some n
def xP (n : NS) (size : Int) : NS := (jb n).foldl (fun m i => if wy size - 1 < i then jM m i else m) n
def xQ (n : NS) (size : Int) : NS := if n.size ≠ size then { setStale n (2, 0) with size := size } else n
def kG (n : NS) (g : Int → Option Sec) (size : Int) : Int × NS :=
  if size < 0 then (1, n) else if 136192 < size then (12, n) else
  match kg n g size with
  | none => (20, n)
  | some m => (0, xQ (xP m size) size)
theorem WV {s : Int} (h : 0 ≤ s ∧ s ≤ 136192) : -1 ≤ wy s - 1 ∧ wy s - 1 < 1064 := by unfold wy; split <;> omega
theorem blocks_mod {s : Int} (h : 0 ≤ s) (h2 : s % 128 ≠ 0) : 0 ≤ wy s - 1 := by unfold wy; split <;> omega
theorem Qx (H : j3 w0) (p : Nat) (n : NS) (Cn D G : qM) (hn : NodeC p n Cn) (hg : kJ G) (hok : NOk n) (size : Int) (rv : Value) (g : Int → Option Sec) (hr : YJ rv D g)
    (hsz : -9223372036854775808 ≤ size ∧ size ≤ 9223372036854775807) (hgl : n.gone.length ≤ 800000) :
    FnT Tryz.prog w0 13 #[.pointer (some ⟨p, 0, none⟩), .int .i64 size, rv] (Cn :: D :: G :: F)
      (fun v L' => ∃ Cn', v = .int .i64 (kG n g size).1 ∧ NodeC p (kG n g size).2 Cn' ∧ L' = Cn' :: D :: G :: F) := by
  obtain ⟨e0, f0, e1, f1, e2, f2, hG⟩ := id hg
  obtain ⟨ma, md, ms, oa, od, os, u, C, hM, hCn⟩ := hn.eq
  unfold wz at hCn
  refine FnT.enter (E0 := [(0, _), (1, _), (2, _)]) (N := 86) Tryz.func13 rfl rfl rfl rfl ?_
  refine Tr.seq <| Tr.region <| q9 (qC rfl) <| qB <| QAt.seq <| Tr.seq <| Tr.block <| Tr.seq <| Tr.region <| q9 (qA rfl) <| q9 (qv rfl rfl) <| q9 (qC rfl) <| qB <| QAt.seq <| qI rfl (fun hc1 => ?_) (fun hc1 => ?_)
  ·
   refine Tr.seq <| Tr.region <| q9 (qC rfl) <| qB <| QAt.seq <| Tr.ret <| qu <| qe <| qs (Cn :: D :: G :: F) (.inl rfl) rfl (qd rfl) ?_
   exact ⟨Cn, by unfold kG; rw [if_pos hc1], by unfold kG; rw [if_pos hc1]; exact hn, rfl⟩
  ·
   refine Tr.seq <| Tr.region <| q9 (qA rfl) <| q9 (zd rfl rfl) <| q9 (qC rfl) <| qB <| QAt.seq <| qI rfl (fun hc3 => ?_) (fun hc3 => ?_)
   ·
    refine Tr.seq <| Tr.region <| q9 (qC rfl) <| qB <| QAt.seq <| Tr.ret <| qu <| qe <| qs (Cn :: D :: G :: F) (.inl rfl) rfl (qd rfl) ?_
    exact ⟨Cn, by unfold kG; rw [if_neg hc1, if_pos hc3], by unfold kG; rw [if_neg hc1, if_pos hc3]; exact hn, rfl⟩
   ·
    refine Tr.skip <| QAt.block <| QAt.seq <| Tr.seq ?_
    have hbd := WV (s := size) (by omega)
    obtain ⟨last, hlast⟩ : ∃ last, wy size - 1 = last := ⟨_, rfl⟩
    refine Tr.region <| q9 (qA rfl) <| q9 (qw rfl (blocks_spec size hsz.2)) <| q9 (zV rfl rfl (by omega)) <| q9 (qC rfl) <| qB ?_
    rw [hlast] at hbd ⊢
    refine QAt.seq <| zA (Γ := {pΓ : (NS) × (qM) // (fun (n1 : NS) (C1 : qM) => NodeC p n1 C1 ∧ NOk n1 ∧ n1.gone.length ≤ 800000 ∧ kg n g size = some n1) pΓ.1 pΓ.2}) (fun g => (fun (n1 : NS) (C1 : qM) => [(0, .pointer (some ⟨p, 0, none⟩)), (1, .int .i64 size), (2, rv), (7, .int .i64 last)]) g.1.1 g.1.2) (fun g => (fun (n1 : NS) (C1 : qM) => C1 :: D :: G :: F) g.1.1 g.1.2) ?_ ?_
    ·
     refine Tr.seq <| Tr.region <| q9 (qA rfl) <| q9 (jV rfl rfl (by omega) (by omega)) <| q9 (qC rfl) <| qB <| QAt.seq <| zA (Γ := {pΓ : (Bool) // (fun (b : Bool) => b = true ↔ (size < n.size ∧ size % 128 ≠ 0 ∧ jk n last)) pΓ}) (fun g => (fun (b : Bool) => [(0, .pointer (some ⟨p, 0, none⟩)), (1, .int .i64 size), (2, rv), (7, .int .i64 last), (8, .int .i64 (size % 128)), (38, .bool b)]) g.1) (fun g => (fun (b : Bool) => Cn :: D :: G :: F) g.1) ?_ ?_
     ·
      refine yW (wH (L' := [(p, .cells [.int .u32 n.num, .int .u32 n.ver, .int .i64 n.kind, .int .i64 n.size, .int .u32 n.time, .map (some ma), .map (some md), .map (some ms), u].toArray 90 (0, 0))] :: [(ma, oa)] :: [(md, od)] :: [(ms, os)] :: C :: D :: G :: F) (by rw [hCn]; simp)) ?_
      refine Tr.region <| q9 (qA rfl) <| q9 (qA rfl) <| q9 (qJ rfl) <| q9 (qD rfl) <| q9 (qG rfl rfl) <| q9 (qv rfl rfl) <| q9 (qA rfl) <| qN (s := 30) rfl (fun hg7_6 => ?_) (fun hg7_6 => ?_)
      ·
       refine qE rfl rfl (qA rfl) <| qE rfl rfl (wZ rfl rfl) <| q9 (qT rfl rfl) <| q9 (qA rfl) <| qN (s := 34) rfl (fun hg7_10 => ?_) (fun hg7_10 => ?_)
       ·
        refine qE rfl rfl (qA rfl) <| qE rfl rfl (qA rfl) <| qE rfl rfl (qw rfl (QN (L1 := Cn :: D :: G :: F) (has_spec p n Cn hn last) (by rw [hCn]; simp))) ?_
        refine q9 (qT rfl rfl) <| qB <| qO ⟨_, ?_⟩ ?_
        · (try dsimp only); first | exact ⟨fun h => ⟨by omega, by omega, of_decide_eq_true (p := jk n last) h⟩, fun h => decide_eq_true (p := jk n last) h.2.2⟩ | exact ⟨fun h => (by cases h), fun h => (by omega)⟩
        · (try dsimp only); exact wH (by rw [hCn]; simp)
       ·
        refine qH rfl rfl rfl <| qH rfl rfl rfl <| qH rfl rfl rfl <| q9 (qL rfl rfl) <| qB <| qO ⟨_, ?_⟩ ?_
        · (try dsimp only); first | exact ⟨fun h => ⟨by omega, by omega, of_decide_eq_true (p := jk n last) h⟩, fun h => decide_eq_true (p := jk n last) h.2.2⟩ | exact ⟨fun h => (by cases h), fun h => (by omega)⟩
        · (try dsimp only); exact wH (by rw [hCn]; simp)
      ·
       refine qH rfl rfl rfl <| qH rfl rfl rfl <| q9 (qL rfl rfl) <| q9 (qA rfl) <| qH rfl rfl rfl <| qH rfl rfl rfl <| qH rfl rfl rfl <| q9 (qL rfl rfl) <| qB <| qO ⟨_, ?_⟩ ?_
       · (try dsimp only); first | exact ⟨fun h => ⟨by omega, by omega, of_decide_eq_true (p := jk n last) h⟩, fun h => decide_eq_true (p := jk n last) h.2.2⟩ | exact ⟨fun h => (by cases h), fun h => (by omega)⟩
       · (try dsimp only); exact wH (by rw [hCn]; simp)
     rintro ⟨b, hcut⟩
     replace hcut : b = true ↔ (size < n.size ∧ size % 128 ≠ 0 ∧ jk n last) := hcut
     have hb := hcut
     show Tr _ _ _ ([(0, .pointer (some ⟨p, 0, none⟩)), (1, .int .i64 size), (2, rv), (7, .int .i64 last), (8, .int .i64 (size % 128)), (38, .bool b)]) (Cn :: D :: G :: F) _ _
     refine Tr.cond rfl (fun hc6 => ?_) (fun hc6 => ?_)
     ·
      have hc := hb.1 hc6
      have hl0 : 0 ≤ last := hlast ▸ blocks_mod (by omega) hc.2.1
      have hT : kg n g size = (blk n g last).map (fun s => zT n last (some (s.clr (size % 128).toNat))) := by unfold kg; rw [hlast, if_pos hc]
      refine Tr.seq <| Tr.region <| q9 (qA rfl) <| q9 (qA rfl) <| q9 (qA rfl) <| q9 (qw rfl (yc (Cn) (D) (KB p n Cn D hn last rv g hr))) <| q9 (qA rfl) <| q9 (qR rfl rfl) <| q9 (qR rfl rfl) <| qF (qV) ?_
      rintro t9 _ ⟨b9, rfl, rfl⟩
      refine qK (qW rfl rfl (by simp) (by simp) (wS _)) ?_
      refine q9 (qC rfl) <| qB <| QAt.seq <| Tr.seq <| Tr.seq <| Tr.region <| q9 (qA rfl) <| q9 (wZ rfl rfl) <| qB <| QAt.seq <| qI rfl (fun hc9 => ?_) (fun hc9 => ?_)
      ·
       have hbk : blk n g last = none := by
         cases h : blk n g last with
         | none => rfl
         | some s => rw [h] at hc9; exact absurd rfl hc9
       refine Tr.seq <| Tr.region <| q9 (qA rfl) <| q9 (qC rfl) <| qB <| QAt.seq <| Tr.ret <| qe <| ya <| qs (Cn :: D :: G :: F) (.inl rfl) rfl (qd rfl) <| ⟨Cn, ?_, ?_, rfl⟩ <;> unfold kG <;> rw [if_neg hc1, if_neg hc3, hT, hbk] <;> first | rfl | exact hn
      ·
       obtain ⟨s, hbk⟩ : ∃ s, blk n g last = some s := by
         cases h : blk n g last with
         | none => rw [h] at hc9; exact absurd (by decide) hc9
         | some s => exact ⟨s, rfl⟩
       rw [hbk]
       obtain ⟨k, hk⟩ : ∃ k : Nat, size % 128 = k := ⟨(size % 128).toNat, by omega⟩
       rw [hk, Int.toNat_natCast] at hT
       refine Tr.skip <| QAt.seq <| Tr.seq <| Tr.region <| q9 (qA rfl) <| q9 (k7 (l := k) (h := 128) (kl := .i64) (kh := .i64) rfl (by rw [← hk]; rfl) rfl (by omega) (by omega)) ?_
       refine qK (op_clear (b := b9) (off := k) (n := 128 - k) (c := 128 - k) (z := .int .u8 0) (sz := 1) (r := wW (s.clr k)) (by rw [← Wj k 128 (by omega)]; rfl) (by omega) (by simp [Value.cells, Value.oneCell']) rfl (by simp; omega) (clr_sec s k (by omega))) ?_
       refine qB <| QAt.seq <| yW (L' := [(b9, .cells (wW (s.clr k)).toArray 55 (0, 0))] :: [(p, .cells [.int .u32 n.num, .int .u32 n.ver, .int .i64 n.kind, .int .i64 n.size, .int .u32 n.time, .map (some ma), .map (some md), .map (some ms), u].toArray 90 (0, 0))] :: [(ma, oa)] :: [(md, od)] :: [(ms, os)] :: C :: D :: G :: F) (wH (by rw [hCn]; simp)) ?_
       refine Tr.drawn qm <| qr [(51, .pure _), (52, .pure _), (53, .pure _), (54, .pure _), (55, .pure _), (56, .pure _)] (by kernel_rfl) rfl rfl rfl wL (ParH.pure rfl (fun X => qA rfl) <| ParH.pure rfl (fun X => qJ rfl) <| ParH.pure rfl (fun X => qD rfl) <| ParH.pure rfl (fun X => qG rfl rfl) <| ParH.pure rfl (fun X => qA rfl) <| ParH.pure rfl (fun X => w7 rfl (by first | exact zD _ | simp)) <| ParH.nil rfl) ?_
       dsimp only [zG, List.drop, List.length]
       refine zL (by kernel_rfl) (wu (q := last) (v := s.clr k) rfl rfl rfl hM.d) ?_
       rintro _ _ ⟨od', hod', rfl⟩
       refine qt <| qO ⟨(zT n last (some (s.clr k)), ((p, .cells (wz n ma md ms u).toArray 90 (0, 0)) :: (ma, oa) :: (md, od') :: (ms, os) :: C : qM)), ?_⟩ ?_
       · (try dsimp only); exact ⟨⟨ma, md, ms, oa, od', os, u, C, rfl, hM.a, hod', hM.s, hM.g⟩, hok.dataSome (by omega) _, hgl, by rw [hT, hbk]; rfl⟩
       · (try dsimp only); exact (fun w hw => wH (by simp [wz]) w hw.tail)
     ·
      refine Tr.skip <| qO ⟨(n, Cn), ?_⟩ ?_
      · (try dsimp only); exact ⟨hn, hok, hgl, by unfold kg; rw [hlast, if_neg (fun h => by rw [hb.2 h] at hc6; cases hc6)]⟩
      · (try dsimp only); exact qP _
    rintro ⟨⟨n1, C1⟩, hcut⟩
    replace hcut : NodeC p n1 C1 ∧ NOk n1 ∧ n1.gone.length ≤ 800000 ∧ kg n g size = some n1 := hcut
    obtain ⟨hn1, hok1, hgl1, hfirst⟩ := hcut
    show Tr _ _ _ ([(0, .pointer (some ⟨p, 0, none⟩)), (1, .int .i64 size), (2, rv), (7, .int .i64 last)]) (C1 :: D :: G :: F) _ _
    refine Tr.seq <| Tr.seq ?_
    obtain ⟨l, hl⟩ : ∃ l, jb n1 = l := ⟨_, rfl⟩
    have hll := ZC n1
    have hlr : ∀ x ∈ l, 0 ≤ x ∧ x < 1064 := fun x hx => YR (hl ▸ hx)
    rw [hl] at hll
    refine Tr.region <| q9 (qA rfl) <| qF (qn rfl (wM (C1) (Qd H p n1 C1 hn1 hok1))) ?_
    rintro t58 _ ⟨C', hs, rfl⟩
    rw [hl] at hs
    obtain ⟨px, cx, rfl⟩ := hs.slice
    refine q9 (qg rfl) <| q9 (qA rfl) <| qB <| QAt.seq <| Tr.block <| wB (Γ := {pΓ : (Nat) × (NS) × (qM) // (fun (i : Nat) (m : NS) (Cm : qM) => i ≤ l.length ∧ NodeC p m Cm ∧ NOk m ∧ m.gone.length ≤ 800000 + 3 * i ∧ (l.drop i).foldl (fun m i => if last < i then jM m i else m) m = l.foldl (fun m i => if last < i then jM m i else m) n1) pΓ.1 pΓ.2.1 pΓ.2.2}) (fun g => (fun (i : Nat) (m : NS) (Cm : qM) => [(0, .pointer (some ⟨p, 0, none⟩)), (1, .int .i64 size), (7, .int .i64 last), (58, .slice px l.length cx), (59, .int .i64 l.length), (60, .int .i64 i)]) g.1.1 g.1.2.1 g.1.2.2) (fun g => (fun (i : Nat) (m : NS) (Cm : qM) => C' :: Cm :: D :: G :: F) g.1.1 g.1.2.1 g.1.2.2) (fun g => (fun (i : Nat) (m : NS) (Cm : qM) => l.length - i) g.1.1 g.1.2.1 g.1.2.2) ⟨(0, n1, C1), by dsimp only; exact ⟨by omega, hn1, hok1, by omega, rfl⟩⟩ (qP _) ?_
    rintro ⟨⟨i, m, Cm⟩, hloop⟩
    replace hloop : i ≤ l.length ∧ NodeC p m Cm ∧ NOk m ∧ m.gone.length ≤ 800000 + 3 * i ∧ (l.drop i).foldl (fun m i => if last < i then jM m i else m) m = l.foldl (fun m i => if last < i then jM m i else m) n1 := hloop
    obtain ⟨hi, hnm, hokm, hglm, hfold⟩ := hloop
    show Tr _ _ _ ([(0, .pointer (some ⟨p, 0, none⟩)), (1, .int .i64 size), (7, .int .i64 last), (58, .slice px l.length cx), (59, .int .i64 l.length), (60, .int .i64 i)]) (C' :: Cm :: D :: G :: F) _ _
    refine Tr.seq <| Tr.region <| q9 (qv rfl rfl) <| qB <| QAt.seq <| Tr.seq <| qI rfl (fun hc14 => ?_) (fun hc14 => ?_)
    ·
     refine Tr.skip <| QAt.seq <| Tr.seq <| Tr.block <| Tr.seq ?_
     obtain ⟨q, hq⟩ : ∃ q, l[i]? = some q := ⟨_, List.getElem?_eq_getElem (by omega)⟩
     have hqr := hlr q (List.mem_of_getElem? hq)
     rw [yo hq, List.foldl_cons] at hfold
     refine Tr.region <| qF (zO (j := i) rfl rfl hs (by omega) (by omega)) ?_
     rintro t62 _ ⟨b, cap, spare, hqc, rfl, hcap, hnc, rfl, rfl⟩
     refine q9 (qG rfl (show wG _ _ = some (.int .i64 q) by rw [wi, Nat.mul_one, List.getElem?_append_left (by simp [iV]; omega)]; simp [iV, hq])) ?_
     refine q9 (qC rfl) <| qB <| QAt.seq <| Tr.seq <| Tr.region <| q9 (qA rfl) <| q9 (qA rfl) <| q9 (zd rfl rfl) <| qB <| QAt.seq <| qI rfl (fun hc16 => ?_) (fun hc16 => ?_)
     ·
      refine Tr.region <| q9 (qA rfl) <| q9 (qA rfl) <| qF (qn rfl (k5 (Cm) (G) (hole_ok H p m Cm G hnm hg hokm q hqr (by omega)))) ?_
      rintro t69 _ ⟨rfl, Cm', hn', rfl⟩
      refine qB <| QAt.block <| QAt.seq <| Tr.region <| q9 (qj rfl rfl (by omega)) <| q9 (qA rfl) <| qB <| qh ⟨(i + 1, jM m q, Cm'), ?_⟩ ?_ ?_
      · (try dsimp only); rw [if_pos hc16] at hfold; exact ⟨by omega, hn', hokm.hole hqr, by have := hole_gone m q; omega, hfold⟩
      · (try dsimp only); omega
      · (try dsimp only); exact qP _
     ·
      refine Tr.skip <| QAt.block <| QAt.seq <| Tr.region <| q9 (qj rfl rfl (by omega)) <| q9 (qA rfl) <| qB <| qh ⟨(i + 1, m, Cm), ?_⟩ ?_ ?_
      · (try dsimp only); rw [if_neg hc16] at hfold; exact ⟨by omega, hnm, hokm, by omega, hfold⟩
      · (try dsimp only); omega
      · (try dsimp only); exact qP _
    ·
     refine Tr.exit <| qX <| qY <| qS <| QAt.seq <| zA (Γ := {pΓ : (qM) // (fun (Cm' : qM) => NodeC p (kG n g size).2 Cm' ∧ (kG n g size).1 = 0) pΓ}) (fun g => (fun (Cm' : qM) => []) g.1) (fun g => (fun (Cm' : qM) => Cm' :: D :: G :: F) g.1) ?_ ?_
     ·
      refine Tr.seq ?_
      rw [List.drop_of_length_le (by omega)] at hfold
      have hm2 : xP n1 size = m := by unfold xP; rw [hlast, hl]; exact hfold.symm
      have hT2 : kG n g size = (0, xQ m size) := by unfold kG; rw [if_neg hc1, if_neg hc3, hfirst]; dsimp only; rw [hm2]
      obtain ⟨ma, md, ms, oa, od, os, u, C, hMm, hCm⟩ := hnm.eq
      unfold wz at hCm
      obtain ⟨n0, hn0⟩ : ∃ n0, n0 = n := ⟨_, rfl⟩
      rw [← hn0] at hT2 ⊢
      obtain ⟨n, hnm'⟩ : ∃ n, n = m := ⟨_, rfl⟩
      rw [← hnm'] at hCm hMm hT2 hnm
      refine yW (L' := [(p, .cells [.int .u32 n.num, .int .u32 n.ver, .int .i64 n.kind, .int .i64 n.size, .int .u32 n.time, .map (some ma), .map (some md), .map (some ms), u].toArray 90 (0, 0))] :: [(ma, oa)] :: [(md, od)] :: [(ms, os)] :: C :: [(0, .cells [Value.int .i64 2, Value.int .i64 0].toArray e0 f0)] :: [(1, .cells [Value.int .i64 4, Value.int .i64 0].toArray e1 f1)] :: [(2, .cells [Value.int .i64 3, Value.int .i64 0].toArray e2 f2)] :: D :: F) (fun w hw => ((by rw [hCm, hG]; exact (yI (by intro f; simp only [List.flatten_cons, List.flatten_nil, List.append_nil, List.countP_append, List.countP_cons, List.countP_nil]; omega))) : ∀ w, Own w0 (Cm :: D :: G :: F) w → Own w0 ([(p, .cells [.int .u32 n.num, .int .u32 n.ver, .int .i64 n.kind, .int .i64 n.size, .int .u32 n.time, .map (some ma), .map (some md), .map (some ms), u].toArray 90 (0, 0))] :: [(ma, oa)] :: [(md, od)] :: [(ms, os)] :: C :: [(0, .cells [Value.int .i64 2, Value.int .i64 0].toArray e0 f0)] :: [(1, .cells [Value.int .i64 4, Value.int .i64 0].toArray e1 f1)] :: [(2, .cells [Value.int .i64 3, Value.int .i64 0].toArray e2 f2)] :: D :: F) w) w hw.tail) ?_
      refine Tr.region <| q9 (qA rfl) <| q9 (qJ rfl) <| q9 (qD rfl) <| q9 (qG rfl rfl) <| q9 (qA rfl) <| q9 (wZ rfl rfl) <| qB <| QAt.seq <| qI rfl (fun hc19 => ?_) (fun hc19 => ?_)
      ·
       refine Tr.seq <| Tr.region <| q9 (qA rfl) <| q9 (qA rfl) <| q9 (qJ rfl) <| q9 (qD rfl) <| qK (wX rfl rfl rfl) <| qB ?_
       skip
       refine QAt.seq <| Tr.drawn qm <| qr [(81, .pure _), (82, .pure _), (83, .pure _), (84, .pure _), (85, .pure _)] (by kernel_rfl) rfl rfl rfl wL (ParH.pure rfl (fun X => qA rfl) <| ParH.pure rfl (fun X => qJ rfl) <| ParH.pure rfl (fun X => qD rfl) <| ParH.pure rfl (fun X => qG rfl rfl) <| ParH.pure rfl (fun X => wE rfl) <| ParH.nil rfl) ?_
       dsimp only [zG, List.drop, List.length]
       refine zL (by kernel_rfl) (wu (q := (2, 0)) (v := (1 : Int)) rfl rfl rfl hMm.s) ?_
       rintro _ _ ⟨os', hos', rfl⟩
       refine qt <| qO ⟨((p, .cells (wz (xQ n size) ma md ms u).toArray 90 (0, 0)) :: (ma, oa) :: (md, od) :: (ms, os') :: C : qM), ?_⟩ ?_
       · (try dsimp only); rw [hT2]; refine ⟨?_, rfl⟩; unfold xQ; rw [if_pos hc19]; exact ⟨ma, md, ms, oa, od, os', u, C, rfl, hMm.a, hMm.d, hos', hMm.g⟩
       · (try dsimp only); exact (by rw [hG]; unfold xQ; rw [if_pos hc19]; simp only [wz, setStale]; exact (yI (by intro f; simp only [List.flatten_cons, List.flatten_nil, List.append_nil, List.countP_append, List.countP_cons, List.countP_nil]; omega)))
      ·
       refine Tr.skip <| qO ⟨Cm, ?_⟩ ?_
       · (try dsimp only); rw [hT2]; refine ⟨?_, rfl⟩; unfold xQ; rw [if_neg hc19]; exact hnm
       · (try dsimp only); exact (by rw [hCm, hG]; exact (yI (by intro f; simp only [List.flatten_cons, List.flatten_nil, List.append_nil, List.countP_append, List.countP_cons, List.countP_nil]; omega)))
     rintro ⟨Cm', hcut⟩
     replace hcut : NodeC p (kG n g size).2 Cm' ∧ (kG n g size).1 = 0 := hcut
     obtain ⟨hend, hend0⟩ := hcut
     show Tr _ _ _ ([]) (Cm' :: D :: G :: F) _ _
     refine Tr.seq <| Tr.region <| q9 (qC rfl) <| qB <| QAt.seq <| Tr.ret <| qs (Cm' :: D :: G :: F) (.inl rfl) rfl (qd rfl) ?_
     exact ⟨Cm', by rw [hend0], hend, rfl⟩
end Go.Proofs.YtjikpomndbkfgaaGreatDoor
namespace Go.Sx
open Go
variable {P : Program} {N : Nat} {w0 : World} {E : Env} {L : Res}
theorem run_equalIn_mapNil {w : World} (d : Nat) (t k e : TypeId) (p : Option Nat) (h : P.underlying t = some (.map k e)) :
    (Op.equalIn (d + 1) t (.map p) (.map none)).run P w = .ok p.isNone w := by
  cases p <;> simp [Op.equalIn, qi h]
theorem run_eql_mapNil {w : World} (t k e : TypeId) (p : Option Nat) (h : P.underlying t = some (.map k e)) :
    (binOp .eql t (.map p) (.map none)).run P w = .ok (.bool p.isNone) w := by
  simp only [binOp]
  simp [show Op.equal t (.map p) (.map none) = Op.equalIn (9999 + 1) t (.map p) (.map none) from rfl, run_equalIn_mapNil 9999 t k e p h]
theorem op_eqlMapNil {x y : Operand} {t yt ty k e : TypeId} {p : Option Nat} (hx : opv E x = some (.map p)) (hy : opv E y = some (.map none)) (h : P.underlying t = some (.map k e)) : Op1 P N w0 E L (.binOp .eql t x y yt) ty (.bool p.isNone) L :=
  .of_run fun o a w h1 _ h3 h4 => ⟨w, by
    have hg : (eqGuard .eql t x y (.map p) (.map none)).run P w = .ok () w := rfl
    rw [execOp, h1]
    simp only [Sem.run_bind, h3.eval hx, h3.eval hy, hg, Result.andThen_ok, run_eql_mapNil t k e p h]
    rfl, h4⟩
theorem op_typeAssertM {x : Operand} {t xT k e ty : TypeId} {v : Value} (hx : opv E x = some (.iface t v)) (h : P.underlying t = some (.map k e)) : Op1 P N w0 E L (.typeAssert x xT t false) ty v L :=
  .of_run fun o a w h1 _ h3 h4 => ⟨w, by
    have hb : (Instr.typeAssert (.iface t v) xT t false).run P w = .ok v w := by
      simp [Instr.typeAssert, qi h, go_sem, Result.andThen]
    rw [execOp, h1]
    simp [h3.eval hx, hb, Sem.run_bind, Result.andThen], h4⟩
theorem op_mapsClone {args : List Operand} {f t r ty : Nat} {tys : Array TypeId} {fn : Func} {es : Array MapEntry} {clock : Nat} {S : Obj → Res} (hargs : jO E args = some [.iface t (.map (some r))]) [ha : At L r (.map es clock) S]
    (hf : P.funcs[f]? = some fn) (hname : (fn.name == "runtime.NumGoroutine") = false) (hb : fn.body.isNone = true) (hn : Extern.findNext fn = none) (he : Extern.find fn = some Extern.MapsClone.clone) :
    OpT P N w0 E L (.call ⟨.value (.func f), args.toArray, tys⟩) ty (fun v L' => ∃ q, v = .iface t (.map (some q)) ∧ L' = [(q, .map es clock)] :: L) :=
  .of_runE fun o a w h1 _ h3 h4 => ⟨_, _, { w with heap := w.heap.push (.map es clock) }, by
    have hg := h4.get ha
    have hc : (Extern.MapsClone.clone #[.iface t (.map (some r))]).run P w = .ok (.iface t (.map (some w.heap.size))) (w.alloc (.map es clock)) := by
      have e : Extern.MapsClone.clone #[.iface t (.map (some r))] = (getObj r >>= fun o => match o with
          | .map entries clock => (newObj (.map entries clock) >>= fun n => pure (.iface t (.map (some n))))
          | _ => stuck "maps.clone: a map expected") := rfl
      rw [e]
      simp [MapKept.run_getObj_map hg, Result.andThen, go_sem]
    have hrun : (callFunc f #[.iface t (.map (some r))]).run P w = .ok (.value (.iface t (.map (some w.heap.size)))) (w.alloc (.map es clock)) := by
      rw [run_callFunc_extern hf hname hb hn he, hc]; rfl
    have hgo : (execOp a.eval o).run P w = (callFunc f [.iface t (.map (some r))].toArray).run P w := by
      rw [execOp, h1]; simp [resolve, Act.eval, Deferred.ofValue, invoke, xZ h3 _ _ hargs]
    exact hgo.trans hrun, ⟨_, rfl, rfl⟩, h4.alloc _⟩
theorem ParH.actG {ops os : List Oper} {items : List (Nat × PItem)} {k j d g dg : Nat} {b : Bool} {op : Op} {ty : TypeId} {pos : String} {af : Array Edge} {A : qM} {G : Value → qM → Prop}
    (hi : items[j]? = some (d, .act A G)) (hg : yS ops g = some dg) (hl : yR E dg = some (.bool b)) (h : ∀ X, OpT P N w0 (ZG items k af.toList E) (A :: X :: L) op ty (fun v' L' => ∃ C, G v' C ∧ L' = C :: X :: L)) (t : ParH P N w0 ops items k E L (j + 1) os) :
    ParH P N w0 ops items k E L j (⟨some d, op, ty, pos, af, some (g, b)⟩ :: os) :=
  .cons ⟨d, _, hi, rfl, .inr ⟨A, G, rfl, by simp [jQ, hg, hl], h⟩⟩ t
theorem FnT.rdA2 {f : FuncId} {args : Array Value} {F : Res} {G : Value → qM → Prop} (c1 c2 : qM) [ht : Take L [c1, c2] F] (h : FnT P w0 f args (c1 :: c2 :: F) (fun v L' => ∃ C, G v C ∧ L' = C :: c1 :: c2 :: F)) : FnT P w0 f args L (fun v L' => ∃ C, G v C ∧ L' = C :: L) :=
  (h.pre fun _ hw => hw.perm ht.perm).post fun v L' ⟨C, h1, h2⟩ => ⟨_, ⟨C, h1, rfl⟩, by subst h2; exact fun w hw => hw.perm (by simpa using List.Perm.append_left C ht.perm.symm)⟩
section
variable {K V : Type} [DecidableEq K]
theorem QW {x y : Operand} {t kt et ty r : Nat} {enc : K → Value} {val : V → Value} {f : K → Option V} {ob : Obj} {S : Obj → Res} {z v : V} {q : K} [ht : j9 P t kt et] [hz : TyZero P et (val z)] [hk : KeyOf P kt enc]
    (hx : opv E x = some (.map (some r))) (hy : opv E y = some (enc q)) [ha : At L r ob S] (ho : MapF enc val f ob) (hv : (f q).getD z = v) :
    Op1 P N w0 E L (.lookup t x y false) ty (val v) L := by subst hv; exact y1 hx hy ho
theorem YY {enc : K → Value} {val : V → Value} {al : List (K × V)} {f : K → Option V} {q : K} {v : V} {st : Nat} {o : Obj} (h : V4 enc val (j1 al q v) q st o) (hag : ∀ k, zi al k = f k) : MapF enc val (upd f q (some v)) o := by
  obtain ⟨es, clock, i, e, he, _⟩ := h
  exact ⟨_, ⟨es, clock, e, he⟩, fun k => by rw [yK]; unfold upd; split <;> simp [hag]⟩
end
theorem kP {Q : Exit → Act → World → Prop} {ops os : List Oper} {d g j : Nat} {t : Bool} {op : Op} {ty : TypeId} {pos : String} {af : Array Edge}
    (hj : yS ops j = some g) (hv : yR E g = some undef)
    (k : TrOs P N w0 ops ((d, undef) :: E) L os Q) (hd : Nat.blt d N = true := by rfl) :
    TrOs P N w0 ops E L (⟨some d, op, ty, pos, af, some (j, t)⟩ :: os) Q :=
  ⟨fun a w ha hw => by
    show (if Region.wanted _ _ then _ else _)
    have hy : yielded ops.toArray a.tmps j = none := by
      have h1 : ((ops.toArray)[j]?).bind (·.dst) = some g := by simpa [yS] using hj
      unfold yielded
      rw [h1]
      simp only [Option.bind_some, ha.at_ g _ hv]
      rfl
    have : ¬ Region.wanted (⟨some d, op, ty, pos, af, some (j, t)⟩ : Oper) (yielded ops.toArray a.tmps) = true := by
      simp only [Region.wanted, hy]
      simp
    rw [if_neg this]
    exact k.h _ _ (ha.put (dst := some d) hd _) hw⟩
end Go.Sx
namespace Go.Proofs.YtjikpomndbkfgaaGreatDoor
open Go Go.Sx Go.Nd
variable {w0 : World} {L F : Res}
set_option maxRecDepth 10000
theorem mapF_isMap {K V : Type} [DecidableEq K] {enc : K → Value} {val : V → Value} {f : K → Option V} {o : Obj} (h : MapF enc val f o) : ∃ es clock, o = .map es clock := by
  obtain ⟨al, ⟨es, clock, e, _⟩, _⟩ := h
  exact ⟨_, _, e⟩
theorem Kq (r : Nat) (o : Obj) (f : Int × Int → Option Int) (hf : MapF yU (Value.int .i64) f o) :
    FnT Tryz.prog w0 53 #[.map (some r)] ([(r, o)] :: F) (fun v L' => ∃ q, v = .map (some q) ∧ L' = [(q, o)] :: [(r, o)] :: F) := by
  obtain ⟨es, clock, rfl⟩ := mapF_isMap hf
  refine FnT.enter (E0 := [(0, _)]) (N := 9) Tryz.func53 rfl rfl rfl rfl ?_
  refine Tr.seq <| Tr.region <| q9 (qC rfl) <| qB <| QAt.seq <| Tr.seq <| Tr.seq <| Tr.region <| q9 (qA rfl) <| q9 (op_eqlMapNil rfl rfl Tryz.underlying88) <| qB <| QAt.seq <| wD rfl <| Tr.skip <| QAt.seq <| Tr.seq <| Tr.region <| q9 (qA rfl) <| q9 (jg rfl Tryz.underlying88 rfl) <| qF (op_mapsClone (r := r) rfl Tryz.func88 (by kernel_rfl) (by kernel_rfl) (by kernel_rfl) (by kernel_rfl)) ?_
  rintro t7 _ ⟨q, rfl, rfl⟩
  refine q9 (op_typeAssertM rfl Tryz.underlying88) <| q9 (qC rfl) <| qB <| QAt.seq <| Tr.ret <| zW (.inl rfl) rfl (qd rfl) ?_
  exact ⟨q, rfl, rfl⟩
def Zb (xs : List (Int × Int)) : List (Int × Int) := xs.mergeSort (fun a b => decide (k9 a b ≤ 0))
def JE : Int → Option Int := upd (upd (upd (upd (upd (fun _ => none) 1 (some 0)) 5 (some 1)) 3 (some 2)) 4 (some 3)) 2 (some 4)
structure xc : Prop where
  sortF : ∀ (w0 : World) (F : Res) (u : Value) (xs : List (Int × Int)) (C : qM) (b r : Nat) (o : Obj), SlC 100 2 u xs.length (xs.flatMap wt) C → xs.length ≤ 1000000 → (∀ x ∈ xs, qo x) → MapF (Value.int .i64) (Value.int .i64) JE o →
    FnT Tryz.prog w0 79 #[u, .func (.func 80) #[] #[.pointer (some ⟨b, 0, none⟩)]] (C :: [(b, .cells [Value.map (some r)].toArray 150 (0, 0))] :: [(r, o)] :: F)
      (fun v L' => v = .tuple #[] ∧ ∃ C', SlC 100 2 u xs.length ((Zb xs).flatMap wt) C' ∧ L' = C' :: [(b, .cells [Value.map (some r)].toArray 150 (0, 0))] :: [(r, o)] :: F)
def xq (n : NS) (k : Int × Int) : Prop := n.stale k ≠ none ∨ ∃ i, n.data i ≠ none ∧ (k = (1, i) ∨ k = wj i)
def KN (n : NS) (k : Int × Int) : Prop := xq n k ∨ (k = (4, 0) ∧ ∃ q, xq n q ∧ q.1 = 5)
def Wx (n : NS) (k : Int × Int) : Prop := KN n k ∨ (k = (2, 0) ∧ ∃ q, KN n q)
def Je (n : NS) (k : Int × Int) : Prop := k.1 = 1 ∨ k.1 = 2 ∨ Qs n k = true
open Classical in
noncomputable def y3 (n : NS) : List (Int × Int) := allParts.filter (fun k => decide (Wx n k ∧ Je n k))
theorem KD {n : NS} (h : NOk n) {k : Int × Int} (hb : xq n k) : qo k := by
  rcases hb with hb | ⟨i, hi, rfl | rfl⟩
  · exact h.stale k hb
  · exact .inl ⟨rfl, (h.data i hi).1, (h.data i hi).2⟩
  · exact xb (h.data i hi)
theorem ZQ {n : NS} (h : NOk n) {k : Int × Int} (hb : Wx n k) : qo k := by
  rcases hb with (hb | ⟨rfl, _⟩) | ⟨rfl, _⟩
  · exact KD h hb
  · exact .inr (.inr (.inr (.inl rfl)))
  · exact .inr (.inl rfl)
section
variable {n : NS} {al : List (Int × Sec)} {al2 : List ((Int × Int) × Int)} {vis : List Nat} {i : Nat} {f h : Int × Int → Option Int}
theorem J5 {β : Type} {f : Int × Int → Option β} {q : Int × Int} {v : β} (k : Int × Int) : upd f q (some v) k ≠ none ↔ f k ≠ none ∨ k = q := by
  unfold upd
  split
  · rename_i e; simp [e]
  · rename_i e; simp [e]
theorem all0_step {q : Int × Sec} (hq : al[i]? = some q) (hf : ∀ k, f k ≠ none ↔ n.stale k ≠ none ∨ ∃ i, kC al vis i ∧ (k = (1, i) ∨ k = wj i)) :
    ∀ k, upd (upd f (1, q.1) (some 1)) (wj q.1) (some 1) k ≠ none ↔ n.stale k ≠ none ∨ ∃ j, kC al (vis ++ [i]) j ∧ (k = (1, j) ∨ k = wj j) := fun k => by
  rw [J5, J5, hf]
  constructor
  · rintro (((h | ⟨j, h1, h2⟩) | h) | h)
    · exact .inl h
    · exact .inr ⟨j, (yd hq j).2 (.inl h1), h2⟩
    · exact .inr ⟨q.1, (yd hq _).2 (.inr rfl), .inl h⟩
    · exact .inr ⟨q.1, (yd hq _).2 (.inr rfl), .inr h⟩
  · rintro (h | ⟨j, h1, h2⟩)
    · exact .inl (.inl (.inl h))
    · rcases (yd hq j).1 h1 with h1 | rfl
      · exact .inl (.inl (.inr ⟨j, h1, h2⟩))
      · rcases h2 with h2 | h2
        · exact .inl (.inr h2)
        · exact .inr h2
theorem all0_end {od io : Obj} {md : Nat} (hio : IterOk md od al.length vis io) (hfin : vis.length = al.length) (hag : ∀ k, zi al k = n.data k)
    (hf : ∀ k, f k ≠ none ↔ n.stale k ≠ none ∨ ∃ i, kC al vis i ∧ (k = (1, i) ∨ k = wj i)) : ∀ k, f k ≠ none ↔ xq n k := fun k => by
  rw [hf]
  have hv : ∀ i, kC al vis i ↔ n.data i ≠ none := fun i => by
    rw [Q2 hio hfin i, hag]
    cases n.data i <;> simp
  unfold xq
  simp only [hv]
theorem Ku {q : (Int × Int) × Int} (hq : al2[i]? = some q) (hh : ∀ k, h k ≠ none ↔ f k ≠ none ∨ (k = (4, 0) ∧ ∃ x, kC al2 vis x ∧ x.1 = 5)) :
    (q.1.1 = 5 → ∀ k, upd h (4, 0) (some 1) k ≠ none ↔ f k ≠ none ∨ (k = (4, 0) ∧ ∃ x, kC al2 (vis ++ [i]) x ∧ x.1 = 5)) ∧
    (¬ q.1.1 = 5 → ∀ k, h k ≠ none ↔ f k ≠ none ∨ (k = (4, 0) ∧ ∃ x, kC al2 (vis ++ [i]) x ∧ x.1 = 5)) := by
  refine ⟨fun h5 k => ?_, fun h5 k => ?_⟩
  · rw [J5, hh]
    constructor
    · rintro ((h | ⟨h1, x, h2, h3⟩) | h)
      · exact .inl h
      · exact .inr ⟨h1, x, (yd hq x).2 (.inl h2), h3⟩
      · exact .inr ⟨h, q.1, (yd hq _).2 (.inr rfl), h5⟩
    · rintro (h | ⟨h1, _⟩)
      · exact .inl (.inl h)
      · exact .inr h1
  · rw [hh]
    constructor
    · rintro (h | ⟨h1, x, h2, h3⟩)
      · exact .inl h
      · exact .inr ⟨h1, x, (yd hq x).2 (.inl h2), h3⟩
    · rintro (h | ⟨h1, x, h2, h3⟩)
      · exact .inl h
      · rcases (yd hq x).1 h2 with h2 | rfl
        · exact .inr ⟨h1, x, h2, h3⟩
        · exact absurd h3 h5
theorem all1_end {ao io : Obj} {r : Nat} (hio : IterOk r ao al2.length vis io) (hfin : vis.length = al2.length) (hag : ∀ k, zi al2 k = f k) (hf : ∀ k, f k ≠ none ↔ xq n k)
    (hh : ∀ k, h k ≠ none ↔ f k ≠ none ∨ (k = (4, 0) ∧ ∃ x, kC al2 vis x ∧ x.1 = 5)) : ∀ k, h k ≠ none ↔ KN n k := fun k => by
  rw [hh, hf]
  have hv : ∀ x, kC al2 vis x ↔ xq n x := fun x => by
    rw [Q2 hio hfin x, hag, ← hf]
    cases f x <;> simp
  unfold KN
  simp only [hv]
theorem all2_end {al3 : List ((Int × Int) × Int)} (hag : ∀ k, zi al3 k = h k) (hh : ∀ k, h k ≠ none ↔ KN n k) :
    ((0 : Int) < al3.length → ∀ k, upd h (2, 0) (some 1) k ≠ none ↔ Wx n k) ∧ (¬ (0 : Int) < al3.length → ∀ k, h k ≠ none ↔ Wx n k) := by
  refine ⟨fun hl k => ?_, fun hl k => ?_⟩
  · rw [J5, hh]
    unfold Wx
    refine or_congr_right ⟨fun e => ⟨e, ?_⟩, fun e => e.1⟩
    cases al3 with
    | nil => simp at hl
    | cons p al3 => exact ⟨p.1, (hh _).1 (by rw [← hag]; simp [zi])⟩
  · rw [hh]
    unfold Wx
    refine ⟨.inl, fun e => ?_⟩
    rcases e with e | ⟨_, q, hq⟩
    · exact e
    · have : al3 = [] := by cases al3 with | nil => rfl | cons p l => simp at hl
      subst this
      have := (hh q).2 hq
      rw [← hag] at this
      exact absurd rfl this
end
def kinds5 : List Int := [1, 5, 3, 4, 2]
section
variable {n : NS} {al : List ((Int × Int) × Int)} {vis : List Nat} {i : Nat} {h : Int × Int → Option Int} {out : List (Int × Int)} {ks : Int → Prop} {kd : Int}
def YG (n : NS) (h : Int × Int → Option Int) (ks : Int → Prop) (kd : Int) (vs : Int × Int → Prop) (out : List (Int × Int)) : Prop := out.Nodup ∧ ∀ k, k ∈ out ↔ h k ≠ none ∧ Je n k ∧ (ks k.1 ∨ (k.1 = kd ∧ vs k))
theorem outIs_in {q : (Int × Int) × Int} (hk : (zS al).Nodup) (hag : ∀ k, zi al k = h k) (hni : i ∉ vis) (hks : ¬ ks kd) (hq : al[i]? = some q) (hsel : q.1.1 = kd ∧ Je n q.1) (ho : YG n h ks kd (kC al vis) out) : YG n h ks kd (kC al (vis ++ [i])) (out ++ [q.1]) := by
  obtain ⟨h1, h2⟩ := ho
  have hqm : h q.1 ≠ none := by rw [← hag, xI hk (List.mem_of_getElem? hq)]; simp
  refine ⟨?_, fun k => ?_⟩
  · rw [List.nodup_append]
    refine ⟨h1, by simp, fun a ha b hb => ?_⟩
    obtain rfl := List.mem_singleton.1 hb
    rintro rfl
    rcases ((h2 _).1 ha).2.2 with h3 | ⟨_, h3⟩
    · exact hks (hsel.1 ▸ h3)
    · exact Jd hk hq hni h3
  · rw [List.mem_append, List.mem_singleton, h2, yd hq]
    constructor
    · rintro (⟨h3, h4, h5 | ⟨h5, h6⟩⟩ | rfl)
      · exact ⟨h3, h4, .inl h5⟩
      · exact ⟨h3, h4, .inr ⟨h5, .inl h6⟩⟩
      · exact ⟨hqm, hsel.2, .inr ⟨hsel.1, .inr rfl⟩⟩
    · rintro ⟨h3, h4, h5 | ⟨h5, h6 | h6⟩⟩
      · exact .inl ⟨h3, h4, .inl h5⟩
      · exact .inl ⟨h3, h4, .inr ⟨h5, h6⟩⟩
      · exact .inr h6
theorem outIs_out {q : (Int × Int) × Int} (hq : al[i]? = some q) (hsel : ¬ (q.1.1 = kd ∧ Je n q.1)) (ho : YG n h ks kd (kC al vis) out) : YG n h ks kd (kC al (vis ++ [i])) out := by
  obtain ⟨h1, h2⟩ := ho
  refine ⟨h1, fun k => ?_⟩
  rw [h2, yd hq]
  constructor
  · rintro ⟨h3, h4, h5 | ⟨h5, h6⟩⟩
    · exact ⟨h3, h4, .inl h5⟩
    · exact ⟨h3, h4, .inr ⟨h5, .inl h6⟩⟩
  · rintro ⟨h3, h4, h5 | ⟨h5, h6 | rfl⟩⟩
    · exact ⟨h3, h4, .inl h5⟩
    · exact ⟨h3, h4, .inr ⟨h5, h6⟩⟩
    · exact absurd ⟨h5, h4⟩ hsel
end
def V6 (n : NS) (h : Int × Int → Option Int) (j : Nat) (out : List (Int × Int)) : Prop := out.Nodup ∧ ∀ k, k ∈ out ↔ h k ≠ none ∧ Je n k ∧ k.1 ∈ kinds5.take j
theorem outK_start {n : NS} {h : Int × Int → Option Int} {j : Nat} {out : List (Int × Int)} {al : List ((Int × Int) × Int)} (kd : Int) (ho : V6 n h j out) : YG n h (fun k => k ∈ kinds5.take j) kd (kC al []) out :=
  ⟨ho.1, fun k => by rw [ho.2]; simp only [Qv, and_false, or_false]⟩
theorem kinds5_fresh {j : Nat} {kd : Int} (hj : kinds5[j]? = some kd) : kd ∉ kinds5.take j := by
  have hn : kinds5.Nodup := by decide
  intro hm
  obtain ⟨i, hi, e⟩ := List.mem_iff_getElem.1 hm
  have hlt := (List.getElem?_eq_some_iff.1 hj).1
  simp at hi
  have : kinds5[i]? = kinds5[j]? := by rw [hj, ← e]; simp
  have := (List.getElem?_inj (by omega) hn).1 this
  omega
theorem outIs_end {n : NS} {h : Int × Int → Option Int} {j : Nat} {out : List (Int × Int)} {al : List ((Int × Int) × Int)} {vis : List Nat} {kd : Int} {r : Nat} {ao io : Obj} (hj : kinds5[j]? = some kd) (hio : IterOk r ao al.length vis io) (hfin : vis.length = al.length) (hag : ∀ k, zi al k = h k)
    (ho : YG n h (fun k => k ∈ kinds5.take j) kd (kC al vis) out) : V6 n h (j + 1) out := by
  refine ⟨ho.1, fun k => ?_⟩
  rw [ho.2, List.take_add_one, hj]
  have hv : kC al vis k ↔ h k ≠ none := by
    rw [Q2 hio hfin k, hag]
    cases h k <;> simp
  rw [hv]
  simp only [Option.toList_some, List.mem_append, List.mem_singleton]
  constructor
  · rintro ⟨h3, h4, h5 | ⟨h5, h6⟩⟩
    · exact ⟨h3, h4, .inl h5⟩
    · exact ⟨h3, h4, .inr h5⟩
  · rintro ⟨h3, h4, h5 | h5⟩
    · exact ⟨h3, h4, .inl h5⟩
    · exact ⟨h3, h4, .inr ⟨h5, h3⟩⟩
open Classical in
theorem srtP_parts {n : NS} (hok : NOk n) {h : Int × Int → Option Int} {out : List (Int × Int)} (hh : ∀ k, h k ≠ none ↔ Wx n k) (ho : V6 n h 5 out) : Zb out = y3 n := by
  have hok' : ∀ x ∈ out, qo x := fun x hx => ZQ hok ((hh x).1 ((ho.2 x).1 hx).1)
  have hperm : (Zb out).Perm out := List.mergeSort_perm out _
  have hsorted : (Zb out).Pairwise (fun a b => k9 a b ≤ 0) := by
    have hx : (Zb out).Pairwise (fun a b => decide (k9 a b ≤ 0) = true) := by
      have key : ∀ (l : List {x : Int × Int // qo x}), (l.mergeSort (fun a b => decide (k9 a.1 b.1 ≤ 0))).Pairwise (fun a b => decide (k9 a.1 b.1 ≤ 0) = true) := fun l =>
        List.pairwise_mergeSort (fun a b c h1 h2 => by simp only [decide_eq_true_eq] at *; exact Qh a.2 b.2 c.2 h1 h2) (fun a b => by simp only [Bool.or_eq_true, decide_eq_true_eq]; exact cmpP_total _ _) l
      have e : Zb out = ((out.attachWith qo hok').mergeSort (fun a b => decide (k9 a.1 b.1 ≤ 0))).map (·.1) := by
        rw [List.map_mergeSort (r := fun a b => decide (k9 a.1 b.1 ≤ 0)) (s := fun a b => decide (k9 a b ≤ 0)) (f := fun x : {x : Int × Int // qo x} => x.1) (l := out.attachWith qo hok') (fun _ _ _ _ => rfl)]
        rw [List.attachWith_map_subtype_val]; rfl
      rw [e, List.pairwise_map]
      exact key _
    exact hx.imp (fun h => of_decide_eq_true h)
  unfold y3
  refine Qp ho.1 (fun k => ?_) hperm hsorted
  rw [ho.2, hh, decide_eq_true_iff]
  constructor
  · exact fun ⟨h1, h2, _⟩ => ⟨ZQ hok h1, h1, h2⟩
  · rintro ⟨h0, h1, h2⟩
    refine ⟨h1, h2, ?_⟩
    show k.1 ∈ ([1, 5, 3, 4, 2] : List Int)
    rcases h0 with ⟨e, _⟩ | e | e | e | ⟨e, _⟩ <;> rw [e] <;> decide
theorem jq (H : j3 w0) (HP : xc) (p : Nat) (n : NS) (Cn G : qM) (hn : NodeC p n Cn) (hg : kJ G) (hok : NOk n) :
    FnT Tryz.prog w0 46 #[.pointer (some ⟨p, 0, none⟩)] (Cn :: G :: F) (fun v L' => ∃ C', SlC 100 2 v (y3 n).length ((y3 n).flatMap wt) C' ∧ L' = C' :: Cn :: G :: F) := by
  obtain ⟨e0, f0, e1, f1, e2, f2, hG⟩ := id hg
  obtain ⟨ma, md, ms, oa, od, os, u, C, hM, hCn⟩ := hn.eq
  unfold wz at hCn
  obtain ⟨al, hal, hag⟩ := hM.d
  refine FnT.pre (L' := [(p, .cells [.int .u32 n.num, .int .u32 n.ver, .int .i64 n.kind, .int .i64 n.size, .int .u32 n.time, .map (some ma), .map (some md), .map (some ms), u].toArray 90 (0, 0))] :: [(ma, oa)] :: [(md, od)] :: [(ms, os)] :: C :: G :: F) ?_ (wH (by rw [hCn]; simp))
  refine FnT.enter (E0 := [(0, _)]) (N := 88) Tryz.func46 rfl rfl rfl rfl ?_
  refine Tr.seq <| Tr.region <| q9 (qC rfl) <| qB <| QAt.seq <| Tr.seq <| Tr.region <| q9 (qA rfl) <| q9 (qJ rfl) <| q9 (qD rfl) <| q9 (qG rfl rfl) <| qF (qn rfl (wM ([(ms, os)]) (Kq ms os n.stale hM.s))) ?_
  rintro t15 _ ⟨q, rfl, rfl⟩
  refine q9 (qC rfl) <| qB <| QAt.seq <| Tr.seq <| Tr.seq <| Tr.region <| q9 (qA rfl) <| q9 (qJ rfl) <| q9 (qD rfl) <| q9 (qG rfl rfl) <| qF (jW (r := md) rfl hal) ?_
  rintro t20 _ ⟨it, io, rfl, hio, rfl⟩
  refine qB <| QAt.seq <| Tr.block <| wB (Γ := {pΓ : (List Nat) × (Obj) × (Obj) × (Int × Int → Option Int) // (fun (vis : List Nat) (io : Obj) (ao : Obj) (f : Int × Int → Option Int) => IterOk md od al.length vis io ∧ MapF yU (Value.int .i64) f ao ∧ (∀ k, f k ≠ none ↔ n.stale k ≠ none ∨ ∃ i, kC al vis i ∧ (k = (1, i) ∨ k = wj i))) pΓ.1 pΓ.2.1 pΓ.2.2.1 pΓ.2.2.2}) (fun g => (fun (vis : List Nat) (io : Obj) (ao : Obj) (f : Int × Int → Option Int) => [(0, .pointer (some ⟨p, 0, none⟩)), (3, .map (some q)), (20, .pointer (some ⟨it, 0, none⟩))]) g.1.1 g.1.2.1 g.1.2.2.1 g.1.2.2.2) (fun g => (fun (vis : List Nat) (io : Obj) (ao : Obj) (f : Int × Int → Option Int) => [(it, io)] :: [(q, ao)] :: [(p, .cells [.int .u32 n.num, .int .u32 n.ver, .int .i64 n.kind, .int .i64 n.size, .int .u32 n.time, .map (some ma), .map (some md), .map (some ms), u].toArray 90 (0, 0))] :: [(ma, oa)] :: [(md, od)] :: [(ms, os)] :: C :: G :: F) g.1.1 g.1.2.1 g.1.2.2.1 g.1.2.2.2) (fun g => (fun (vis : List Nat) (io : Obj) (ao : Obj) (f : Int × Int → Option Int) => al.length - vis.length) g.1.1 g.1.2.1 g.1.2.2.1 g.1.2.2.2) ⟨([], io, os, n.stale), by dsimp only; exact ⟨hio, hM.s, fun k => ⟨fun h => .inl h, fun h => h.resolve_right (fun ⟨_, h, _⟩ => Qv h)⟩⟩⟩ (qP _) ?_
  rintro ⟨⟨vis, io, ao, f⟩, hloop⟩
  replace hloop : IterOk md od al.length vis io ∧ MapF yU (Value.int .i64) f ao ∧ (∀ k, f k ≠ none ↔ n.stale k ≠ none ∨ ∃ i, kC al vis i ∧ (k = (1, i) ∨ k = wj i)) := hloop
  obtain ⟨hio, hf, hfk⟩ := hloop
  show Tr _ _ _ ([(0, .pointer (some ⟨p, 0, none⟩)), (3, .map (some q)), (20, .pointer (some ⟨it, 0, none⟩))]) ([(it, io)] :: [(q, ao)] :: [(p, .cells [.int .u32 n.num, .int .u32 n.ver, .int .i64 n.kind, .int .i64 n.size, .int .u32 n.time, .map (some ma), .map (some md), .map (some ms), u].toArray 90 (0, 0))] :: [(ma, oa)] :: [(md, od)] :: [(ms, os)] :: C :: G :: F) _ _
  refine Tr.seq <| Tr.region <| qF (js (r := md) (ob := od) (vis := vis) rfl (fun w hw => Own.get hw (inferInstance : At _ md od _)) hal hio) ?_
  rintro t21 _ (⟨rfl, hfin, rfl⟩ | ⟨i, x, io', rfl, hq, hni, hio', rfl⟩)
  ·
   refine q9 (qR rfl rfl) <| qB <| QAt.seq <| Tr.seq <| wD rfl <| Tr.exit <| qX <| qY <| qS <| QAt.seq <| Tr.seq <| Tr.seq ?_
   have hfk2 := all0_end hio hfin hag hfk
   obtain ⟨al2, hal2, hag2⟩ := hf
   refine yW (L' := [(q, ao)] :: Cn :: G :: F) (fun w hw => wH (by rw [hCn]; simp) w hw.tail) ?_
   refine Tr.region <| q9 (qA rfl) <| qF (qn rfl (wM ([(q, ao)]) (Kq q ao f ⟨al2, hal2, hag2⟩))) ?_
   rintro t32 _ ⟨q2, rfl, rfl⟩
   refine qF (jW (r := q2) rfl hal2) ?_
   rintro t33 _ ⟨it2, io2, rfl, hio2, rfl⟩
   refine qB <| QAt.seq <| Tr.block <| wB (Γ := {pΓ : (List Nat) × (Obj) × (Obj) × (Int × Int → Option Int) // (fun (vis : List Nat) (io : Obj) (ao2 : Obj) (h : Int × Int → Option Int) => IterOk q2 ao al2.length vis io ∧ MapF yU (Value.int .i64) h ao2 ∧ (∀ k, h k ≠ none ↔ f k ≠ none ∨ (k = (4, 0) ∧ ∃ x, kC al2 vis x ∧ x.1 = 5))) pΓ.1 pΓ.2.1 pΓ.2.2.1 pΓ.2.2.2}) (fun g => (fun (vis : List Nat) (io : Obj) (ao2 : Obj) (h : Int × Int → Option Int) => [(0, .pointer (some ⟨p, 0, none⟩)), (3, .map (some q)), (33, .pointer (some ⟨it2, 0, none⟩))]) g.1.1 g.1.2.1 g.1.2.2.1 g.1.2.2.2) (fun g => (fun (vis : List Nat) (io : Obj) (ao2 : Obj) (h : Int × Int → Option Int) => [(it2, io)] :: [(q2, ao)] :: [(q, ao2)] :: Cn :: G :: F) g.1.1 g.1.2.1 g.1.2.2.1 g.1.2.2.2) (fun g => (fun (vis : List Nat) (io : Obj) (ao2 : Obj) (h : Int × Int → Option Int) => al2.length - vis.length) g.1.1 g.1.2.1 g.1.2.2.1 g.1.2.2.2) ⟨([], io2, ao, f), by dsimp only; exact ⟨hio2, ⟨al2, hal2, hag2⟩, fun k => ⟨fun h => .inl h, fun h => h.resolve_right (fun ⟨_, _, h, _⟩ => Qv h)⟩⟩⟩ (qP _) ?_
   rintro ⟨⟨vis, io, ao2, h⟩, hloop⟩
   replace hloop : IterOk q2 ao al2.length vis io ∧ MapF yU (Value.int .i64) h ao2 ∧ (∀ k, h k ≠ none ↔ f k ≠ none ∨ (k = (4, 0) ∧ ∃ x, kC al2 vis x ∧ x.1 = 5)) := hloop
   obtain ⟨hio3, hh, hhk⟩ := hloop
   show Tr _ _ _ ([(0, .pointer (some ⟨p, 0, none⟩)), (3, .map (some q)), (33, .pointer (some ⟨it2, 0, none⟩))]) ([(it2, io)] :: [(q2, ao)] :: [(q, ao2)] :: Cn :: G :: F) _ _
   refine Tr.seq <| Tr.region <| qF (js (r := q2) (ob := ao) (vis := vis) rfl (fun w hw => Own.get hw (inferInstance : At _ q2 ao _)) hal2 hio3) ?_
   rintro t34 _ (⟨rfl, hfin2, rfl⟩ | ⟨i, x, io', rfl, hq, hni, hio', rfl⟩)
   ·
    refine q9 (qR rfl rfl) <| qB <| QAt.seq <| Tr.seq <| wD rfl <| Tr.exit <| qX <| qY <| qS <| QAt.seq <| zA (Γ := {pΓ : (Obj) × (Int × Int → Option Int) // (fun (ao4 : Obj) (g : Int × Int → Option Int) => MapF yU (Value.int .i64) g ao4 ∧ (∀ k, g k ≠ none ↔ Wx n k)) pΓ.1 pΓ.2}) (fun g => (fun (ao4 : Obj) (g : Int × Int → Option Int) => [(0, .pointer (some ⟨p, 0, none⟩)), (3, .map (some q))]) g.1.1 g.1.2) (fun g => (fun (ao4 : Obj) (g : Int × Int → Option Int) => [(q, ao4)] :: Cn :: G :: F) g.1.1 g.1.2) ?_ ?_
    ·
     refine Tr.seq ?_
     have hhk2 := all1_end hio3 hfin2 hag2 hfk2 hhk
     obtain ⟨al3, hal3, hag3⟩ := hh
     have hall := all2_end hag3 hhk2
     refine Tr.region <| q9 (qA rfl) <| q9 (op_len_map rfl hal3) <| q9 (zd rfl rfl) <| qB <| QAt.seq <| qI rfl (fun hc12 => ?_) (fun hc12 => ?_)
     ·
      refine Tr.region <| q9 (qA rfl) <| q9 (yZ (b := 0) (off := 0) (c := [Value.int .i64 2, Value.int .i64 0].toArray) (e := e0) (fr := f0) (r := [.int .i64 2, .int .i64 0]) rfl (by rw [hG]; simp) rfl (by decide)) ?_
      refine zY (wu (r := q) (q := (2, 0)) (v := (1 : Int)) rfl rfl rfl ⟨al3, hal3, hag3⟩) ?_
      rintro _ _ ⟨ao5, hh5, rfl⟩
      refine qB <| qO ⟨(ao5, upd h (2, 0) (some 1)), ?_⟩ ?_
      · (try dsimp only); exact ⟨hh5, hall.1 hc12⟩
      · (try dsimp only); exact qP _
     ·
      refine Tr.skip <| qO ⟨(ao2, h), ?_⟩ ?_
      · (try dsimp only); exact ⟨⟨al3, hal3, hag3⟩, hall.2 hc12⟩
      · (try dsimp only); exact qP _
    rintro ⟨⟨ao4, g⟩, hcut⟩
    replace hcut : MapF yU (Value.int .i64) g ao4 ∧ (∀ k, g k ≠ none ↔ Wx n k) := hcut
    obtain ⟨hga, hgk⟩ := hcut
    show Tr _ _ _ ([(0, .pointer (some ⟨p, 0, none⟩)), (3, .map (some q))]) ([(q, ao4)] :: Cn :: G :: F) _ _
    refine Tr.seq ?_
    obtain ⟨al4, hal4, hag4⟩ := hga
    refine Tr.region <| q9 (qC rfl) <| qB <| QAt.seq <| Tr.seq <| Tr.seq <| Tr.region <| qF (w5 rfl rfl rfl) ?_
    rintro t48 _ ⟨b48, rfl, rfl⟩
    refine q9 (qg rfl) <| q9 (qA rfl) <| qB <| QAt.seq <| Tr.block <| wB (Γ := {pΓ : (Nat) × (List (Int × Int)) × (Value) × (qM) // (fun (j : Nat) (out : List (Int × Int)) (uo : Value) (Co : qM) => j ≤ 5 ∧ SlC 100 2 uo out.length (out.flatMap wt) Co ∧ V6 n g j out) pΓ.1 pΓ.2.1 pΓ.2.2.1 pΓ.2.2.2}) (fun g => (fun (j : Nat) (out : List (Int × Int)) (uo : Value) (Co : qM) => [(0, .pointer (some ⟨p, 0, none⟩)), (3, .map (some q)), (6, uo), (48, .slice (some ⟨b48, 0, none⟩) 5 5), (49, .int .i64 5), (50, .int .i64 j)]) g.1.1 g.1.2.1 g.1.2.2.1 g.1.2.2.2) (fun g => (fun (j : Nat) (out : List (Int × Int)) (uo : Value) (Co : qM) => Co :: [(b48, .cells [Value.int .i64 1, Value.int .i64 5, Value.int .i64 3, Value.int .i64 4, Value.int .i64 2].toArray 3 (0, 0))] :: [(q, ao4)] :: Cn :: G :: F) g.1.1 g.1.2.1 g.1.2.2.1 g.1.2.2.2) (fun g => (fun (j : Nat) (out : List (Int × Int)) (uo : Value) (Co : qM) => 5 - j) g.1.1 g.1.2.1 g.1.2.2.1 g.1.2.2.2) ⟨(0, [], .slice none 0 0, []), by dsimp only; exact ⟨by omega, zu _ _, by simp, fun k => by simp⟩⟩ (qP _) ?_
    rintro ⟨⟨j, out, uo, Co⟩, hloop⟩
    replace hloop : j ≤ 5 ∧ SlC 100 2 uo out.length (out.flatMap wt) Co ∧ V6 n g j out := hloop
    obtain ⟨hj, hsl, ho⟩ := hloop
    show Tr _ _ _ ([(0, .pointer (some ⟨p, 0, none⟩)), (3, .map (some q)), (6, uo), (48, .slice (some ⟨b48, 0, none⟩) 5 5), (49, .int .i64 5), (50, .int .i64 j)]) (Co :: [(b48, .cells [Value.int .i64 1, Value.int .i64 5, Value.int .i64 3, Value.int .i64 4, Value.int .i64 2].toArray 3 (0, 0))] :: [(q, ao4)] :: Cn :: G :: F) _ _
    refine Tr.seq <| Tr.region <| q9 (qv rfl rfl) <| qB <| QAt.seq <| Tr.seq <| qI rfl (fun hc16 => ?_) (fun hc16 => ?_)
    ·
     refine Tr.skip <| QAt.seq <| Tr.seq <| Tr.block <| Tr.seq ?_
     obtain ⟨kd, hkd⟩ : ∃ kd, kinds5[j]? = some kd := ⟨_, List.getElem?_eq_getElem (by show j < 5; omega)⟩
     refine Tr.region <| q9 (qf (j := j) (off := j * 1) rfl rfl rfl (by omega) (by simp)) ?_
     refine q9 (qG rfl (show wG (iV kinds5) (j * 1) = some (.int .i64 kd) by rw [wi, Nat.mul_one]; simp only [iV, List.getElem?_map, hkd, Option.map_some])) ?_
     refine q9 (qC rfl) <| qB <| QAt.seq <| Tr.seq <| Tr.region <| q9 (qA rfl) <| qF (jW (r := q) rfl hal4) ?_
     rintro t55 _ ⟨it3, io3, rfl, hio3, rfl⟩
     refine qB <| QAt.seq <| Tr.block <| wB (Γ := {pΓ : (List Nat) × (Obj) × (List (Int × Int)) × (Value) × (qM) // (fun (vis : List Nat) (io : Obj) (out : List (Int × Int)) (uo : Value) (Co : qM) => IterOk q ao4 al4.length vis io ∧ SlC 100 2 uo out.length (out.flatMap wt) Co ∧ YG n g (fun k => k ∈ kinds5.take j) kd (kC al4 vis) out) pΓ.1 pΓ.2.1 pΓ.2.2.1 pΓ.2.2.2.1 pΓ.2.2.2.2}) (fun g => (fun (vis : List Nat) (io : Obj) (out : List (Int × Int)) (uo : Value) (Co : qM) => [(0, .pointer (some ⟨p, 0, none⟩)), (3, .map (some q)), (6, uo), (8, .int .i64 kd), (48, .slice (some ⟨b48, 0, none⟩) 5 5), (49, .int .i64 5), (50, .int .i64 j), (55, .pointer (some ⟨it3, 0, none⟩))]) g.1.1 g.1.2.1 g.1.2.2.1 g.1.2.2.2.1 g.1.2.2.2.2) (fun g => (fun (vis : List Nat) (io : Obj) (out : List (Int × Int)) (uo : Value) (Co : qM) => [(it3, io)] :: Co :: [(b48, .cells [Value.int .i64 1, Value.int .i64 5, Value.int .i64 3, Value.int .i64 4, Value.int .i64 2].toArray 3 (0, 0))] :: [(q, ao4)] :: Cn :: G :: F) g.1.1 g.1.2.1 g.1.2.2.1 g.1.2.2.2.1 g.1.2.2.2.2) (fun g => (fun (vis : List Nat) (io : Obj) (out : List (Int × Int)) (uo : Value) (Co : qM) => al4.length - vis.length) g.1.1 g.1.2.1 g.1.2.2.1 g.1.2.2.2.1 g.1.2.2.2.2) ⟨([], io3, out, uo, Co), by dsimp only; exact ⟨hio3, hsl, outK_start kd ho⟩⟩ (qP _) ?_
     rintro ⟨⟨vis, io, out, uo, Co⟩, hloop⟩
     replace hloop : IterOk q ao4 al4.length vis io ∧ SlC 100 2 uo out.length (out.flatMap wt) Co ∧ YG n g (fun k => k ∈ kinds5.take j) kd (kC al4 vis) out := hloop
     obtain ⟨hio4, hsl, hoi⟩ := hloop
     show Tr _ _ _ ([(0, .pointer (some ⟨p, 0, none⟩)), (3, .map (some q)), (6, uo), (8, .int .i64 kd), (48, .slice (some ⟨b48, 0, none⟩) 5 5), (49, .int .i64 5), (50, .int .i64 j), (55, .pointer (some ⟨it3, 0, none⟩))]) ([(it3, io)] :: Co :: [(b48, .cells [Value.int .i64 1, Value.int .i64 5, Value.int .i64 3, Value.int .i64 4, Value.int .i64 2].toArray 3 (0, 0))] :: [(q, ao4)] :: Cn :: G :: F) _ _
     refine Tr.seq <| Tr.region <| qF (js (r := q) (ob := ao4) (vis := vis) rfl (fun w hw => Own.get hw (inferInstance : At _ q ao4 _)) hal4 hio4) ?_
     rintro t56 _ (⟨rfl, hfin3, rfl⟩ | ⟨i, x, io', rfl, hq, hni, hio', rfl⟩)
     ·
      refine q9 (qR rfl rfl) <| qB <| QAt.seq <| Tr.seq <| wD rfl <| Tr.exit <| qX <| qY <| qS <| QAt.block <| QAt.seq <| Tr.region <| q9 (qj rfl rfl (by omega)) <| q9 (qA rfl) <| qB <| qh ⟨(j + 1, out, uo, Co), ?_⟩ ?_ ?_
      · (try dsimp only); exact ⟨by omega, hsl, outIs_end hkd hio4 hfin3 hag4 hoi⟩
      · (try dsimp only); omega
      · (try dsimp only); exact qP _
     ·
      refine q9 (qR rfl rfl) <| qB <| QAt.seq <| Tr.seq <| ww rfl <| Tr.skip <| QAt.seq <| Tr.block <| Tr.seq <| Tr.region <| q9 (jY (r := q) (ob := ao4) (vis := vis) rfl (fun w hw => Own.get hw (inferInstance : At _ q ao4 _)) hal4 hio' hq) ?_
      refine q9 (qR rfl rfl) <| qF (qV) ?_
      rintro t9 _ ⟨b9, rfl, rfl⟩
      refine qK (wJ (vs := [.int .i64 x.1.1, .int .i64 x.1.2]) rfl rfl rfl rfl) <| qB <| QAt.seq <| zA (Γ := {pΓ : (Bool) // (fun (b : Bool) => b = true ↔ (x.1.1 = kd ∧ Je n x.1)) pΓ}) (fun g => (fun (b : Bool) => [(0, .pointer (some ⟨p, 0, none⟩)), (3, .map (some q)), (6, uo), (8, .int .i64 kd), (9, .pointer (some ⟨b9, 0, none⟩)), (48, .slice (some ⟨b48, 0, none⟩) 5 5), (49, .int .i64 5), (50, .int .i64 j), (55, .pointer (some ⟨it3, 0, none⟩)), (76, .bool b)]) g.1) (fun g => (fun (b : Bool) => [(b9, .cells [.int .i64 x.1.1, .int .i64 x.1.2].toArray 100 (0, 0))] :: [(it3, io')] :: Co :: [(b48, .cells [Value.int .i64 1, Value.int .i64 5, Value.int .i64 3, Value.int .i64 4, Value.int .i64 2].toArray 3 (0, 0))] :: [(q, ao4)] :: Cn :: G :: F) g.1) ?_ ?_
      ·
       refine Tr.region <| q9 (qD rfl) <| q9 (qG rfl rfl) <| q9 (qA rfl) <| q9 (wR rfl rfl) <| q9 (qA rfl) <| qN (s := 64) rfl (fun hg21_4 => ?_) (fun hg21_4 => ?_)
       ·
        refine qE rfl rfl (qA rfl) <| qE rfl rfl (wR rfl rfl) <| qE rfl rfl (qA rfl) <| qN (s := 67) rfl (fun hg21_7 => ?_) (fun hg21_7 => ?_)
        ·
         refine qH rfl rfl rfl <| qH rfl rfl rfl <| qE rfl rfl (qT rfl rfl) <| qE rfl rfl (qA rfl) <| qH rfl rfl rfl <| qH rfl rfl rfl <| qH rfl rfl rfl <| qE rfl rfl (qT rfl rfl) <| q9 (qT rfl rfl) <| qB <| qO ⟨_, ?_⟩ ?_
         · (try dsimp only); first | exact ⟨fun _ => ⟨hg21_4, .inl (by omega)⟩, fun _ => rfl⟩ | exact ⟨fun _ => ⟨hg21_4, .inr (.inl (by omega))⟩, fun _ => rfl⟩ | exact ⟨fun h => ⟨hg21_4, .inr (.inr h)⟩, fun h => (h.2.resolve_left (by omega)).resolve_left (by omega)⟩ | exact ⟨fun h => (by cases h), fun h => absurd h.1 hg21_4⟩
         · (try dsimp only); exact qP _
        ·
         refine qE rfl rfl (qA rfl) <| qE rfl rfl (wR rfl rfl) <| qE rfl rfl (qL rfl rfl) <| qE rfl rfl (qA rfl) <| qN (s := 71) rfl (fun hg21_11 => ?_) (fun hg21_11 => ?_)
         ·
          refine qH rfl rfl rfl <| qH rfl rfl rfl <| qH rfl rfl rfl <| qE rfl rfl (qT rfl rfl) <| q9 (qT rfl rfl) <| qB <| qO ⟨_, ?_⟩ ?_
          · (try dsimp only); first | exact ⟨fun _ => ⟨hg21_4, .inl (by omega)⟩, fun _ => rfl⟩ | exact ⟨fun _ => ⟨hg21_4, .inr (.inl (by omega))⟩, fun _ => rfl⟩ | exact ⟨fun h => ⟨hg21_4, .inr (.inr h)⟩, fun h => (h.2.resolve_left (by omega)).resolve_left (by omega)⟩ | exact ⟨fun h => (by cases h), fun h => absurd h.1 hg21_4⟩
          · (try dsimp only); exact qP _
         ·
          refine qE rfl rfl (qA rfl) <| qE rfl rfl (wE rfl) <| qE rfl rfl (qw rfl (yc (Cn) (G) (YD H p n Cn G hn hg hok x.1))) <| qE rfl rfl (qL rfl rfl) <| q9 (qT rfl rfl) <| qB <| qO ⟨_, ?_⟩ ?_
          · (try dsimp only); first | exact ⟨fun _ => ⟨hg21_4, .inl (by omega)⟩, fun _ => rfl⟩ | exact ⟨fun _ => ⟨hg21_4, .inr (.inl (by omega))⟩, fun _ => rfl⟩ | exact ⟨fun h => ⟨hg21_4, .inr (.inr h)⟩, fun h => (h.2.resolve_left (by omega)).resolve_left (by omega)⟩ | exact ⟨fun h => (by cases h), fun h => absurd h.1 hg21_4⟩
          · (try dsimp only); exact qP _
       ·
        refine qH rfl rfl rfl <| qH rfl rfl rfl <| qH rfl rfl rfl <| kP rfl rfl <| kP rfl rfl <| qH rfl rfl rfl <| qH rfl rfl rfl <| kP rfl rfl <| kP rfl rfl <| kP rfl rfl <| qH rfl rfl rfl <| q9 (qL rfl rfl) <| qB <| qO ⟨_, ?_⟩ ?_
        · (try dsimp only); first | exact ⟨fun _ => ⟨hg21_4, .inl (by omega)⟩, fun _ => rfl⟩ | exact ⟨fun _ => ⟨hg21_4, .inr (.inl (by omega))⟩, fun _ => rfl⟩ | exact ⟨fun h => ⟨hg21_4, .inr (.inr h)⟩, fun h => (h.2.resolve_left (by omega)).resolve_left (by omega)⟩ | exact ⟨fun h => (by cases h), fun h => absurd h.1 hg21_4⟩
        · (try dsimp only); exact qP _
      rintro ⟨b, hcut⟩
      replace hcut : b = true ↔ (x.1.1 = kd ∧ Je n x.1) := hcut
      have hb := hcut
      show Tr _ _ _ ([(0, .pointer (some ⟨p, 0, none⟩)), (3, .map (some q)), (6, uo), (8, .int .i64 kd), (9, .pointer (some ⟨b9, 0, none⟩)), (48, .slice (some ⟨b48, 0, none⟩) 5 5), (49, .int .i64 5), (50, .int .i64 j), (55, .pointer (some ⟨it3, 0, none⟩)), (76, .bool b)]) ([(b9, .cells [.int .i64 x.1.1, .int .i64 x.1.2].toArray 100 (0, 0))] :: [(it3, io')] :: Co :: [(b48, .cells [Value.int .i64 1, Value.int .i64 5, Value.int .i64 3, Value.int .i64 4, Value.int .i64 2].toArray 3 (0, 0))] :: [(q, ao4)] :: Cn :: G :: F) _ _
      refine Tr.cond rfl (fun hc20 => ?_) (fun hc20 => ?_)
      ·
       have hlen := Qq hoi.1 (fun y hy => ZQ hok ((hgk y).1 ((hoi.2 y).1 hy).1))
       refine Tr.region <| q9 (qA rfl) <| q9 (wE rfl) <| qF (w5 rfl rfl rfl) ?_
       rintro t79 _ ⟨b79, rfl, rfl⟩
       refine qF (wP (m := 1) (sz := 2) rfl rfl hsl (wQ (ys := wt x.1) inferInstance rfl rfl) rfl Tryz.underlying110 rfl rfl (by omega)) ?_
       rintro t80 _ ⟨C', hs', rfl⟩
       refine q9 (qC rfl) <| qB <| QAt.block <| qh ⟨(vis ++ [i], io', out ++ [x.1], t80, C'), ?_⟩ ?_ ?_
       · (try dsimp only); exact ⟨hio', by rw [List.length_append, List.flatMap_append]; simpa using hs', outIs_in hal4.nodup hag4 hni (kinds5_fresh hkd) hq (hb.1 hc20) hoi⟩
       · (try dsimp only); exact jL hio'
       · (try dsimp only); exact qP _
      ·
       refine Tr.skip <| QAt.block <| qh ⟨(vis ++ [i], io', out, uo, Co), ?_⟩ ?_ ?_
       · (try dsimp only); exact ⟨hio', hsl, outIs_out hq (fun h => by rw [hb.2 h] at hc20; cases hc20) hoi⟩
       · (try dsimp only); exact jL hio'
       · (try dsimp only); exact qP _
    ·
     refine Tr.exit <| qX <| qY <| qS <| QAt.seq <| Tr.seq <| Tr.region <| qF (k8) ?_
     rintro t82 _ ⟨b82, rfl, rfl⟩
     refine zY (jh (r := b82) (q := (1 : Int)) (v := (0 : Int)) rfl rfl rfl (kA _ _)) ?_
     rintro _ _ ⟨o1, ho1, rfl⟩
     refine zY (jh (r := b82) (q := (5 : Int)) (v := (1 : Int)) rfl rfl rfl ho1) ?_
     rintro _ _ ⟨o2, ho2, rfl⟩
     refine zY (jh (r := b82) (q := (3 : Int)) (v := (2 : Int)) rfl rfl rfl ho2) ?_
     rintro _ _ ⟨o3, ho3, rfl⟩
     refine zY (jh (r := b82) (q := (4 : Int)) (v := (3 : Int)) rfl rfl rfl ho3) ?_
     rintro _ _ ⟨o4, ho4, rfl⟩
     refine zY (jh (r := b82) (q := (2 : Int)) (v := (4 : Int)) rfl rfl rfl ho4) ?_
     rintro _ _ ⟨o5, ho5, rfl⟩
     refine q9 (qA rfl) <| qF (qV) ?_
     rintro t10 _ ⟨b10, rfl, rfl⟩
     refine qK (wX rfl rfl rfl) <| qB <| QAt.seq <| Tr.seq ?_
     have hj5 : j = 5 := by omega
     subst hj5
     have hlen := Qq ho.1 (fun y hy => ZQ hok ((hgk y).1 ((ho.2 y).1 hy).1))
     have hsrt := srtP_parts hok hgk ho
     refine Tr.region <| q9 (qA rfl) <| q9 (wV rfl rfl) <| qF (qn rfl (jB (Co) ([(b10, .cells [Value.map (some b82)].toArray 150 (0, 0))]) ([(b82, o5)]) (HP.sortF w0 _ uo out Co b10 b82 o5 hsl (by omega) (fun y hy => ZQ hok ((hgk y).1 ((ho.2 y).1 hy).1)) ho5))) ?_
     rintro t86 _ ⟨rfl, C', hs', rfl⟩
     refine qB <| QAt.seq <| Tr.seq <| Tr.region <| q9 (qA rfl) <| q9 (qC rfl) <| qB <| QAt.seq <| Tr.ret <| qs (C' :: Cn :: G :: F) (.inl rfl) rfl (qd rfl) ?_
     exact ⟨C', by rw [← hsrt, show (Zb out).length = out.length from List.length_mergeSort out]; exact hs', rfl⟩
   ·
    refine q9 (qR rfl rfl) <| qB <| QAt.seq <| Tr.seq <| ww rfl <| Tr.skip <| QAt.seq <| Tr.block <| Tr.seq <| Tr.region <| q9 (jY (r := q2) (ob := ao) (vis := vis) rfl (fun w hw => Own.get hw (inferInstance : At _ q2 ao _)) hal2 hio' hq) ?_
    refine q9 (qR rfl rfl) <| qF (qV) ?_
    rintro t5 _ ⟨b5, rfl, rfl⟩
    refine qK (wJ (vs := [.int .i64 x.1.1, .int .i64 x.1.2]) rfl rfl rfl rfl) <| qB <| QAt.seq <| Tr.seq <| Tr.region <| q9 (qD rfl) <| q9 (qG rfl rfl) <| q9 (wR rfl rfl) <| qB <| QAt.seq <| qI rfl (fun hc10 => ?_) (fun hc10 => ?_)
    ·
     refine Tr.region <| q9 (qA rfl) <| q9 (yZ (b := 1) (off := 0) (c := [Value.int .i64 4, Value.int .i64 0].toArray) (e := e1) (fr := f1) (r := [.int .i64 4, .int .i64 0]) rfl (by rw [hG]; simp) rfl (by decide)) ?_
     refine zY (wu (r := q) (q := (4, 0)) (v := (1 : Int)) rfl rfl rfl hh) ?_
     rintro _ _ ⟨ao3, hh3, rfl⟩
     refine qB <| QAt.block <| qh ⟨(vis ++ [i], io', ao3, upd h (4, 0) (some 1)), ?_⟩ ?_ ?_
     · (try dsimp only); exact ⟨hio', hh3, (Ku hq hhk).1 hc10⟩
     · (try dsimp only); exact jL hio'
     · (try dsimp only); exact qP _
    ·
     refine Tr.skip <| QAt.block <| qh ⟨(vis ++ [i], io', ao2, h), ?_⟩ ?_ ?_
     · (try dsimp only); exact ⟨hio', hh, (Ku hq hhk).2 hc10⟩
     · (try dsimp only); exact jL hio'
     · (try dsimp only); exact qP _
  ·
   refine q9 (qR rfl rfl) <| qB <| QAt.seq <| Tr.seq <| ww rfl <| Tr.skip <| QAt.seq <| Tr.block <| Tr.seq <| Tr.region <| q9 (jY (r := md) (ob := od) (vis := vis) rfl (fun w hw => Own.get hw (inferInstance : At _ md od _)) hal hio' hq) ?_
   refine q9 (qR rfl rfl) <| q9 (qC rfl) <| qB <| QAt.seq <| Tr.seq <| Tr.region <| q9 (qA rfl) <| q9 (qA rfl) <| q9 (wF rfl) <| zY (wu (r := q) (q := (1, x.1)) (v := (1 : Int)) rfl rfl rfl hf) ?_
   rintro _ _ ⟨ao', hf', rfl⟩
   refine qB <| QAt.seq <| Tr.region <| q9 (qA rfl) <| q9 (qA rfl) <| q9 (qw rfl (zM (G) (ZT x.1 G hg (by have := hok.data x.1 (by rw [← hag, xI hal.nodup (List.mem_of_getElem? hq)]; simp); omega)))) ?_
   refine zY (wu (r := q) (q := wj x.1) (v := (1 : Int)) rfl rfl rfl hf') ?_
   rintro _ _ ⟨ao2, hf2, rfl⟩
   refine qB <| QAt.block <| qh ⟨(vis ++ [i], io', ao2, upd (upd f (1, x.1) (some 1)) (wj x.1) (some 1)), ?_⟩ ?_ ?_
   · (try dsimp only); exact ⟨hio', hf2, all0_step hq hfk⟩
   · (try dsimp only); exact jL hio'
   · (try dsimp only); exact qP _
abbrev Qf (num ver : Int) (k : Int × Int) : List Value := [.int .i64 k.1, .int .u32 num, .int .u32 ver, .int .i64 k.2]
instance (num ver : Int) (k : Int × Int) : LenC (Qf num ver k) 4 := ⟨rfl⟩
theorem WD (p : Nat) (n : NS) (Cn : qM) (hn : WK p n Cn) (k : Int × Int) :
    FnT Tryz.prog w0 47 #[.pointer (some ⟨p, 0, none⟩), yU k] (Cn :: F) (fun v L' => v = .agg (Qf n.num n.ver k).toArray ∧ L' = Cn :: F) := by
  refine Yn hn ?_
  intro ma md ms oa od os u C hm
  unfold kK wz yU
  refine FnT.enter (E0 := [(0, _), (1, _)]) (N := 18) Tryz.func47 rfl rfl rfl rfl ?_
  refine Tr.seq <| Tr.region <| qF (wT rfl) ?_
  rintro t3 _ ⟨b3, rfl, rfl⟩
  refine qF (qV) ?_
  rintro t4 _ ⟨b4, rfl, rfl⟩
  refine qB <| QAt.seq <| Tr.seq <| Tr.drawn qm <| qr [(5, .pure _), (6, .pure _), (7, .pure _), (8, .pure _), (9, .pure _), (10, .pure _), (11, .pure _), (12, .pure _), (13, .pure _), (14, .pure _), (15, .pure _), (16, .pure _)] (by kernel_rfl) rfl rfl rfl wL (ParH.pure rfl (fun X => qD rfl) <| ParH.pure rfl (fun X => qG rfl rfl) <| ParH.pure rfl (fun X => qA rfl) <| ParH.pure rfl (fun X => qJ rfl) <| ParH.pure rfl (fun X => qD rfl) <| ParH.pure rfl (fun X => qG rfl rfl) <| ParH.pure rfl (fun X => qA rfl) <| ParH.pure rfl (fun X => qJ rfl) <| ParH.pure rfl (fun X => qD rfl) <| ParH.pure rfl (fun X => qG rfl rfl) <| ParH.pure rfl (fun X => qD rfl) <| ParH.pure rfl (fun X => qG rfl rfl) <| ParH.nil rfl) ?_
  dsimp only [zG, List.drop, List.length]
  refine qq (by kernel_rfl) (wF rfl) ?_
  refine k0 (by kernel_rfl) (wJ rfl rfl rfl rfl) ?_
  refine qt <| QAt.seq <| Tr.ret <| qs ([(p, .cells [.int .u32 n.num, .int .u32 n.ver, .int .i64 n.kind, .int .i64 n.size, .int .u32 n.time, .map (some ma), .map (some md), .map (some ms), u].toArray 90 (0, 0))] :: [(ma, oa)] :: [(md, od)] :: [(ms, os)] :: C :: F) (.inl rfl) rfl (zB rfl) ?_
  exact ⟨rfl, rfl⟩
theorem pending_ok (H : j3 w0) (HP : xc) (p : Nat) (n : NS) (Cn G : qM) (hn : NodeC p n Cn) (hg : kJ G) (hok : NOk n) :
    FnT Tryz.prog w0 15 #[.pointer (some ⟨p, 0, none⟩)] (Cn :: G :: F) (fun v L' => ∃ C', SlC 62 4 v (y3 n).length ((y3 n).flatMap (Qf n.num n.ver)) C' ∧ L' = C' :: Cn :: G :: F) := by
  obtain ⟨l, hl⟩ : ∃ l, y3 n = l := ⟨_, rfl⟩
  have hlen : l.length ≤ 1099 := by
    rw [← hl]; unfold y3
    refine Nat.le_trans (List.length_filter_le _ _) ?_
    simp [allParts]
  refine FnT.enter (E0 := [(0, _)]) (N := 21) Tryz.func15 rfl rfl rfl rfl ?_
  refine Tr.seq <| Tr.region <| q9 (qC rfl) <| qB <| QAt.seq <| Tr.seq <| Tr.region <| q9 (qC rfl) <| qB <| QAt.seq <| Tr.seq <| Tr.seq <| Tr.region <| q9 (qA rfl) <| qF (qn rfl (k5 (Cn) (G) (jq H HP p n Cn G hn hg hok))) ?_
  rintro t7 _ ⟨Cp, hs, rfl⟩
  rw [hl] at hs ⊢
  obtain ⟨px, cx, rfl⟩ := hs.slice
  refine q9 (qg rfl) <| q9 (qA rfl) <| qB <| QAt.seq <| Tr.block <| wB (Γ := {pΓ : (Nat) × (Value) × (qM) // (fun (i : Nat) (uo : Value) (Co : qM) => i ≤ l.length ∧ SlC 62 4 uo i ((l.take i).flatMap (Qf n.num n.ver)) Co) pΓ.1 pΓ.2.1 pΓ.2.2}) (fun g => (fun (i : Nat) (uo : Value) (Co : qM) => [(0, .pointer (some ⟨p, 0, none⟩)), (3, uo), (7, .slice px l.length cx), (8, .int .i64 l.length), (9, .int .i64 i)]) g.1.1 g.1.2.1 g.1.2.2) (fun g => (fun (i : Nat) (uo : Value) (Co : qM) => Co :: Cp :: Cn :: G :: F) g.1.1 g.1.2.1 g.1.2.2) (fun g => (fun (i : Nat) (uo : Value) (Co : qM) => l.length - i) g.1.1 g.1.2.1 g.1.2.2) ⟨(0, .slice none 0 0, []), by dsimp only; exact ⟨by omega, zu _ _⟩⟩ (qP _) ?_
  rintro ⟨⟨i, uo, Co⟩, hloop⟩
  replace hloop : i ≤ l.length ∧ SlC 62 4 uo i ((l.take i).flatMap (Qf n.num n.ver)) Co := hloop
  obtain ⟨hi, hsl⟩ := hloop
  show Tr _ _ _ ([(0, .pointer (some ⟨p, 0, none⟩)), (3, uo), (7, .slice px l.length cx), (8, .int .i64 l.length), (9, .int .i64 i)]) (Co :: Cp :: Cn :: G :: F) _ _
  refine Tr.seq <| Tr.region <| q9 (qv rfl rfl) <| qB <| QAt.seq <| Tr.seq <| qI rfl (fun hc3 => ?_) (fun hc3 => ?_)
  ·
   refine Tr.skip <| QAt.seq <| Tr.seq <| Tr.block <| Tr.seq ?_
   obtain ⟨q, hq⟩ : ∃ q, l[i]? = some q := ⟨_, List.getElem?_eq_getElem (by omega)⟩
   refine Tr.region <| qF (zO (j := i) rfl rfl hs (by omega) (by omega)) ?_
   rintro t11 _ ⟨b, cap, spare, hqc, rfl, hcap, hnc, rfl, rfl⟩
   refine q9 (wk (j := i) zb rfl hq rfl) <| qF (qV) ?_
   rintro t5 _ ⟨b5, rfl, rfl⟩
   refine qK (qW (l := [Value.int .i64 0, Value.int .i64 0]) (vs := [.int .i64 q.1, .int .i64 q.2]) rfl rfl rfl rfl rfl) <| qB <| QAt.seq <| Tr.region <| q9 (qA rfl) <| q9 (qA rfl) <| q9 (wE rfl) <| q9 (qw rfl (zM (Cn) (WD p n Cn (Kb hn) q))) <| qF (w5 rfl rfl rfl) ?_
   rintro t17 _ ⟨b17, rfl, rfl⟩
   refine qF (wP (m := 1) (sz := 4) rfl rfl hsl (wQ (ys := Qf n.num n.ver q) inferInstance rfl rfl) rfl Tryz.underlying51 rfl rfl (by omega)) ?_
   rintro t18 _ ⟨C', hs', rfl⟩
   refine q9 (qC rfl) <| qB <| QAt.block <| QAt.seq <| Tr.region <| q9 (qj rfl rfl (by omega)) <| q9 (qA rfl) <| qB <| qh ⟨(i + 1, t18, C'), ?_⟩ ?_ ?_
   · (try dsimp only); exact ⟨by omega, by rw [List.take_add_one, hq, List.flatMap_append]; simpa using hs'⟩
   · (try dsimp only); omega
   · (try dsimp only); exact qP _
  ·
   refine Tr.exit <| qX <| qY <| qS <| QAt.seq <| Tr.seq <| Tr.region <| q9 (qA rfl) <| q9 (qC rfl) <| qB <| QAt.seq <| Tr.ret <| qs (Co :: Cn :: G :: F) (.inl rfl) rfl (qd rfl) ?_
   have hil : i = l.length := by omega
   rw [hil, List.take_length] at hsl
   exact ⟨Co, hsl, rfl⟩
def XL (i : Int) : List (Int × Int × Int) :=
  w8 i :: ((if (w8 i).1 ≠ 0 then [((w8 i).1, (w8 i).2.1, -1)] else []) ++ (if (w8 i).1 = 2 then [(2, -1, -1)] else []))
def kq (s : List (Int × Int × Int)) (x : Int × Int × Int) : List (Int × Int × Int) := if x ∈ s then s else s ++ [x]
def Qy (xs : List Int) : List (Int × Int × Int) := (xs.flatMap XL).foldl kq []
def V3 (xs : List Int) : Int := 1 + (Qy xs).length
def Zx (f : Int × Int × Int → Option Int) (s : List (Int × Int × Int)) (m : Nat) : Prop := (∀ k, f k ≠ none ↔ k ∈ s) ∧ (∀ k v, f k = some v → 1 ≤ v ∧ v ≤ m) ∧ s.length ≤ m
theorem seenAdd_len (s : List (Int × Int × Int)) (x : Int × Int × Int) : (kq s x).length ≤ s.length + 1 := by
  unfold kq; split <;> simp
theorem seen_step {f : Int × Int × Int → Option Int} {s : List (Int × Int × Int)} {m : Nat} (h : Zx f s m) (x : Int × Int × Int) :
    Zx (upd f x (some ((f x).getD 0 + 1))) (kq s x) (m + 1) ∧ ((f x).getD 0 + 1 = 1 ↔ x ∉ s) ∧ 0 ≤ (f x).getD 0 ∧ (f x).getD 0 ≤ m := by
  obtain ⟨h1, h2, h0⟩ := h
  have hb : 0 ≤ (f x).getD 0 ∧ (f x).getD 0 ≤ m := by
    cases e : f x with
    | none => simp
    | some v => have := h2 x v e; simp; omega
  refine ⟨⟨fun k => ?_, fun k v hv => ?_, by have := seenAdd_len s x; omega⟩, ?_, hb.1, hb.2⟩
  · unfold kq upd
    by_cases e : k = x
    · subst e; simp only [if_true]; split <;> simp_all
    · rw [if_neg e, h1]; split <;> simp [e]
  · unfold upd at hv
    by_cases e : k = x
    · rw [if_pos e] at hv; cases hv; omega
    · rw [if_neg e] at hv; have := h2 k v hv; omega
  · have := h1 x
    cases e : f x with
    | none => rw [e] at this; simp at this; simp [this]
    | some v =>
      have h3 := h2 x v e
      rw [e] at this; simp at this
      simp [this]; omega
theorem add_ok (bm r bc : Nat) (o : Obj) (f : Int × Int × Int → Option Int) (hf : MapF jn (Value.int .i64) f o) (x : Int × Int × Int) (c : Int) (hc : 0 ≤ c ∧ c ≤ 1000000) (hx : 0 ≤ (f x).getD 0 ∧ (f x).getD 0 ≤ 1000000) :
    FnT Tryz.prog w0 86 #[jn x, .pointer (some ⟨bm, 0, none⟩), .pointer (some ⟨bc, 0, none⟩)] ([(bm, .cells [Value.map (some r)].toArray 159 (0, 0))] :: [(r, o)] :: [(bc, .cells [Value.int .i64 c].toArray 3 (0, 0))] :: F)
      (fun v L' => v = .tuple #[] ∧ ∃ o', MapF jn (Value.int .i64) (upd f x (some ((f x).getD 0 + 1))) o' ∧ L' = [(bm, .cells [Value.map (some r)].toArray 159 (0, 0))] :: [(r, o')] :: [(bc, .cells [Value.int .i64 (if (f x).getD 0 + 1 = 1 then c + 1 else c)].toArray 3 (0, 0))] :: F) := by
  obtain ⟨al, hal, hag⟩ := id hf
  unfold jn
  refine FnT.enter (E0 := [(0, _), (1, _), (2, _)]) (N := 16) Tryz.func86 rfl rfl rfl rfl ?_
  refine Tr.seq <| Tr.region <| qF (wT rfl) ?_
  rintro t3 _ ⟨b3, rfl, rfl⟩
  refine qB <| QAt.seq <| zA (Γ := {pΓ : (Obj) // (fun (o2 : Obj) => MapF jn (Value.int .i64) (upd f x (some ((f x).getD 0 + 1))) o2) pΓ}) (fun g => (fun (o2 : Obj) => [(1, .pointer (some ⟨bm, 0, none⟩)), (2, .pointer (some ⟨bc, 0, none⟩)), (3, .pointer (some ⟨b3, 0, none⟩))]) g.1) (fun g => (fun (o2 : Obj) => [(b3, .cells [.int .i64 x.1, .int .i64 x.2.1, .int .i64 x.2.2].toArray 160 (0, 0))] :: [(bm, .cells [Value.map (some r)].toArray 159 (0, 0))] :: [(r, o2)] :: [(bc, .cells [Value.int .i64 c].toArray 3 (0, 0))] :: F) g.1) ?_ ?_
  ·
   refine yL qm (show TrS _ _ _ _ [false, false, false, false, false, false, false] _ _ _ from ?_)
   refine wg (i := 0) (j := 1) (by kernel_rfl) rfl ?_ ?_
   ·
    refine qQ rfl rfl rfl (qG rfl rfl) <| TrS.one (i := 1) (by kernel_rfl) rfl ?_
    refine qQ rfl rfl rfl (wE rfl) <| wg (i := 2) (j := 4) (by kernel_rfl) rfl ?_ ?_
    ·
     refine qQ rfl rfl rfl (QW (z := (0 : Int)) (q := x) (v := (f x).getD 0) rfl rfl hf rfl) <| wg (i := 3) (j := 4) (by kernel_rfl) rfl ?_ ?_
     ·
      refine qQ rfl rfl rfl (qj rfl rfl (by omega)) <| TrS.one (i := 4) (by kernel_rfl) rfl ?_
      refine qp rfl rfl rfl (jK (q := x) (zv := (0 : Int)) rfl rfl hal) ?_
      rintro t8 _ ⟨o1, st, rfl, hst, rfl⟩
      refine TrS.take 5 rfl rfl (by kernel_rfl) rfl (qU rfl rfl) ?_
      refine TrS.one (i := 6) (by kernel_rfl) rfl ?_
      refine xN rfl rfl rfl (kW (q := x) (v := (f x).getD 0 + 1) rfl rfl rfl hst) ?_
      rintro _ _ ⟨o2, ho2, rfl⟩
      refine qy (by kernel_rfl) ?_
      refine qO ⟨o2, ?_⟩ ?_
      · (try dsimp only); exact ⟨_, ho2, fun k => by rw [yK, yK]; unfold upd; split <;> simp [*]⟩
      · (try dsimp only); exact qP _
     ·
      refine qp rfl rfl rfl (jK (q := x) (zv := (0 : Int)) rfl rfl hal) ?_
      rintro t8 _ ⟨o1, st, rfl, hst, rfl⟩
      refine TrS.take 5 rfl rfl (by kernel_rfl) rfl (qU rfl rfl) ?_
      refine TrS.one (i := 3) (by kernel_rfl) rfl ?_
      refine qQ rfl rfl rfl (qj rfl rfl (by omega)) <| TrS.one (i := 6) (by kernel_rfl) rfl ?_
      refine xN rfl rfl rfl (kW (q := x) (v := (f x).getD 0 + 1) rfl rfl rfl hst) ?_
      rintro _ _ ⟨o2, ho2, rfl⟩
      refine qy (by kernel_rfl) ?_
      refine qO ⟨o2, ?_⟩ ?_
      · (try dsimp only); exact ⟨_, ho2, fun k => by rw [yK, yK]; unfold upd; split <;> simp [*]⟩
      · (try dsimp only); exact qP _
    ·
     refine qp rfl rfl rfl (jK (q := x) (zv := (0 : Int)) rfl rfl hal) ?_
     rintro t8 _ ⟨o1, st, rfl, hst, rfl⟩
     refine TrS.take 5 rfl rfl (by kernel_rfl) rfl (qU rfl rfl) ?_
     refine TrS.one (i := 2) (by kernel_rfl) rfl ?_
     refine qQ rfl rfl rfl (QW (z := (0 : Int)) (q := x) (v := (f x).getD 0) (f := upd f x (some ((zi al x).getD 0))) rfl rfl (YY hst hag) (by rw [wx, hag]; rfl)) ?_
     refine TrS.one (i := 3) (by kernel_rfl) rfl ?_
     refine qQ rfl rfl rfl (qj rfl rfl (by omega)) <| TrS.one (i := 6) (by kernel_rfl) rfl ?_
     refine xN rfl rfl rfl (kW (q := x) (v := (f x).getD 0 + 1) rfl rfl rfl hst) ?_
     rintro _ _ ⟨o2, ho2, rfl⟩
     refine qy (by kernel_rfl) ?_
     refine qO ⟨o2, ?_⟩ ?_
     · (try dsimp only); exact ⟨_, ho2, fun k => by rw [yK, yK]; unfold upd; split <;> simp [*]⟩
     · (try dsimp only); exact qP _
   ·
    refine qQ rfl rfl rfl (wE rfl) <| TrS.one (i := 0) (by kernel_rfl) rfl ?_
    refine qQ rfl rfl rfl (qG rfl rfl) <| wg (i := 2) (j := 4) (by kernel_rfl) rfl ?_ ?_
    ·
     refine qQ rfl rfl rfl (QW (z := (0 : Int)) (q := x) (v := (f x).getD 0) rfl rfl hf rfl) <| wg (i := 3) (j := 4) (by kernel_rfl) rfl ?_ ?_
     ·
      refine qQ rfl rfl rfl (qj rfl rfl (by omega)) <| TrS.one (i := 4) (by kernel_rfl) rfl ?_
      refine qp rfl rfl rfl (jK (q := x) (zv := (0 : Int)) rfl rfl hal) ?_
      rintro t8 _ ⟨o1, st, rfl, hst, rfl⟩
      refine TrS.take 5 rfl rfl (by kernel_rfl) rfl (qU rfl rfl) ?_
      refine TrS.one (i := 6) (by kernel_rfl) rfl ?_
      refine xN rfl rfl rfl (kW (q := x) (v := (f x).getD 0 + 1) rfl rfl rfl hst) ?_
      rintro _ _ ⟨o2, ho2, rfl⟩
      refine qy (by kernel_rfl) ?_
      refine qO ⟨o2, ?_⟩ ?_
      · (try dsimp only); exact ⟨_, ho2, fun k => by rw [yK, yK]; unfold upd; split <;> simp [*]⟩
      · (try dsimp only); exact qP _
     ·
      refine qp rfl rfl rfl (jK (q := x) (zv := (0 : Int)) rfl rfl hal) ?_
      rintro t8 _ ⟨o1, st, rfl, hst, rfl⟩
      refine TrS.take 5 rfl rfl (by kernel_rfl) rfl (qU rfl rfl) ?_
      refine TrS.one (i := 3) (by kernel_rfl) rfl ?_
      refine qQ rfl rfl rfl (qj rfl rfl (by omega)) <| TrS.one (i := 6) (by kernel_rfl) rfl ?_
      refine xN rfl rfl rfl (kW (q := x) (v := (f x).getD 0 + 1) rfl rfl rfl hst) ?_
      rintro _ _ ⟨o2, ho2, rfl⟩
      refine qy (by kernel_rfl) ?_
      refine qO ⟨o2, ?_⟩ ?_
      · (try dsimp only); exact ⟨_, ho2, fun k => by rw [yK, yK]; unfold upd; split <;> simp [*]⟩
      · (try dsimp only); exact qP _
    ·
     refine qp rfl rfl rfl (jK (q := x) (zv := (0 : Int)) rfl rfl hal) ?_
     rintro t8 _ ⟨o1, st, rfl, hst, rfl⟩
     refine TrS.take 5 rfl rfl (by kernel_rfl) rfl (qU rfl rfl) ?_
     refine TrS.one (i := 2) (by kernel_rfl) rfl ?_
     refine qQ rfl rfl rfl (QW (z := (0 : Int)) (q := x) (v := (f x).getD 0) (f := upd f x (some ((zi al x).getD 0))) rfl rfl (YY hst hag) (by rw [wx, hag]; rfl)) ?_
     refine TrS.one (i := 3) (by kernel_rfl) rfl ?_
     refine qQ rfl rfl rfl (qj rfl rfl (by omega)) <| TrS.one (i := 6) (by kernel_rfl) rfl ?_
     refine xN rfl rfl rfl (kW (q := x) (v := (f x).getD 0 + 1) rfl rfl rfl hst) ?_
     rintro _ _ ⟨o2, ho2, rfl⟩
     refine qy (by kernel_rfl) ?_
     refine qO ⟨o2, ?_⟩ ?_
     · (try dsimp only); exact ⟨_, ho2, fun k => by rw [yK, yK]; unfold upd; split <;> simp [*]⟩
     · (try dsimp only); exact qP _
  rintro ⟨o2, hcut⟩
  replace hcut : MapF jn (Value.int .i64) (upd f x (some ((f x).getD 0 + 1))) o2 := hcut
  have hf2 := hcut
  show Tr _ _ _ ([(1, .pointer (some ⟨bm, 0, none⟩)), (2, .pointer (some ⟨bc, 0, none⟩)), (3, .pointer (some ⟨b3, 0, none⟩))]) ([(b3, .cells [.int .i64 x.1, .int .i64 x.2.1, .int .i64 x.2.2].toArray 160 (0, 0))] :: [(bm, .cells [Value.map (some r)].toArray 159 (0, 0))] :: [(r, o2)] :: [(bc, .cells [Value.int .i64 c].toArray 3 (0, 0))] :: F) _ _
  refine Tr.seq <| Tr.region <| q9 (qG rfl rfl) <| q9 (wE rfl) <| q9 (y1 (z := 0) (q := x) rfl rfl hf2) <| q9 (wR rfl rfl) <| qB ?_
  rw [wx]
  refine QAt.seq <| qI rfl (fun hc2 => ?_) (fun hc2 => ?_)
  ·
   refine Tr.region <| q9 (qG rfl rfl) <| q9 (qj rfl rfl (by omega)) <| qK (wX rfl rfl rfl) <| qB <| ye ([(bm, .cells [Value.map (some r)].toArray 159 (0, 0))] :: [(r, o2)] :: [(bc, .cells [Value.int .i64 (c + 1)].toArray 3 (0, 0))] :: F) (.inr rfl) rfl  ?_
   exact ⟨rfl, o2, hf2, by rw [if_pos (show (f x).getD 0 + 1 = 1 from hc2)]⟩
  ·
   refine Tr.skip <| ye ([(bm, .cells [Value.map (some r)].toArray 159 (0, 0))] :: [(r, o2)] :: [(bc, .cells [Value.int .i64 c].toArray 3 (0, 0))] :: F) (.inr rfl) rfl  ?_
   exact ⟨rfl, o2, hf2, by rw [if_neg (show ¬ (f x).getD 0 + 1 = 1 from hc2)]⟩
theorem Xr {P : Program} {f : FuncId} {vs : List Value} {c d : Value} {R : Value → Res → Prop} [he : Enters P f] (h : FnT P w0 f (vs ++ [c, d]).toArray L R) : FnV P w0 (.func (.func f) #[] #[c, d]) vs L R := by
  have := FnV.of (first := []) (captured := [c, d]) (vs := vs) (f := f) (P := P) (w0 := w0) (L := L) (R := R) (by simpa using h)
  exact this
theorem JX {P : Program} {g : Value} {vs : List Value} {R : Value → Res → Prop} (c1 c2 c3 : qM) [ht : Take L [c1, c2, c3] F] (h : FnV P w0 g vs (c1 :: c2 :: c3 :: F) R) : FnV P w0 g vs L R :=
  FnV.pre h fun _ hw => hw.perm ht.perm
theorem JU (bm r bc : Nat) (o : Obj) (f : Int × Int × Int → Option Int) (hf : MapF jn (Value.int .i64) f o) (s : List (Int × Int × Int)) (m : Nat) (hs : Zx f s m) (hm : m ≤ 900000) (x : Int × Int × Int) :
    FnV Tryz.prog w0 (.func (.func 86) #[] #[.pointer (some ⟨bm, 0, none⟩), .pointer (some ⟨bc, 0, none⟩)]) [jn x] ([(bm, .cells [Value.map (some r)].toArray 159 (0, 0))] :: [(r, o)] :: [(bc, .cells [Value.int .i64 (1 + s.length)].toArray 3 (0, 0))] :: F)
      (fun v L' => v = .tuple #[] ∧ ∃ o' f', MapF jn (Value.int .i64) f' o' ∧ Zx f' (kq s x) (m + 1) ∧ L' = [(bm, .cells [Value.map (some r)].toArray 159 (0, 0))] :: [(r, o')] :: [(bc, .cells [Value.int .i64 (1 + (kq s x).length)].toArray 3 (0, 0))] :: F) := by
  have hst := seen_step hs x
  have hlen := hs.2.2
  refine Xr ((add_ok bm r bc o f hf x (1 + s.length) (by omega) (by have := hst.2.2; omega)).mono fun v L' h => ?_)
  obtain ⟨rfl, o', ho', rfl⟩ := h
  refine ⟨rfl, o', _, ho', hst.1, ?_⟩
  congr 5
  by_cases hx : x ∈ s
  · rw [if_neg (fun e => hst.2.1.1 e hx)]; unfold kq; rw [if_pos hx]
  · rw [if_pos (hst.2.1.2 hx)]; unfold kq; rw [if_neg hx]; simp; omega
theorem seenL_snoc (xs : List Int) (i : Nat) (q : Int) (hq : xs[i]? = some q) : Qy (xs.take (i + 1)) = (XL q).foldl kq (Qy (xs.take i)) := by
  unfold Qy
  rw [List.take_add_one, hq, List.flatMap_append, List.foldl_append]; simp
theorem cost_ok (xs : List Int) (u : Value) (C : qM) (hs : SlC 3 1 u xs.length (iV xs) C) (hx : ∀ x ∈ xs, 0 ≤ x ∧ x < 1064) (hl : xs.length ≤ 1064) :
    FnT Tryz.prog w0 52 #[u] (C :: F) (fun v L' => v = .int .i64 (V3 xs) ∧ L' = C :: F) := by
  obtain ⟨pu, cu, hu⟩ := hs.slice
  refine FnT.enter (E0 := [(0, _)]) (N := 48) Tryz.func52 rfl rfl rfl rfl ?_
  refine Tr.seq <| Tr.region <| q9 (qC rfl) <| qB <| QAt.seq <| Tr.seq <| Tr.region <| qF (k8) ?_
  rintro t10 _ ⟨b10, rfl, rfl⟩
  refine qF (qV) ?_
  rintro t3 _ ⟨b3, rfl, rfl⟩
  refine qK (wX rfl rfl rfl) <| qB <| QAt.seq <| Tr.seq <| Tr.region <| qF (qV) ?_
  rintro t4 _ ⟨b4, rfl, rfl⟩
  refine qK (wX rfl rfl rfl) <| qB <| QAt.seq <| Tr.seq <| Tr.region <| q9 (wV rfl rfl) <| q9 (qC rfl) <| qB <| QAt.seq <| Tr.seq <| Tr.seq <| Tr.region <| q9 (qA rfl) <| q9 (qg (by rw [← hu]; rfl)) ?_
  refine q9 (qA rfl) <| qB <| QAt.seq <| Tr.block <| wB (Γ := {pΓ : (Nat) × (Obj) × (Int × Int × Int → Option Int) // (fun (i : Nat) (o : Obj) (f : Int × Int × Int → Option Int) => i ≤ xs.length ∧ MapF jn (Value.int .i64) f o ∧ Zx f (Qy (xs.take i)) (3 * i)) pΓ.1 pΓ.2.1 pΓ.2.2}) (fun g => (fun (i : Nat) (o : Obj) (f : Int × Int × Int → Option Int) => [(4, .pointer (some ⟨b4, 0, none⟩)), (5, .func (.func 86) #[] #[.pointer (some ⟨b3, 0, none⟩), .pointer (some ⟨b4, 0, none⟩)]), (12, u), (13, .int .i64 xs.length), (14, .int .i64 i)]) g.1.1 g.1.2.1 g.1.2.2) (fun g => (fun (i : Nat) (o : Obj) (f : Int × Int × Int → Option Int) => [(b3, .cells [Value.map (some b10)].toArray 159 (0, 0))] :: [(b10, o)] :: [(b4, .cells [Value.int .i64 (1 + (Qy (xs.take i)).length)].toArray 3 (0, 0))] :: C :: F) g.1.1 g.1.2.1 g.1.2.2) (fun g => (fun (i : Nat) (o : Obj) (f : Int × Int × Int → Option Int) => xs.length - i) g.1.1 g.1.2.1 g.1.2.2) ⟨(0, _, fun _ => none), by dsimp only; exact ⟨by omega, kA _ _, ⟨fun k => (by simp [Qy]), fun k v h => (by cases h), (by simp [Qy])⟩⟩⟩ ((qP ([(b3, .cells [Value.map (some b10)].toArray 159 (0, 0))] :: [(b10, .map #[] 0)] :: [(b4, .cells [Value.int .i64 1].toArray 3 (0, 0))] :: C :: F))) ?_
  rintro ⟨⟨i, o, f⟩, hloop⟩
  replace hloop : i ≤ xs.length ∧ MapF jn (Value.int .i64) f o ∧ Zx f (Qy (xs.take i)) (3 * i) := hloop
  obtain ⟨hi, hf, hso⟩ := hloop
  show Tr _ _ _ ([(4, .pointer (some ⟨b4, 0, none⟩)), (5, .func (.func 86) #[] #[.pointer (some ⟨b3, 0, none⟩), .pointer (some ⟨b4, 0, none⟩)]), (12, u), (13, .int .i64 xs.length), (14, .int .i64 i)]) ([(b3, .cells [Value.map (some b10)].toArray 159 (0, 0))] :: [(b10, o)] :: [(b4, .cells [Value.int .i64 (1 + (Qy (xs.take i)).length)].toArray 3 (0, 0))] :: C :: F) _ _
  refine Tr.seq <| Tr.region <| q9 (qv rfl rfl) <| qB <| QAt.seq <| Tr.seq <| qI rfl (fun hc5 => ?_) (fun hc5 => ?_)
  ·
   refine Tr.skip <| QAt.seq <| Tr.seq <| Tr.block <| Tr.seq ?_
   obtain ⟨q, hq⟩ : ∃ q, xs[i]? = some q := ⟨_, List.getElem?_eq_getElem (by omega)⟩
   have hqr := hx q (List.mem_of_getElem? hq)
   have hsn := seenL_snoc xs i q hq
   obtain ⟨s, hse⟩ : ∃ s, Qy (xs.take i) = s := ⟨_, rfl⟩
   rw [hse] at hso hsn ⊢
   obtain ⟨pl, hpl⟩ : ∃ pl, w8 q = pl := ⟨_, rfl⟩
   unfold XL at hsn
   rw [hpl] at hsn
   refine Tr.region <| qF (zO (j := i) rfl rfl hs (by omega) (by omega)) ?_
   rintro t16 _ ⟨b, cap, spare, hqc, rfl, hcap, hnc, rfl, rfl⟩
   refine q9 (qG rfl (show wG _ _ = some (.int .i64 q) by rw [wi, Nat.mul_one, List.getElem?_append_left (by simp [iV]; omega)]; simp [iV, hq])) ?_
   refine q9 (qC rfl) <| qB <| QAt.seq <| Tr.seq <| Tr.region <| q9 (qA rfl) <| q9 (qw rfl (Xb q (by omega))) ?_
   rw [hpl]
   refine q9 (qA rfl) <| q9 (qR rfl rfl) <| q9 (qR rfl rfl) <| qF (qV) ?_
   rintro t8 _ ⟨b8, rfl, rfl⟩
   refine qK (wJ (vs := [.int .i64 pl.1, .int .i64 pl.2.1, .int .i64 pl.2.2]) rfl rfl rfl rfl) <| q9 (qC rfl) <| qB <| QAt.seq <| Tr.seq <| Tr.seq <| Tr.region <| q9 (qA rfl) <| q9 (wZ rfl rfl) <| qB <| QAt.seq <| qI rfl (fun hc8 => ?_) (fun hc8 => ?_)
   · exact absurd hc8 (by unfold jf; rw [if_neg (by omega), if_pos (by omega)]; simp)
   ·
    refine Tr.skip <| QAt.seq <| Tr.seq <| Tr.region <| q9 (qA rfl) <| q9 (wE rfl) <| qF (yw rfl rfl (JX ([(b3, .cells [Value.map (some b10)].toArray 159 (0, 0))]) ([(b10, o)]) ([(b4, .cells [Value.int .i64 (1 + s.length)].toArray 3 (0, 0))]) (JU b3 b10 b4 o f hf s (3 * i) hso (by omega) pl))) ?_
    rintro t27 _ ⟨rfl, o1, f1, hf1, hso1, rfl⟩
    refine qB <| QAt.seq <| Tr.seq <| Tr.seq <| Tr.region <| q9 (qD rfl) <| q9 (qG rfl rfl) <| q9 (wZ rfl rfl) <| qB <| QAt.seq <| qI rfl (fun hc10 => ?_) (fun hc10 => ?_)
    ·
     refine Tr.region <| q9 (qA rfl) <| q9 (qD rfl) <| q9 (qG rfl rfl) <| q9 (qD rfl) <| q9 (qG rfl rfl) <| q9 (wF rfl) <| qF (yw rfl rfl (JX ([(b3, .cells [Value.map (some b10)].toArray 159 (0, 0))]) ([(b10, o1)]) ([(b4, .cells [Value.int .i64 (1 + (kq s pl).length)].toArray 3 (0, 0))]) (JU b3 b10 b4 o1 f1 hf1 _ _ hso1 (by omega) (pl.1, pl.2.1, -1)))) ?_
     rintro t37 _ ⟨rfl, o2, f2, hf2, hso2, rfl⟩
     refine qB <| QAt.seq <| Tr.seq <| Tr.region <| q9 (qD rfl) <| q9 (qG rfl rfl) <| q9 (wR rfl rfl) <| qB <| QAt.seq <| qI rfl (fun hc12 => ?_) (fun hc12 => ?_)
     ·
      rw [if_pos hc10, if_pos hc12, ← hc12] at hsn; simp only [List.cons_append, List.nil_append, List.foldl_cons, List.foldl_nil] at hsn
      refine Tr.region <| q9 (qA rfl) <| q9 (qD rfl) <| q9 (qG rfl rfl) <| q9 (wF rfl) <| qF (yw rfl rfl (JX ([(b3, .cells [Value.map (some b10)].toArray 159 (0, 0))]) ([(b10, o2)]) ([(b4, .cells [Value.int .i64 (1 + (kq (kq s pl) (pl.1, pl.2.1, -1)).length)].toArray 3 (0, 0))]) (JU b3 b10 b4 o2 f2 hf2 _ _ hso2 (by omega) (pl.1, -1, -1)))) ?_
      rintro t45 _ ⟨rfl, o3, f3, hf3, hso3, rfl⟩
      refine qB <| QAt.block <| QAt.seq <| Tr.region <| q9 (qj rfl rfl (by omega)) <| q9 (qA rfl) <| qB <| qh ⟨(i + 1, o3, f3), ?_⟩ ?_ ?_
      · (try dsimp only); rw [hsn]; exact ⟨by omega, hf3, hso3⟩
      · (try dsimp only); omega
      · (try dsimp only); exact (by rw [hsn]; exact qP _)
     ·
      rw [if_pos hc10, if_neg hc12] at hsn; simp only [List.append_nil, List.nil_append, List.foldl_cons, List.foldl_nil] at hsn
      refine Tr.skip <| QAt.block <| QAt.seq <| Tr.region <| q9 (qj rfl rfl (by omega)) <| q9 (qA rfl) <| qB <| qh ⟨(i + 1, o2, f2), ?_⟩ ?_ ?_
      · (try dsimp only); rw [hsn]; exact ⟨by omega, hf2, ⟨hso2.1, fun k v h => by have := hso2.2.1 k v h; omega, by have := hso2.2.2; omega⟩⟩
      · (try dsimp only); omega
      · (try dsimp only); exact (by rw [hsn]; exact qP _)
    ·
     refine Tr.skip <| QAt.seq <| Tr.seq <| Tr.region <| q9 (qD rfl) <| q9 (qG rfl rfl) <| q9 (wR rfl rfl) <| qB <| QAt.seq <| qI rfl (fun hc12 => ?_) (fun hc12 => ?_)
     · (exfalso; omega)
     ·
      rw [if_neg hc10, if_neg hc12] at hsn; simp only [List.append_nil, List.nil_append, List.foldl_cons, List.foldl_nil] at hsn
      refine Tr.skip <| QAt.block <| QAt.seq <| Tr.region <| q9 (qj rfl rfl (by omega)) <| q9 (qA rfl) <| qB <| qh ⟨(i + 1, o1, f1), ?_⟩ ?_ ?_
      · (try dsimp only); rw [hsn]; exact ⟨by omega, hf1, ⟨hso1.1, fun k v h => by have := hso1.2.1 k v h; omega, by have := hso1.2.2; omega⟩⟩
      · (try dsimp only); omega
      · (try dsimp only); exact (by rw [hsn]; exact qP _)
  ·
   refine Tr.exit <| qX <| qY <| qS <| QAt.seq <| Tr.seq ?_
   rw [List.take_of_length_le (by omega)]
   refine Tr.region <| q9 (qG rfl rfl) <| q9 (qC rfl) <| qB <| QAt.seq <| Tr.ret <| qs (C :: F) (.inl rfl) rfl (qd rfl) ?_
   exact ⟨rfl, rfl⟩
theorem cost_node_ok (H : j3 w0) (p : Nat) (n : NS) (Cn : qM) (hn : NodeC p n Cn) (hok : NOk n) : FnT Tryz.prog w0 17 #[.pointer (some ⟨p, 0, none⟩)] (Cn :: F) (fun v L' => v = .int .i64 (V3 (jb n)) ∧ L' = Cn :: F) := by
  refine FnT.enter (E0 := [(0, _)]) (N := 6) Tryz.func17 rfl rfl rfl rfl ?_
  refine Tr.seq <| Tr.region <| q9 (qC rfl) <| qB <| QAt.seq <| Tr.seq <| Tr.region <| q9 (qA rfl) <| qF (qn rfl (wM (Cn) (Qd H p n Cn hn hok))) ?_
  rintro t4 _ ⟨C', hs, rfl⟩
  refine q9 (qw rfl (zM (C') (cost_ok (jb n) t4 C' hs (fun x hx => YR hx) (ZC n)))) ?_
  refine q9 (qC rfl) <| qB <| QAt.seq <| Tr.ret <| qs (Cn :: F) (.inl rfl) rfl (qd rfl) ?_
  exact ⟨rfl, rfl⟩
def XN (gv : Value) (K : qM) (h : Int → Int × Int) : Prop := ∀ (w0 : World) (F : Res) (j : Nat), j < 32 → FnV Tryz.prog w0 gv [.int .i64 j] (K :: F) (fun v L' => v = yU (h j) ∧ L' = K :: F)
def YI (n : NS) (h : Int → Int × Int) : List Int := (List.range 32).map fun j : Nat => (n.at_ (h j)).getD 0
theorem Qi {n : NS} (hok : NOk n) (h : Int → Int × Int) : j2 (YI n h) := ⟨by simp [YI], fun a ha => by
  obtain ⟨j, _, rfl⟩ := List.mem_map.1 ha
  cases e : n.at_ (h j) with
  | none => simp
  | some v => have := hok.at2 _ _ e; simp; omega⟩
theorem atsN_get (n : NS) (h : Int → Int × Int) {j : Nat} (hj : j < 32) : (YI n h)[j]? = some ((n.at_ (h j)).getD 0) := by simp [YI, hj]
theorem ZD {l : List Int} {i n : Nat} {x : Int} (hx : l[i]? = some x) (hn : i < n) :
    (iV (l.take i) ++ List.replicate (n - i) (Value.int .i64 0)).set (i * 1) (.int .i64 x) = iV (l.take (i + 1)) ++ List.replicate (n - (i + 1)) (Value.int .i64 0) := by
  have := Xg hx hn
  rwa [Nat.zero_add] at this
theorem W0 (p : Nat) (n : NS) (Cn K : qM) (hn : WK p n Cn) (hok : NOk n) (gv : Value) (h : Int → Int × Int) (hp : XN gv K h) :
    FnT Tryz.prog w0 100 #[.pointer (some ⟨p, 0, none⟩), gv] (Cn :: K :: F) (fun v L' => v = .agg (wW (jU (YI n h) (Qi hok h))).toArray ∧ L' = Cn :: K :: F) := by
  refine Yn (F := K :: F) (Rv := fun v => v = .agg (wW (jU (YI n h) (Qi hok h))).toArray) hn ?_
  intro ma md ms oa od os u C hm
  unfold kK wz
  obtain ⟨l, hl⟩ : ∃ l, YI n h = l := ⟨_, rfl⟩
  have hpl : j2 l := hl ▸ Qi hok h
  have hps : jU (YI n h) (Qi hok h) = jU l hpl := by subst hl; rfl
  rw [hps]
  have hlen := hpl.len
  refine FnT.enter (E0 := [(0, _), (1, _)]) (N := 29) Tryz.func100 rfl rfl rfl rfl ?_
  refine Tr.seq <| Tr.region <| qF (qV) ?_
  rintro t4 _ ⟨b4, rfl, rfl⟩
  refine qB <| QAt.seq <| Tr.seq <| Tr.region <| qF (qV) ?_
  rintro t5 _ ⟨b5, rfl, rfl⟩
  refine qB <| QAt.seq <| Tr.seq <| Tr.seq <| Tr.region <| q9 (qA rfl) <| qB <| QAt.seq <| Tr.block <| wB (Γ := {pΓ : (Nat) // (fun (i : Nat) => i ≤ 32) pΓ}) (fun g => (fun (i : Nat) => [(0, .pointer (some ⟨p, 0, none⟩)), (1, gv), (4, .pointer (some ⟨b4, 0, none⟩)), (5, .pointer (some ⟨b5, 0, none⟩)), (9, .int .i64 i)]) g.1) (fun g => (fun (i : Nat) => [(b5, .cells (iV (l.take i) ++ List.replicate (32 - i) (Value.int .i64 0)).toArray 175 (0, 0))] :: [(b4, .cells (wW Sec.zero).toArray 55 (0, 0))] :: [(p, .cells [.int .u32 n.num, .int .u32 n.ver, .int .i64 n.kind, .int .i64 n.size, .int .u32 n.time, .map (some ma), .map (some md), .map (some ms), u].toArray 90 (0, 0))] :: [(ma, oa)] :: [(md, od)] :: [(ms, os)] :: C :: K :: F) g.1) (fun g => (fun (i : Nat) => 32 - i) g.1) ⟨0, by dsimp only; exact (by omega)⟩ (y7 rfl) ?_
  rintro ⟨i, hloop⟩
  replace hloop : i ≤ 32 := hloop
  obtain hi := hloop
  show Tr _ _ _ ([(0, .pointer (some ⟨p, 0, none⟩)), (1, gv), (4, .pointer (some ⟨b4, 0, none⟩)), (5, .pointer (some ⟨b5, 0, none⟩)), (9, .int .i64 i)]) ([(b5, .cells (iV (l.take i) ++ List.replicate (32 - i) (Value.int .i64 0)).toArray 175 (0, 0))] :: [(b4, .cells (wW Sec.zero).toArray 55 (0, 0))] :: [(p, .cells [.int .u32 n.num, .int .u32 n.ver, .int .i64 n.kind, .int .i64 n.size, .int .u32 n.time, .map (some ma), .map (some md), .map (some ms), u].toArray 90 (0, 0))] :: [(ma, oa)] :: [(md, od)] :: [(ms, os)] :: C :: K :: F) _ _
  refine Tr.seq <| Tr.region <| q9 (qv rfl rfl) <| qB <| QAt.seq <| Tr.seq <| qI rfl (fun hc3 => ?_) (fun hc3 => ?_)
  ·
   refine Tr.skip <| QAt.seq <| Tr.seq <| Tr.block <| Tr.seq <| Tr.region <| q9 (qA rfl) <| q9 (qC rfl) <| qB <| QAt.seq ?_
   have ha : l[i]? = some ((n.at_ (h i)).getD 0) := by rw [← hl]; exact atsN_get n h (by omega)
   refine Tr.drawn qm <| qr [(12, .pure _), (13, .pure _), (14, .pure _), (15, .pure _), (16, .pure _), (17, .pure _), (18, .pure _), (19, .pure _), (20, .pure _)] (by kernel_rfl) rfl rfl rfl wL (ParH.pure rfl (fun X => qA rfl) <| ParH.pure rfl (fun X => qA rfl) <| ParH.pure rfl (fun X => qJ rfl) <| ParH.pure rfl (fun X => qD rfl) <| ParH.pure rfl (fun X => qG rfl rfl) <| ParH.pure rfl (fun X => qA rfl) <| ParH.pure rfl (fun X => qA rfl) <| ParH.pure rfl (fun X => yw rfl rfl (ZW K (hp w0 _ i (by omega)))) <| ParH.pure rfl (fun X => y1 (z := 0) (q := h i) rfl rfl hm.a) <| ParH.nil rfl) ?_
   dsimp only [zG, List.drop, List.length]
   refine qq (by kernel_rfl) (wO (j := i) (off := i * 1) rfl rfl rfl (by omega) (by simp)) ?_
   refine k0 (by kernel_rfl) (zx rfl rfl (by simp; omega) rfl) ?_
   refine qt <| QAt.block <| QAt.seq <| Tr.region <| q9 (qj rfl rfl (by omega)) <| q9 (qA rfl) <| qB <| qh ⟨i + 1, ?_⟩ ?_ ?_
   · (try dsimp only); omega
   · (try dsimp only); omega
   · (try dsimp only); exact y7 (by rw [ZD ha (by omega)])
  ·
   refine Tr.exit <| qX <| qY <| qS <| QAt.seq <| Tr.seq ?_
   obtain rfl : i = 32 := by omega
   rw [List.take_of_length_le (by omega : l.length ≤ 32), Nat.sub_self, List.replicate_zero, List.append_nil]
   refine Tr.region <| q9 (w7 rfl (by simp [hlen])) ?_
   refine q9 (qw rfl (writePointers_ok l hpl)) <| q9 (qA rfl) <| q9 (qR rfl rfl) <| q9 (qR rfl rfl) <| qF (qV) ?_
   rintro t7 _ ⟨b7, rfl, rfl⟩
   refine qK (qW rfl rfl (by simp) (by simp) (by exact wS _)) ?_
   refine q9 (qC rfl) <| qB <| QAt.seq <| Tr.seq <| Tr.region <| q9 (w7 rfl (by simp)) ?_
   refine qK (qW rfl rfl (by simp) (by simp) (by exact wS _)) ?_
   refine qB <| QAt.seq <| Tr.ret <| qs ([(p, .cells [.int .u32 n.num, .int .u32 n.ver, .int .i64 n.kind, .int .i64 n.size, .int .u32 n.time, .map (some ma), .map (some md), .map (some ms), u].toArray 90 (0, 0))] :: [(ma, oa)] :: [(md, od)] :: [(ms, os)] :: C :: K :: F) (.inl rfl) rfl (z7 rfl (by simp)) ?_
   exact ⟨rfl, rfl⟩
structure NFl (n : NS) : Prop where
  num : 0 ≤ n.num ∧ n.num < 65536
  ver : 0 ≤ n.ver ∧ n.ver < 4294967296
  kind : 1 ≤ n.kind ∧ n.kind ≤ 2
  size : 0 ≤ n.size ∧ n.size ≤ 136192
  time : 0 ≤ n.time ∧ n.time < 4294967296
def atN (n : NS) (k : Int × Int) : Int := (n.at_ k).getD 0
def YH (n : NS) : Ino := ⟨n.num, n.ver, n.kind, n.size, n.time, (List.range 8).map (fun j : Nat => atN n (1, j)), atN n (3, 0), atN n (4, 0)⟩
theorem JS {n : NS} (hok : NOk n) (k : Int × Int) : 0 ≤ atN n k ∧ atN n k ≤ 65535 := by
  unfold atN
  cases e : n.at_ k with
  | none => simp
  | some v => have := hok.at2 _ _ e; simp; omega
theorem ZB {n : NS} (hok : NOk n) (hf : NFl n) : (YH n).Ok := by
  have hs := hf.size
  refine ⟨hf.num, hf.ver, hf.kind, ?_, hf.time, by simp [YH], fun a ha => ?_, ?_, ?_⟩
  · show 0 ≤ n.size ∧ n.size < _; omega
  · obtain ⟨j, _, rfl⟩ := List.mem_map.1 ha
    have := JS hok (1, j); omega
  · have := JS hok (3, 0); show 0 ≤ atN n (3, 0) ∧ atN n (3, 0) < 4294967296; omega
  · have := JS hok (4, 0); show 0 ≤ atN n (4, 0) ∧ atN n (4, 0) < 4294967296; omega
theorem inode_ok (p : Nat) (n : NS) (Cn G : qM) (hn : WK p n Cn) (hg : kJ G) (hok : NOk n) (hf : NFl n) :
    FnT Tryz.prog w0 102 #[.pointer (some ⟨p, 0, none⟩)] (Cn :: G :: F) (fun v L' => v = .agg (wW (ZA (YH n) (ZB hok hf))).toArray ∧ L' = Cn :: G :: F) := by
  refine nodeg_read0 (F := F) (Rv := fun v => v = .agg (wW (ZA (YH n) (ZB hok hf))).toArray) hn hg ?_
  intro ma md ms oa od os u C e0 f0 e1 f1 e2 f2 hm
  unfold kK wz xW
  obtain ⟨l, hl⟩ : ∃ l, (List.range 8).map (fun j : Nat => atN n (1, j)) = l := ⟨_, rfl⟩
  have hlen : l.length = 8 := by rw [← hl]; simp
  have hget : ∀ j : Nat, j < 8 → l[j]? = some (atN n (1, j)) := fun j hj => by rw [← hl]; simp [hj]
  refine FnT.enter (E0 := [(0, _)]) (N := 60) Tryz.func102 rfl rfl rfl rfl ?_
  refine Tr.seq <| Tr.region <| qF (qV) ?_
  rintro t2 _ ⟨b2, rfl, rfl⟩
  refine qB <| QAt.seq <| Tr.seq <| Tr.drawn qm <| qr ((7, .pure _) :: (8, .pure _) :: (9, .pure _) :: (10, .pure _) :: (11, .pure _) :: (12, .pure _) :: (13, .pure _) :: (14, .pure _) :: (15, .pure _) :: (16, .pure _) :: (17, .pure _) :: (18, .pure _) :: (19, .pure _) :: (20, .pure _) :: (21, .pure _) :: (22, .pure _) :: (23, .pure _) :: (24, .pure _) :: (25, .pure _) :: (26, .pure _) :: (27, .pure _) :: (28, .pure _) :: (29, .pure _) :: (30, .pure _) :: (31, .pure _) :: (32, .pure _) :: (33, .pure _) :: (34, .pure _) :: (35, .pure _) :: (36, .pure _) :: (37, .pure _) :: (38, .pure _) :: (39, .pure _) :: (3, .act [] (XK _ 168)) :: []) (by kernel_rfl) rfl rfl rfl (Q8 [[]] rfl) (ParH.pure rfl (fun X => qA rfl) <| ParH.pure rfl (fun X => qJ rfl) <| ParH.pure rfl (fun X => qD rfl) <| ParH.pure rfl (fun X => qG rfl rfl) <| ParH.pure rfl (fun X => qA rfl) <| ParH.pure rfl (fun X => qJ rfl) <| ParH.pure rfl (fun X => qD rfl) <| ParH.pure rfl (fun X => qG rfl rfl) <| ParH.pure rfl (fun X => qA rfl) <| ParH.pure rfl (fun X => qJ rfl) <| ParH.pure rfl (fun X => qD rfl) <| ParH.pure rfl (fun X => qG rfl rfl) <| ParH.pure rfl (fun X => qA rfl) <| ParH.pure rfl (fun X => qJ rfl) <| ParH.pure rfl (fun X => qD rfl) <| ParH.pure rfl (fun X => qG rfl rfl) <| ParH.pure rfl (fun X => qA rfl) <| ParH.pure rfl (fun X => qJ rfl) <| ParH.pure rfl (fun X => qD rfl) <| ParH.pure rfl (fun X => qG rfl rfl) <| ParH.pure rfl (fun X => qA rfl) <| ParH.pure rfl (fun X => qJ rfl) <| ParH.pure rfl (fun X => qD rfl) <| ParH.pure rfl (fun X => qG rfl rfl) <| ParH.pure rfl (fun X => wE rfl) <| ParH.pure rfl (fun X => y1 (z := 0) (q := (3, 0)) rfl rfl hm.a) <| ParH.pure rfl (fun X => qA rfl) <| ParH.pure rfl (fun X => qJ rfl) <| ParH.pure rfl (fun X => qD rfl) <| ParH.pure rfl (fun X => qG rfl rfl) <| ParH.pure rfl (fun X => wE rfl) <| ParH.pure rfl (fun X => y1 (z := 0) (q := (4, 0)) rfl rfl hm.a) <| ParH.pure rfl (fun X => wF (z := [Value.int .u32 0, Value.int .u32 0, Value.int .i64 0, Value.int .i64 0, Value.int .u32 0, Value.int .i64 0, Value.int .i64 0, Value.int .i64 0, Value.int .i64 0, Value.int .i64 0, Value.int .i64 0, Value.int .i64 0, Value.int .i64 0, Value.int .i64 0, Value.int .i64 0]) (hz := .of (by kernel_rfl)) rfl) <| ParH.act rfl (fun X => Z6) <| ParH.nil rfl) ?_
  rintro _ _ ⟨b3, rfl, rfl⟩
  dsimp only [zG, List.drop, List.length]
  refine k0 (by kernel_rfl) (qW rfl rfl WC rfl (by simp [Value.oneCell'])) ?_
  refine qt <| QAt.seq <| Tr.seq <| Tr.seq <| Tr.region <| q9 (qA rfl) <| qB <| QAt.seq <| Tr.block <| wB (Γ := {pΓ : (Nat) // (fun (i : Nat) => i ≤ 8) pΓ}) (fun g => (fun (i : Nat) => [(0, .pointer (some ⟨p, 0, none⟩)), (2, .pointer (some ⟨b2, 0, none⟩)), (3, .pointer (some ⟨b3, 0, none⟩)), (40, .int .i64 i)]) g.1) (fun g => (fun (i : Nat) => [(b3, .cells (zw { YH n with d := l.take i ++ List.replicate (8 - i) 0 }).toArray 168 (0, 0))] :: [(b2, .cells (wW Sec.zero).toArray 55 (0, 0))] :: [(p, .cells [.int .u32 n.num, .int .u32 n.ver, .int .i64 n.kind, .int .i64 n.size, .int .u32 n.time, .map (some ma), .map (some md), .map (some ms), u].toArray 90 (0, 0))] :: [(ma, oa)] :: [(md, od)] :: [(ms, os)] :: C :: [(0, .cells [Value.int .i64 2, Value.int .i64 0].toArray e0 f0)] :: [(1, .cells [Value.int .i64 4, Value.int .i64 0].toArray e1 f1)] :: [(2, .cells [Value.int .i64 3, Value.int .i64 0].toArray e2 f2)] :: F) g.1) (fun g => (fun (i : Nat) => 8 - i) g.1) ⟨0, by dsimp only; exact (by omega)⟩ (y7 rfl) ?_
  rintro ⟨i, hloop⟩
  replace hloop : i ≤ 8 := hloop
  obtain hi := hloop
  show Tr _ _ _ ([(0, .pointer (some ⟨p, 0, none⟩)), (2, .pointer (some ⟨b2, 0, none⟩)), (3, .pointer (some ⟨b3, 0, none⟩)), (40, .int .i64 i)]) ([(b3, .cells (zw { YH n with d := l.take i ++ List.replicate (8 - i) 0 }).toArray 168 (0, 0))] :: [(b2, .cells (wW Sec.zero).toArray 55 (0, 0))] :: [(p, .cells [.int .u32 n.num, .int .u32 n.ver, .int .i64 n.kind, .int .i64 n.size, .int .u32 n.time, .map (some ma), .map (some md), .map (some ms), u].toArray 90 (0, 0))] :: [(ma, oa)] :: [(md, od)] :: [(ms, os)] :: C :: [(0, .cells [Value.int .i64 2, Value.int .i64 0].toArray e0 f0)] :: [(1, .cells [Value.int .i64 4, Value.int .i64 0].toArray e1 f1)] :: [(2, .cells [Value.int .i64 3, Value.int .i64 0].toArray e2 f2)] :: F) _ _
  refine Tr.seq <| Tr.region <| q9 (qv rfl rfl) <| qB <| QAt.seq <| Tr.seq <| qI rfl (fun hc3 => ?_) (fun hc3 => ?_)
  ·
   refine Tr.skip <| QAt.seq <| Tr.seq <| Tr.block <| Tr.seq <| Tr.region <| q9 (qA rfl) <| q9 (qC rfl) <| qB <| QAt.seq <| Tr.region <| q9 (qA rfl) <| q9 (qA rfl) <| q9 (qJ rfl) <| q9 (qD rfl) <| q9 (qG rfl rfl) <| q9 (qA rfl) <| q9 (wF rfl) <| q9 (y1 (z := 0) (q := (1, (i : Int))) rfl rfl hm.a) <| q9 (qD rfl) <| q9 (wO (j := i) (off := 5 + i * 1) rfl rfl rfl (by omega) (by simp)) ?_
   refine qK (zx rfl rfl (by simp [zw]; omega) rfl) ?_
   refine qB <| QAt.block <| QAt.seq <| Tr.region <| q9 (qj rfl rfl (by omega)) <| q9 (qA rfl) <| qB <| qh ⟨i + 1, ?_⟩ ?_ ?_
   · (try dsimp only); omega
   · (try dsimp only); omega
   · (try dsimp only); exact y7 (by have e := Xw (y := { YH n with d := l.take i ++ List.replicate (8 - i) 0 }) (i := i) (a := atN n (1, i)) (by simp; omega); have e2 := XJ (hget i (by omega)) (by omega) (by omega); dsimp only at e e2; rw [e2] at e; rw [show i * 1 = i from by omega]; rw [show (n.at_ (1, (i : Int))).getD 0 = atN n (1, i) from rfl, e])
  ·
   refine Tr.exit <| qX <| qY <| qS <| QAt.seq <| Tr.seq ?_
   obtain rfl : i = 8 := by omega
   have he : { YH n with d := l.take 8 ++ List.replicate (8 - 8) 0 } = YH n := by rw [List.take_of_length_le (by omega), Nat.sub_self, List.replicate_zero, List.append_nil, ← hl]; rfl
   rw [he]
   refine Tr.region <| q9 (w7 rfl (kU (ZB hok hf))) <| q9 (qw rfl (writeInode_ok (YH n) (ZB hok hf))) <| q9 (qA rfl) <| q9 (qR rfl rfl) <| q9 (qR rfl rfl) <| qF (qV) ?_
   rintro t5 _ ⟨b5, rfl, rfl⟩
   refine qK (qW rfl rfl (by simp) (by simp) (by exact wS _)) ?_
   refine q9 (qC rfl) <| qB <| QAt.seq <| Tr.seq <| Tr.region <| q9 (w7 rfl (by simp)) ?_
   refine qK (qW rfl rfl (by simp) (by simp) (by exact wS _)) ?_
   refine qB <| QAt.seq <| Tr.ret <| qs ([(p, .cells [.int .u32 n.num, .int .u32 n.ver, .int .i64 n.kind, .int .i64 n.size, .int .u32 n.time, .map (some ma), .map (some md), .map (some ms), u].toArray 90 (0, 0))] :: [(ma, oa)] :: [(md, od)] :: [(ms, os)] :: C :: [(0, .cells [Value.int .i64 2, Value.int .i64 0].toArray e0 f0)] :: [(1, .cells [Value.int .i64 4, Value.int .i64 0].toArray e1 f1)] :: [(2, .cells [Value.int .i64 3, Value.int .i64 0].toArray e2 f2)] :: F) (.inl rfl) rfl (z7 rfl (by simp)) ?_
   exact ⟨rfl, rfl⟩
def z6 (l f : Int) (j : Int) : Int × Int := (1, (if l = 0 then 0 else if l = 1 then 8 else 40) + f * 32 + j)
theorem Jz (l f : Int) (hl : 0 ≤ l ∧ l ≤ 2) (h1 : 1 ≤ l) (hf : 0 ≤ f ∧ (f = 0 ∨ l = 2 ∧ f < 32)) (b c : Nat) :
    XN (.func (.func 98) #[] #[.pointer (some ⟨b, 0, none⟩), .pointer (some ⟨c, 0, none⟩)]) [(b, .cells [Value.int .i64 l].toArray 3 (0, 0)), (c, .cells [Value.int .i64 f].toArray 3 (0, 0))] (z6 l f) := by
  intro w0 F j hj
  refine Xr ?_
  refine QN (L1 := [(b, .cells [Value.int .i64 l].toArray 3 (0, 0))] :: [(c, .cells [Value.int .i64 f].toArray 3 (0, 0))] :: F) ?_ (by simp)
  refine FnT.enter (E0 := [(0, _), (1, _), (2, _)]) (N := 17) Tryz.func98 rfl rfl rfl rfl ?_
  refine Tr.seq <| Tr.region <| qF (qV) ?_
  rintro t4 _ ⟨b4, rfl, rfl⟩
  refine qB <| QAt.seq <| Tr.seq <| Tr.region <| q9 (qG rfl rfl) <| q9 (qG rfl rfl) <| q9 (qA rfl) <| q9 (wF rfl) <| q9 (qw rfl (Yz l f j hl hf ⟨by omega, by rw [if_neg (by omega)]; omega⟩)) <| q9 (qA rfl) <| q9 (qR rfl rfl) <| q9 (qR rfl rfl) <| q9 (qC rfl) <| q9 (qC rfl) <| qB <| QAt.seq <| Tr.seq <| Tr.region <| q9 (qA rfl) <| q9 (wF rfl) <| qK (wJ rfl rfl rfl rfl) <| qB <| QAt.seq <| Tr.ret <| qs ([(b, .cells [Value.int .i64 l].toArray 3 (0, 0))] :: [(c, .cells [Value.int .i64 f].toArray 3 (0, 0))] :: F) (.inl rfl) rfl (zB rfl) ?_
  exact ⟨rfl, rfl⟩
theorem leaf_ok : XN (.func (.func 101) #[] #[]) [] (fun j => (5, j)) := by
  intro w0 F j hj
  refine ZX ?_
  refine FnT.enter (E0 := [(0, _)]) (N := 5) Tryz.func101 rfl rfl rfl rfl ?_
  refine Tr.seq <| Tr.region <| qF (qV) ?_
  rintro t2 _ ⟨b2, rfl, rfl⟩
  refine qB <| QAt.seq <| Tr.seq <| Tr.region <| q9 (qA rfl) <| q9 (wF rfl) <| qK (wJ rfl rfl rfl rfl) <| qB <| QAt.seq <| Tr.ret <| qs ([] :: F) (.inl rfl) rfl (zB rfl) ?_
  exact ⟨rfl, rfl⟩
theorem Yq (l f : Int) : FnT Tryz.prog w0 97 #[.int .i64 l, .int .i64 f] F (fun v L' => ∃ b c, v = .func (.func 98) #[] #[.pointer (some ⟨b, 0, none⟩), .pointer (some ⟨c, 0, none⟩)] ∧ L' = [(b, .cells [Value.int .i64 l].toArray 3 (0, 0)), (c, .cells [Value.int .i64 f].toArray 3 (0, 0))] :: F) := by
  refine FnT.enter (E0 := [(0, _), (1, _)]) (N := 6) Tryz.func97 rfl rfl rfl rfl ?_
  refine Tr.seq <| Tr.region <| qF (wT rfl) ?_
  rintro t2 _ ⟨b2, rfl, rfl⟩
  refine qF (wT rfl) ?_
  rintro t3 _ ⟨b3, rfl, rfl⟩
  refine q9 (qC rfl) <| qB <| QAt.seq <| Tr.seq <| Tr.region <| q9 (wV rfl rfl) <| q9 (qC rfl) <| qB <| z8 (L' := [(b2, .cells [Value.int .i64 l].toArray 3 (0, 0)), (b3, .cells [Value.int .i64 f].toArray 3 (0, 0))] :: F) (yI (by intro f; simp only [List.flatten_cons, List.flatten_nil, List.append_nil, List.countP_append, List.countP_cons, List.countP_nil]; omega)) ?_
  refine QAt.seq <| Tr.ret <| zW (.inl rfl) rfl (qd rfl) ?_
  exact ⟨b2, b3, rfl, rfl⟩
def yF (n : NS) (hok : NOk n) (hf : NFl n) (k : Int × Int) : Sec :=
  if k.1 = 1 then (n.data k.2).getD Sec.zero
  else if k.1 = 5 then jU (YI n (z6 2 k.2)) (Qi hok _)
  else if k.1 = 3 then jU (YI n (z6 1 0)) (Qi hok _)
  else if k.1 = 4 then jU (YI n (fun j => (5, j))) (Qi hok _)
  else ZA (YH n) (ZB hok hf)
theorem Zc (p : Nat) (n : NS) (Cn G : qM) (hn : WK p n Cn) (hg : kJ G) (hok : NOk n) (hf : NFl n) (k : Int × Int) (hk : qo k) :
    FnT Tryz.prog w0 75 #[.pointer (some ⟨p, 0, none⟩), yU k] (Cn :: G :: F) (fun v L' => v = .agg (wW (yF n hok hf k)).toArray ∧ L' = Cn :: G :: F) := by
  obtain ⟨ma, md, ms, oa, od, os, u, C, hCn, hMa, hMd, hMs⟩ := id hn
  unfold wz at hCn
  unfold yU
  refine FnT.enter (E0 := [(0, _), (1, _)]) (N := 37) Tryz.func75 rfl rfl rfl rfl ?_
  refine Tr.seq <| Tr.region <| qF (wT rfl) ?_
  rintro t3 _ ⟨b3, rfl, rfl⟩
  refine qF (qV) ?_
  rintro t4 _ ⟨b4, rfl, rfl⟩
  refine qB <| QAt.seq <| Tr.seq <| Tr.region <| q9 (qC rfl) <| qB <| QAt.seq <| Tr.seq <| Tr.seq <| Tr.region <| q9 (qD rfl) <| q9 (qG rfl rfl) <| qB <| QAt.seq <| Tr.block <| Tr.seq <| Tr.region <| q9 (wR rfl rfl) <| q9 (qC rfl) <| qB <| QAt.seq <| qI rfl (fun hc3 => ?_) (fun hc3 => ?_)
  ·
   refine yW (L' := [(b4, .cells (wW Sec.zero).toArray 55 (0, 0))] :: [(b3, .cells [.int .i64 k.1, .int .i64 k.2].toArray 100 (0, 0))] :: [(p, .cells [.int .u32 n.num, .int .u32 n.ver, .int .i64 n.kind, .int .i64 n.size, .int .u32 n.time, .map (some ma), .map (some md), .map (some ms), u].toArray 90 (0, 0))] :: [(ma, oa)] :: [(md, od)] :: [(ms, os)] :: C :: G :: F) (wH (by rw [hCn]; simp)) ?_
   refine Tr.seq <| Tr.drawn qm <| qr [(10, .pure _), (11, .pure _), (12, .pure _), (13, .pure _), (14, .pure _), (15, .pure _)] (by kernel_rfl) rfl rfl rfl wL (ParH.pure rfl (fun X => qA rfl) <| ParH.pure rfl (fun X => qJ rfl) <| ParH.pure rfl (fun X => qD rfl) <| ParH.pure rfl (fun X => qG rfl rfl) <| ParH.pure rfl (fun X => qD rfl) <| ParH.pure rfl (fun X => qG rfl rfl) <| ParH.nil rfl) ?_
   dsimp only [zG, List.drop, List.length]
   refine qq (by kernel_rfl) (y1 (z := Sec.zero) (q := k.2) rfl rfl hMd) ?_
   refine k0 (by kernel_rfl) (qW rfl rfl (by simp) (by simp) (wS _)) ?_
   refine qt <| z8 (L' := [(b4, .cells (wW ((n.data k.2).getD Sec.zero)).toArray 55 (0, 0))] :: [(b3, .cells [.int .i64 k.1, .int .i64 k.2].toArray 100 (0, 0))] :: Cn :: G :: F) (wH (by rw [hCn]; simp)) ?_
   refine QAt.seq <| Tr.ret <| qu <| qe <| qs (Cn :: G :: F) (.inl rfl) rfl (z7 rfl (by simp)) ?_
   exact ⟨by unfold yF; rw [if_pos hc3], rfl⟩
  ·
   refine Tr.seq <| Tr.region <| q9 (wR rfl rfl) <| q9 (qC rfl) <| qB <| QAt.seq <| qI rfl (fun hc5 => ?_) (fun hc5 => ?_)
   ·
    refine Tr.seq <| Tr.region <| q9 (qA rfl) <| q9 (qA rfl) <| q9 (qD rfl) <| q9 (qG rfl rfl) <| qF (yw rfl rfl (ZX (Yq 2 k.2))) ?_
    rintro t23 _ ⟨bl, bf, rfl, rfl⟩
    refine q9 (qw rfl (yc (Cn) ([(bl, .cells [Value.int .i64 2].toArray 3 (0, 0)), (bf, .cells [Value.int .i64 k.2].toArray 3 (0, 0))]) (W0 p n Cn _ hn hok _ (z6 2 k.2) (Jz 2 k.2 (by omega) (by omega) (by rcases hk with ⟨e, _⟩ | e | e | e | ⟨_, e⟩ <;> first | omega | (rw [e] at hc5; exact absurd hc5 (by decide))) bl bf)))) ?_
    refine qK (qW rfl rfl (by simp) (by simp) (wS _)) ?_
    refine qB <| QAt.seq <| Tr.ret <| qu <| qe <| qs (Cn :: G :: F) (.inl rfl) rfl (z7 rfl (by simp)) ?_
    exact ⟨by unfold yF; rw [if_neg hc3, if_pos hc5], rfl⟩
   ·
    refine Tr.seq <| Tr.region <| q9 (wR rfl rfl) <| q9 (qC rfl) <| qB <| QAt.seq <| qI rfl (fun hc7 => ?_) (fun hc7 => ?_)
    ·
     refine Tr.seq <| Tr.region <| q9 (qA rfl) <| q9 (qA rfl) <| qF (yw rfl rfl (ZX (Yq 1 0))) ?_
     rintro t29 _ ⟨bl, bf, rfl, rfl⟩
     refine q9 (qw rfl (yc (Cn) ([(bl, .cells [Value.int .i64 1].toArray 3 (0, 0)), (bf, .cells [Value.int .i64 0].toArray 3 (0, 0))]) (W0 p n Cn _ hn hok _ (z6 1 0) (Jz 1 0 (by omega) (by omega) (by omega) bl bf)))) <| qK (qW rfl rfl (by simp) (by simp) (wS _)) ?_
     refine qB <| QAt.seq <| Tr.ret <| qu <| qe <| qs (Cn :: G :: F) (.inl rfl) rfl (z7 rfl (by simp)) ?_
     exact ⟨by unfold yF; rw [if_neg hc3, if_neg hc5, if_pos hc7], rfl⟩
    ·
     refine Tr.seq <| Tr.region <| q9 (wR rfl rfl) <| q9 (qC rfl) <| qB <| QAt.seq <| qI rfl (fun hc9 => ?_) (fun hc9 => ?_)
     ·
      refine Tr.seq <| Tr.region <| q9 (qA rfl) <| q9 (qw rfl (yc Cn [] (W0 p n Cn [] hn hok _ (fun j => (5, j)) leaf_ok))) ?_
      refine qK (qW rfl rfl (by simp) (by simp) (wS _)) ?_
      refine qB <| QAt.seq <| Tr.ret <| qu <| qe <| qs (Cn :: G :: F) (.inl rfl) rfl (z7 rfl (by simp)) ?_
      exact ⟨by unfold yF; rw [if_neg hc3, if_neg hc5, if_neg hc7, if_pos hc9], rfl⟩
     ·
      refine Tr.skip <| QAt.block <| QAt.seq <| Tr.seq <| Tr.region <| q9 (qA rfl) <| q9 (qw rfl (yc (Cn) (G) (inode_ok p n Cn G hn hg hok hf))) <| qK (qW rfl rfl (by simp) (by simp) (wS _)) ?_
      refine qB <| QAt.seq <| Tr.ret <| qs (Cn :: G :: F) (.inl rfl) rfl (z7 rfl (by simp)) ?_
      exact ⟨by unfold yF; rw [if_neg hc3, if_neg hc5, if_neg hc7, if_neg hc9], rfl⟩
def yx (num ver : Int) (k : Int × Int) (s : Sec) : List Value := .int .i64 k.1 :: .int .u32 num :: .int .u32 ver :: .int .i64 k.2 :: wW s
theorem Zo (num ver : Int) (k : Int × Int) (s : Sec) : (yx num ver k s).length = 132 := by simp [yx]
instance (priority := high) : TyZero Tryz.prog 109 (.agg (.int .i64 0 :: .int .u32 0 :: .int .u32 0 :: .int .i64 0 :: wW Sec.zero).toArray) := .of (by kernel_rfl)
instance (priority := high) (a b c d : Value) (s : Sec) : LenC (a :: b :: c :: d :: wW s) 132 := ⟨by simp⟩
theorem xR (s : Sec) : (wW s).take 128 = wW s := List.take_of_length_le (by simp)
def yz : List (Int × Int) → List Int → (Int × Int → Option Int) × List Int → (Int × Int → Option Int) × List Int
  | k :: l, a :: bs, s => yz l bs (upd s.1 k (some a), if (s.1 k).getD 0 ≠ 0 then s.2 ++ [(s.1 k).getD 0] else s.2)
  | _, _, s => s
theorem YB (bs : List Int) (s : (Int × Int → Option Int) × List Int) : yz [] bs s = s := by cases bs <;> rfl
theorem commitF_step {l : List (Int × Int)} {bs : List Int} {i : Nat} {k : Int × Int} {a : Int} (hk : l[i]? = some k) (ha : bs[i]? = some a) (s : (Int × Int → Option Int) × List Int) :
    yz (l.drop i) (bs.drop i) s = yz (l.drop (i + 1)) (bs.drop (i + 1)) (upd s.1 k (some a), if (s.1 k).getD 0 ≠ 0 then s.2 ++ [(s.1 k).getD 0] else s.2) := by
  rw [yo hk, yo ha, yz]
def VC (f : Int × Int → Option Int) : Prop := (∀ k, f k ≠ none → qo k) ∧ ∀ k a, f k = some a → 1 ≤ a ∧ a ≤ 65535
theorem atOk_upd {f : Int × Int → Option Int} (h : VC f) {k : Int × Int} (hk : qo k) {a : Int} (ha : 1 ≤ a ∧ a ≤ 65535) : VC (upd f k (some a)) := by
  refine ⟨fun q hq => ?_, fun q b hq => ?_⟩
  · by_cases e : q = k
    · subst e; exact hk
    · rw [wI _ _ e] at hq; exact h.1 q hq
  · by_cases e : q = k
    · subst e; rw [wx] at hq; cases hq; exact ha
    · rw [wI _ _ e] at hq; exact h.2 q b hq
noncomputable def W6 (n : NS) (ats : List Int) : NS := { n with at_ := (yz (y3 n) ats (n.at_, n.gone)).1 }
noncomputable def xp (n : NS) (ats : List Int) : NS := { W6 n ats with data := fun _ => none, stale := fun _ => none, gone := [] }
noncomputable def jx (n : NS) (ats : List Int) : List Int := (yz (y3 n) ats (n.at_, n.gone)).2
theorem KW {n : NS} {k : Int × Int} (h : k ∈ y3 n) : qo k := by
  classical
  unfold y3 at h
  exact (ja k).1 (List.mem_filter.1 h).1
theorem Wp (n : NS) : (y3 n).length ≤ 1099 := by
  unfold y3
  refine Nat.le_trans (List.length_filter_le _ _) ?_
  simp [allParts]
theorem commitF_ok : ∀ (l : List (Int × Int)) (bs : List Int) (s : (Int × Int → Option Int) × List Int), (∀ k ∈ l, qo k) → (∀ a ∈ bs, 1 ≤ a ∧ a ≤ 65535) → VC s.1 → VC (yz l bs s).1 := by
  intro l
  induction l with
  | nil => intro bs s _ _ h; exact h
  | cons k l ih =>
    intro bs s hl ha h
    cases bs with
    | nil => exact h
    | cons a bs =>
      rw [yz]
      exact ih bs _ (fun x hx => hl x (by simp [hx])) (fun x hx => ha x (by simp [hx])) (atOk_upd h (hl k (by simp)) (ha a (by simp)))
theorem xF {n : NS} (hok : NOk n) {ats : List Int} (ha : ∀ a ∈ ats, 1 ≤ a ∧ a ≤ 65535) : NOk (W6 n ats) := by
  have h := commitF_ok (y3 n) ats (n.at_, n.gone) (fun k hk => KW hk) ha ⟨hok.at1, hok.at2⟩
  exact ⟨hok.data, h.1, h.2, hok.stale⟩
theorem commitN_ok {n : NS} (hok : NOk n) {ats : List Int} (ha : ∀ a ∈ ats, 1 ≤ a ∧ a ≤ 65535) : NOk (xp n ats) := by
  have h := xF hok ha
  exact ⟨fun k hk => absurd rfl hk, h.at1, h.at2, fun k hk => absurd rfl hk⟩
theorem Qa {n : NS} (hf : NFl n) (ats : List Int) : NFl (W6 n ats) := ⟨hf.num, hf.ver, hf.kind, hf.size, hf.time⟩
theorem badAt_ok (xs : List Int) : KI (.func (.func 74) #[] #[]) [] xs (fun i => decide (i < 1 ∨ 65536 ≤ i)) := by
  intro w0 F a ha
  refine ZX ?_
  refine FnT.enter (E0 := [(0, _)]) (N := 9) Tryz.func74 rfl rfl rfl rfl ?_
  refine Tr.seq <| Tr.region <| q9 (qC rfl) <| qB <| QAt.seq <| Tr.seq <| Tr.region <| q9 (qA rfl) <| q9 (qv rfl rfl) <| q9 (qA rfl) <| qN (s := 5) rfl (fun hg1_2 => ?_) (fun hg1_2 => ?_)
  ·
   refine qH rfl rfl rfl <| qH rfl rfl rfl <| q9 (qT rfl rfl) <| q9 (qC rfl) <| qB <| QAt.seq <| Tr.ret <| qs ([] :: F) (.inl rfl) rfl (qd rfl) ?_
   exact ⟨by congr 1; simp [*], rfl⟩
  ·
   refine qE rfl rfl (qA rfl) <| qE rfl rfl (yl rfl rfl) <| q9 (qL rfl rfl) <| q9 (qC rfl) <| qB <| QAt.seq <| Tr.ret <| qs ([] :: F) (.inl rfl) rfl (qd rfl) ?_
   exact ⟨by congr 1; simp [*], rfl⟩
theorem Q0 (H : j3 w0) (HP : xc) (p : Nat) (n : NS) (Cn G Ca : qM) (hn : NodeC p n Cn) (hg : kJ G) (hok : NOk n) (ua : Value) (ats : List Int) (hat : SlC 3 1 ua ats.length (iV ats) Ca) (hlen : (y3 n).length ≠ ats.length) (hl : ats.length ≤ 1000000) :
    FnT Tryz.prog w0 44 #[.pointer (some ⟨p, 0, none⟩), ua] (Cn :: G :: Ca :: F) (fun v L' => v = .tuple #[.slice none 0 0, .slice none 0 0, .int .i64 1] ∧ L' = Cn :: G :: Ca :: F) := by
  have hpl := Wp n
  obtain ⟨pu, cu, hu⟩ := hat.slice
  refine FnT.enter (E0 := [(0, _), (1, _)]) (N := 91) Tryz.func44 rfl rfl rfl rfl ?_
  refine Tr.seq <| Tr.region <| q9 (qC rfl) <| q9 (qC rfl) <| q9 (qC rfl) <| qB <| QAt.seq <| Tr.seq <| Tr.region <| q9 (qA rfl) <| qF (qn rfl (k5 (Cn) (G) (jq H HP p n Cn G hn hg hok))) ?_
  rintro t16 _ ⟨Cp, hs, rfl⟩
  refine q9 (qC rfl) <| qB <| QAt.seq <| Tr.seq <| Tr.seq <| Tr.region <| q9 (qA rfl) ?_
  obtain ⟨px, cx, rfl⟩ := hs.slice
  refine q9 (qg rfl) <| q9 (qA rfl) <| q9 (qg (by rw [← hu]; rfl)) ?_
  refine q9 (wZ rfl rfl) <| q9 (qA rfl) <| qN (s := 22) rfl (fun hg2_5 => ?_) (fun hg2_5 => ?_)
  ·
   refine qH rfl rfl rfl <| qH rfl rfl rfl <| q9 (qT rfl rfl) <| qB <| QAt.seq <| ww rfl <| Tr.seq <| Tr.region <| q9 (qC rfl) <| q9 (qC rfl) <| q9 (qC rfl) <| qB <| QAt.seq <| Tr.ret <| qe <| Kz (Cn :: G :: Ca :: F) (.inl rfl) rfl (qd rfl) (qd rfl) (qd rfl) ?_
   exact ⟨rfl, rfl⟩
  · (exfalso; omega)
theorem commit_ok (H : j3 w0) (HP : xc) (p : Nat) (n : NS) (Cn G Ca : qM) (hn : NodeC p n Cn) (hg : kJ G) (hok : NOk n) (hfl : NFl n) (ua : Value) (ats : List Int) (hat : SlC 3 1 ua ats.length (iV ats) Ca) (hlen : (y3 n).length = ats.length)
    (hr : ∀ a ∈ ats, 1 ≤ a ∧ a ≤ 65535) (hgl : n.gone.length ≤ 800000) :
    FnT Tryz.prog w0 44 #[.pointer (some ⟨p, 0, none⟩), ua] (Cn :: G :: Ca :: F) (fun v L' => ∃ ui ud Ci Cd Cn', v = .tuple #[ui, ud, .int .i64 0] ∧
      SlC 109 132 ui (y3 n).length ((y3 n).flatMap (fun k => yx n.num n.ver k (yF (W6 n ats) (xF hok hr) (Qa hfl ats) k))) Ci ∧
      SlC 3 1 ud (jx n ats).length (iV (srt (jx n ats))) Cd ∧ NodeC p (xp n ats) Cn' ∧ L' = Ci :: Cd :: Cn' :: G :: Ca :: F) := by
  have hpl := Wp n
  obtain ⟨pu, cu, hu⟩ := hat.slice
  obtain ⟨l, hl⟩ : ∃ l, y3 n = l := ⟨_, rfl⟩
  have hlp : ∀ k ∈ l, qo k := fun k hk => KW (hl ▸ hk)
  have hany : ats.any (fun i => decide (i < 1 ∨ 65536 ≤ i)) = false := by
    rw [List.any_eq_false]
    intro a ha
    have := hr a ha
    simp; omega
  obtain ⟨m, hm⟩ : ∃ m, W6 n ats = m := ⟨_, rfl⟩
  have hmok : NOk m := hm ▸ xF hok hr
  have hmfl : NFl m := hm ▸ Qa hfl ats
  have hsec : ∀ k, yF (W6 n ats) (xF hok hr) (Qa hfl ats) k = yF m hmok hmfl k := by subst hm; exact fun _ => rfl
  simp only [hsec]
  rw [hl] at hpl hlen ⊢
  obtain ⟨ma, md, ms, oa, od, os, u, C, hM, hCn⟩ := hn.eq
  unfold wz at hCn
  refine FnT.enter (E0 := [(0, _), (1, _)]) (N := 91) Tryz.func44 rfl rfl rfl rfl ?_
  refine Tr.seq <| Tr.region <| q9 (qC rfl) <| q9 (qC rfl) <| q9 (qC rfl) <| qB <| QAt.seq <| Tr.seq <| Tr.region <| q9 (qA rfl) <| qF (qn rfl (k5 (Cn) (G) (jq H HP p n Cn G hn hg hok))) ?_
  rintro t16 _ ⟨Cp, hs, rfl⟩
  refine q9 (qC rfl) <| qB <| QAt.seq <| Tr.seq <| Tr.seq <| Tr.region <| q9 (qA rfl) ?_
  rw [hl] at hs
  obtain ⟨px, cx, rfl⟩ := hs.slice
  refine q9 (qg rfl) <| q9 (qA rfl) <| q9 (qg (by rw [← hu]; rfl)) ?_
  refine q9 (wZ rfl rfl) <| q9 (qA rfl) <| qN (s := 22) rfl (fun hg2_5 => ?_) (fun hg2_5 => ?_)
  · (exfalso; omega)
  ·
   refine qE rfl rfl (qA rfl) <| qE rfl rfl (qw rfl (yc Ca [] (x4 _ ua [] Ca ats _ (badAt_ok ats) hat (by omega)))) <| q9 (qL rfl rfl) <| qB ?_
   rw [hany]
   refine QAt.seq <| wD rfl <| Tr.skip <| QAt.seq <| Tr.seq <| yW (L' := Cp :: [(p, .cells [.int .u32 n.num, .int .u32 n.ver, .int .i64 n.kind, .int .i64 n.size, .int .u32 n.time, .map (some ma), .map (some md), .map (some ms), u].toArray 90 (0, 0))] :: [(ma, oa)] :: [(md, od)] :: [(ms, os)] :: C :: G :: Ca :: F) (wH (by rw [hCn]; simp)) ?_
   refine Tr.region <| q9 (qA rfl) <| q9 (qJ rfl) <| q9 (qD rfl) <| q9 (qG rfl rfl) <| q9 (qC rfl) <| qB <| QAt.seq <| Tr.seq <| Tr.seq <| Tr.region <| q9 (qA rfl) <| q9 (qg rfl) <| q9 (qA rfl) <| qB <| QAt.seq <| Tr.block <| wB (Γ := {pΓ : (Nat) × (Int × Int → Option Int) × (Obj) × (List Int) × (Value) × (qM) // (fun (i : Nat) (f : Int × Int → Option Int) (oa' : Obj) (dead : List Int) (ud : Value) (Cd : qM) => i ≤ l.length ∧ MapF yU (Value.int .i64) f oa' ∧ SlC 3 1 ud dead.length (iV dead) Cd ∧ dead.length ≤ 800000 + i ∧ yz (l.drop i) (ats.drop i) (f, dead) = yz l ats (n.at_, n.gone)) pΓ.1 pΓ.2.1 pΓ.2.2.1 pΓ.2.2.2.1 pΓ.2.2.2.2.1 pΓ.2.2.2.2.2}) (fun g => (fun (i : Nat) (f : Int × Int → Option Int) (oa' : Obj) (dead : List Int) (ud : Value) (Cd : qM) => [(0, .pointer (some ⟨p, 0, none⟩)), (1, ua), (7, .slice px l.length cx), (8, ud), (30, .slice px l.length cx), (31, .int .i64 l.length), (32, .int .i64 i)]) g.1.1 g.1.2.1 g.1.2.2.1 g.1.2.2.2.1 g.1.2.2.2.2.1 g.1.2.2.2.2.2) (fun g => (fun (i : Nat) (f : Int × Int → Option Int) (oa' : Obj) (dead : List Int) (ud : Value) (Cd : qM) => [(p, .cells [.int .u32 n.num, .int .u32 n.ver, .int .i64 n.kind, .int .i64 n.size, .int .u32 n.time, .map (some ma), .map (some md), .map (some ms), u].toArray 90 (0, 0))] :: [(ma, oa')] :: [(md, od)] :: [(ms, os)] :: Cd :: Cp :: Ca :: G :: F) g.1.1 g.1.2.1 g.1.2.2.1 g.1.2.2.2.1 g.1.2.2.2.2.1 g.1.2.2.2.2.2) (fun g => (fun (i : Nat) (f : Int × Int → Option Int) (oa' : Obj) (dead : List Int) (ud : Value) (Cd : qM) => l.length - i) g.1.1 g.1.2.1 g.1.2.2.1 g.1.2.2.2.1 g.1.2.2.2.2.1 g.1.2.2.2.2.2) ⟨(0, n.at_, oa, n.gone, u, C), by dsimp only; exact ⟨by omega, hM.a, hM.g, by omega, rfl⟩⟩ (qP _) ?_
   rintro ⟨⟨i, f, oa', dead, ud, Cd⟩, hloop⟩
   replace hloop : i ≤ l.length ∧ MapF yU (Value.int .i64) f oa' ∧ SlC 3 1 ud dead.length (iV dead) Cd ∧ dead.length ≤ 800000 + i ∧ yz (l.drop i) (ats.drop i) (f, dead) = yz l ats (n.at_, n.gone) := hloop
   obtain ⟨hi, hf, hsl, hdl, hcf⟩ := hloop
   show Tr _ _ _ ([(0, .pointer (some ⟨p, 0, none⟩)), (1, ua), (7, .slice px l.length cx), (8, ud), (30, .slice px l.length cx), (31, .int .i64 l.length), (32, .int .i64 i)]) ([(p, .cells [.int .u32 n.num, .int .u32 n.ver, .int .i64 n.kind, .int .i64 n.size, .int .u32 n.time, .map (some ma), .map (some md), .map (some ms), u].toArray 90 (0, 0))] :: [(ma, oa')] :: [(md, od)] :: [(ms, os)] :: Cd :: Cp :: Ca :: G :: F) _ _
   refine Tr.seq <| Tr.region <| q9 (qv rfl rfl) <| qB <| QAt.seq <| Tr.seq <| qI rfl (fun hc6 => ?_) (fun hc6 => ?_)
   ·
    refine Tr.skip <| QAt.seq <| Tr.seq <| Tr.block <| Tr.seq ?_
    obtain ⟨k, hk⟩ : ∃ k, l[i]? = some k := ⟨_, List.getElem?_eq_getElem (by omega)⟩
    obtain ⟨a, ha⟩ : ∃ a, ats[i]? = some a := ⟨_, List.getElem?_eq_getElem (by omega)⟩
    rw [commitF_step hk ha] at hcf
    refine Tr.region <| q9 (qA rfl) <| qF (zO (j := i) rfl rfl hs (by omega) (by omega)) ?_
    rintro t35 _ ⟨b, cap, spare, hqc, rfl, hcap, hnc, rfl, rfl⟩
    refine q9 (wk (j := i) zb rfl hk rfl) <| qF (qV) ?_
    rintro t10 _ ⟨b10, rfl, rfl⟩
    refine q9 (qC rfl) <| qK (qW (l := [Value.int .i64 0, Value.int .i64 0]) (vs := [.int .i64 k.1, .int .i64 k.2]) rfl rfl rfl rfl rfl) <| qB <| QAt.seq <| zA (Γ := {pΓ : (List Int) × (Value) × (qM) // (fun (dead2 : List Int) (ud2 : Value) (Cd2 : qM) => SlC 3 1 ud2 dead2.length (iV dead2) Cd2 ∧ dead2 = (if (f k).getD 0 ≠ 0 then dead ++ [(f k).getD 0] else dead) ∧ dead2.length ≤ dead.length + 1) pΓ.1 pΓ.2.1 pΓ.2.2}) (fun g => (fun (dead2 : List Int) (ud2 : Value) (Cd2 : qM) => [(0, .pointer (some ⟨p, 0, none⟩)), (1, ua), (7, .slice px l.length cx), (8, ud2), (9, .int .i64 i), (10, .pointer (some ⟨b10, 0, none⟩)), (30, .slice px l.length cx), (31, .int .i64 l.length), (32, .int .i64 i)]) g.1.1 g.1.2.1 g.1.2.2) (fun g => (fun (dead2 : List Int) (ud2 : Value) (Cd2 : qM) => [(b10, .cells [.int .i64 k.1, .int .i64 k.2].toArray 100 (0, 0))] :: [(p, .cells [.int .u32 n.num, .int .u32 n.ver, .int .i64 n.kind, .int .i64 n.size, .int .u32 n.time, .map (some ma), .map (some md), .map (some ms), u].toArray 90 (0, 0))] :: [(ma, oa')] :: [(md, od)] :: [(ms, os)] :: Cd2 :: [(b, .cells (l.flatMap wt ++ spare).toArray 100 (0, 0))] :: Ca :: G :: F) g.1.1 g.1.2.1 g.1.2.2) ?_ ?_
    ·
     refine Tr.seq <| Tr.drawn qm <| qr [(37, .pure _), (38, .pure _), (39, .pure _), (40, .pure _), (41, .pure _)] (by kernel_rfl) rfl rfl rfl wL (ParH.pure rfl (fun X => qA rfl) <| ParH.pure rfl (fun X => qJ rfl) <| ParH.pure rfl (fun X => qD rfl) <| ParH.pure rfl (fun X => qG rfl rfl) <| ParH.pure rfl (fun X => wE rfl) <| ParH.nil rfl) ?_
     dsimp only [zG, List.drop, List.length]
     refine qq (by kernel_rfl) (y1 (z := 0) (q := k) rfl rfl hf) ?_
     refine qq (by kernel_rfl) (qC rfl) ?_
     refine qt <| QAt.seq <| Tr.seq <| Tr.region <| q9 (qA rfl) <| q9 (wZ rfl rfl) <| qB <| QAt.seq <| qI rfl (fun hc9 => ?_) (fun hc9 => ?_)
     ·
      refine Tr.region <| q9 (qA rfl) <| q9 (qA rfl) <| qF (w5 rfl rfl rfl) ?_
      rintro t47 _ ⟨b47, rfl, rfl⟩
      refine qF (wP (m := 1) (sz := 1) rfl rfl hsl (wQ (ys := iV [(f k).getD 0]) inferInstance rfl rfl) rfl Tryz.underlying39 rfl rfl (by omega)) ?_
      rintro t48 _ ⟨C', hs', rfl⟩
      refine q9 (qC rfl) <| qB <| qO ⟨(dead ++ [(f k).getD 0], t48, C'), ?_⟩ ?_
      · (try dsimp only); exact ⟨by rw [List.length_append]; simpa [iV] using hs', by rw [if_pos hc9], by simp⟩
      · (try dsimp only); exact qP _
     ·
      refine Tr.skip <| qO ⟨(dead, ud, Cd), ?_⟩ ?_
      · (try dsimp only); exact ⟨hsl, by rw [if_neg hc9], by omega⟩
      · (try dsimp only); exact qP _
    rintro ⟨⟨dead2, ud2, Cd2⟩, hcut⟩
    replace hcut : SlC 3 1 ud2 dead2.length (iV dead2) Cd2 ∧ dead2 = (if (f k).getD 0 ≠ 0 then dead ++ [(f k).getD 0] else dead) ∧ dead2.length ≤ dead.length + 1 := hcut
    obtain ⟨hsl2, hd2, hdl2⟩ := hcut
    show Tr _ _ _ ([(0, .pointer (some ⟨p, 0, none⟩)), (1, ua), (7, .slice px l.length cx), (8, ud2), (9, .int .i64 i), (10, .pointer (some ⟨b10, 0, none⟩)), (30, .slice px l.length cx), (31, .int .i64 l.length), (32, .int .i64 i)]) ([(b10, .cells [.int .i64 k.1, .int .i64 k.2].toArray 100 (0, 0))] :: [(p, .cells [.int .u32 n.num, .int .u32 n.ver, .int .i64 n.kind, .int .i64 n.size, .int .u32 n.time, .map (some ma), .map (some md), .map (some ms), u].toArray 90 (0, 0))] :: [(ma, oa')] :: [(md, od)] :: [(ms, os)] :: Cd2 :: [(b, .cells (l.flatMap wt ++ spare).toArray 100 (0, 0))] :: Ca :: G :: F) _ _
    rcases hat with ⟨-, h0, -⟩ | ⟨bA, capA, spA, rfl, hcsA, rfl, hcapA, hncA⟩
    · omega
    refine Tr.drawn qm <| qr [(49, .pure _), (50, .pure _), (51, .pure _), (52, .pure _), (53, .pure _), (54, .pure _), (55, .pure _), (56, .pure _), (57, .pure _)] (by kernel_rfl) rfl rfl rfl wL (ParH.pure rfl (fun X => qA rfl) <| ParH.pure rfl (fun X => qJ rfl) <| ParH.pure rfl (fun X => qD rfl) <| ParH.pure rfl (fun X => qG rfl rfl) <| ParH.pure rfl (fun X => wE rfl) <| ParH.pure rfl (fun X => qA rfl) <| ParH.pure rfl (fun X => qA rfl) <| ParH.pure rfl (fun X => qf (j := i) (off := i * 1) rfl rfl rfl (by omega) (by simp)) <| ParH.pure rfl (fun X => qG rfl (show wG (iV ats ++ spA) (i * 1) = some (.int .i64 a) by rw [wi, Nat.mul_one, List.getElem?_append_left (by simp; omega)]; simp [iV, ha])) <| ParH.nil rfl) ?_
    dsimp only [zG, List.drop, List.length]
    refine zL (by kernel_rfl) (wu (r := ma) (q := k) (v := a) rfl rfl rfl hf) ?_
    rintro _ _ ⟨oa2, hf2, rfl⟩
    refine qt <| QAt.block <| QAt.seq <| Tr.region <| q9 (qj rfl rfl (by omega)) <| q9 (qA rfl) <| qB <| qh ⟨(i + 1, upd f k (some a), oa2, dead2, ud2, Cd2), ?_⟩ ?_ ?_
    · (try dsimp only); exact ⟨by omega, hf2, hsl2, by omega, by rw [hd2]; exact hcf⟩
    · (try dsimp only); omega
    · (try dsimp only); exact qP _
   ·
    refine Tr.exit <| qX <| qY <| qS <| QAt.seq <| Tr.seq ?_
    rw [List.drop_of_length_le (by omega), YB] at hcf
    have hfm : m.at_ = f := by rw [← hm]; unfold W6; rw [hl, ← hcf]
    have hdd : jx n ats = dead := by unfold jx; rw [hl, ← hcf]
    obtain ⟨C0, hC0⟩ : ∃ C0, C0 = ((p, .cells (wz n ma md ms u).toArray 90 (0, 0)) :: (ma, oa') :: (md, od) :: (ms, os) :: [] : qM) := ⟨_, rfl⟩
    have h0 : WK p m C0 := ⟨ma, md, ms, oa', od, os, u, [], by rw [hC0, ← hm]; rfl, by rw [hfm]; exact hf, by rw [← hm]; exact hM.d, by rw [← hm]; exact hM.s⟩
    refine yW (L' := C0 :: Cd :: Cp :: Ca :: G :: F) (wH (by rw [hC0]; simp [wz])) ?_
    have hnum : m.num = n.num := by rw [← hm]; rfl
    have hver : m.ver = n.ver := by rw [← hm]; rfl
    refine Tr.region <| q9 (qC rfl) <| qB <| QAt.seq <| Tr.seq <| Tr.seq <| Tr.region <| q9 (qA rfl) <| q9 (qg rfl) <| q9 (qA rfl) <| qB <| QAt.seq <| Tr.block <| wB (Γ := {pΓ : (Nat) × (Value) × (qM) // (fun (j : Nat) (ui : Value) (Ci : qM) => j ≤ l.length ∧ SlC 109 132 ui j ((l.take j).flatMap (fun k => yx n.num n.ver k (yF m hmok hmfl k))) Ci) pΓ.1 pΓ.2.1 pΓ.2.2}) (fun g => (fun (j : Nat) (ui : Value) (Ci : qM) => [(0, .pointer (some ⟨p, 0, none⟩)), (8, ud), (12, ui), (59, .slice px l.length cx), (60, .int .i64 l.length), (61, .int .i64 j)]) g.1.1 g.1.2.1 g.1.2.2) (fun g => (fun (j : Nat) (ui : Value) (Ci : qM) => Ci :: C0 :: Cd :: Cp :: Ca :: G :: F) g.1.1 g.1.2.1 g.1.2.2) (fun g => (fun (j : Nat) (ui : Value) (Ci : qM) => l.length - j) g.1.1 g.1.2.1 g.1.2.2) ⟨(0, .slice none 0 0, []), by dsimp only; exact ⟨by omega, zu _ _⟩⟩ (qP _) ?_
    rintro ⟨⟨j, ui, Ci⟩, hloop⟩
    replace hloop : j ≤ l.length ∧ SlC 109 132 ui j ((l.take j).flatMap (fun k => yx n.num n.ver k (yF m hmok hmfl k))) Ci := hloop
    obtain ⟨hj, hsi⟩ := hloop
    show Tr _ _ _ ([(0, .pointer (some ⟨p, 0, none⟩)), (8, ud), (12, ui), (59, .slice px l.length cx), (60, .int .i64 l.length), (61, .int .i64 j)]) (Ci :: C0 :: Cd :: Cp :: Ca :: G :: F) _ _
    refine Tr.seq <| Tr.region <| q9 (qv rfl rfl) <| qB <| QAt.seq <| Tr.seq <| qI rfl (fun hc15 => ?_) (fun hc15 => ?_)
    ·
     refine Tr.skip <| QAt.seq <| zA (Γ := {pΓ : (Value) × (qM) // (fun (uj : Value) (Cj : qM) => SlC 109 132 uj (j + 1) ((l.take (j + 1)).flatMap (fun k => yx n.num n.ver k (yF m hmok hmfl k))) Cj) pΓ.1 pΓ.2}) (fun g => (fun (uj : Value) (Cj : qM) => [(0, .pointer (some ⟨p, 0, none⟩)), (8, ud), (12, uj), (59, .slice px l.length cx), (60, .int .i64 l.length), (61, .int .i64 j)]) g.1.1 g.1.2) (fun g => (fun (uj : Value) (Cj : qM) => Cj :: C0 :: Cd :: Cp :: Ca :: G :: F) g.1.1 g.1.2) ?_ ?_
     ·
      refine Tr.block <| Tr.seq ?_
      obtain ⟨k, hk⟩ : ∃ k, l[j]? = some k := ⟨_, List.getElem?_eq_getElem (by omega)⟩
      refine Tr.region <| qF (zO (j := j) rfl rfl hs (by omega) (by omega)) ?_
      rintro t63 _ ⟨b, cap, spare, hqc, rfl, hcap, hnc, rfl, rfl⟩
      refine q9 (wk (j := j) zb rfl hk rfl) <| qF (qV) ?_
      rintro t14 _ ⟨b14, rfl, rfl⟩
      refine qK (qW (l := [Value.int .i64 0, Value.int .i64 0]) (vs := [.int .i64 k.1, .int .i64 k.2]) rfl rfl rfl rfl rfl) <| qB <| QAt.seq <| yL qm (show TrS _ _ _ _ [false, false, false, false, false, false, false, false, false, false, false] _ _ _ from ?_)
      refine TrS.take 0 rfl rfl (by kernel_rfl) rfl (w6 rfl) ?_
      refine TrS.take 1 rfl rfl (by kernel_rfl) rfl (w6 rfl) ?_
      refine TrS.take 4 rfl rfl (by kernel_rfl) rfl (w6 rfl) ?_
      refine wg (i := 2) (j := 5) (by kernel_rfl) rfl ?_ ?_
      ·
       refine qQ rfl rfl rfl (wE rfl) <| wg (i := 3) (j := 5) (by kernel_rfl) rfl ?_ ?_
       ·
        refine qQ rfl rfl rfl (qw rfl (zM (C0) (WD p m C0 h0 k))) <| TrS.one (i := 5) (by kernel_rfl) rfl ?_
        refine qQ rfl rfl rfl (wE rfl) <| TrS.one (i := 6) (by kernel_rfl) rfl ?_
        refine qQ rfl rfl rfl (qw rfl (yc (C0) (G) (Zc p m C0 G h0 hg hmok hmfl k (hlp k (List.mem_of_getElem? hk))))) <| TrS.one (i := 7) (by kernel_rfl) rfl ?_
        refine qQ rfl rfl rfl (wF rfl) <| TrS.one (i := 8) (by kernel_rfl) rfl ?_
        refine qp rfl rfl rfl (w5 rfl rfl rfl) ?_
        rintro t73 _ ⟨b73, rfl, rfl⟩
        refine TrS.one (i := 9) (by kernel_rfl) rfl ?_
        refine qp rfl rfl rfl (wP (m := 1) (sz := 132) rfl rfl hsi (wQ (ys := yx n.num n.ver k (yF m hmok hmfl k)) inferInstance (by rw [← hnum, ← hver]; simp [yx, xR]) (by simp [yx])) (by simp [yx, Value.oneCell', wW, u8s]) Tryz.underlying102 rfl (by simp [Value.cells]) (by omega)) ?_
        rintro t74 _ ⟨C', hs', rfl⟩
        refine TrS.take 10 rfl rfl (by kernel_rfl) rfl (wA rfl) ?_
        refine qy (by kernel_rfl) ?_
        refine QAt.block <| qO ⟨(_, C'), ?_⟩ ?_
        · (try dsimp only); rw [List.take_add_one, hk, List.flatMap_append]; simpa using hs'
        · (try dsimp only); exact qP _
       ·
        refine qQ rfl rfl rfl (wE rfl) <| TrS.one (i := 3) (by kernel_rfl) rfl ?_
        refine qQ rfl rfl rfl (qw rfl (zM (C0) (WD p m C0 h0 k))) <| TrS.one (i := 6) (by kernel_rfl) rfl ?_
        refine qQ rfl rfl rfl (qw rfl (yc (C0) (G) (Zc p m C0 G h0 hg hmok hmfl k (hlp k (List.mem_of_getElem? hk))))) <| TrS.one (i := 7) (by kernel_rfl) rfl ?_
        refine qQ rfl rfl rfl (wF rfl) <| TrS.one (i := 8) (by kernel_rfl) rfl ?_
        refine qp rfl rfl rfl (w5 rfl rfl rfl) ?_
        rintro t73 _ ⟨b73, rfl, rfl⟩
        refine TrS.one (i := 9) (by kernel_rfl) rfl ?_
        refine qp rfl rfl rfl (wP (m := 1) (sz := 132) rfl rfl hsi (wQ (ys := yx n.num n.ver k (yF m hmok hmfl k)) inferInstance (by rw [← hnum, ← hver]; simp [yx, xR]) (by simp [yx])) (by simp [yx, Value.oneCell', wW, u8s]) Tryz.underlying102 rfl (by simp [Value.cells]) (by omega)) ?_
        rintro t74 _ ⟨C', hs', rfl⟩
        refine TrS.take 10 rfl rfl (by kernel_rfl) rfl (wA rfl) ?_
        refine qy (by kernel_rfl) ?_
        refine QAt.block <| qO ⟨(_, C'), ?_⟩ ?_
        · (try dsimp only); rw [List.take_add_one, hk, List.flatMap_append]; simpa using hs'
        · (try dsimp only); exact qP _
      ·
       refine qQ rfl rfl rfl (wE rfl) <| TrS.one (i := 2) (by kernel_rfl) rfl ?_
       refine qQ rfl rfl rfl (wE rfl) <| TrS.one (i := 3) (by kernel_rfl) rfl ?_
       refine qQ rfl rfl rfl (qw rfl (zM (C0) (WD p m C0 h0 k))) <| TrS.one (i := 6) (by kernel_rfl) rfl ?_
       refine qQ rfl rfl rfl (qw rfl (yc (C0) (G) (Zc p m C0 G h0 hg hmok hmfl k (hlp k (List.mem_of_getElem? hk))))) <| TrS.one (i := 7) (by kernel_rfl) rfl ?_
       refine qQ rfl rfl rfl (wF rfl) <| TrS.one (i := 8) (by kernel_rfl) rfl ?_
       refine qp rfl rfl rfl (w5 rfl rfl rfl) ?_
       rintro t73 _ ⟨b73, rfl, rfl⟩
       refine TrS.one (i := 9) (by kernel_rfl) rfl ?_
       refine qp rfl rfl rfl (wP (m := 1) (sz := 132) rfl rfl hsi (wQ (ys := yx n.num n.ver k (yF m hmok hmfl k)) inferInstance (by rw [← hnum, ← hver]; simp [yx, xR]) (by simp [yx])) (by simp [yx, Value.oneCell', wW, u8s]) Tryz.underlying102 rfl (by simp [Value.cells]) (by omega)) ?_
       rintro t74 _ ⟨C', hs', rfl⟩
       refine TrS.take 10 rfl rfl (by kernel_rfl) rfl (wA rfl) ?_
       refine qy (by kernel_rfl) ?_
       refine QAt.block <| qO ⟨(_, C'), ?_⟩ ?_
       · (try dsimp only); rw [List.take_add_one, hk, List.flatMap_append]; simpa using hs'
       · (try dsimp only); exact qP _
     rintro ⟨⟨uj, Cj⟩, hcut⟩
     replace hcut : SlC 109 132 uj (j + 1) ((l.take (j + 1)).flatMap (fun k => yx n.num n.ver k (yF m hmok hmfl k))) Cj := hcut
     have hsj := hcut
     show Tr _ _ _ ([(0, .pointer (some ⟨p, 0, none⟩)), (8, ud), (12, uj), (59, .slice px l.length cx), (60, .int .i64 l.length), (61, .int .i64 j)]) (Cj :: C0 :: Cd :: Cp :: Ca :: G :: F) _ _
     refine Tr.region <| q9 (qj rfl rfl (by omega)) <| q9 (qA rfl) <| qB <| qh ⟨(j + 1, uj, Cj), ?_⟩ ?_ ?_
     · (try dsimp only); exact ⟨by omega, hsj⟩
     · (try dsimp only); omega
     · (try dsimp only); exact qP _
    ·
     refine Tr.exit <| qX <| qY <| qS <| QAt.seq <| Tr.seq <| yW (L' := Ci :: [(p, .cells [.int .u32 n.num, .int .u32 n.ver, .int .i64 n.kind, .int .i64 n.size, .int .u32 n.time, .map (some ma), .map (some md), .map (some ms), u].toArray 90 (0, 0))] :: [(ma, oa')] :: [(md, od)] :: [(ms, os)] :: Cd :: Cp :: Ca :: G :: F) (wH (by rw [hC0]; simp [wz])) ?_
     refine Tr.region <| q9 (qA rfl) <| q9 (qA rfl) <| q9 (qA rfl) <| qF (k8) ?_
     rintro t79 _ ⟨b79, rfl, rfl⟩
     refine qF (k8) ?_
     rintro t80 _ ⟨b80, rfl, rfl⟩
     refine q9 (qJ rfl) <| q9 (qD rfl) <| qK (wX rfl rfl rfl) <| q9 (qJ rfl) <| q9 (qD rfl) <| qK (wX rfl rfl rfl) <| q9 (qJ rfl) <| q9 (qD rfl) <| qK (wX rfl rfl rfl) <| qB <| QAt.seq <| Tr.seq <| Tr.region <| q9 (qA rfl) <| qF (qn rfl (wM (Cd) (H.sort _ ud dead.length dead Cd hsl rfl (by omega)))) ?_
     rintro t88 _ ⟨rfl, Cd', hsd, rfl⟩
     refine qB <| QAt.seq <| Tr.seq <| Tr.region <| q9 (qA rfl) <| q9 (qA rfl) <| q9 (qC rfl) <| q9 (qC rfl) <| q9 (qC rfl) <| qB <| z8 (qP (Ci :: Cd' :: [(p, .cells [.int .u32 n.num, .int .u32 n.ver, .int .i64 n.kind, .int .i64 n.size, .int .u32 n.time, .map (some ma), .map (some b79), .map (some b80), .slice none 0 0].toArray 90 (0, 0))] :: [(ma, oa')] :: [(b79, .map #[] 0)] :: [(b80, .map #[] 0)] :: G :: Ca :: F)) <| z8 (wH (L' := Ci :: Cd' :: ((p, .cells (wz (xp n ats) ma b79 b80 (.slice none 0 0)).toArray 90 (0, 0)) :: (ma, oa') :: (b79, .map #[] 0) :: (b80, .map #[] 0) :: []) :: G :: Ca :: F) (by simp [wz, xp, W6])) ?_
     refine QAt.seq <| Tr.ret <| XA (.inl rfl) rfl (qd rfl) (qd rfl) (qd rfl) ?_
     have hjl : j = l.length := by omega
     rw [hjl, List.take_length] at hsi
     exact ⟨ui, ud, Ci, Cd', _, rfl, hsi, by rw [hdd]; exact hsd, ⟨ma, b79, b80, oa', _, _, .slice none 0 0, [], rfl, by rw [show (xp n ats).at_ = f from by rw [← hfm, ← hm]; rfl]; exact hf, kA _ _, kA _ _, zu _ _⟩, rfl⟩
end Go.Proofs.YtjikpomndbkfgaaGreatDoor
namespace Go.Sx
open Go
variable {P : Program} {N : Nat} {w0 : World} {E : Env} {L : Res}
theorem op_buildSlice0 {t ty e sz : Nat} [ht : zt P t e] [hsz : TySize P e sz] :
    OpT P N w0 E L (.buildSlice t 0 ([] : List (Nat × Operand)).toArray) ty (fun v L' => ∃ b, v = .slice (some ⟨b, 0, none⟩) 0 0 ∧ L' = [(b, .cells ([] : List Value).toArray e (0, 0))] :: L) :=
  .of_runE fun o a w h1 _ h3 h4 => ⟨_, _, { w with heap := w.heap.push (.cells #[] e (0, 0)) }, by
    rw [execOp, h1]
    simp only [Instr.buildSlice, Sem.run_bind, qi ht.h, Result.andThen_ok, hsz.s]
    simp [Instr.fill, newRow, newObj, Sem.run]
    rw [show Array.range 0 = #[] from by apply Array.ext'; simp]; simp, ⟨_, rfl, rfl⟩, h4.alloc _⟩
end Go.Sx
namespace Go.Proofs.YtjikpomndbkfgaaGreatDoor
open Go Go.Sx Go.Nd
variable {w0 : World} {L F : Res}
set_option maxRecDepth 10000
theorem srt_perm {xs ys : List Int} (h : xs.Perm ys) : srt xs = srt ys := by
  have key : ∀ l : List Int, (srt l).Pairwise (fun a b => a ≤ b) := fun l =>
    (List.pairwise_mergeSort (le := fun a b => decide (a ≤ b)) (fun a b c h1 h2 => by simp only [decide_eq_true_eq] at *; omega) (fun a b => by simp only [Bool.or_eq_true, decide_eq_true_eq]; omega) l).imp (fun h => of_decide_eq_true h)
  refine List.Perm.eq_of_pairwise (le := fun a b : Int => a ≤ b) (fun a b _ _ h1 h2 => by omega) (key xs) (key ys) ?_
  exact (List.mergeSort_perm xs _).trans (h.trans (List.mergeSort_perm ys _).symm)
instance (q : Int × Int) : IntsV (wt q) [.i64, .i64] [q.1, q.2] := ⟨rfl, rfl⟩
def VA (xs : List (Int × Int)) (k : Int × Int) : Int := if k ∈ xs then (xs.findIdx (fun q => decide (k = q)) : Int) else -1
theorem JD {k q : Int × Int} : [k.1, k.2] = [q.1, q.2] ↔ k = q := by simp [Prod.ext_iff]
theorem indexP_ok (u : Value) (C : qM) (xs : List (Int × Int)) (k : Int × Int) (hs : SlC 100 2 u xs.length (xs.flatMap wt) C) (hl : xs.length ≤ 1000000) :
    FnT Tryz.prog w0 117 #[u, yU k] (C :: F) (fun v L' => v = .int .i64 (VA xs k) ∧ L' = C :: F) := by
  obtain ⟨pu, cu, hu⟩ := hs.slice
  unfold yU
  refine FnT.enter (E0 := [(0, _), (1, _)]) (N := 19) Tryz.func117 rfl rfl rfl rfl ?_
  refine Tr.seq <| Tr.region <| qF (wT rfl) ?_
  rintro t3 _ ⟨b3, rfl, rfl⟩
  refine q9 (qC rfl) <| qB <| QAt.seq <| Tr.seq <| Tr.seq <| Tr.region <| q9 (qA rfl) <| q9 (qg (by rw [← hu]; rfl)) ?_
  refine q9 (qA rfl) <| qB <| QAt.seq <| Tr.block <| wB (Γ := {pΓ : (Nat) // (fun (i : Nat) => i ≤ xs.length ∧ k ∉ xs.take i) pΓ}) (fun g => (fun (i : Nat) => [(0, u), (3, .pointer (some ⟨b3, 0, none⟩)), (7, .int .i64 xs.length), (8, .int .i64 i)]) g.1) (fun g => (fun (i : Nat) => [(b3, .cells [.int .i64 k.1, .int .i64 k.2].toArray 100 (0, 0))] :: C :: F) g.1) (fun g => (fun (i : Nat) => xs.length - i) g.1) ⟨0, by dsimp only; exact ⟨by omega, by simp⟩⟩ (qP _) ?_
  rintro ⟨i, hloop⟩
  replace hloop : i ≤ xs.length ∧ k ∉ xs.take i := hloop
  obtain ⟨hi, hn⟩ := hloop
  show Tr _ _ _ ([(0, u), (3, .pointer (some ⟨b3, 0, none⟩)), (7, .int .i64 xs.length), (8, .int .i64 i)]) ([(b3, .cells [.int .i64 k.1, .int .i64 k.2].toArray 100 (0, 0))] :: C :: F) _ _
  refine Tr.seq <| Tr.region <| q9 (qv rfl rfl) <| qB <| QAt.seq <| Tr.seq <| qI rfl (fun hc2 => ?_) (fun hc2 => ?_)
  ·
   refine Tr.skip <| QAt.seq <| Tr.seq <| Tr.block <| Tr.seq <| Tr.region <| q9 (qA rfl) <| q9 (qC rfl) <| qB <| QAt.seq <| Tr.seq ?_
   obtain ⟨q, hq⟩ : ∃ q, xs[i]? = some q := ⟨_, List.getElem?_eq_getElem (by omega)⟩
   rcases hs with ⟨-, h0, -⟩ | ⟨b, cap, spare, rfl, hcs, rfl, hcap, hnc⟩
   · omega
   refine Tr.drawn qm <| qr [(11, .pure _), (12, .pure _), (13, .pure _), (14, .pure _), (15, .pure _)] (by kernel_rfl) rfl rfl rfl wL (ParH.pure rfl (fun X => wE rfl) <| ParH.pure rfl (fun X => qA rfl) <| ParH.pure rfl (fun X => qA rfl) <| ParH.pure rfl (fun X => qf (j := i) (off := i * 2) rfl rfl rfl (by omega) (by simp)) <| ParH.pure rfl (fun X => wk (j := i) zb rfl hq rfl) <| ParH.nil rfl) ?_
   dsimp only [zG, List.drop, List.length]
   refine qq (by kernel_rfl) (WQ rfl rfl) ?_
   refine qt <| QAt.seq <| qI rfl (fun hc4 => ?_) (fun hc4 => ?_)
   ·
    refine Tr.seq <| Tr.region <| q9 (qA rfl) <| q9 (qC rfl) <| qB <| QAt.seq <| Tr.ret <| qu <| qe <| yb <| qu <| qe <| qs ([(b, .cells (xs.flatMap wt ++ spare).toArray 100 (0, 0))] :: F) (.inl rfl) rfl (qd rfl) <| ⟨?_, rfl⟩
    have e := JD.1 hc4
    obtain ⟨hlt, he⟩ := List.getElem?_eq_some_iff.1 hq
    have h1 : xs.findIdx (fun q => decide (k = q)) = i := by
      rw [List.findIdx_eq hlt]
      refine ⟨by rw [he]; simpa using e, fun j hj => ?_⟩
      have h2 : k ≠ xs[j]'(by omega) := fun h => hn (List.mem_iff_getElem.2 ⟨j, by simp; omega, by simp [h]⟩)
      simpa using h2
    unfold VA
    rw [if_pos (e ▸ List.mem_of_getElem? hq), h1]
   ·
    refine Tr.skip <| QAt.block <| QAt.seq <| Tr.region <| q9 (qj rfl rfl (by omega)) <| q9 (qA rfl) <| qB <| qh ⟨i + 1, ?_⟩ ?_ ?_
    ·
     try dsimp only
     refine ⟨by omega, ?_⟩
     rw [List.take_add_one, hq, List.mem_append]
     rintro (h | h)
     · exact hn h
     · exact hc4 (JD.2 (by simpa using h))
    · (try dsimp only); omega
    · (try dsimp only); exact qP _
  ·
   refine Tr.exit <| qX <| qY <| qS <| QAt.seq <| Tr.seq <| Tr.region <| q9 (qC rfl) <| qB <| QAt.seq <| Tr.ret <| qs (C :: F) (.inl rfl) rfl (qd rfl) ?_
   rw [List.take_of_length_le (by omega)] at hn
   exact ⟨by unfold VA; rw [if_neg hn], rfl⟩
theorem containsP_ok (u : Value) (C : qM) (xs : List (Int × Int)) (k : Int × Int) (hs : SlC 100 2 u xs.length (xs.flatMap wt) C) (hl : xs.length ≤ 1000000) :
    FnT Tryz.prog w0 89 #[u, yU k] (C :: F) (fun v L' => v = .bool (decide (k ∈ xs)) ∧ L' = C :: F) := by
  unfold yU
  refine FnT.enter (E0 := [(0, _), (1, _)]) (N := 9) Tryz.func89 rfl rfl rfl rfl ?_
  refine Tr.seq <| Tr.region <| qF (wT rfl) ?_
  rintro t3 _ ⟨b3, rfl, rfl⟩
  refine q9 (qC rfl) <| qB <| QAt.seq <| Tr.seq <| Tr.region <| q9 (qA rfl) <| q9 (wE rfl) <| q9 (qw rfl (zM (C) (indexP_ok u C xs k hs hl))) <| q9 (yl rfl rfl) <| q9 (qC rfl) <| qB <| QAt.seq <| Tr.ret <| qs (C :: F) (.inl rfl) rfl (qd rfl) ?_
  exact ⟨by congr 1; unfold VA; split <;> simp [*], rfl⟩
def W9 (n : NS) (k : Int × Int) (a : Int) : Prop := a ≠ 0 ∧ atN n k = a ∧ k ∉ y3 n
noncomputable instance (n : NS) (k : Int × Int) (a : Int) : Decidable (W9 n k a) := by unfold W9; infer_instance
theorem live_ok (H : j3 w0) (HP : xc) (p : Nat) (n : NS) (Cn G : qM) (hn : NodeC p n Cn) (hg : kJ G) (hok : NOk n) (k : Int × Int) (a : Int) :
    FnT Tryz.prog w0 56 #[.pointer (some ⟨p, 0, none⟩), .agg (Qf n.num n.ver k).toArray, .int .i64 a] (Cn :: G :: F) (fun v L' => v = .bool (decide (W9 n k a)) ∧ L' = Cn :: G :: F) := by
  obtain ⟨ma, md, ms, oa, od, os, u, C, hM, hCn⟩ := hn.eq
  unfold wz at hCn
  obtain ⟨l, hl⟩ : ∃ l, y3 n = l := ⟨_, rfl⟩
  have hpl := Wp n
  rw [hl] at hpl
  refine FnT.enter (E0 := [(0, _), (1, _), (2, _)]) (N := 39) Tryz.func56 rfl rfl rfl rfl ?_
  refine Tr.seq <| Tr.region <| qF (wT rfl) ?_
  rintro t4 _ ⟨b4, rfl, rfl⟩
  refine q9 (qC rfl) <| qB <| QAt.seq <| Tr.seq <| Tr.region <| q9 (qD rfl) <| q9 (qG rfl rfl) <| q9 (qD rfl) <| q9 (qG rfl rfl) <| q9 (wF rfl) <| qF (qV) ?_
  rintro t7 _ ⟨b7, rfl, rfl⟩
  refine qK (wJ rfl rfl rfl rfl) <| qB <| QAt.seq <| Tr.seq <| Tr.drawn qm <| qq (by kernel_rfl) (qA rfl) ?_
  refine qq (by kernel_rfl) (wZ rfl rfl) ?_
  refine qq (by kernel_rfl) (qA rfl) ?_
  refine yp (s := 15) rfl (fun hg2_2 => ?_) (fun hg2_2 => ?_)
  ·
   refine qr [(16, .pure _), (17, .pure _), (18, .pure _), (19, .pure _)] (by kernel_rfl) rfl rfl rfl wL (wN rfl rfl rfl (fun X => wE rfl) <| wN rfl rfl rfl (fun X => qA rfl) <| wN rfl rfl rfl (fun X => wE rfl) <| wN rfl rfl rfl (fun X => qw rfl (zM (Cn) (WD p n Cn (Kb hn) k))) <| ParH.nil rfl) ?_
   dsimp only [zG, List.drop, List.length]
   refine kL (by kernel_rfl) rfl rfl (WQ rfl rfl) ?_
   refine qq (by kernel_rfl) (qT rfl rfl) ?_
   refine qq (by kernel_rfl) (qA rfl) ?_
   refine WZ (L' := [(b7, .cells [.int .i64 k.1, .int .i64 k.2].toArray 100 (0, 0))] :: [(b4, .cells (Qf n.num n.ver k).toArray 62 (0, 0))] :: [(p, .cells [.int .u32 n.num, .int .u32 n.ver, .int .i64 n.kind, .int .i64 n.size, .int .u32 n.time, .map (some ma), .map (some md), .map (some ms), u].toArray 90 (0, 0))] :: [(ma, oa)] :: [(md, od)] :: [(ms, os)] :: C :: G :: F) (wH (by rw [hCn]; simp)) ?_
   refine yp (s := 22) rfl (fun hg2_9 => ?_) (fun hg2_9 => ?_)
   ·
    refine qr [(23, .pure _), (24, .pure _), (25, .pure _), (26, .pure _), (27, .pure _), (28, .pure _), (29, .pure _)] (by kernel_rfl) rfl rfl rfl wL (wN rfl rfl rfl (fun X => qA rfl) <| wN rfl rfl rfl (fun X => qJ rfl) <| wN rfl rfl rfl (fun X => qD rfl) <| wN rfl rfl rfl (fun X => qG rfl rfl) <| wN rfl rfl rfl (fun X => wE rfl) <| wN rfl rfl rfl (fun X => y1 (z := 0) (q := k) rfl rfl hM.a) <| wN rfl rfl rfl (fun X => qA rfl) <| ParH.nil rfl) ?_
    dsimp only [zG, List.drop, List.length]
    refine WZ (L' := [(b7, .cells [.int .i64 k.1, .int .i64 k.2].toArray 100 (0, 0))] :: [(b4, .cells (Qf n.num n.ver k).toArray 62 (0, 0))] :: Cn :: G :: F) (wH (by rw [hCn]; simp)) ?_
    refine kL (by kernel_rfl) rfl rfl (wR rfl rfl) ?_
    refine qq (by kernel_rfl) (qT rfl rfl) ?_
    refine qq (by kernel_rfl) (qA rfl) ?_
    refine yp (s := 32) rfl (fun hg2_19 => ?_) (fun hg2_19 => ?_)
    ·
     refine qr [(33, .pure _), (34, .act ([]) (fun v C => SlC 100 2 v (y3 n).length ((y3 n).flatMap wt) C)), (35, .pure _)] (by kernel_rfl) rfl rfl rfl (Q8 [[]] rfl) (wN rfl rfl rfl (fun X => qA rfl) <| ParH.actG rfl rfl rfl (fun X => OpT.weaken (qn rfl (FnT.rdA2 Cn G (jq H HP p n Cn G hn hg hok))) (fun _ _ h => h) Q7) <| wN rfl rfl rfl (fun X => wE rfl) <| ParH.nil rfl) ?_
     rintro t34 Cp hs
     dsimp only [zG, List.drop, List.length]
     refine kL (by kernel_rfl) rfl rfl (qw rfl (zM (Cp) (containsP_ok t34 Cp (y3 n) k hs (by rw [hl]; omega)))) ?_
     refine kL (by kernel_rfl) rfl rfl (kM rfl) ?_
     refine qq (by kernel_rfl) (qT rfl rfl) ?_
     refine qq (by kernel_rfl) (qC rfl) ?_
     refine qt <| QAt.seq <| Tr.ret <| qs (Cn :: G :: F) (.inl rfl) rfl (qd rfl) <| ⟨?_, rfl⟩
     congr 1
     unfold W9 atN
     first | (simp [*]; done) | (symm; simp [*]; done) | skip
    ·
     refine qr [(33, .pure undef), (34, .pure undef), (35, .pure undef)] (by kernel_rfl) rfl rfl rfl wL (ParH.skip rfl rfl rfl rfl <| ParH.skip rfl rfl rfl rfl <| ParH.skip rfl rfl rfl rfl <| ParH.nil rfl) ?_
     dsimp only [zG, List.drop, List.length]
     refine ko (by kernel_rfl) rfl rfl rfl ?_
     refine ko (by kernel_rfl) rfl rfl rfl ?_
     refine qq (by kernel_rfl) (qL rfl rfl) ?_
     refine qq (by kernel_rfl) (qC rfl) ?_
     refine qt <| QAt.seq <| Tr.ret <| qs (Cn :: G :: F) (.inl rfl) rfl (qd rfl) <| ⟨?_, rfl⟩
     congr 1
     unfold W9 atN
     first | (simp [*]; done) | (symm; simp [*]; done) | skip
   · exact absurd rfl hg2_9
  ·
   refine qr [(16, .pure undef), (17, .pure undef), (18, .pure undef), (19, .pure undef)] (by kernel_rfl) rfl rfl rfl wL (ParH.skip rfl rfl rfl rfl <| ParH.skip rfl rfl rfl rfl <| ParH.skip rfl rfl rfl rfl <| ParH.skip rfl rfl rfl rfl <| ParH.nil rfl) ?_
   dsimp only [zG, List.drop, List.length]
   refine ko (by kernel_rfl) rfl rfl rfl ?_
   refine qq (by kernel_rfl) (qL rfl rfl) ?_
   refine qq (by kernel_rfl) (qA rfl) ?_
   refine WZ (L' := [(b7, .cells [.int .i64 k.1, .int .i64 k.2].toArray 100 (0, 0))] :: [(b4, .cells (Qf n.num n.ver k).toArray 62 (0, 0))] :: [(p, .cells [.int .u32 n.num, .int .u32 n.ver, .int .i64 n.kind, .int .i64 n.size, .int .u32 n.time, .map (some ma), .map (some md), .map (some ms), u].toArray 90 (0, 0))] :: [(ma, oa)] :: [(md, od)] :: [(ms, os)] :: C :: G :: F) (wH (by rw [hCn]; simp)) ?_
   refine qr [(23, .pure undef), (24, .pure undef), (25, .pure undef), (26, .pure undef), (27, .pure undef), (28, .pure undef), (29, .pure undef)] (by kernel_rfl) rfl rfl rfl wL (ParH.skip rfl rfl rfl rfl <| ParH.skip rfl rfl rfl rfl <| ParH.skip rfl rfl rfl rfl <| ParH.skip rfl rfl rfl rfl <| ParH.skip rfl rfl rfl rfl <| ParH.skip rfl rfl rfl rfl <| ParH.skip rfl rfl rfl rfl <| ParH.nil rfl) ?_
   dsimp only [zG, List.drop, List.length]
   refine WZ (L' := [(b7, .cells [.int .i64 k.1, .int .i64 k.2].toArray 100 (0, 0))] :: [(b4, .cells (Qf n.num n.ver k).toArray 62 (0, 0))] :: Cn :: G :: F) (wH (by rw [hCn]; simp)) ?_
   refine ko (by kernel_rfl) rfl rfl rfl ?_
   refine qq (by kernel_rfl) (qL rfl rfl) ?_
   refine qq (by kernel_rfl) (qA rfl) ?_
   refine qr [(33, .pure undef), (34, .pure undef), (35, .pure undef)] (by kernel_rfl) rfl rfl rfl wL (ParH.skip rfl rfl rfl rfl <| ParH.skip rfl rfl rfl rfl <| ParH.skip rfl rfl rfl rfl <| ParH.nil rfl) ?_
   dsimp only [zG, List.drop, List.length]
   refine ko (by kernel_rfl) rfl rfl rfl ?_
   refine ko (by kernel_rfl) rfl rfl rfl ?_
   refine qq (by kernel_rfl) (qL rfl rfl) ?_
   refine qq (by kernel_rfl) (qC rfl) ?_
   refine qt <| QAt.seq <| Tr.ret <| qs (Cn :: G :: F) (.inl rfl) rfl (qd rfl) <| ⟨?_, rfl⟩
   congr 1
   unfold W9 atN
   first | (simp [*]; done) | (symm; simp [*]; done) | skip
noncomputable def xi (n : NS) (k : Int × Int) (a : Int) (g : Int → Option Sec) : (Bool × Int) × NS :=
  if W9 n k a then (if k.1 = 1 then (match g a with | none => ((false, 20), n) | some s => ((true, 0), zT n k.2 (some s))) else ((true, 0), setStale n k)) else ((false, 0), n)
theorem move_ok (H : j3 w0) (HP : xc) (p : Nat) (n : NS) (Cn D G : qM) (hn : NodeC p n Cn) (hg : kJ G) (hok : NOk n) (k : Int × Int) (a : Int) (rv : Value) (g : Int → Option Sec) (hr : YJ rv D g) :
    FnT Tryz.prog w0 19 #[.pointer (some ⟨p, 0, none⟩), .agg (Qf n.num n.ver k).toArray, .int .i64 a, rv] (Cn :: D :: G :: F)
      (fun v L' => ∃ Cn', v = .tuple #[.bool (xi n k a g).1.1, .int .i64 (xi n k a g).1.2] ∧ NodeC p (xi n k a g).2 Cn' ∧ L' = Cn' :: D :: G :: F) := by
  obtain ⟨ma, md, ms, oa, od, os, u, C, hM, hCn⟩ := hn.eq
  unfold wz at hCn
  refine FnT.enter (E0 := [(0, _), (1, _), (2, _), (3, _)]) (N := 45) Tryz.func19 rfl rfl rfl rfl ?_
  refine Tr.seq <| Tr.region <| qF (wT rfl) ?_
  rintro t5 _ ⟨b5, rfl, rfl⟩
  refine q9 (qC rfl) <| q9 (qC rfl) <| qB <| QAt.seq <| Tr.seq <| Tr.seq <| Tr.region <| q9 (qA rfl) <| q9 (wE rfl) <| q9 (qA rfl) <| q9 (qw rfl (yc (Cn) (G) (live_ok H HP p n Cn G hn hg hok k a))) <| q9 (kM rfl) <| qB <| QAt.seq <| Tr.cond rfl (fun hc1 => ?_) (fun hc1 => ?_)
  ·
   have hlv : ¬ W9 n k a := by simpa using hc1
   have hT : xi n k a g = ((false, 0), n) := by unfold xi; rw [if_neg hlv]
   refine Tr.seq <| Tr.region <| q9 (qC rfl) <| q9 (qC rfl) <| qB <| QAt.seq <| Tr.ret <| qe <| wC (Cn :: D :: G :: F) (.inl rfl) rfl (qd rfl) (qd rfl) ?_
   exact ⟨Cn, by rw [hT], by rw [hT]; exact hn, rfl⟩
  ·
   have hlv : W9 n k a := by simpa using hc1
   refine Tr.skip <| QAt.seq <| Tr.seq <| Tr.seq <| Tr.region <| q9 (qD rfl) <| q9 (qG rfl rfl) <| q9 (wR rfl rfl) <| qB <| QAt.seq <| qI rfl (fun hc3 => ?_) (fun hc3 => ?_)
   ·
    refine Tr.seq <| Tr.region <| q9 (qA rfl) <| q9 (qA rfl) <| q9 (yw rfl rfl (ZW D (hr w0 _ a))) <| q9 (qA rfl) <| q9 (qR rfl rfl) <| q9 (qR rfl rfl) <| qF (qV) ?_
    rintro t10 _ ⟨b10, rfl, rfl⟩
    refine qK (qW rfl rfl (by simp) (by simp) (wS _)) ?_
    refine q9 (qC rfl) <| qB <| QAt.seq <| Tr.seq <| Tr.seq <| Tr.region <| q9 (qA rfl) <| q9 (wZ rfl rfl) <| qB <| QAt.seq <| qI rfl (fun hc5 => ?_) (fun hc5 => ?_)
    ·
     have hbk : g a = none := by
       cases h : g a with
       | none => rfl
       | some s => rw [h] at hc5; exact absurd rfl hc5
     refine Tr.seq <| Tr.region <| q9 (qA rfl) <| q9 (qC rfl) <| q9 (qC rfl) <| qB <| QAt.seq <| Tr.ret <| qe <| qe <| wC (Cn :: D :: G :: F) (.inl rfl) rfl (qd rfl) (qd rfl) ?_
     have hT : xi n k a g = ((false, 20), n) := by unfold xi; rw [if_pos hlv, if_pos hc3, hbk]
     exact ⟨Cn, by rw [hT, hbk]; rfl, by rw [hT]; exact hn, rfl⟩
    ·
     obtain ⟨s, hbk⟩ : ∃ s, g a = some s := by
       cases h : g a with
       | none => rw [h] at hc5; exact absurd (by decide) hc5
       | some s => exact ⟨s, rfl⟩
     rw [hbk]
     refine Tr.skip <| QAt.seq <| Tr.seq <| yW (L' := [(b10, .cells (wW s).toArray 55 (0, 0))] :: [(b5, .cells (Qf n.num n.ver k).toArray 62 (0, 0))] :: [(p, .cells [.int .u32 n.num, .int .u32 n.ver, .int .i64 n.kind, .int .i64 n.size, .int .u32 n.time, .map (some ma), .map (some md), .map (some ms), u].toArray 90 (0, 0))] :: [(ma, oa)] :: [(md, od)] :: [(ms, os)] :: C :: D :: G :: F) (wH (by rw [hCn]; simp)) ?_
     refine Tr.drawn qm <| qr [(29, .pure _), (30, .pure _), (31, .pure _), (32, .pure _), (33, .pure _), (34, .pure _), (35, .pure _)] (by kernel_rfl) rfl rfl rfl wL (ParH.pure rfl (fun X => qA rfl) <| ParH.pure rfl (fun X => qJ rfl) <| ParH.pure rfl (fun X => qD rfl) <| ParH.pure rfl (fun X => qG rfl rfl) <| ParH.pure rfl (fun X => qD rfl) <| ParH.pure rfl (fun X => qG rfl rfl) <| ParH.pure rfl (fun X => w7 rfl (by first | exact zD _ | simp)) <| ParH.nil rfl) ?_
     dsimp only [zG, List.drop, List.length]
     refine zL (by kernel_rfl) (wu (q := k.2) (v := s) rfl rfl rfl hM.d) ?_
     rintro _ _ ⟨od', hod', rfl⟩
     refine qt <| QAt.seq <| Tr.seq <| Tr.region <| q9 (qC rfl) <| q9 (qC rfl) <| qB <| z8 (qP ([(p, .cells [.int .u32 n.num, .int .u32 n.ver, .int .i64 n.kind, .int .i64 n.size, .int .u32 n.time, .map (some ma), .map (some md), .map (some ms), u].toArray 90 (0, 0))] :: [(ma, oa)] :: [(md, od')] :: [(ms, os)] :: C :: D :: G :: F)) <| z8 (wH (L' := ((p, .cells (wz n ma md ms u).toArray 90 (0, 0)) :: (ma, oa) :: (md, od') :: (ms, os) :: C) :: D :: G :: F) (by simp [wz])) ?_
     refine QAt.seq <| Tr.ret <| qe <| QM (.inl rfl) rfl (qd rfl) (qd rfl) ?_
     have hT : xi n k a g = ((true, 0), zT n k.2 (some s)) := by unfold xi; rw [if_pos hlv, if_pos hc3, hbk]
     exact ⟨_, by rw [hT], by rw [hT]; exact ⟨ma, md, ms, oa, od', os, u, C, rfl, hM.a, hod', hM.s, hM.g⟩, rfl⟩
   ·
    refine Tr.skip <| QAt.seq <| Tr.seq <| yW (L' := [(b5, .cells (Qf n.num n.ver k).toArray 62 (0, 0))] :: [(p, .cells [.int .u32 n.num, .int .u32 n.ver, .int .i64 n.kind, .int .i64 n.size, .int .u32 n.time, .map (some ma), .map (some md), .map (some ms), u].toArray 90 (0, 0))] :: [(ma, oa)] :: [(md, od)] :: [(ms, os)] :: C :: D :: G :: F) (wH (by rw [hCn]; simp)) ?_
    refine Tr.drawn qm <| qr [(36, .pure _), (37, .pure _), (38, .pure _), (39, .pure _), (40, .pure _), (41, .pure _), (42, .pure _), (43, .pure _), (44, .pure _)] (by kernel_rfl) rfl rfl rfl wL (ParH.pure rfl (fun X => qA rfl) <| ParH.pure rfl (fun X => qJ rfl) <| ParH.pure rfl (fun X => qD rfl) <| ParH.pure rfl (fun X => qG rfl rfl) <| ParH.pure rfl (fun X => qD rfl) <| ParH.pure rfl (fun X => qG rfl rfl) <| ParH.pure rfl (fun X => qD rfl) <| ParH.pure rfl (fun X => qG rfl rfl) <| ParH.pure rfl (fun X => wF rfl) <| ParH.nil rfl) ?_
    dsimp only [zG, List.drop, List.length]
    refine zL (by kernel_rfl) (wu (q := k) (v := (1 : Int)) rfl rfl rfl hM.s) ?_
    rintro _ _ ⟨os', hos', rfl⟩
    refine qt <| QAt.seq <| Tr.seq <| Tr.region <| q9 (qC rfl) <| q9 (qC rfl) <| qB <| z8 (qP ([(p, .cells [.int .u32 n.num, .int .u32 n.ver, .int .i64 n.kind, .int .i64 n.size, .int .u32 n.time, .map (some ma), .map (some md), .map (some ms), u].toArray 90 (0, 0))] :: [(ma, oa)] :: [(md, od)] :: [(ms, os')] :: C :: D :: G :: F)) <| z8 (wH (L' := ((p, .cells (wz n ma md ms u).toArray 90 (0, 0)) :: (ma, oa) :: (md, od) :: (ms, os') :: C) :: D :: G :: F) (by simp [wz])) ?_
    refine QAt.seq <| Tr.ret <| QM (.inl rfl) rfl (qd rfl) (qd rfl) ?_
    have hT : xi n k a g = ((true, 0), setStale n k) := by unfold xi; rw [if_pos hlv, if_neg hc3]
    exact ⟨_, by rw [hT], by rw [hT]; exact ⟨ma, md, ms, oa, od, os', u, C, rfl, hM.a, hM.d, hos', hM.g⟩, rfl⟩
def ki (n : NS) (t : Int) : NS := if n.time ≠ t then { setStale n (2, 0) with time := t } else n
theorem setTime_ok (p : Nat) (n : NS) (Cn G : qM) (hn : NodeC p n Cn) (hg : kJ G) (t : Int) :
    FnT Tryz.prog w0 35 #[.pointer (some ⟨p, 0, none⟩), .int .u32 t] (Cn :: G :: F) (fun v L' => v = .tuple #[] ∧ ∃ Cn', NodeC p (ki n t) Cn' ∧ L' = Cn' :: G :: F) := by
  refine nodeg_change hn hg ?_
  intro ma md ms oa od os u C e0 f0 e1 f1 e2 f2 hM
  unfold kK wz xW
  refine FnT.enter (E0 := [(0, _), (1, _)]) (N := 19) Tryz.func35 rfl rfl rfl rfl ?_
  refine Tr.seq <| Tr.region <| q9 (qA rfl) <| q9 (qJ rfl) <| q9 (qD rfl) <| q9 (qG rfl rfl) <| q9 (qA rfl) <| q9 (wZ rfl rfl) <| qB <| QAt.seq <| qI rfl (fun hc0 => ?_) (fun hc0 => ?_)
  ·
   refine Tr.seq <| Tr.region <| q9 (qA rfl) <| q9 (qA rfl) <| q9 (qJ rfl) <| q9 (qD rfl) <| qK (wX rfl rfl rfl) <| qB <| QAt.seq <| Tr.drawn qm <| qr [(14, .pure _), (15, .pure _), (16, .pure _), (17, .pure _), (18, .pure _)] (by kernel_rfl) rfl rfl rfl wL (ParH.pure rfl (fun X => qA rfl) <| ParH.pure rfl (fun X => qJ rfl) <| ParH.pure rfl (fun X => qD rfl) <| ParH.pure rfl (fun X => qG rfl rfl) <| ParH.pure rfl (fun X => wE rfl) <| ParH.nil rfl) ?_
   dsimp only [zG, List.drop, List.length]
   refine zL (by kernel_rfl) (wu (q := (2, 0)) (v := (1 : Int)) rfl rfl rfl hM.s) ?_
   rintro _ _ ⟨os', hos', rfl⟩
   refine qt <| jz (.inr rfl) rfl  ?_
   exact ⟨rfl, ma, md, ms, oa, od, os', u, C, by unfold ki; rw [if_pos hc0]; exact ⟨hM.a, hM.d, hos', hM.g⟩, by unfold ki; rw [if_pos hc0]; rfl⟩
  ·
   refine Tr.skip <| jz (.inr rfl) rfl  ?_
   exact ⟨rfl, ma, md, ms, oa, od, os, u, C, by unfold ki; rw [if_neg hc0]; exact hM, by unfold ki; rw [if_neg hc0]; rfl⟩
def Z7 (num ver kind : Int) : NS := ⟨num, ver, kind, 0, 0, fun _ => none, fun _ => none, upd (fun _ => none) (2, 0) (some 1), []⟩
theorem Xy (G : qM) (hg : kJ G) (num ver kind : Int) :
    FnT Tryz.prog w0 25 #[.int .u32 num, .int .u32 ver, .int .i64 kind] (G :: F) (fun v L' => ∃ p Cn, v = .pointer (some ⟨p, 0, none⟩) ∧ NodeC p (Z7 num ver kind) Cn ∧ L' = Cn :: G :: F) := by
  obtain ⟨e0, f0, e1, f1, e2, f2, hG⟩ := id hg
  refine FnT.enter (E0 := [(0, _), (1, _), (2, _)]) (N := 17) Tryz.func25 rfl rfl rfl rfl ?_
  refine Tr.seq <| Tr.region <| q9 (qC rfl) <| qB <| QAt.seq <| Tr.seq <| Tr.region <| q9 (qA rfl) <| q9 (qA rfl) <| q9 (qA rfl) <| qF (k8) ?_
  rintro t10 _ ⟨b10, rfl, rfl⟩
  refine qF (k8) ?_
  rintro t11 _ ⟨b11, rfl, rfl⟩
  refine qF (k8) ?_
  rintro t12 _ ⟨b12, rfl, rfl⟩
  refine q9 (yZ (b := 0) (off := 0) (c := [Value.int .i64 2, Value.int .i64 0].toArray) (e := e0) (fr := f0) (r := [.int .i64 2, .int .i64 0]) rfl (by rw [hG]; simp) rfl (by decide)) ?_
  refine zY (jh (enc := yU) (val := Value.int .i64) (r := b12) (q := (2, 0)) (v := (1 : Int)) rfl rfl rfl (kA _ _)) ?_
  rintro _ _ ⟨o1, ho1, rfl⟩
  refine q9 (qA rfl) <| q9 (wF rfl) <| qF (wT rfl) ?_
  rintro t16 _ ⟨b16, rfl, rfl⟩
  refine q9 (qC rfl) <| qB <| z8 (L' := ((b16, .cells (wz (Z7 num ver kind) b10 b11 b12 (.slice none 0 0)).toArray 90 (0, 0)) :: (b10, .map #[] 0) :: (b11, .map #[] 0) :: (b12, o1) :: []) :: G :: F) (by simp only [wz, Z7]; exact (yI (by intro f; simp only [List.flatten_cons, List.flatten_nil, List.append_nil, List.countP_append, List.countP_cons, List.countP_nil]; omega))) ?_
  refine QAt.seq <| Tr.ret <| zW (.inl rfl) rfl (qd rfl) ?_
  exact ⟨_, _, rfl, ⟨b10, b11, b12, _, _, o1, _, [], rfl, kA _ _, kA _ _, ho1, zu _ _⟩, rfl⟩
end Go.Proofs.YtjikpomndbkfgaaGreatDoor
