/- Lemmas of this claim: walks through code, values and memory, and the contracts of functions; under no condition beyond those that each states. -/
import Derived.Test.YtakiodehjhpgkaaGreatGA
set_option maxRecDepth 100000
set_option linter.unusedVariables false
set_option linter.unusedSimpArgs false
namespace Go.YtakiodehjhpgkaaGreatMc
open Go.Proofs
/-! ### State -/
structure Stt where
  span : Iv
  pairs : List Pr
  known : List Ses
  sealed : Bool
  cut : List UInt8
  deriving DecidableEq
def Stt.e (a : Stt) : List T := [.s a.span.lo, .s a.span.hi, .l (a.pairs.map Pr.e), .l (a.known.map Ses.e), .b a.sealed, .s a.cut]
structure Stt.Fit (a : Stt) : Prop where
  span : a.span.Fit
  pairsN : a.pairs.length ≤ 9223372036854775807
  pairs : ∀ x ∈ a.pairs, x.Fit
  knownN : a.known.length ≤ 9223372036854775807
  known : ∀ x ∈ a.known, x.Fit
  cut : a.cut.length ≤ 9223372036854775807
structure Stt.Sm (a : Stt) : Prop where
  span : a.span.Sm
  pairsN : a.pairs.length ≤ 1048576
  pairs : ∀ x ∈ a.pairs, x.Sm
  knownN : a.known.length ≤ 1048576
  cut : a.cut.length ≤ 1048576
def Stt.sz (a : Stt) : Int → Int := andz (Iv.sz a.span) (andz (Pr.szs a.pairs) (andz (sz1 a.known.length) ((sz1 a.cut.length))))
theorem Stt.sz_lo (a : Stt) : Lo a.sz := (andz_lo (Iv.sz_lo _) (andz_lo (Pr.szs_lo _) (andz_lo (sz1_lo _) (sz1_lo _))))
theorem Stt.sz_sm (a : Stt) {x : Int} (h0 : 0 ≤ x) (h1 : x ≤ 1048576) (h : 0 ≤ a.sz x) : a.Sm := by
  unfold Stt.sz at h
  obtain ⟨g0, h⟩ := andz_ge h
  have s0 := Iv.sz_sm _ h0 h1 g0
  have b0 := Int.le_trans ((Iv.sz_lo _ : Lo (Iv.sz a.span)) _ h0) h1
  obtain ⟨g1, h⟩ := andz_ge h
  have s1 := Pr.szs_sm _ g0 b0 g1
  have b1 := Int.le_trans ((Pr.szs_lo _ : Lo (Pr.szs a.pairs)) _ g0) b0
  obtain ⟨g2, h⟩ := andz_ge h
  have s2 := sz1_sm g1 b1 g2
  have b2 := Int.le_trans ((sz1_lo _ : Lo (sz1 a.known.length)) _ g1) b1
  have s3 := sz1_sm g2 b2 h
  exact ⟨s0, s1.1, s1.2, s2, s3⟩
theorem Stt.sz_ok (a : Stt) (hf : a.Fit) (x : Int) (h0 : 0 ≤ x) (h1 : x ≤ 1048576) : Pu Tryz.prog 53 [A a.e, I x] (I (a.sz x)) := by
  have q0 := (Iv.sz_lo _ : Lo (Iv.sz a.span)) x h0
  have q1 := (Pr.szs_lo _ : Lo (Pr.szs a.pairs)) (Iv.sz a.span x)
  have q2 := (sz1_lo _ : Lo (sz1 a.known.length)) (Pr.szs a.pairs (Iv.sz a.span x))
  have q3 := (sz1_lo _ : Lo (sz1 a.cut.length)) (sz1 a.known.length (Pr.szs a.pairs (Iv.sz a.span x)))
  have l3 := hf.cut
  refine Pu.of D Tryz.func53 rfl rfl rfl ?_
  repeat' (first
    | (refine W.cond rfl ?_ ?_ <;> intro hb <;> try simp at hb)
    | refine cl (Iv.sz_ok a.span hf.span (x) h0 h1) ?_
    | refine cl (Pr.szs_ok a.pairs hf.pairsN hf.pairs (Iv.sz a.span x) (by omega) (by omega)) ?_
    | refine cl (Ses.szs_ok a.known hf.knownN hf.known (Pr.szs a.pairs (Iv.sz a.span x)) (by omega) (by omega)) ?_
    | refine goO ?_
    | refine goS ?_
    | (refine WO.gs _ rfl rfl rfl ?_ ?_ <;> intro hb <;> simp only [hb] <;> try simp at hb))
  all_goals refine ⟨.inr rfl, _, _, rfl, .cons (.c (.id rfl)) .nil, ?_⟩
  all_goals (simp only [resV, X.v, Stt.sz, andz, sz1, id, V.c.injEq, C.t.injEq, T.i.injEq, true_and] at *; grind)
def Stt.szs (l : List Stt) : Int → Int := andz (sz1 l.length) (szL Stt.sz l)
theorem Stt.szs_lo (l : List Stt) : Lo (Stt.szs l) := andz_lo (sz1_lo _) (szL_lo Stt.sz_lo l)
theorem Stt.szs_sm (l : List Stt) {x : Int} (h0 : 0 ≤ x) (h1 : x ≤ 1048576) (h : 0 ≤ Stt.szs l x) : l.length ≤ 1048576 ∧ ∀ a ∈ l, a.Sm := by
  obtain ⟨g0, h⟩ := andz_ge h
  have b0 := Int.le_trans ((sz1_lo _ : Lo (sz1 l.length)) _ h0) h1
  refine ⟨sz1_sm h0 h1 g0, fun a ha => ?_⟩
  obtain ⟨y, y0, y1, y2⟩ := szL_ge Stt.sz_lo l g0 h a ha
  exact a.sz_sm y0 (by omega) y2
theorem Stt.to_ok (a : Stt) (hs : a.Sm) : Pu Tryz.prog 61 [A a.e] (A a.e) := by
  refine Pu.of D Tryz.func61 rfl rfl rfl ?_
  repeat' (first
    | (refine W.cond rfl ?_ ?_ <;> intro hb <;> try simp at hb)
    | refine cl (Iv.to_ok a.span hs.span) ?_
    | refine cl (Pr.tos_ok a.pairs hs.pairsN hs.pairs) ?_
    | refine cl (Ses.tos_ok a.known hs.knownN) ?_
    | refine goO ?_
    | refine goS ?_
    | (refine WO.gs _ rfl rfl rfl ?_ ?_ <;> intro hb <;> simp only [hb] <;> try simp at hb))
  all_goals refine ⟨.inr rfl, _, _, rfl, .cons (.ag (.cons (.id rfl) (.cons (.id rfl) (.cons (.id rfl) (.cons (.id rfl) (.cons (.id rfl) (.cons (.id rfl) .nil))))))) .nil, ?_⟩
  all_goals rfl
theorem Stt.eq_ok (a b : Stt) (hs : a.Sm) : Pu Tryz.prog 69 [A a.e, A b.e] (B (decide (a = b))) := by
  refine Pu.of D Tryz.func69 rfl rfl rfl ?_
  repeat' (first
    | (refine W.cond rfl ?_ ?_ <;> intro hb <;> try simp at hb)
    | refine cl (Iv.eq_ok a.span b.span hs.span) ?_
    | refine cl (Pr.eqs_ok a.pairs b.pairs hs.pairsN hs.pairs) ?_
    | refine cl (Ses.eqs_ok a.known b.known hs.knownN) ?_
    | refine goO ?_
    | refine goS ?_
    | (refine WO.gs _ rfl rfl rfl ?_ ?_ <;> intro hb <;> simp only [hb] <;> try simp at hb))
  all_goals refine ⟨.inr rfl, _, _, rfl, .cons (.c (.id rfl)) .nil, ?_⟩
  all_goals (cases a; cases b; simp [resV, X.v] at *; grind)
/-! ### Config -/
structure Cfg where
  epoch : Int
  mem : List Int
  fresh : Bool
  deriving DecidableEq
def Cfg.e (a : Cfg) : List T := [tI a.epoch, .l (a.mem.map eI), .b a.fresh]
structure Cfg.Fit (a : Cfg) : Prop where
  epoch : i64 a.epoch
  memN : a.mem.length ≤ 9223372036854775807
  mem : ∀ x ∈ a.mem, i64 x
structure Cfg.Sm (a : Cfg) : Prop where
  memN : a.mem.length ≤ 1048576
def Cfg.sz (a : Cfg) : Int → Int := andz (sz1 a.mem.length) id
theorem Cfg.sz_lo (a : Cfg) : Lo a.sz := (andz_lo (sz1_lo _) id_lo)
theorem Cfg.sz_sm (a : Cfg) {x : Int} (h0 : 0 ≤ x) (h1 : x ≤ 1048576) (h : 0 ≤ a.sz x) : a.Sm := by
  unfold Cfg.sz at h
  obtain ⟨g0, h⟩ := andz_ge h
  have s0 := sz1_sm h0 h1 g0
  exact ⟨s0⟩
theorem Cfg.sz_ok (a : Cfg) (hf : a.Fit) (x : Int) (h0 : 0 ≤ x) (h1 : x ≤ 1048576) : Pu Tryz.prog 54 [A a.e, I x] (I (a.sz x)) := by
  have q0 := (sz1_lo _ : Lo (sz1 a.mem.length)) x h0
  refine Pu.of D Tryz.func54 rfl rfl rfl ?_
  repeat' (first
    | (refine W.cond rfl ?_ ?_ <;> intro hb <;> try simp at hb)
    | refine cl (szIs_ok a.mem hf.memN (x) h0 h1) ?_
    | refine goO ?_
    | refine goS ?_
    | (refine WO.gs _ rfl rfl rfl ?_ ?_ <;> intro hb <;> simp only [hb] <;> try simp at hb))
  all_goals refine ⟨.inr rfl, _, _, rfl, .cons (.c (.id rfl)) .nil, ?_⟩
  all_goals (simp only [resV, X.v, Cfg.sz, andz, sz1, id, V.c.injEq, C.t.injEq, T.i.injEq, true_and] at *; grind)
def Cfg.szs (l : List Cfg) : Int → Int := andz (sz1 l.length) (szL Cfg.sz l)
theorem Cfg.szs_lo (l : List Cfg) : Lo (Cfg.szs l) := andz_lo (sz1_lo _) (szL_lo Cfg.sz_lo l)
theorem Cfg.szs_sm (l : List Cfg) {x : Int} (h0 : 0 ≤ x) (h1 : x ≤ 1048576) (h : 0 ≤ Cfg.szs l x) : l.length ≤ 1048576 ∧ ∀ a ∈ l, a.Sm := by
  obtain ⟨g0, h⟩ := andz_ge h
  have b0 := Int.le_trans ((sz1_lo _ : Lo (sz1 l.length)) _ h0) h1
  refine ⟨sz1_sm h0 h1 g0, fun a ha => ?_⟩
  obtain ⟨y, y0, y1, y2⟩ := szL_ge Cfg.sz_lo l g0 h a ha
  exact a.sz_sm y0 (by omega) y2
theorem Cfg.to_ok (a : Cfg) (hs : a.Sm) : Pu Tryz.prog 62 [A a.e] (A a.e) := by
  refine Pu.of D Tryz.func62 rfl rfl rfl ?_
  repeat' (first
    | (refine W.cond rfl ?_ ?_ <;> intro hb <;> try simp at hb)
    | refine cl (toIs_ok a.mem hs.memN) ?_
    | refine goO ?_
    | refine goS ?_
    | (refine WO.gs _ rfl rfl rfl ?_ ?_ <;> intro hb <;> simp only [hb] <;> try simp at hb))
  all_goals refine ⟨.inr rfl, _, _, rfl, .cons (.ag (.cons (.id rfl) (.cons (.id rfl) (.cons (.id rfl) .nil)))) .nil, ?_⟩
  all_goals rfl
theorem Cfg.eq_ok (a b : Cfg) (hs : a.Sm) : Pu Tryz.prog 70 [A a.e, A b.e] (B (decide (a = b))) := by
  refine Pu.of D Tryz.func70 rfl rfl rfl ?_
  repeat' (first
    | (refine W.cond rfl ?_ ?_ <;> intro hb <;> try simp at hb)
    | refine cl (eqIs_ok a.mem b.mem hs.memN) ?_
    | refine goO ?_
    | refine goS ?_
    | (refine WO.gs _ rfl rfl rfl ?_ ?_ <;> intro hb <;> simp only [hb] <;> try simp at hb))
  all_goals refine ⟨.inr rfl, _, _, rfl, .cons (.c (.id rfl)) .nil, ?_⟩
  all_goals (cases a; cases b; simp [resV, X.v] at *; grind)
/-! ### Replica -/
structure Rep where
  conf : Cfg
  ready : Bool
  log : List Ent
  deriving DecidableEq
def Rep.e (a : Rep) : List T := [tI a.conf.epoch, .l (a.conf.mem.map eI), .b a.conf.fresh, .b a.ready, .l (a.log.map Ent.e)]
structure Rep.Fit (a : Rep) : Prop where
  conf : a.conf.Fit
  logN : a.log.length ≤ 9223372036854775807
  log : ∀ x ∈ a.log, x.Fit
structure Rep.Sm (a : Rep) : Prop where
  conf : a.conf.Sm
  logN : a.log.length ≤ 1048576
  log : ∀ x ∈ a.log, x.Sm
def Rep.sz (a : Rep) : Int → Int := andz (Cfg.sz a.conf) (andz (Ent.szs a.log) id)
theorem Rep.sz_lo (a : Rep) : Lo a.sz := (andz_lo (Cfg.sz_lo _) (andz_lo (Ent.szs_lo _) id_lo))
theorem Rep.sz_sm (a : Rep) {x : Int} (h0 : 0 ≤ x) (h1 : x ≤ 1048576) (h : 0 ≤ a.sz x) : a.Sm := by
  unfold Rep.sz at h
  obtain ⟨g0, h⟩ := andz_ge h
  have s0 := Cfg.sz_sm _ h0 h1 g0
  have b0 := Int.le_trans ((Cfg.sz_lo _ : Lo (Cfg.sz a.conf)) _ h0) h1
  obtain ⟨g1, h⟩ := andz_ge h
  have s1 := Ent.szs_sm _ g0 b0 g1
  exact ⟨s0, s1.1, s1.2⟩
theorem Rep.sz_ok (a : Rep) (hf : a.Fit) (x : Int) (h0 : 0 ≤ x) (h1 : x ≤ 1048576) : Pu Tryz.prog 156 [A a.e, I x] (I (a.sz x)) := by
  have q0 := (Cfg.sz_lo _ : Lo (Cfg.sz a.conf)) x h0
  have q1 := (Ent.szs_lo _ : Lo (Ent.szs a.log)) (Cfg.sz a.conf x)
  refine Pu.of D Tryz.func156 rfl rfl rfl ?_
  repeat' (first
    | (refine W.cond rfl ?_ ?_ <;> intro hb <;> try simp at hb)
    | refine cl (Cfg.sz_ok a.conf hf.conf (x) h0 h1) ?_
    | refine cl (Ent.szs_ok a.log hf.logN hf.log (Cfg.sz a.conf x) (by omega) (by omega)) ?_
    | refine goO ?_
    | refine goS ?_
    | (refine WO.gs _ rfl rfl rfl ?_ ?_ <;> intro hb <;> simp only [hb] <;> try simp at hb))
  all_goals refine ⟨.inr rfl, _, _, rfl, .cons (.c (.id rfl)) .nil, ?_⟩
  all_goals (simp only [resV, X.v, Rep.sz, andz, sz1, id, V.c.injEq, C.t.injEq, T.i.injEq, true_and] at *; grind)
def Rep.szs (l : List Rep) : Int → Int := andz (sz1 l.length) (szL Rep.sz l)
theorem Rep.szs_lo (l : List Rep) : Lo (Rep.szs l) := andz_lo (sz1_lo _) (szL_lo Rep.sz_lo l)
theorem Rep.szs_sm (l : List Rep) {x : Int} (h0 : 0 ≤ x) (h1 : x ≤ 1048576) (h : 0 ≤ Rep.szs l x) : l.length ≤ 1048576 ∧ ∀ a ∈ l, a.Sm := by
  obtain ⟨g0, h⟩ := andz_ge h
  have b0 := Int.le_trans ((sz1_lo _ : Lo (sz1 l.length)) _ h0) h1
  refine ⟨sz1_sm h0 h1 g0, fun a ha => ?_⟩
  obtain ⟨y, y0, y1, y2⟩ := szL_ge Rep.sz_lo l g0 h a ha
  exact a.sz_sm y0 (by omega) y2
theorem Rep.szs_ok (l : List Rep) (hl : l.length ≤ 9223372036854775807) (hk : ∀ a ∈ l, a.Fit) (x : Int) (h0 : 0 ≤ x) (h1 : x ≤ 1048576) : Pu Tryz.prog 55 [L Rep.e l, I x] (I (Rep.szs l x)) := by
  refine Pu.of D Tryz.func55 rfl rfl rfl ?_
  repeat' (first
    | (refine W.cond rfl ?_ ?_ <;> intro hb <;> try simp at hb)
    | refine goO ?_
    | refine goS ?_
    | (refine WO.gs _ rfl rfl rfl ?_ ?_ <;> intro hb <;> simp only [hb] <;> try simp at hb))
  · refine ⟨.inr rfl, _, _, rfl, .cons (.c (.id rfl)) .nil, ?_⟩
    have : sz1 l.length x = -1 := if_pos (by omega)
    simp [resV, X.v, Rep.szs, andz, this]
  have hx : sz1 l.length x = x - l.length := if_neg (by omega)
  have hs : Rep.szs l x = szL Rep.sz l (x - l.length) := by unfold Rep.szs andz; rw [hx, if_neg (by omega)]
  refine W.loop (σ := Nat × Int) (fun s => [(5, I s.1), (1, I s.2), (0, L Rep.e l)]) (fun _ => []) (fun s => s.1 ≤ l.length ∧ 0 ≤ s.2 ∧ s.2 ≤ 1048576 ∧ szL Rep.sz (l.drop s.1) s.2 = Rep.szs l x) (fun s => l.length - s.1) 0 (fun _ _ => rfl) (0, x - l.length) ⟨by simp, by omega, by omega, by simp [hs]⟩ rfl (.cons rfl rfl (.cons rfl rfl (.cons rfl rfl (.nil)))) ?_
  rintro ⟨k, y⟩ ⟨hk1, hy0, hy1, hy⟩
  dsimp only at hk1 hy0 hy1 hy
  repeat' (first
    | (refine W.cond rfl ?_ ?_ <;> intro hb <;> try simp at hb)
    | refine cl (Rep.sz_ok l[k] (hk _ (List.getElem_mem _)) y hy0 hy1) ?_
    | refine goO ?_
    | refine goS ?_
    | (refine WO.gs _ rfl rfl rfl ?_ ?_ <;> intro hb <;> simp only [hb] <;> try simp at hb))
  · have hlt : k < l.length := by assumption
    rw [szL_cons _ hlt, if_pos hb] at hy
    refine ⟨.inr rfl, _, _, rfl, .cons (.c (.id rfl)) .nil, ?_⟩
    simp [resV, X.v, ← hy]
  · have hlt : k < l.length := by assumption
    rw [szL_cons _ hlt, if_neg (by omega)] at hy
    exact ⟨(k + 1, l[k].sz y), ⟨hlt, hb, Int.le_trans (Rep.sz_lo _ _ hy0) hy1, hy⟩, by dsimp only; omega, (.cons rfl rfl (.cons rfl rfl (.cons rfl rfl (.nil)))), rfl, rfl⟩
  · rw [szL_nil _ hb] at hy
    refine ⟨.inr rfl, _, _, rfl, .cons (.c (.id rfl)) .nil, ?_⟩
    simp [resV, X.v, ← hy]
theorem Rep.to_ok (a : Rep) (hs : a.Sm) : Pu Tryz.prog 167 [A a.e] (A a.e) := by
  refine Pu.of D Tryz.func167 rfl rfl rfl ?_
  repeat' (first
    | (refine W.cond rfl ?_ ?_ <;> intro hb <;> try simp at hb)
    | refine cl (Cfg.to_ok a.conf hs.conf) ?_
    | refine cl (Ent.tos_ok a.log hs.logN hs.log) ?_
    | refine goO ?_
    | refine goS ?_
    | (refine WO.gs _ rfl rfl rfl ?_ ?_ <;> intro hb <;> simp only [hb] <;> try simp at hb))
  all_goals refine ⟨.inr rfl, _, _, rfl, .cons (.ag (.cons (.id rfl) (.cons (.id rfl) (.cons (.id rfl) (.cons (.id rfl) (.cons (.id rfl) .nil)))))) .nil, ?_⟩
  all_goals rfl
theorem Rep.eq_ok (a b : Rep) (hs : a.Sm) : Pu Tryz.prog 178 [A a.e, A b.e] (B (decide (a = b))) := by
  refine Pu.of D Tryz.func178 rfl rfl rfl ?_
  repeat' (first
    | (refine W.cond rfl ?_ ?_ <;> intro hb <;> try simp at hb)
    | refine cl (Cfg.eq_ok a.conf b.conf hs.conf) ?_
    | refine cl (Ent.eqs_ok a.log b.log hs.logN hs.log) ?_
    | refine goO ?_
    | refine goS ?_
    | (refine WO.gs _ rfl rfl rfl ?_ ?_ <;> intro hb <;> simp only [hb] <;> try simp at hb))
  all_goals refine ⟨.inr rfl, _, _, rfl, .cons (.c (.id rfl)) .nil, ?_⟩
  all_goals (cases a; cases b; simp [resV, X.v] at *; grind)
theorem Rep.tos_ok (l : List Rep) (hl : l.length ≤ 1048576) (hs : ∀ a ∈ l, a.Sm) : Pu Tryz.prog 63 [L Rep.e l] (L Rep.e l) := by
  refine Pu.of D Tryz.func63 rfl rfl rfl ?_
  repeat' (first
    | (refine W.cond rfl ?_ ?_ <;> intro hb <;> try simp at hb)
    | refine OpK.of (OpOk.mks D rfl rfl rfl rfl rfl rfl (by omega) (by decide) ⟨by dsimp only; omega, by omega⟩) ?_
    | refine goO ?_
    | refine goS ?_
    | (refine WO.gs _ rfl rfl rfl ?_ ?_ <;> intro hb <;> simp only [hb] <;> try simp at hb))
  refine W.loop (σ := Nat × List (List C)) (fun s => [(4, I s.1), (3, .c (.sl 0 l.length 0 l.length)), (0, L Rep.e l)]) (fun s => [.arr s.2 5]) (fun s => s.1 ≤ l.length ∧ s.2.length = l.length ∧ (∀ el ∈ s.2, el.length = 5 ∧ el.all (·.low 1) = true) ∧ ∀ (j : Nat) a, j < s.1 → l[j]? = some a → s.2[j]? = some ((Rep.e a).map .t)) (fun s => l.length - s.1) 1 (fun _ _ => rfl) (0, List.replicate l.length _) ⟨by simp, by simp, fun el hel => ?_, fun j a h => by simp at h⟩ rfl (.cons rfl rfl (.cons rfl rfl (.cons rfl rfl (.nil)))) ?_
  · rw [List.eq_of_mem_replicate hel]; exact ⟨rfl, rfl⟩
  rintro ⟨k, es⟩ ⟨hk1, hn, h6, hy⟩
  dsimp only at hk1 hn h6 hy
  repeat' (first
    | (refine W.cond rfl ?_ ?_ <;> intro hb <;> try simp at hb)
    | refine cl (Rep.to_ok l[k] (hs _ (List.getElem_mem _))) ?_
    | refine OpK.of (OpOk.ixA D rfl rfl rfl rfl rfl rfl rfl hn.symm rfl (by omega) (by omega)) ?_
    | refine OpK.of (OpOk.stA D rfl rfl rfl rfl hn.symm (List.getElem?_eq_getElem (by simp; omega)) rfl rfl rfl rfl (Nat.le_of_ble_eq_true rfl)) ?_
    | refine goO ?_
    | refine goS ?_
    | (refine WO.gs _ rfl rfl rfl ?_ ?_ <;> intro hb <;> simp only [hb] <;> try simp at hb))
  · obtain ⟨a1, a2, a3⟩ := made_step (e := Rep.e) hb hn h6 hy rfl (by simp; omega)
    exact ⟨(k + 1, _), ⟨hb, a1, a2, a3⟩, by dsimp only; omega, (.cons rfl rfl (.cons rfl rfl (.cons rfl rfl (.nil)))), rfl, low_arr a2⟩
  · exact ⟨.inr rfl, _, _, rfl, .cons (.c (.full rfl rfl (all_of hn fun j a ha => hy j a (by have := (List.getElem?_eq_some_iff.1 ha).1; omega) ha))) .nil, rfl⟩
theorem Rep.eqs_ok (l r : List Rep) (hl : l.length ≤ 1048576) (hs : ∀ a ∈ l, a.Sm) : Pu Tryz.prog 71 [L Rep.e l, L Rep.e r] (B (decide (l = r))) := by
  refine Pu.of D Tryz.func71 rfl rfl rfl ?_
  repeat' (first
    | (refine W.cond rfl ?_ ?_ <;> intro hb <;> try simp at hb)
    | refine goO ?_
    | refine goS ?_
    | (refine WO.gs _ rfl rfl rfl ?_ ?_ <;> intro hb <;> simp only [hb] <;> try simp at hb)
    | (refine WD.gs _ rfl rfl rfl ?_ ?_ <;> intro hb <;> simp only [hb] <;> try simp at hb))
  · refine ⟨.inr rfl, _, _, rfl, .cons (.c (.id rfl)) .nil, ?_⟩
    have : ¬ l = r := by rintro rfl; simp at hb
    simp [resV, X.v, this]
  · have hlr : l.length = r.length := by omega
    refine W.loop (σ := Nat) (fun k => [(5, I k), (1, L Rep.e r), (0, L Rep.e l)]) (fun _ => []) (fun k => k ≤ l.length ∧ (l = r ↔ l.drop k = r.drop k)) (fun k => l.length - k) 0 (fun _ _ => rfl) 0 ⟨by simp, by simp⟩ rfl (.cons rfl rfl (.cons rfl rfl (.cons rfl rfl (.nil)))) ?_
    rintro k ⟨hk1, hy⟩
    repeat' (first
    | (refine W.cond rfl ?_ ?_ <;> intro hb <;> try simp at hb)
    | refine cl (Rep.eq_ok l[k] r[k] (hs _ (List.getElem_mem _))) ?_
    | refine goO ?_
    | refine goS ?_
    | (refine WO.gs _ rfl rfl rfl ?_ ?_ <;> intro hb <;> simp only [hb] <;> try simp at hb)
    | (refine WD.gs _ rfl rfl rfl ?_ ?_ <;> intro hb <;> simp only [hb] <;> try simp at hb))
    · rw [drop_eq (by omega) (by omega)] at hy
      refine ⟨.inr rfl, _, _, rfl, .cons (.c (.id rfl)) .nil, ?_⟩
      simp [resV, X.v, hy, hb]
    · rw [drop_eq (by omega) (by omega)] at hy
      exact ⟨k + 1, ⟨by omega, by simpa [hb] using hy⟩, by omega, (.cons rfl rfl (.cons rfl rfl (.cons rfl rfl (.nil)))), rfl, rfl⟩
    · rw [drop_nil (by omega), drop_nil (by omega)] at hy
      refine ⟨.inr rfl, _, _, rfl, .cons (.c (.id rfl)) .nil, ?_⟩
      have hy := hy.2 rfl
      simp [resV, X.v, hy]
/-! ### Message -/
structure Msg where
  kind : Int
  to : Int
  epoch : Int
  conf : Cfg
  log : List Ent
  deriving DecidableEq
def Msg.e (a : Msg) : List T := [tI a.kind, tI a.to, tI a.epoch, tI a.conf.epoch, .l (a.conf.mem.map eI), .b a.conf.fresh, .l (a.log.map Ent.e)]
structure Msg.Fit (a : Msg) : Prop where
  kind : i64 a.kind
  to : i64 a.to
  epoch : i64 a.epoch
  conf : a.conf.Fit
  logN : a.log.length ≤ 9223372036854775807
  log : ∀ x ∈ a.log, x.Fit
structure Msg.Sm (a : Msg) : Prop where
  conf : a.conf.Sm
  logN : a.log.length ≤ 1048576
  log : ∀ x ∈ a.log, x.Sm
def Msg.sz (a : Msg) : Int → Int := andz (Cfg.sz a.conf) (andz (Ent.szs a.log) id)
theorem Msg.sz_lo (a : Msg) : Lo a.sz := (andz_lo (Cfg.sz_lo _) (andz_lo (Ent.szs_lo _) id_lo))
theorem Msg.sz_sm (a : Msg) {x : Int} (h0 : 0 ≤ x) (h1 : x ≤ 1048576) (h : 0 ≤ a.sz x) : a.Sm := by
  unfold Msg.sz at h
  obtain ⟨g0, h⟩ := andz_ge h
  have s0 := Cfg.sz_sm _ h0 h1 g0
  have b0 := Int.le_trans ((Cfg.sz_lo _ : Lo (Cfg.sz a.conf)) _ h0) h1
  obtain ⟨g1, h⟩ := andz_ge h
  have s1 := Ent.szs_sm _ g0 b0 g1
  exact ⟨s0, s1.1, s1.2⟩
theorem Msg.sz_ok (a : Msg) (hf : a.Fit) (x : Int) (h0 : 0 ≤ x) (h1 : x ≤ 1048576) : Pu Tryz.prog 157 [A a.e, I x] (I (a.sz x)) := by
  have q0 := (Cfg.sz_lo _ : Lo (Cfg.sz a.conf)) x h0
  have q1 := (Ent.szs_lo _ : Lo (Ent.szs a.log)) (Cfg.sz a.conf x)
  refine Pu.of D Tryz.func157 rfl rfl rfl ?_
  repeat' (first
    | (refine W.cond rfl ?_ ?_ <;> intro hb <;> try simp at hb)
    | refine cl (Cfg.sz_ok a.conf hf.conf (x) h0 h1) ?_
    | refine cl (Ent.szs_ok a.log hf.logN hf.log (Cfg.sz a.conf x) (by omega) (by omega)) ?_
    | refine goO ?_
    | refine goS ?_
    | (refine WO.gs _ rfl rfl rfl ?_ ?_ <;> intro hb <;> simp only [hb] <;> try simp at hb))
  all_goals refine ⟨.inr rfl, _, _, rfl, .cons (.c (.id rfl)) .nil, ?_⟩
  all_goals (simp only [resV, X.v, Msg.sz, andz, sz1, id, V.c.injEq, C.t.injEq, T.i.injEq, true_and] at *; grind)
def Msg.szs (l : List Msg) : Int → Int := andz (sz1 l.length) (szL Msg.sz l)
theorem Msg.szs_lo (l : List Msg) : Lo (Msg.szs l) := andz_lo (sz1_lo _) (szL_lo Msg.sz_lo l)
theorem Msg.szs_sm (l : List Msg) {x : Int} (h0 : 0 ≤ x) (h1 : x ≤ 1048576) (h : 0 ≤ Msg.szs l x) : l.length ≤ 1048576 ∧ ∀ a ∈ l, a.Sm := by
  obtain ⟨g0, h⟩ := andz_ge h
  have b0 := Int.le_trans ((sz1_lo _ : Lo (sz1 l.length)) _ h0) h1
  refine ⟨sz1_sm h0 h1 g0, fun a ha => ?_⟩
  obtain ⟨y, y0, y1, y2⟩ := szL_ge Msg.sz_lo l g0 h a ha
  exact a.sz_sm y0 (by omega) y2
theorem Msg.szs_ok (l : List Msg) (hl : l.length ≤ 9223372036854775807) (hk : ∀ a ∈ l, a.Fit) (x : Int) (h0 : 0 ≤ x) (h1 : x ≤ 1048576) : Pu Tryz.prog 57 [L Msg.e l, I x] (I (Msg.szs l x)) := by
  refine Pu.of D Tryz.func57 rfl rfl rfl ?_
  repeat' (first
    | (refine W.cond rfl ?_ ?_ <;> intro hb <;> try simp at hb)
    | refine goO ?_
    | refine goS ?_
    | (refine WO.gs _ rfl rfl rfl ?_ ?_ <;> intro hb <;> simp only [hb] <;> try simp at hb))
  · refine ⟨.inr rfl, _, _, rfl, .cons (.c (.id rfl)) .nil, ?_⟩
    have : sz1 l.length x = -1 := if_pos (by omega)
    simp [resV, X.v, Msg.szs, andz, this]
  have hx : sz1 l.length x = x - l.length := if_neg (by omega)
  have hs : Msg.szs l x = szL Msg.sz l (x - l.length) := by unfold Msg.szs andz; rw [hx, if_neg (by omega)]
  refine W.loop (σ := Nat × Int) (fun s => [(5, I s.1), (1, I s.2), (0, L Msg.e l)]) (fun _ => []) (fun s => s.1 ≤ l.length ∧ 0 ≤ s.2 ∧ s.2 ≤ 1048576 ∧ szL Msg.sz (l.drop s.1) s.2 = Msg.szs l x) (fun s => l.length - s.1) 0 (fun _ _ => rfl) (0, x - l.length) ⟨by simp, by omega, by omega, by simp [hs]⟩ rfl (.cons rfl rfl (.cons rfl rfl (.cons rfl rfl (.nil)))) ?_
  rintro ⟨k, y⟩ ⟨hk1, hy0, hy1, hy⟩
  dsimp only at hk1 hy0 hy1 hy
  repeat' (first
    | (refine W.cond rfl ?_ ?_ <;> intro hb <;> try simp at hb)
    | refine cl (Msg.sz_ok l[k] (hk _ (List.getElem_mem _)) y hy0 hy1) ?_
    | refine goO ?_
    | refine goS ?_
    | (refine WO.gs _ rfl rfl rfl ?_ ?_ <;> intro hb <;> simp only [hb] <;> try simp at hb))
  · have hlt : k < l.length := by assumption
    rw [szL_cons _ hlt, if_pos hb] at hy
    refine ⟨.inr rfl, _, _, rfl, .cons (.c (.id rfl)) .nil, ?_⟩
    simp [resV, X.v, ← hy]
  · have hlt : k < l.length := by assumption
    rw [szL_cons _ hlt, if_neg (by omega)] at hy
    exact ⟨(k + 1, l[k].sz y), ⟨hlt, hb, Int.le_trans (Msg.sz_lo _ _ hy0) hy1, hy⟩, by dsimp only; omega, (.cons rfl rfl (.cons rfl rfl (.cons rfl rfl (.nil)))), rfl, rfl⟩
  · rw [szL_nil _ hb] at hy
    refine ⟨.inr rfl, _, _, rfl, .cons (.c (.id rfl)) .nil, ?_⟩
    simp [resV, X.v, ← hy]
theorem Msg.to_ok (a : Msg) (hs : a.Sm) : Pu Tryz.prog 168 [A a.e] (A a.e) := by
  refine Pu.of D Tryz.func168 rfl rfl rfl ?_
  repeat' (first
    | (refine W.cond rfl ?_ ?_ <;> intro hb <;> try simp at hb)
    | refine cl (Cfg.to_ok a.conf hs.conf) ?_
    | refine cl (Ent.tos_ok a.log hs.logN hs.log) ?_
    | refine goO ?_
    | refine goS ?_
    | (refine WO.gs _ rfl rfl rfl ?_ ?_ <;> intro hb <;> simp only [hb] <;> try simp at hb))
  all_goals refine ⟨.inr rfl, _, _, rfl, .cons (.ag (.cons (.id rfl) (.cons (.id rfl) (.cons (.id rfl) (.cons (.id rfl) (.cons (.id rfl) (.cons (.id rfl) (.cons (.id rfl) .nil)))))))) .nil, ?_⟩
  all_goals rfl
theorem Msg.eq_ok (a b : Msg) (hs : a.Sm) : Pu Tryz.prog 179 [A a.e, A b.e] (B (decide (a = b))) := by
  refine Pu.of D Tryz.func179 rfl rfl rfl ?_
  repeat' (first
    | (refine W.cond rfl ?_ ?_ <;> intro hb <;> try simp at hb)
    | refine cl (Cfg.eq_ok a.conf b.conf hs.conf) ?_
    | refine cl (Ent.eqs_ok a.log b.log hs.logN hs.log) ?_
    | refine goO ?_
    | refine goS ?_
    | (refine WO.gs _ rfl rfl rfl ?_ ?_ <;> intro hb <;> simp only [hb] <;> try simp at hb))
  all_goals refine ⟨.inr rfl, _, _, rfl, .cons (.c (.id rfl)) .nil, ?_⟩
  all_goals (cases a; cases b; simp [resV, X.v] at *; grind)
theorem Msg.tos_ok (l : List Msg) (hl : l.length ≤ 1048576) (hs : ∀ a ∈ l, a.Sm) : Pu Tryz.prog 65 [L Msg.e l] (L Msg.e l) := by
  refine Pu.of D Tryz.func65 rfl rfl rfl ?_
  repeat' (first
    | (refine W.cond rfl ?_ ?_ <;> intro hb <;> try simp at hb)
    | refine OpK.of (OpOk.mks D rfl rfl rfl rfl rfl rfl (by omega) (by decide) ⟨by dsimp only; omega, by omega⟩) ?_
    | refine goO ?_
    | refine goS ?_
    | (refine WO.gs _ rfl rfl rfl ?_ ?_ <;> intro hb <;> simp only [hb] <;> try simp at hb))
  refine W.loop (σ := Nat × List (List C)) (fun s => [(4, I s.1), (3, .c (.sl 0 l.length 0 l.length)), (0, L Msg.e l)]) (fun s => [.arr s.2 7]) (fun s => s.1 ≤ l.length ∧ s.2.length = l.length ∧ (∀ el ∈ s.2, el.length = 7 ∧ el.all (·.low 1) = true) ∧ ∀ (j : Nat) a, j < s.1 → l[j]? = some a → s.2[j]? = some ((Msg.e a).map .t)) (fun s => l.length - s.1) 1 (fun _ _ => rfl) (0, List.replicate l.length _) ⟨by simp, by simp, fun el hel => ?_, fun j a h => by simp at h⟩ rfl (.cons rfl rfl (.cons rfl rfl (.cons rfl rfl (.nil)))) ?_
  · rw [List.eq_of_mem_replicate hel]; exact ⟨rfl, rfl⟩
  rintro ⟨k, es⟩ ⟨hk1, hn, h6, hy⟩
  dsimp only at hk1 hn h6 hy
  repeat' (first
    | (refine W.cond rfl ?_ ?_ <;> intro hb <;> try simp at hb)
    | refine cl (Msg.to_ok l[k] (hs _ (List.getElem_mem _))) ?_
    | refine OpK.of (OpOk.ixA D rfl rfl rfl rfl rfl rfl rfl hn.symm rfl (by omega) (by omega)) ?_
    | refine OpK.of (OpOk.stA D rfl rfl rfl rfl hn.symm (List.getElem?_eq_getElem (by simp; omega)) rfl rfl rfl rfl (Nat.le_of_ble_eq_true rfl)) ?_
    | refine goO ?_
    | refine goS ?_
    | (refine WO.gs _ rfl rfl rfl ?_ ?_ <;> intro hb <;> simp only [hb] <;> try simp at hb))
  · obtain ⟨a1, a2, a3⟩ := made_step (e := Msg.e) hb hn h6 hy rfl (by simp; omega)
    exact ⟨(k + 1, _), ⟨hb, a1, a2, a3⟩, by dsimp only; omega, (.cons rfl rfl (.cons rfl rfl (.cons rfl rfl (.nil)))), rfl, low_arr a2⟩
  · exact ⟨.inr rfl, _, _, rfl, .cons (.c (.full rfl rfl (all_of hn fun j a ha => hy j a (by have := (List.getElem?_eq_some_iff.1 ha).1; omega) ha))) .nil, rfl⟩
theorem Msg.eqs_ok (l r : List Msg) (hl : l.length ≤ 1048576) (hs : ∀ a ∈ l, a.Sm) : Pu Tryz.prog 73 [L Msg.e l, L Msg.e r] (B (decide (l = r))) := by
  refine Pu.of D Tryz.func73 rfl rfl rfl ?_
  repeat' (first
    | (refine W.cond rfl ?_ ?_ <;> intro hb <;> try simp at hb)
    | refine goO ?_
    | refine goS ?_
    | (refine WO.gs _ rfl rfl rfl ?_ ?_ <;> intro hb <;> simp only [hb] <;> try simp at hb)
    | (refine WD.gs _ rfl rfl rfl ?_ ?_ <;> intro hb <;> simp only [hb] <;> try simp at hb))
  · refine ⟨.inr rfl, _, _, rfl, .cons (.c (.id rfl)) .nil, ?_⟩
    have : ¬ l = r := by rintro rfl; simp at hb
    simp [resV, X.v, this]
  · have hlr : l.length = r.length := by omega
    refine W.loop (σ := Nat) (fun k => [(5, I k), (1, L Msg.e r), (0, L Msg.e l)]) (fun _ => []) (fun k => k ≤ l.length ∧ (l = r ↔ l.drop k = r.drop k)) (fun k => l.length - k) 0 (fun _ _ => rfl) 0 ⟨by simp, by simp⟩ rfl (.cons rfl rfl (.cons rfl rfl (.cons rfl rfl (.nil)))) ?_
    rintro k ⟨hk1, hy⟩
    repeat' (first
    | (refine W.cond rfl ?_ ?_ <;> intro hb <;> try simp at hb)
    | refine cl (Msg.eq_ok l[k] r[k] (hs _ (List.getElem_mem _))) ?_
    | refine goO ?_
    | refine goS ?_
    | (refine WO.gs _ rfl rfl rfl ?_ ?_ <;> intro hb <;> simp only [hb] <;> try simp at hb)
    | (refine WD.gs _ rfl rfl rfl ?_ ?_ <;> intro hb <;> simp only [hb] <;> try simp at hb))
    · rw [drop_eq (by omega) (by omega)] at hy
      refine ⟨.inr rfl, _, _, rfl, .cons (.c (.id rfl)) .nil, ?_⟩
      simp [resV, X.v, hy, hb]
    · rw [drop_eq (by omega) (by omega)] at hy
      exact ⟨k + 1, ⟨by omega, by simpa [hb] using hy⟩, by omega, (.cons rfl rfl (.cons rfl rfl (.cons rfl rfl (.nil)))), rfl, rfl⟩
    · rw [drop_nil (by omega), drop_nil (by omega)] at hy
      refine ⟨.inr rfl, _, _, rfl, .cons (.c (.id rfl)) .nil, ?_⟩
      have hy := hy.2 rfl
      simp [resV, X.v, hy]
/-! ### Answer -/
structure Ans where
  asked : Ent
  reply : Int
  deriving DecidableEq
def Ans.e (a : Ans) : List T := [tI a.asked.client, tI a.asked.seq, tI a.asked.cmd.kind, .s a.asked.cmd.key, tI a.asked.cmd.val, tI a.asked.cmd.old, tI a.reply]
structure Ans.Fit (a : Ans) : Prop where
  asked : a.asked.Fit
  reply : i64 a.reply
structure Ans.Sm (a : Ans) : Prop where
  asked : a.asked.Sm
def Ans.sz (a : Ans) : Int → Int := andz (Ent.sz a.asked) id
theorem Ans.sz_lo (a : Ans) : Lo a.sz := (andz_lo (Ent.sz_lo _) id_lo)
theorem Ans.sz_sm (a : Ans) {x : Int} (h0 : 0 ≤ x) (h1 : x ≤ 1048576) (h : 0 ≤ a.sz x) : a.Sm := by
  unfold Ans.sz at h
  obtain ⟨g0, h⟩ := andz_ge h
  have s0 := Ent.sz_sm _ h0 h1 g0
  exact ⟨s0⟩
theorem Ans.sz_ok (a : Ans) (hf : a.Fit) (x : Int) (h0 : 0 ≤ x) (h1 : x ≤ 1048576) : Pu Tryz.prog 158 [A a.e, I x] (I (a.sz x)) := by
  have q0 := (Ent.sz_lo _ : Lo (Ent.sz a.asked)) x h0
  refine Pu.of D Tryz.func158 rfl rfl rfl ?_
  repeat' (first
    | (refine W.cond rfl ?_ ?_ <;> intro hb <;> try simp at hb)
    | refine cl (Ent.sz_ok a.asked hf.asked (x) h0 h1) ?_
    | refine goO ?_
    | refine goS ?_
    | (refine WO.gs _ rfl rfl rfl ?_ ?_ <;> intro hb <;> simp only [hb] <;> try simp at hb))
  all_goals refine ⟨.inr rfl, _, _, rfl, .cons (.c (.id rfl)) .nil, ?_⟩
  all_goals (simp only [resV, X.v, Ans.sz, andz, sz1, id, V.c.injEq, C.t.injEq, T.i.injEq, true_and] at *; grind)
def Ans.szs (l : List Ans) : Int → Int := andz (sz1 l.length) (szL Ans.sz l)
theorem Ans.szs_lo (l : List Ans) : Lo (Ans.szs l) := andz_lo (sz1_lo _) (szL_lo Ans.sz_lo l)
theorem Ans.szs_sm (l : List Ans) {x : Int} (h0 : 0 ≤ x) (h1 : x ≤ 1048576) (h : 0 ≤ Ans.szs l x) : l.length ≤ 1048576 ∧ ∀ a ∈ l, a.Sm := by
  obtain ⟨g0, h⟩ := andz_ge h
  have b0 := Int.le_trans ((sz1_lo _ : Lo (sz1 l.length)) _ h0) h1
  refine ⟨sz1_sm h0 h1 g0, fun a ha => ?_⟩
  obtain ⟨y, y0, y1, y2⟩ := szL_ge Ans.sz_lo l g0 h a ha
  exact a.sz_sm y0 (by omega) y2
theorem Ans.szs_ok (l : List Ans) (hl : l.length ≤ 9223372036854775807) (hk : ∀ a ∈ l, a.Fit) (x : Int) (h0 : 0 ≤ x) (h1 : x ≤ 1048576) : Pu Tryz.prog 58 [L Ans.e l, I x] (I (Ans.szs l x)) := by
  refine Pu.of D Tryz.func58 rfl rfl rfl ?_
  repeat' (first
    | (refine W.cond rfl ?_ ?_ <;> intro hb <;> try simp at hb)
    | refine goO ?_
    | refine goS ?_
    | (refine WO.gs _ rfl rfl rfl ?_ ?_ <;> intro hb <;> simp only [hb] <;> try simp at hb))
  · refine ⟨.inr rfl, _, _, rfl, .cons (.c (.id rfl)) .nil, ?_⟩
    have : sz1 l.length x = -1 := if_pos (by omega)
    simp [resV, X.v, Ans.szs, andz, this]
  have hx : sz1 l.length x = x - l.length := if_neg (by omega)
  have hs : Ans.szs l x = szL Ans.sz l (x - l.length) := by unfold Ans.szs andz; rw [hx, if_neg (by omega)]
  refine W.loop (σ := Nat × Int) (fun s => [(5, I s.1), (1, I s.2), (0, L Ans.e l)]) (fun _ => []) (fun s => s.1 ≤ l.length ∧ 0 ≤ s.2 ∧ s.2 ≤ 1048576 ∧ szL Ans.sz (l.drop s.1) s.2 = Ans.szs l x) (fun s => l.length - s.1) 0 (fun _ _ => rfl) (0, x - l.length) ⟨by simp, by omega, by omega, by simp [hs]⟩ rfl (.cons rfl rfl (.cons rfl rfl (.cons rfl rfl (.nil)))) ?_
  rintro ⟨k, y⟩ ⟨hk1, hy0, hy1, hy⟩
  dsimp only at hk1 hy0 hy1 hy
  repeat' (first
    | (refine W.cond rfl ?_ ?_ <;> intro hb <;> try simp at hb)
    | refine cl (Ans.sz_ok l[k] (hk _ (List.getElem_mem _)) y hy0 hy1) ?_
    | refine goO ?_
    | refine goS ?_
    | (refine WO.gs _ rfl rfl rfl ?_ ?_ <;> intro hb <;> simp only [hb] <;> try simp at hb))
  · have hlt : k < l.length := by assumption
    rw [szL_cons _ hlt, if_pos hb] at hy
    refine ⟨.inr rfl, _, _, rfl, .cons (.c (.id rfl)) .nil, ?_⟩
    simp [resV, X.v, ← hy]
  · have hlt : k < l.length := by assumption
    rw [szL_cons _ hlt, if_neg (by omega)] at hy
    exact ⟨(k + 1, l[k].sz y), ⟨hlt, hb, Int.le_trans (Ans.sz_lo _ _ hy0) hy1, hy⟩, by dsimp only; omega, (.cons rfl rfl (.cons rfl rfl (.cons rfl rfl (.nil)))), rfl, rfl⟩
  · rw [szL_nil _ hb] at hy
    refine ⟨.inr rfl, _, _, rfl, .cons (.c (.id rfl)) .nil, ?_⟩
    simp [resV, X.v, ← hy]
theorem Ans.to_ok (a : Ans) (hs : a.Sm) : Pu Tryz.prog 169 [A a.e] (A a.e) := by
  refine Pu.of D Tryz.func169 rfl rfl rfl ?_
  repeat' (first
    | (refine W.cond rfl ?_ ?_ <;> intro hb <;> try simp at hb)
    | refine cl (Ent.to_ok a.asked hs.asked) ?_
    | refine goO ?_
    | refine goS ?_
    | (refine WO.gs _ rfl rfl rfl ?_ ?_ <;> intro hb <;> simp only [hb] <;> try simp at hb))
  all_goals refine ⟨.inr rfl, _, _, rfl, .cons (.ag (.cons (.id rfl) (.cons (.id rfl) (.cons (.id rfl) (.cons (.id rfl) (.cons (.id rfl) (.cons (.id rfl) (.cons (.id rfl) .nil)))))))) .nil, ?_⟩
  all_goals rfl
theorem Ans.eq_ok (a b : Ans) (hs : a.Sm) : Pu Tryz.prog 180 [A a.e, A b.e] (B (decide (a = b))) := by
  refine Pu.of D Tryz.func180 rfl rfl rfl ?_
  repeat' (first
    | (refine W.cond rfl ?_ ?_ <;> intro hb <;> try simp at hb)
    | refine cl (Ent.eq_ok a.asked b.asked hs.asked) ?_
    | refine goO ?_
    | refine goS ?_
    | (refine WO.gs _ rfl rfl rfl ?_ ?_ <;> intro hb <;> simp only [hb] <;> try simp at hb))
  all_goals refine ⟨.inr rfl, _, _, rfl, .cons (.c (.id rfl)) .nil, ?_⟩
  all_goals (cases a; cases b; simp [resV, X.v] at *; grind)
theorem Ans.tos_ok (l : List Ans) (hl : l.length ≤ 1048576) (hs : ∀ a ∈ l, a.Sm) : Pu Tryz.prog 66 [L Ans.e l] (L Ans.e l) := by
  refine Pu.of D Tryz.func66 rfl rfl rfl ?_
  repeat' (first
    | (refine W.cond rfl ?_ ?_ <;> intro hb <;> try simp at hb)
    | refine OpK.of (OpOk.mks D rfl rfl rfl rfl rfl rfl (by omega) (by decide) ⟨by dsimp only; omega, by omega⟩) ?_
    | refine goO ?_
    | refine goS ?_
    | (refine WO.gs _ rfl rfl rfl ?_ ?_ <;> intro hb <;> simp only [hb] <;> try simp at hb))
  refine W.loop (σ := Nat × List (List C)) (fun s => [(4, I s.1), (3, .c (.sl 0 l.length 0 l.length)), (0, L Ans.e l)]) (fun s => [.arr s.2 7]) (fun s => s.1 ≤ l.length ∧ s.2.length = l.length ∧ (∀ el ∈ s.2, el.length = 7 ∧ el.all (·.low 1) = true) ∧ ∀ (j : Nat) a, j < s.1 → l[j]? = some a → s.2[j]? = some ((Ans.e a).map .t)) (fun s => l.length - s.1) 1 (fun _ _ => rfl) (0, List.replicate l.length _) ⟨by simp, by simp, fun el hel => ?_, fun j a h => by simp at h⟩ rfl (.cons rfl rfl (.cons rfl rfl (.cons rfl rfl (.nil)))) ?_
  · rw [List.eq_of_mem_replicate hel]; exact ⟨rfl, rfl⟩
  rintro ⟨k, es⟩ ⟨hk1, hn, h6, hy⟩
  dsimp only at hk1 hn h6 hy
  repeat' (first
    | (refine W.cond rfl ?_ ?_ <;> intro hb <;> try simp at hb)
    | refine cl (Ans.to_ok l[k] (hs _ (List.getElem_mem _))) ?_
    | refine OpK.of (OpOk.ixA D rfl rfl rfl rfl rfl rfl rfl hn.symm rfl (by omega) (by omega)) ?_
    | refine OpK.of (OpOk.stA D rfl rfl rfl rfl hn.symm (List.getElem?_eq_getElem (by simp; omega)) rfl rfl rfl rfl (Nat.le_of_ble_eq_true rfl)) ?_
    | refine goO ?_
    | refine goS ?_
    | (refine WO.gs _ rfl rfl rfl ?_ ?_ <;> intro hb <;> simp only [hb] <;> try simp at hb))
  · obtain ⟨a1, a2, a3⟩ := made_step (e := Ans.e) hb hn h6 hy rfl (by simp; omega)
    exact ⟨(k + 1, _), ⟨hb, a1, a2, a3⟩, by dsimp only; omega, (.cons rfl rfl (.cons rfl rfl (.cons rfl rfl (.nil)))), rfl, low_arr a2⟩
  · exact ⟨.inr rfl, _, _, rfl, .cons (.c (.full rfl rfl (all_of hn fun j a ha => hy j a (by have := (List.getElem?_eq_some_iff.1 ha).1; omega) ha))) .nil, rfl⟩
theorem Ans.eqs_ok (l r : List Ans) (hl : l.length ≤ 1048576) (hs : ∀ a ∈ l, a.Sm) : Pu Tryz.prog 74 [L Ans.e l, L Ans.e r] (B (decide (l = r))) := by
  refine Pu.of D Tryz.func74 rfl rfl rfl ?_
  repeat' (first
    | (refine W.cond rfl ?_ ?_ <;> intro hb <;> try simp at hb)
    | refine goO ?_
    | refine goS ?_
    | (refine WO.gs _ rfl rfl rfl ?_ ?_ <;> intro hb <;> simp only [hb] <;> try simp at hb)
    | (refine WD.gs _ rfl rfl rfl ?_ ?_ <;> intro hb <;> simp only [hb] <;> try simp at hb))
  · refine ⟨.inr rfl, _, _, rfl, .cons (.c (.id rfl)) .nil, ?_⟩
    have : ¬ l = r := by rintro rfl; simp at hb
    simp [resV, X.v, this]
  · have hlr : l.length = r.length := by omega
    refine W.loop (σ := Nat) (fun k => [(5, I k), (1, L Ans.e r), (0, L Ans.e l)]) (fun _ => []) (fun k => k ≤ l.length ∧ (l = r ↔ l.drop k = r.drop k)) (fun k => l.length - k) 0 (fun _ _ => rfl) 0 ⟨by simp, by simp⟩ rfl (.cons rfl rfl (.cons rfl rfl (.cons rfl rfl (.nil)))) ?_
    rintro k ⟨hk1, hy⟩
    repeat' (first
    | (refine W.cond rfl ?_ ?_ <;> intro hb <;> try simp at hb)
    | refine cl (Ans.eq_ok l[k] r[k] (hs _ (List.getElem_mem _))) ?_
    | refine goO ?_
    | refine goS ?_
    | (refine WO.gs _ rfl rfl rfl ?_ ?_ <;> intro hb <;> simp only [hb] <;> try simp at hb)
    | (refine WD.gs _ rfl rfl rfl ?_ ?_ <;> intro hb <;> simp only [hb] <;> try simp at hb))
    · rw [drop_eq (by omega) (by omega)] at hy
      refine ⟨.inr rfl, _, _, rfl, .cons (.c (.id rfl)) .nil, ?_⟩
      simp [resV, X.v, hy, hb]
    · rw [drop_eq (by omega) (by omega)] at hy
      exact ⟨k + 1, ⟨by omega, by simpa [hb] using hy⟩, by omega, (.cons rfl rfl (.cons rfl rfl (.cons rfl rfl (.nil)))), rfl, rfl⟩
    · rw [drop_nil (by omega), drop_nil (by omega)] at hy
      refine ⟨.inr rfl, _, _, rfl, .cons (.c (.id rfl)) .nil, ?_⟩
      have hy := hy.2 rfl
      simp [resV, X.v, hy]
/-! ### Chain -/
structure Chn where
  base : Stt
  conf : Cfg
  nodes : List Rep
  up : List Bool
  bag : List Msg
  answers : List Ans
  deriving DecidableEq
def Chn.e (a : Chn) : List T := [.s a.base.span.lo, .s a.base.span.hi, .l (a.base.pairs.map Pr.e), .l (a.base.known.map Ses.e), .b a.base.sealed, .s a.base.cut, tI a.conf.epoch, .l (a.conf.mem.map eI), .b a.conf.fresh, .l (a.nodes.map Rep.e), .l (a.up.map eB), .l (a.bag.map Msg.e), .l (a.answers.map Ans.e)]
structure Chn.Fit (a : Chn) : Prop where
  base : a.base.Fit
  conf : a.conf.Fit
  nodesN : a.nodes.length ≤ 9223372036854775807
  nodes : ∀ x ∈ a.nodes, x.Fit
  upN : a.up.length ≤ 9223372036854775807
  bagN : a.bag.length ≤ 9223372036854775807
  bag : ∀ x ∈ a.bag, x.Fit
  answersN : a.answers.length ≤ 9223372036854775807
  answers : ∀ x ∈ a.answers, x.Fit
structure Chn.Sm (a : Chn) : Prop where
  base : a.base.Sm
  conf : a.conf.Sm
  nodesN : a.nodes.length ≤ 1048576
  nodes : ∀ x ∈ a.nodes, x.Sm
  upN : a.up.length ≤ 1048576
  bagN : a.bag.length ≤ 1048576
  bag : ∀ x ∈ a.bag, x.Sm
  answersN : a.answers.length ≤ 1048576
  answers : ∀ x ∈ a.answers, x.Sm
def Chn.sz (a : Chn) : Int → Int := andz (Stt.sz a.base) (andz (Cfg.sz a.conf) (andz (Rep.szs a.nodes) (andz (sz1 a.up.length) (andz (Msg.szs a.bag) (andz (Ans.szs a.answers) id)))))
theorem Chn.sz_lo (a : Chn) : Lo a.sz := (andz_lo (Stt.sz_lo _) (andz_lo (Cfg.sz_lo _) (andz_lo (Rep.szs_lo _) (andz_lo (sz1_lo _) (andz_lo (Msg.szs_lo _) (andz_lo (Ans.szs_lo _) id_lo))))))
theorem Chn.sz_sm (a : Chn) {x : Int} (h0 : 0 ≤ x) (h1 : x ≤ 1048576) (h : 0 ≤ a.sz x) : a.Sm := by
  unfold Chn.sz at h
  obtain ⟨g0, h⟩ := andz_ge h
  have s0 := Stt.sz_sm _ h0 h1 g0
  have b0 := Int.le_trans ((Stt.sz_lo _ : Lo (Stt.sz a.base)) _ h0) h1
  obtain ⟨g1, h⟩ := andz_ge h
  have s1 := Cfg.sz_sm _ g0 b0 g1
  have b1 := Int.le_trans ((Cfg.sz_lo _ : Lo (Cfg.sz a.conf)) _ g0) b0
  obtain ⟨g2, h⟩ := andz_ge h
  have s2 := Rep.szs_sm _ g1 b1 g2
  have b2 := Int.le_trans ((Rep.szs_lo _ : Lo (Rep.szs a.nodes)) _ g1) b1
  obtain ⟨g3, h⟩ := andz_ge h
  have s3 := sz1_sm g2 b2 g3
  have b3 := Int.le_trans ((sz1_lo _ : Lo (sz1 a.up.length)) _ g2) b2
  obtain ⟨g4, h⟩ := andz_ge h
  have s4 := Msg.szs_sm _ g3 b3 g4
  have b4 := Int.le_trans ((Msg.szs_lo _ : Lo (Msg.szs a.bag)) _ g3) b3
  obtain ⟨g5, h⟩ := andz_ge h
  have s5 := Ans.szs_sm _ g4 b4 g5
  exact ⟨s0, s1, s2.1, s2.2, s3, s4.1, s4.2, s5.1, s5.2⟩
theorem Chn.sz_ok (a : Chn) (hf : a.Fit) (x : Int) (h0 : 0 ≤ x) (h1 : x ≤ 1048576) : Pu Tryz.prog 13 [A a.e, I x] (I (a.sz x)) := by
  have q0 := (Stt.sz_lo _ : Lo (Stt.sz a.base)) x h0
  have q1 := (Cfg.sz_lo _ : Lo (Cfg.sz a.conf)) (Stt.sz a.base x)
  have q2 := (Rep.szs_lo _ : Lo (Rep.szs a.nodes)) (Cfg.sz a.conf (Stt.sz a.base x))
  have q3 := (sz1_lo _ : Lo (sz1 a.up.length)) (Rep.szs a.nodes (Cfg.sz a.conf (Stt.sz a.base x)))
  have q4 := (Msg.szs_lo _ : Lo (Msg.szs a.bag)) (sz1 a.up.length (Rep.szs a.nodes (Cfg.sz a.conf (Stt.sz a.base x))))
  have q5 := (Ans.szs_lo _ : Lo (Ans.szs a.answers)) (Msg.szs a.bag (sz1 a.up.length (Rep.szs a.nodes (Cfg.sz a.conf (Stt.sz a.base x)))))
  refine Pu.of D Tryz.func13 rfl rfl rfl ?_
  repeat' (first
    | (refine W.cond rfl ?_ ?_ <;> intro hb <;> try simp at hb)
    | refine cl (Stt.sz_ok a.base hf.base (x) h0 h1) ?_
    | refine cl (Cfg.sz_ok a.conf hf.conf (Stt.sz a.base x) (by omega) (by omega)) ?_
    | refine cl (Rep.szs_ok a.nodes hf.nodesN hf.nodes (Cfg.sz a.conf (Stt.sz a.base x)) (by omega) (by omega)) ?_
    | refine cl (szBs_ok a.up hf.upN (Rep.szs a.nodes (Cfg.sz a.conf (Stt.sz a.base x))) (by omega) (by omega)) ?_
    | refine cl (Msg.szs_ok a.bag hf.bagN hf.bag (sz1 a.up.length (Rep.szs a.nodes (Cfg.sz a.conf (Stt.sz a.base x)))) (by omega) (by omega)) ?_
    | refine cl (Ans.szs_ok a.answers hf.answersN hf.answers (Msg.szs a.bag (sz1 a.up.length (Rep.szs a.nodes (Cfg.sz a.conf (Stt.sz a.base x))))) (by omega) (by omega)) ?_
    | refine goO ?_
    | refine goS ?_
    | (refine WO.gs _ rfl rfl rfl ?_ ?_ <;> intro hb <;> simp only [hb] <;> try simp at hb))
  all_goals refine ⟨.inr rfl, _, _, rfl, .cons (.c (.id rfl)) .nil, ?_⟩
  all_goals (simp only [resV, X.v, Chn.sz, andz, sz1, id, V.c.injEq, C.t.injEq, T.i.injEq, true_and] at *; grind)
def Chn.szs (l : List Chn) : Int → Int := andz (sz1 l.length) (szL Chn.sz l)
theorem Chn.szs_lo (l : List Chn) : Lo (Chn.szs l) := andz_lo (sz1_lo _) (szL_lo Chn.sz_lo l)
theorem Chn.szs_sm (l : List Chn) {x : Int} (h0 : 0 ≤ x) (h1 : x ≤ 1048576) (h : 0 ≤ Chn.szs l x) : l.length ≤ 1048576 ∧ ∀ a ∈ l, a.Sm := by
  obtain ⟨g0, h⟩ := andz_ge h
  have b0 := Int.le_trans ((sz1_lo _ : Lo (sz1 l.length)) _ h0) h1
  refine ⟨sz1_sm h0 h1 g0, fun a ha => ?_⟩
  obtain ⟨y, y0, y1, y2⟩ := szL_ge Chn.sz_lo l g0 h a ha
  exact a.sz_sm y0 (by omega) y2
set_option maxHeartbeats 4000000 in
theorem Chn.to_ok (a : Chn) (hs : a.Sm) : Pu Tryz.prog 15 [A a.e] (A a.e) := by
  refine Pu.of D Tryz.func15 rfl rfl rfl ?_
  repeat' (first
    | (refine W.cond rfl ?_ ?_ <;> intro hb <;> try simp at hb)
    | refine cl (Stt.to_ok a.base hs.base) ?_
    | refine cl (Cfg.to_ok a.conf hs.conf) ?_
    | refine cl (Rep.tos_ok a.nodes hs.nodesN hs.nodes) ?_
    | refine cl (toBs_ok a.up hs.upN) ?_
    | refine cl (Msg.tos_ok a.bag hs.bagN hs.bag) ?_
    | refine cl (Ans.tos_ok a.answers hs.answersN hs.answers) ?_
    | refine goO ?_
    | refine goS ?_
    | (refine WO.gs _ rfl rfl rfl ?_ ?_ <;> intro hb <;> simp only [hb] <;> try simp at hb))
  all_goals refine ⟨.inr rfl, _, _, rfl, .cons (.ag (.cons (.id rfl) (.cons (.id rfl) (.cons (.id rfl) (.cons (.id rfl) (.cons (.id rfl) (.cons (.id rfl) (.cons (.id rfl) (.cons (.id rfl) (.cons (.id rfl) (.cons (.id rfl) (.cons (.id rfl) (.cons (.id rfl) (.cons (.id rfl) .nil)))))))))))))) .nil, ?_⟩
  all_goals rfl
theorem Chn.eq_ok (a b : Chn) (hs : a.Sm) : Pu Tryz.prog 17 [A a.e, A b.e] (B (decide (a = b))) := by
  refine Pu.of D Tryz.func17 rfl rfl rfl ?_
  repeat' (first
    | (refine W.cond rfl ?_ ?_ <;> intro hb <;> try simp at hb)
    | refine cl (Stt.eq_ok a.base b.base hs.base) ?_
    | refine cl (Cfg.eq_ok a.conf b.conf hs.conf) ?_
    | refine cl (Rep.eqs_ok a.nodes b.nodes hs.nodesN hs.nodes) ?_
    | refine cl (eqBs_ok a.up b.up hs.upN) ?_
    | refine cl (Msg.eqs_ok a.bag b.bag hs.bagN hs.bag) ?_
    | refine cl (Ans.eqs_ok a.answers b.answers hs.answersN hs.answers) ?_
    | refine goO ?_
    | refine goS ?_
    | (refine WO.gs _ rfl rfl rfl ?_ ?_ <;> intro hb <;> simp only [hb] <;> try simp at hb))
  all_goals refine ⟨.inr rfl, _, _, rfl, .cons (.c (.id rfl)) .nil, ?_⟩
  all_goals (cases a; cases b; simp [resV, X.v] at *; grind)
end Go.YtakiodehjhpgkaaGreatMc

namespace Go.YtakiodehjhpgkaaGreatMc
open Go.Proofs
/-! ### Strings, in order -/
abbrev lt (x y : List UInt8) : Bool := Op.bytesLess x y
/-! ### Keys -/
def inR (n lo hi : Int) : Bool := decide (lo ≤ n) && decide (n ≤ hi)
def letter (c : UInt8) : Bool := decide (97 ≤ c.toNat) && decide (c.toNat ≤ 122)
def keyOk (s : List UInt8) : Bool := decide (1 ≤ s.length) && decide (s.length ≤ 4) && s.all letter
theorem in_ok (n lo hi : Int) : Pu Tryz.prog 97 [I n, I lo, I hi] (B (inR n lo hi)) := by
  refine Pu.of D Tryz.func97 rfl rfl rfl ?_
  repeat' (first
    | (refine W.cond rfl ?_ ?_ <;> intro hb <;> try simp at hb)
    | refine goO ?_
    | refine goS ?_
    | (refine WO.gs _ rfl rfl rfl ?_ ?_ <;> intro hb <;> simp only [hb] <;> try simp at hb))
  all_goals refine ⟨.inr rfl, _, _, rfl, .cons (.c (.id rfl)) .nil, ?_⟩
  all_goals (simp [resV, X.v, inR, *]; try omega)
theorem lettersOnly_ok : ∀ (s : List UInt8), Pu Tryz.prog 289 [Sx s] (B (s.all letter))
  | [] => by
    refine Pu.of D Tryz.func289 rfl rfl rfl ?_
    repeat' (first
    | (refine W.cond rfl ?_ ?_ <;> intro hb <;> try simp at hb)
    | refine goO ?_
    | refine goS ?_
    | (refine WO.gs _ rfl rfl rfl ?_ ?_ <;> intro hb <;> simp only [hb] <;> try simp at hb))
    all_goals first | (exfalso; simp_all; done) | skip
    all_goals refine ⟨.inr rfl, _, _, rfl, .cons (.c (.id rfl)) .nil, ?_⟩
    all_goals rfl
  | c :: s => by
    have ih := lettersOnly_ok s
    refine Pu.of D Tryz.func289 rfl rfl rfl ?_
    repeat' (first
    | (refine W.cond rfl ?_ ?_ <;> intro hb <;> try simp at hb)
    | refine OpK.of (OpOk.ixS D rfl rfl rfl rfl rfl (by decide) rfl) ?_
    | refine OpK.of (OpOk.slSd D rfl rfl rfl rfl rfl (by simp)) ?_
    | refine cl (ih) ?_
    | refine goO ?_
    | refine goS ?_
    | (refine WO.gs _ rfl rfl rfl ?_ ?_ <;> intro hb <;> simp only [hb] <;> try simp at hb))
    all_goals refine ⟨.inr rfl, _, _, rfl, .cons (.c (.id rfl)) .nil, ?_⟩
    all_goals (simp [resV, X.v, letter]; grind)
theorem keyOk_impl (s : List UInt8) : Pu Tryz.prog 207 [Sx s] (B (keyOk s)) := by
  refine Pu.of D Tryz.func207 rfl rfl rfl ?_
  repeat' (first
    | (refine W.cond rfl ?_ ?_ <;> intro hb <;> try simp at hb)
    | refine cl (lettersOnly_ok s) ?_
    | refine goO ?_
    | refine goS ?_
    | (refine WO.gs _ rfl rfl rfl ?_ ?_ <;> intro hb <;> simp only [hb] <;> try simp at hb))
  all_goals refine ⟨.inr rfl, _, _, rfl, .cons (.c (.id rfl)) .nil, ?_⟩
  all_goals (simp [resV, X.v, keyOk]; grind)
theorem keyOk_spec (s : List UInt8) : Pu Tryz.prog 285 [Sx s] (B (keyOk s)) := by
  refine Pu.of D Tryz.func285 rfl rfl rfl ?_
  repeat' (first
    | (refine W.cond rfl ?_ ?_ <;> intro hb <;> try simp at hb)
    | refine cl (in_ok _ _ _) ?_
    | refine goO ?_
    | refine goS ?_
    | (refine WO.gs _ rfl rfl rfl ?_ ?_ <;> intro hb <;> simp only [hb] <;> try simp at hb))
  · refine ⟨.inr rfl, _, _, rfl, .cons (.c (.id rfl)) .nil, ?_⟩
    simp [resV, X.v, keyOk, inR] at *; grind
  · refine W.loop (σ := Nat) (fun k => [(3, I k), (0, Sx s)]) (fun _ => []) (fun k => k ≤ s.length ∧ keyOk s = (s.drop k).all letter) (fun k => s.length - k) 0 (fun _ _ => rfl) 0 ⟨by simp, by simp [keyOk, inR] at *; grind⟩ rfl (.cons rfl rfl (.cons rfl rfl (.nil))) ?_
    rintro k ⟨hk, hy⟩
    have hl : s.length ≤ 4 := by simp [inR] at hb; omega
    repeat' (first
    | (refine W.cond rfl ?_ ?_ <;> intro hb <;> try simp at hb)
    | refine OpK.of (OpOk.ixSk D rfl rfl rfl rfl rfl (by assumption)) ?_
    | refine goO ?_
    | refine goS ?_
    | (refine WO.gs _ rfl rfl rfl ?_ ?_ <;> intro hb <;> simp only [hb] <;> try simp at hb))
    · have hlt : k < s.length := by assumption
      refine ⟨.inr rfl, _, _, rfl, .cons (.c (.id rfl)) .nil, ?_⟩
      rw [drop_cons hlt, List.all_cons] at hy
      simp [resV, X.v, hy, letter]; omega
    · have hlt : k < s.length := by assumption
      refine ⟨.inr rfl, _, _, rfl, .cons (.c (.id rfl)) .nil, ?_⟩
      rw [drop_cons hlt, List.all_cons] at hy
      simp [resV, X.v, hy, letter]; omega
    · have hlt : k < s.length := by assumption
      rw [drop_cons hlt, List.all_cons] at hy
      exact ⟨k + 1, ⟨by omega, by rw [hy]; simp [letter]; omega⟩, by omega, (.cons rfl rfl (.cons rfl rfl (.nil))), rfl, rfl⟩
    · refine ⟨.inr rfl, _, _, rfl, .cons (.c (.id rfl)) .nil, ?_⟩
      rw [drop_nil (by omega)] at hy
      simp [resV, X.v, hy]
/-! ### Intervals -/
def ivOk (v : Iv) : Bool := (v.lo == [] || keyOk v.lo) && (v.hi == [] || keyOk v.hi) && (v.hi == [] || (lt v.lo v.hi && (v.lo != [] || v.hi != [97])))
theorem ivOk_spec (v : Iv) : Pu Tryz.prog 250 [A v.e] (B (ivOk v)) := by
  refine Pu.of D Tryz.func250 rfl rfl rfl ?_
  repeat' (first
    | (refine W.cond rfl ?_ ?_ <;> intro hb <;> try simp at hb)
    | refine cl (keyOk_spec v.lo) ?_
    | refine cl (keyOk_spec v.hi) ?_
    | refine goO ?_
    | refine goS ?_
    | (refine WO.gs _ rfl rfl rfl ?_ ?_ <;> intro hb <;> simp only [hb] <;> try simp at hb))
  all_goals refine ⟨.inr rfl, _, _, rfl, .cons (.c (.id rfl)) .nil, ?_⟩
  all_goals first | (simp_all [resV, X.v, ivOk, lt]; done) | (simp [resV, X.v, ivOk, lt] at *; grind) | (simp [resV, X.v, ivOk, lt] at *; omega)
def lowKey (v : Iv) : List UInt8 := if v.lo = [] then [97] else v.lo
theorem lowKey_ok (v : Iv) : Pu Tryz.prog 310 [A v.e] (Sx (lowKey v)) := by
  refine Pu.of D Tryz.func310 rfl rfl rfl ?_
  repeat' (first
    | (refine W.cond rfl ?_ ?_ <;> intro hb <;> try simp at hb)
    | refine goO ?_
    | refine goS ?_
    | (refine WO.gs _ rfl rfl rfl ?_ ?_ <;> intro hb <;> simp only [hb] <;> try simp at hb))
  all_goals refine ⟨.inr rfl, _, _, rfl, .cons (.c (.id rfl)) .nil, ?_⟩
  all_goals first | (simp_all [resV, X.v, lowKey]; done) | (simp [resV, X.v, lowKey] at *; grind) | (simp [resV, X.v, lowKey] at *; omega)
theorem lt_a {s : List UInt8} (h : keyOk s = true) : Op.bytesLess [97] s = true ↔ s ≠ [97] := by
  cases s with
  | nil => simp [keyOk] at h
  | cons c s =>
    simp only [keyOk, List.all_cons, letter, Bool.and_eq_true, decide_eq_true_eq] at h
    have h1 : 97 ≤ c.toNat := h.2.1.1
    by_cases e : c = 97
    · subst e; cases s <;> simp [Op.bytesLess]
    · have : (97 : UInt8) < c := by rw [UInt8.lt_iff_toNat_lt]; have : c.toNat ≠ 97 := fun h => e (UInt8.toNat_inj.1 (by simpa using h)); simp; omega
      simp [Op.bytesLess, this, e]
theorem lt_e {s : List UInt8} (h : s ≠ []) : Op.bytesLess [] s = true := by cases s <;> simp_all [Op.bytesLess]
theorem ivOk_impl (v : Iv) : Pu Tryz.prog 251 [A v.e] (B (ivOk v)) := by
  refine Pu.of D Tryz.func251 rfl rfl rfl ?_
  repeat' (first
    | (refine W.cond rfl ?_ ?_ <;> intro hb <;> try simp at hb)
    | refine cl (keyOk_impl v.lo) ?_
    | refine cl (keyOk_impl v.hi) ?_
    | refine cl (lowKey_ok v) ?_
    | refine goO ?_
    | refine goS ?_
    | (refine WO.gs _ rfl rfl rfl ?_ ?_ <;> intro hb <;> simp only [hb] <;> try simp at hb)
    | (refine WD.gs _ rfl rfl rfl ?_ ?_ <;> intro hb <;> simp only [hb] <;> try simp at hb))
  all_goals refine ⟨.inr rfl, _, _, rfl, .cons (.c (.id rfl)) .nil, ?_⟩
  all_goals
    have ha := @lt_a v.hi
    have he := @lt_e v.hi
    by_cases hl : v.lo = [] <;> simp_all [resV, X.v, ivOk, lt, lowKey]
  all_goals try grind
/-! ### Commands, entries, logs -/
def cmdOk (c : Cmd) : Bool := (keyOk c.key || (decide (c.kind = 5) && decide (c.key = []))) && (((decide (c.kind = 1) || decide (c.kind = 3) || decide (c.kind = 5)) && decide (c.val = 0) && decide (c.old = 0)) || (decide (c.kind = 2) && inR c.val 0 999 && decide (c.old = 0)) || (decide (c.kind = 4) && inR c.val 0 999 && inR c.old (-1) 999))
theorem value_ok (n : Int) : Pu Tryz.prog 311 [I n] (B (inR n 0 999)) := by
  refine Pu.of D Tryz.func311 rfl rfl rfl ?_
  repeat' (first
    | (refine W.cond rfl ?_ ?_ <;> intro hb <;> try simp at hb)
    | refine goO ?_
    | refine goS ?_
    | (refine WO.gs _ rfl rfl rfl ?_ ?_ <;> intro hb <;> simp only [hb] <;> try simp at hb))
  all_goals refine ⟨.inr rfl, _, _, rfl, .cons (.c (.id rfl)) .nil, ?_⟩
  all_goals first | (simp_all [resV, X.v, inR]; done) | (simp [resV, X.v, inR] at *; grind) | (simp [resV, X.v, inR] at *; omega)
theorem seq_ok (n : Int) : Pu Tryz.prog 204 [I n] (B (inR n 1 999)) := by
  refine Pu.of D Tryz.func204 rfl rfl rfl ?_
  repeat' (first
    | (refine W.cond rfl ?_ ?_ <;> intro hb <;> try simp at hb)
    | refine goO ?_
    | refine goS ?_
    | (refine WO.gs _ rfl rfl rfl ?_ ?_ <;> intro hb <;> simp only [hb] <;> try simp at hb))
  all_goals refine ⟨.inr rfl, _, _, rfl, .cons (.c (.id rfl)) .nil, ?_⟩
  all_goals first | (simp_all [resV, X.v, inR]; done) | (simp [resV, X.v, inR] at *; grind) | (simp [resV, X.v, inR] at *; omega)
theorem cmdOk_spec (c : Cmd) : Pu Tryz.prog 262 [A c.e] (B (cmdOk c)) := by
  refine Pu.of D Tryz.func262 rfl rfl rfl ?_
  repeat' (first
    | (refine W.cond rfl ?_ ?_ <;> intro hb <;> try simp at hb)
    | refine cl (keyOk_spec c.key) ?_
    | refine cl (in_ok _ _ _) ?_
    | refine goO ?_
    | refine goS ?_
    | (refine WO.gs _ rfl rfl rfl ?_ ?_ <;> intro hb <;> simp only [hb] <;> try simp at hb))
  all_goals refine ⟨.inr rfl, _, _, rfl, .cons (.c (.id rfl)) .nil, ?_⟩
  all_goals (simp [resV, X.v, cmdOk] at *; grind)
theorem cmdOk_impl (c : Cmd) : Pu Tryz.prog 288 [A c.e] (B (cmdOk c)) := by
  refine Pu.of D Tryz.func288 rfl rfl rfl ?_
  repeat' (first
    | (refine W.cond rfl ?_ ?_ <;> intro hb <;> try simp at hb)
    | refine cl (keyOk_impl c.key) ?_
    | refine cl (value_ok _) ?_
    | refine goO ?_
    | refine goS ?_
    | (refine WO.gs _ rfl rfl rfl ?_ ?_ <;> intro hb <;> simp only [hb] <;> try simp at hb))
  all_goals refine ⟨.inr rfl, _, _, rfl, .cons (.c (.id rfl)) .nil, ?_⟩
  all_goals (simp [resV, X.v, cmdOk, inR] at *; grind)
def entOk (a : Ent) : Bool := inR a.client 0 3 && inR a.seq 1 999 && cmdOk a.cmd
theorem entOk_spec (a : Ent) : Pu Tryz.prog 163 [A a.e] (B (entOk a)) := by
  refine Pu.of D Tryz.func163 rfl rfl rfl ?_
  repeat' (first
    | (refine W.cond rfl ?_ ?_ <;> intro hb <;> try simp at hb)
    | refine cl (cmdOk_spec a.cmd) ?_
    | refine cl (in_ok _ _ _) ?_
    | refine goO ?_
    | refine goS ?_
    | (refine WO.gs _ rfl rfl rfl ?_ ?_ <;> intro hb <;> simp only [hb] <;> try simp at hb))
  all_goals refine ⟨.inr rfl, _, _, rfl, .cons (.c (.id rfl)) .nil, ?_⟩
  all_goals first | (simp_all [resV, X.v, entOk]; done) | (simp [resV, X.v, entOk] at *; grind) | (simp [resV, X.v, entOk] at *; omega)
theorem entOk_impl (a : Ent) : Pu Tryz.prog 235 [A a.e] (B (entOk a)) := by
  refine Pu.of D Tryz.func235 rfl rfl rfl ?_
  repeat' (first
    | (refine W.cond rfl ?_ ?_ <;> intro hb <;> try simp at hb)
    | refine cl (cmdOk_impl a.cmd) ?_
    | refine cl (seq_ok _) ?_
    | refine goO ?_
    | refine goS ?_
    | (refine WO.gs _ rfl rfl rfl ?_ ?_ <;> intro hb <;> simp only [hb] <;> try simp at hb))
  all_goals refine ⟨.inr rfl, _, _, rfl, .cons (.c (.id rfl)) .nil, ?_⟩
  all_goals (simp [resV, X.v, entOk, inR] at *; grind)
def logOk (l : List Ent) : Bool := decide (l.length ≤ 24) && l.all entOk
theorem logOk_impl (l : List Ent) : Pu Tryz.prog 188 [L Ent.e l] (B (logOk l)) := by
  refine Pu.of D Tryz.func188 rfl rfl rfl ?_
  repeat' (first
    | (refine W.cond rfl ?_ ?_ <;> intro hb <;> try simp at hb)
    | refine goO ?_
    | refine goS ?_
    | (refine WO.gs _ rfl rfl rfl ?_ ?_ <;> intro hb <;> simp only [hb] <;> try simp at hb))
  · refine ⟨.inr rfl, _, _, rfl, .cons (.c (.id rfl)) .nil, ?_⟩
    simp [resV, X.v, logOk] at *; grind
  · refine W.loop (σ := Nat) (fun k => [(10, I k), (9, I l.length), (8, L Ent.e l)]) (fun _ => []) (fun k => k ≤ (l).length ∧ (l).all (entOk) = ((l).drop k).all (entOk)) (fun k => (l).length - k) 0 (fun _ _ => rfl) 0 ⟨by simp, by simp⟩ rfl (.cons rfl rfl (.cons rfl rfl (.cons rfl rfl (.nil)))) ?_
    rintro k ⟨hk1, hy⟩
    repeat' (first
    | (refine W.cond rfl ?_ ?_ <;> intro hb <;> try simp at hb)
    | refine cl (entOk_impl l[k]) ?_
    | refine goO ?_
    | refine goS ?_
    | (refine WO.gs _ rfl rfl rfl ?_ ?_ <;> intro hb <;> simp only [hb] <;> try simp at hb))
    all_goals first
      | (have hlt : k < (l).length := by assumption
         rw [drop_cons hlt, List.all_cons] at hy
         first
         | (refine ⟨.inr rfl, _, _, rfl, .cons (.c (.id rfl)) .nil, ?_⟩; simp_all [resV, X.v, logOk]; done)
         | (refine ⟨.inr rfl, _, _, rfl, .cons (.c (.id rfl)) .nil, ?_⟩; simp [resV, X.v, logOk] at *; grind)
         | (refine ⟨k + 1, ⟨by omega, ?_⟩, by omega, (.cons rfl rfl (.cons rfl rfl (.cons rfl rfl (.nil)))), rfl, rfl⟩; simp_all [logOk]; done)
         | (refine ⟨k + 1, ⟨by omega, ?_⟩, by omega, (.cons rfl rfl (.cons rfl rfl (.cons rfl rfl (.nil)))), rfl, rfl⟩; simp [logOk] at *; grind))
      | (refine ⟨.inr rfl, _, _, rfl, .cons (.c (.id rfl)) .nil, ?_⟩; rw [drop_nil (by omega)] at hy; simp_all [resV, X.v, logOk]; done)
      | (refine ⟨.inr rfl, _, _, rfl, .cons (.c (.id rfl)) .nil, ?_⟩; rw [drop_nil (by omega)] at hy; simp [resV, X.v, logOk] at *; grind)

theorem logOk_spec (l : List Ent) : Pu Tryz.prog 185 [L Ent.e l] (B (logOk l)) := by
  refine Pu.of D Tryz.func185 rfl rfl rfl ?_
  repeat' (first
    | (refine W.cond rfl ?_ ?_ <;> intro hb <;> try simp at hb)
    | refine goO ?_
    | refine goS ?_
    | (refine WO.gs _ rfl rfl rfl ?_ ?_ <;> intro hb <;> simp only [hb] <;> try simp at hb))
  refine W.loop (σ := Nat) (fun k => [(3, I k), (0, L Ent.e l)]) (fun _ => []) (fun k => k ≤ (l).length ∧ k ≤ 24 ∧ logOk l = (decide ((l).length ≤ 24) && ((l).drop k).all (entOk))) (fun k => (l).length - k) 0 (fun _ _ => rfl) 0 ⟨by simp, by simp, by simp [logOk]⟩ rfl (.cons rfl rfl (.cons rfl rfl (.nil))) ?_
  rintro k ⟨hk1, hk2, hy⟩
  repeat' (first
    | (refine W.cond rfl ?_ ?_ <;> intro hb <;> try simp at hb)
    | refine cl (entOk_spec l[k]) ?_
    | refine goO ?_
    | refine goS ?_
    | (refine WO.gs _ rfl rfl rfl ?_ ?_ <;> intro hb <;> simp only [hb] <;> try simp at hb))
  all_goals first
    | (have hlt : k < (l).length := by assumption
       rw [drop_cons hlt, List.all_cons] at hy
       first
       | (refine ⟨.inr rfl, _, _, rfl, .cons (.c (.id rfl)) .nil, ?_⟩; simp_all [resV, X.v]; done)
       | (refine ⟨.inr rfl, _, _, rfl, .cons (.c (.id rfl)) .nil, ?_⟩; have hno : ¬ (l).length ≤ 24 := by omega
          simp [resV, X.v, hy, hno]; done)
       | exact ⟨k + 1, ⟨by omega, by omega, by simp_all⟩, by omega, (.cons rfl rfl (.cons rfl rfl (.nil))), rfl, rfl⟩)
    | (refine ⟨.inr rfl, _, _, rfl, .cons (.c (.id rfl)) .nil, ?_⟩; have hle : (l).length ≤ 24 := by omega
       rw [drop_nil (by omega)] at hy; simp_all [resV, X.v]; done)

end Go.YtakiodehjhpgkaaGreatMc

namespace Go.YtakiodehjhpgkaaGreatMc
open Go.Proofs
/-! ### Orders of members -/
theorem len0 {α : Type} (l : List α) : ((l.length : Int) = 0) ↔ l = [] := by simp
def noConf (c : Cfg) : Bool := decide (c.epoch = 0) && decide (c.mem.length = 0) && !c.fresh
theorem noConf_spec (c : Cfg) : Pu Tryz.prog 261 [A c.e] (B (noConf c)) := by
  refine Pu.of D Tryz.func261 rfl rfl rfl ?_
  repeat' (first
    | (refine W.cond rfl ?_ ?_ <;> intro hb <;> try simp at hb)
    | refine goO ?_
    | refine goS ?_
    | (refine WO.gs _ rfl rfl rfl ?_ ?_ <;> intro hb <;> simp only [hb] <;> try simp at hb))
  all_goals refine ⟨.inr rfl, _, _, rfl, .cons (.c (.id rfl)) .nil, ?_⟩
  all_goals first | (simp_all [resV, X.v, noConf]; done) | (simp [resV, X.v, noConf] at *; grind) | (simp [resV, X.v, noConf] at *; omega)
theorem noConf_impl (c : Cfg) : Pu Tryz.prog 271 [A c.e] (B (noConf c)) := by
  refine Pu.of D Tryz.func271 rfl rfl rfl ?_
  repeat' (first
    | (refine W.cond rfl ?_ ?_ <;> intro hb <;> try simp at hb)
    | refine goO ?_
    | refine goS ?_
    | (refine WO.gs _ rfl rfl rfl ?_ ?_ <;> intro hb <;> simp only [hb] <;> try simp at hb))
  all_goals refine ⟨.inr rfl, _, _, rfl, .cons (.c (.id rfl)) .nil, ?_⟩
  all_goals first | (simp_all [resV, X.v, noConf]; done) | (simp [resV, X.v, noConf] at *; grind) | (simp [resV, X.v, noConf] at *; omega)
theorem node_ok (n : Int) : Pu Tryz.prog 208 [I n] (B (inR n 0 4)) := by
  refine Pu.of D Tryz.func208 rfl rfl rfl ?_
  repeat' (first
    | (refine W.cond rfl ?_ ?_ <;> intro hb <;> try simp at hb)
    | refine goO ?_
    | refine goS ?_
    | (refine WO.gs _ rfl rfl rfl ?_ ?_ <;> intro hb <;> simp only [hb] <;> try simp at hb))
  all_goals refine ⟨.inr rfl, _, _, rfl, .cons (.c (.id rfl)) .nil, ?_⟩
  all_goals first | (simp_all [resV, X.v, inR]; done) | (simp [resV, X.v, inR] at *; grind) | (simp [resV, X.v, inR] at *; omega)
def idx (n : Int) : List Int → Nat → Int
  | [], _ => -1
  | a :: l, k => if n = a then k else idx n l (k + 1)
theorem idx_ok (l : List Int) (n : Int) (hl : l.length ≤ 1048576) : Pu Tryz.prog 248 [L eI l, I n] (I (idx n l 0)) := by
  refine Pu.of D Tryz.func248 rfl rfl rfl ?_
  repeat' (first
    | (refine W.cond rfl ?_ ?_ <;> intro hb <;> try simp at hb)
    | refine goO ?_
    | refine goS ?_
    | (refine WO.gs _ rfl rfl rfl ?_ ?_ <;> intro hb <;> simp only [hb] <;> try simp at hb))
  refine W.loop (σ := Nat) (fun k => [(8, I k), (7, I l.length), (1, I n), (0, L eI l)]) (fun _ => []) (fun k => k ≤ l.length ∧ idx n l 0 = idx n (l.drop k) k) (fun k => l.length - k) 0 (fun _ _ => rfl) 0 ⟨by simp, by simp⟩ rfl (.cons rfl rfl (.cons rfl rfl (.cons rfl rfl (.cons rfl rfl (.nil))))) ?_
  rintro k ⟨hk1, hy⟩
  repeat' (first
    | (refine W.cond rfl ?_ ?_ <;> intro hb <;> try simp at hb)
    | refine goO ?_
    | refine goS ?_
    | (refine WO.gs _ rfl rfl rfl ?_ ?_ <;> intro hb <;> simp only [hb] <;> try simp at hb))
  · have hlt : k < l.length := by assumption
    rw [drop_cons hlt, idx, if_pos hb] at hy
    refine ⟨.inr rfl, _, _, rfl, .cons (.c (.id rfl)) .nil, ?_⟩
    simp [resV, X.v, hy]
  · have hlt : k < l.length := by assumption
    rw [drop_cons hlt, idx, if_neg hb] at hy
    exact ⟨k + 1, ⟨by omega, hy⟩, by omega, (.cons rfl rfl (.cons rfl rfl (.cons rfl rfl (.cons rfl rfl (.nil))))), rfl, rfl⟩
  · rw [drop_nil (by omega), idx] at hy
    refine ⟨.inr rfl, _, _, rfl, .cons (.c (.id rfl)) .nil, ?_⟩
    simp [resV, X.v, hy]
theorem idx_ge (n : Int) : ∀ (l : List Int) (k : Nat), (0 ≤ idx n l k ↔ n ∈ l)
  | [], k => by simp [idx]
  | a :: l, k => by
    rw [idx]; split
    · simp_all
    · rename_i h; rw [idx_ge n l (k + 1)]; simp [h]
theorem contains_ok (l : List Int) (n : Int) (hl : l.length ≤ 1048576) : Pu Tryz.prog 138 [L eI l, I n] (B (decide (n ∈ l))) := by
  refine Pu.of D Tryz.func138 rfl rfl rfl ?_
  repeat' (first
    | (refine W.cond rfl ?_ ?_ <;> intro hb <;> try simp at hb)
    | refine cl (idx_ok l n hl) ?_
    | refine goO ?_
    | refine goS ?_
    | (refine WO.gs _ rfl rfl rfl ?_ ?_ <;> intro hb <;> simp only [hb] <;> try simp at hb))
  all_goals refine ⟨.inr rfl, _, _, rfl, .cons (.c (.id rfl)) .nil, ?_⟩
  all_goals (have := idx_ge n l 0; simp [resV, X.v, this])
def memFrom : List Int → List Int → Bool
  | _, [] => true
  | p, a :: l => inR a 0 4 && !decide (a ∈ p) && memFrom (p ++ [a]) l
theorem memFrom_cons {l : List Int} {k : Nat} (h : k < l.length) : memFrom (l.take k) (l.drop k) = (inR l[k] 0 4 && !decide (l[k] ∈ l.take k) && memFrom (l.take (k + 1)) (l.drop (k + 1))) := by
  rw [drop_cons h, memFrom, List.take_succ_eq_append_getElem h]
theorem memFrom_nil {l : List Int} {k : Nat} (h : l.length ≤ k) : memFrom (l.take k) (l.drop k) = true := by rw [drop_nil h, memFrom]
def confOk (c : Cfg) : Bool := inR c.epoch 1 60 && inR c.mem.length 1 4 && !(c.fresh && decide (c.mem.length < 2)) && memFrom [] c.mem
theorem confOk_impl (c : Cfg) (hs : c.mem.length ≤ 1048576) : Pu Tryz.prog 171 [A c.e] (B (confOk c)) := by
  refine Pu.of D Tryz.func171 rfl rfl rfl ?_
  repeat' (first
    | (refine W.cond rfl ?_ ?_ <;> intro hb <;> try simp at hb)
    | refine goO ?_
    | refine goS ?_
    | (refine WO.gs _ rfl rfl rfl ?_ ?_ <;> intro hb <;> simp only [hb] <;> try simp at hb))
  all_goals first
    | (refine ⟨.inr rfl, _, _, rfl, .cons (.c (.id rfl)) .nil, ?_⟩; simp [resV, X.v, confOk, inR] at *; grind)
    | skip
  all_goals refine W.loop (σ := Nat) (fun k => [(36, I k), (35, I c.mem.length), (34, L eI c.mem), (1, .c (.ptr 0 0))]) (fun _ => [.box (tc c.e)]) (fun k => k ≤ c.mem.length ∧ confOk c = memFrom (c.mem.take k) (c.mem.drop k)) (fun k => c.mem.length - k) 1 (fun _ _ => rfl) 0 ⟨by simp, by simp [confOk, inR]; grind⟩ rfl (.cons rfl rfl (.cons rfl rfl (.cons rfl rfl (.cons rfl rfl (.nil))))) ?_
  all_goals rintro k ⟨hk1, hy⟩
  all_goals repeat' (first
    | (refine W.cond rfl ?_ ?_ <;> intro hb <;> try simp at hb)
    | refine cl (node_ok _) ?_
    | refine cl (contains_ok (c.mem.take k) c.mem[k] (by simp; omega)) ?_
    | refine OpK.of (OpOk.slMt D rfl rfl rfl rfl rfl (fun _ => rfl) rfl (by omega)) ?_
    | refine goO ?_
    | refine goS ?_
    | (refine WO.gs _ rfl rfl rfl ?_ ?_ <;> intro hb <;> simp only [hb] <;> try simp at hb))
  all_goals first
    | (have hlt : k < c.mem.length := by assumption
       rw [memFrom_cons hlt] at hy
       first
       | (refine ⟨.inr rfl, _, _, rfl, .cons (.c (.id rfl)) .nil, ?_⟩; simp_all [resV, X.v]; done)
       | exact ⟨k + 1, ⟨by omega, by simp_all⟩, by omega, (.cons rfl rfl (.cons rfl rfl (.cons rfl rfl (.cons rfl rfl (.nil))))), rfl, rfl⟩)
    | (refine ⟨.inr rfl, _, _, rfl, .cons (.c (.id rfl)) .nil, ?_⟩; rw [memFrom_nil (by omega)] at hy; simp_all [resV, X.v]; done)
theorem confOk_spec (c : Cfg) (hs : c.mem.length ≤ 1048576) : Pu Tryz.prog 160 [A c.e] (B (confOk c)) := by
  refine Pu.of D Tryz.func160 rfl rfl rfl ?_
  repeat' (first
    | (refine W.cond rfl ?_ ?_ <;> intro hb <;> try simp at hb)
    | refine cl (in_ok _ _ _) ?_
    | refine goO ?_
    | refine goS ?_
    | (refine WO.gs _ rfl rfl rfl ?_ ?_ <;> intro hb <;> simp only [hb] <;> try simp at hb)
    | (refine WD.gs _ rfl rfl rfl ?_ ?_ <;> intro hb <;> simp only [hb] <;> try simp at hb))
  all_goals first
    | (refine ⟨.inr rfl, _, _, rfl, .cons (.c (.id rfl)) .nil, ?_⟩; simp [resV, X.v, confOk, inR] at *; grind)
    | skip
  all_goals refine W.loop (σ := Nat) (fun k => [(3, I k), (1, .c (.ptr 0 0))]) (fun _ => [.box (tc c.e)]) (fun k => k ≤ c.mem.length ∧ confOk c = memFrom (c.mem.take k) (c.mem.drop k)) (fun k => c.mem.length - k) 1 (fun _ _ => rfl) 0 ⟨by simp, by simp [confOk, inR] at *; grind⟩ rfl (.cons rfl rfl (.cons rfl rfl (.nil))) ?_
  all_goals rintro k ⟨hk1, hy⟩
  all_goals repeat' (first
    | (refine W.cond rfl ?_ ?_ <;> intro hb <;> try simp at hb)
    | refine cl (in_ok _ _ _) ?_
    | refine goO ?_
    | refine goS ?_
    | (refine WO.gs _ rfl rfl rfl ?_ ?_ <;> intro hb <;> simp only [hb] <;> try simp at hb)
    | (refine WD.gs _ rfl rfl rfl ?_ ?_ <;> intro hb <;> simp only [hb] <;> try simp at hb))
  all_goals first
    | (have hlt : k < c.mem.length := by assumption
       rw [memFrom_cons hlt] at hy
       (refine ⟨.inr rfl, _, _, rfl, .cons (.c (.id rfl)) .nil, ?_⟩; simp_all [resV, X.v]; done))
    | (refine ⟨.inr rfl, _, _, rfl, .cons (.c (.id rfl)) .nil, ?_⟩; rw [memFrom_nil (by omega)] at hy; simp_all [resV, X.v]; done)
    | skip
  all_goals have hlt : k < c.mem.length := by assumption
  all_goals refine W.loop (σ := Nat) (fun j => [(4, I j), (3, I k), (1, .c (.ptr 0 0))]) (fun _ => [.box (tc c.e)]) (fun j => j ≤ k ∧ ∀ i, i < j → c.mem[i]? ≠ some c.mem[k]) (fun j => k - j) 1 (fun _ _ => rfl) 0 ⟨by omega, by intro i hi; omega⟩ rfl (.cons rfl rfl (.cons rfl rfl (.cons rfl rfl (.nil)))) ?_
  all_goals rintro j ⟨hj1, hz⟩
  all_goals rw [memFrom_cons hlt] at hy
  all_goals repeat' (first
    | (refine W.cond rfl ?_ ?_ <;> intro hb <;> try simp at hb)
    | refine goO ?_
    | refine goS ?_
    | (refine WO.gs _ rfl rfl rfl ?_ ?_ <;> intro hb <;> simp only [hb] <;> try simp at hb)
    | (refine WD.gs _ rfl rfl rfl ?_ ?_ <;> intro hb <;> simp only [hb] <;> try simp at hb))
  all_goals first
    | (have hm : c.mem[k] ∈ c.mem.take k := List.mem_iff_getElem.2 ⟨j, by simp; omega, by simp [List.getElem_take, hb]⟩
       refine ⟨.inr rfl, _, _, rfl, .cons (.c (.id rfl)) .nil, ?_⟩
       simp [resV, X.v, hy, hm]; done)
    | exact ⟨j + 1, ⟨by omega, fun i hi => by
        by_cases e : i = j
        · subst e; rw [List.getElem?_eq_getElem (by omega)]; simpa using hb
        · exact hz i (by omega)⟩, by omega, (.cons rfl rfl (.cons rfl rfl (.cons rfl rfl (.nil)))), rfl, rfl⟩
    | (have hm : ¬ c.mem[k] ∈ c.mem.take k := fun hm => by
        obtain ⟨i, hi, e⟩ := List.mem_iff_getElem.1 hm
        simp at hi
        refine hz i (by omega) ?_
        rw [List.getElem?_eq_getElem (by omega), ← e, List.getElem_take]
       exact ⟨k + 1, ⟨by omega, by simp_all⟩, by omega, (.cons rfl rfl (.cons rfl rfl (.nil))), rfl, rfl⟩)
/-! ### Messages, replicas -/
def msgOk (m : Msg) : Bool := inR m.epoch 1 60 && ((decide (m.kind = 1) && inR m.to 0 4 && confOk m.conf && decide (m.conf.epoch = m.epoch) && decide (m.log.length = 0)) || (decide (m.kind = 2) && inR m.to 0 4 && noConf m.conf && logOk m.log) || (decide (m.kind = 3) && decide (m.to = -1) && noConf m.conf && decide (m.log.length = 0)))
theorem msgOk_impl (m : Msg) (hs : m.Sm) : Pu Tryz.prog 270 [A m.e] (B (msgOk m)) := by
  refine Pu.of D Tryz.func270 rfl rfl rfl ?_
  repeat' (first
    | (refine W.cond rfl ?_ ?_ <;> intro hb <;> try simp at hb)
    | refine cl (node_ok _) ?_
    | refine cl (confOk_impl m.conf hs.conf.memN) ?_
    | refine cl (noConf_impl m.conf) ?_
    | refine cl (logOk_impl m.log) ?_
    | refine goO ?_
    | refine goS ?_
    | (refine WO.gs _ rfl rfl rfl ?_ ?_ <;> intro hb <;> simp only [hb] <;> try simp at hb))
  all_goals refine ⟨.inr rfl, _, _, rfl, .cons (.c (.id rfl)) .nil, ?_⟩
  all_goals (simp [resV, X.v, msgOk, inR] at *; have hl := len0 m.log; grind)
theorem confOk_epoch {c : Cfg} (h : confOk c = true) : 1 ≤ c.epoch ∧ c.epoch ≤ 60 := by
  simp [confOk, inR] at h; exact h.1.1.1
theorem msgOk_spec (m : Msg) (hs : m.Sm) : Pu Tryz.prog 260 [A m.e] (B (msgOk m)) := by
  refine Pu.of D Tryz.func260 rfl rfl rfl ?_
  repeat' (first
    | (refine W.cond rfl ?_ ?_ <;> intro hb <;> try simp at hb)
    | refine cl (in_ok _ _ _) ?_
    | refine cl (confOk_spec m.conf hs.conf.memN) ?_
    | refine cl (noConf_spec m.conf) ?_
    | refine cl (logOk_spec m.log) ?_
    | refine goO ?_
    | refine goS ?_
    | (refine WO.gs _ rfl rfl rfl ?_ ?_ <;> intro hb <;> simp only [hb] <;> try simp at hb))
  all_goals refine ⟨.inr rfl, _, _, rfl, .cons (.c (.id rfl)) .nil, ?_⟩
  all_goals (have := @confOk_epoch m.conf; simp [resV, X.v, msgOk, inR] at *; have hl := len0 m.log; grind)
def bagOk (l : List Msg) : Bool := decide (l.length ≤ 10) && l.all msgOk
theorem bagOk_impl (l : List Msg) (hs : ∀ m ∈ l, m.Sm) : Pu Tryz.prog 172 [L Msg.e l] (B (bagOk l)) := by
  refine Pu.of D Tryz.func172 rfl rfl rfl ?_
  repeat' (first
    | (refine W.cond rfl ?_ ?_ <;> intro hb <;> try simp at hb)
    | refine goO ?_
    | refine goS ?_
    | (refine WO.gs _ rfl rfl rfl ?_ ?_ <;> intro hb <;> simp only [hb] <;> try simp at hb))
  · refine ⟨.inr rfl, _, _, rfl, .cons (.c (.id rfl)) .nil, ?_⟩
    simp [resV, X.v, bagOk] at *; grind
  · refine W.loop (σ := Nat) (fun k => [(10, I k), (9, I l.length), (8, L Msg.e l)]) (fun _ => []) (fun k => k ≤ (l).length ∧ (l).all (msgOk) = ((l).drop k).all (msgOk)) (fun k => (l).length - k) 0 (fun _ _ => rfl) 0 ⟨by simp, by simp⟩ rfl (.cons rfl rfl (.cons rfl rfl (.cons rfl rfl (.nil)))) ?_
    rintro k ⟨hk1, hy⟩
    repeat' (first
    | (refine W.cond rfl ?_ ?_ <;> intro hb <;> try simp at hb)
    | refine cl (msgOk_impl l[k] (hs _ (List.getElem_mem _))) ?_
    | refine goO ?_
    | refine goS ?_
    | (refine WO.gs _ rfl rfl rfl ?_ ?_ <;> intro hb <;> simp only [hb] <;> try simp at hb))
    all_goals first
      | (have hlt : k < (l).length := by assumption
         rw [drop_cons hlt, List.all_cons] at hy
         first
         | (refine ⟨.inr rfl, _, _, rfl, .cons (.c (.id rfl)) .nil, ?_⟩; simp_all [resV, X.v, bagOk]; done)
         | (refine ⟨.inr rfl, _, _, rfl, .cons (.c (.id rfl)) .nil, ?_⟩; simp [resV, X.v, bagOk] at *; grind)
         | (refine ⟨k + 1, ⟨by omega, ?_⟩, by omega, (.cons rfl rfl (.cons rfl rfl (.cons rfl rfl (.nil)))), rfl, rfl⟩; simp_all [bagOk]; done)
         | (refine ⟨k + 1, ⟨by omega, ?_⟩, by omega, (.cons rfl rfl (.cons rfl rfl (.cons rfl rfl (.nil)))), rfl, rfl⟩; simp [bagOk] at *; grind))
      | (refine ⟨.inr rfl, _, _, rfl, .cons (.c (.id rfl)) .nil, ?_⟩; rw [drop_nil (by omega)] at hy; simp_all [resV, X.v, bagOk]; done)
      | (refine ⟨.inr rfl, _, _, rfl, .cons (.c (.id rfl)) .nil, ?_⟩; rw [drop_nil (by omega)] at hy; simp [resV, X.v, bagOk] at *; grind)

theorem bagOk_spec (l : List Msg) (hs : ∀ m ∈ l, m.Sm) : Pu Tryz.prog 161 [L Msg.e l] (B (bagOk l)) := by
  refine Pu.of D Tryz.func161 rfl rfl rfl ?_
  repeat' (first
    | (refine W.cond rfl ?_ ?_ <;> intro hb <;> try simp at hb)
    | refine goO ?_
    | refine goS ?_
    | (refine WO.gs _ rfl rfl rfl ?_ ?_ <;> intro hb <;> simp only [hb] <;> try simp at hb))
  refine W.loop (σ := Nat) (fun k => [(3, I k), (0, L Msg.e l)]) (fun _ => []) (fun k => k ≤ (l).length ∧ k ≤ 10 ∧ bagOk l = (decide ((l).length ≤ 10) && ((l).drop k).all (msgOk))) (fun k => (l).length - k) 0 (fun _ _ => rfl) 0 ⟨by simp, by simp, by simp [bagOk]⟩ rfl (.cons rfl rfl (.cons rfl rfl (.nil))) ?_
  rintro k ⟨hk1, hk2, hy⟩
  repeat' (first
    | (refine W.cond rfl ?_ ?_ <;> intro hb <;> try simp at hb)
    | refine cl (msgOk_spec l[k] (hs _ (List.getElem_mem _))) ?_
    | refine goO ?_
    | refine goS ?_
    | (refine WO.gs _ rfl rfl rfl ?_ ?_ <;> intro hb <;> simp only [hb] <;> try simp at hb))
  all_goals first
    | (have hlt : k < (l).length := by assumption
       rw [drop_cons hlt, List.all_cons] at hy
       first
       | (refine ⟨.inr rfl, _, _, rfl, .cons (.c (.id rfl)) .nil, ?_⟩; simp_all [resV, X.v]; done)
       | (refine ⟨.inr rfl, _, _, rfl, .cons (.c (.id rfl)) .nil, ?_⟩; have hno : ¬ (l).length ≤ 10 := by omega
          simp [resV, X.v, hy, hno]; done)
       | exact ⟨k + 1, ⟨by omega, by omega, by simp_all⟩, by omega, (.cons rfl rfl (.cons rfl rfl (.nil))), rfl, rfl⟩)
    | (refine ⟨.inr rfl, _, _, rfl, .cons (.c (.id rfl)) .nil, ?_⟩; have hle : (l).length ≤ 10 := by omega
       rw [drop_nil (by omega)] at hy; simp_all [resV, X.v]; done)

def repOk (r : Rep) : Bool := if noConf r.conf then !r.ready && decide (r.log.length = 0) else confOk r.conf && logOk r.log && (r.ready || decide (r.log.length = 0))
theorem repOk_impl (r : Rep) (hs : r.Sm) : Pu Tryz.prog 173 [A r.e] (B (repOk r)) := by
  refine Pu.of D Tryz.func173 rfl rfl rfl ?_
  repeat' (first
    | (refine W.cond rfl ?_ ?_ <;> intro hb <;> try simp at hb)
    | refine cl (confOk_impl r.conf hs.conf.memN) ?_
    | refine cl (noConf_impl r.conf) ?_
    | refine cl (logOk_impl r.log) ?_
    | refine goO ?_
    | refine goS ?_
    | (refine WO.gs _ rfl rfl rfl ?_ ?_ <;> intro hb <;> simp only [hb] <;> try simp at hb))
  all_goals refine ⟨.inr rfl, _, _, rfl, .cons (.c (.id rfl)) .nil, ?_⟩
  all_goals (simp [resV, X.v, repOk] at *; have hl := len0 r.log; grind)
theorem repOk_spec (r : Rep) (hs : r.Sm) : Pu Tryz.prog 162 [A r.e] (B (repOk r)) := by
  refine Pu.of D Tryz.func162 rfl rfl rfl ?_
  repeat' (first
    | (refine W.cond rfl ?_ ?_ <;> intro hb <;> try simp at hb)
    | refine cl (confOk_spec r.conf hs.conf.memN) ?_
    | refine cl (noConf_spec r.conf) ?_
    | refine cl (logOk_spec r.log) ?_
    | refine goO ?_
    | refine goS ?_
    | (refine WO.gs _ rfl rfl rfl ?_ ?_ <;> intro hb <;> simp only [hb] <;> try simp at hb))
  all_goals refine ⟨.inr rfl, _, _, rfl, .cons (.c (.id rfl)) .nil, ?_⟩
  all_goals (simp [resV, X.v, repOk] at *; have hl := len0 r.log; grind)
end Go.YtakiodehjhpgkaaGreatMc

namespace Go.YtakiodehjhpgkaaGreatMc
open Go.Proofs
/-! ### The order of strings -/
theorem lt_anti : ∀ (a b : List UInt8), Op.bytesLess a b = !(Op.bytesLess b a || b == a)
  | [], [] => rfl
  | [], _ :: _ => by simp [Op.bytesLess]
  | _ :: _, [] => by simp [Op.bytesLess]
  | x :: a, y :: b => by
    have ih := lt_anti a b
    simp only [Op.bytesLess, ih]
    by_cases h1 : x < y
    · have h2 : ¬ y < x := fun h => UInt8.lt_asymm h1 h
      have h3 : ¬ y = x := fun h => by subst h; exact UInt8.lt_irrefl _ h1
      simp [h1, h2, h3]
    · by_cases h2 : y < x
      · have h3 : ¬ x = y := fun h => by subst h; exact UInt8.lt_irrefl _ h2
        simp [h1, h2, h3]
      · have h3 : x = y := UInt8.le_antisymm (UInt8.not_lt.1 h2) (UInt8.not_lt.1 h1)
        subst h3
        simp [UInt8.lt_irrefl]
/-! ### Pairs and sessions, in order -/
/-- What stands ahead of the element k. -/
def ahead {α : Type} (l : List α) (k : Nat) : Option α := if k = 0 then none else l[k - 1]?
def prOk (p : Option Pr) (a : Pr) : Bool := keyOk a.key && inR a.val 0 999 && (match p with | none => true | some q => lt q.key a.key)
def seOk (p : Option Ses) (a : Ses) : Bool := inR a.client 0 3 && inR a.seq 1 999 && inR a.reply (-2) 999 && (match p with | none => true | some q => decide (q.client < a.client))
def rowOk {α : Type} (f : Option α → α → Bool) : Option α → List α → Bool
  | _, [] => true
  | p, a :: l => f p a && rowOk f (some a) l
theorem rowOk_cons {α : Type} (f : Option α → α → Bool) {l : List α} {k : Nat} (h : k < l.length) : rowOk f (ahead l k) (l.drop k) = (f (ahead l k) l[k] && rowOk f (ahead l (k + 1)) (l.drop (k + 1))) := by
  rw [drop_cons h, rowOk]
  have : ahead l (k + 1) = some l[k] := by simp [ahead, h]
  rw [this]
theorem rowOk_nil {α : Type} (f : Option α → α → Bool) {l : List α} {k : Nat} (h : l.length ≤ k) : rowOk f (ahead l k) (l.drop k) = true := by rw [drop_nil h, rowOk]
theorem ahead_0 {α : Type} {l : List α} {k : Nat} (h : k = 0) : ahead l k = none := by simp [ahead, h]
theorem ahead_s {α : Type} {l : List α} {k : Nat} (h : k ≠ 0) (hk : k - 1 < l.length) : ahead l k = some l[k - 1] := by simp [ahead, h, hk]
theorem toNat_pred {k : Nat} (h : k ≠ 0) : ((k : Int) - 1).toNat = k - 1 := by omega
def pairsOk (l : List Pr) : Bool := decide (l.length ≤ 48) && rowOk prOk none l
def sesOk (l : List Ses) : Bool := rowOk seOk none l
theorem pairsOk_impl (l : List Pr) : Pu Tryz.prog 266 [L Pr.e l] (B (pairsOk l)) := by
  refine Pu.of D Tryz.func266 rfl rfl rfl ?_
  repeat' (first
    | (refine W.cond rfl ?_ ?_ <;> intro hb <;> try simp at hb)
    | refine goO ?_
    | refine goS ?_
    | (refine WO.gs _ rfl rfl rfl ?_ ?_ <;> intro hb <;> simp only [hb] <;> try simp at hb)
    | (refine WD.gs _ rfl rfl rfl ?_ ?_ <;> intro hb <;> simp only [hb] <;> try simp at hb))
  · refine ⟨.inr rfl, _, _, rfl, .cons (.c (.id rfl)) .nil, ?_⟩
    simp [resV, X.v, pairsOk] at *; grind
  refine W.loop (σ := Nat) (fun k => [(10, I k), (9, I l.length), (8, L Pr.e l), (0, L Pr.e l)]) (fun _ => []) (fun k => k ≤ l.length ∧ pairsOk l = rowOk prOk (ahead l k) (l.drop k)) (fun k => l.length - k) 0 (fun _ _ => rfl) 0 ⟨by simp, by simp [pairsOk, ahead]; omega⟩ rfl (.cons rfl rfl (.cons rfl rfl (.cons rfl rfl (.cons rfl rfl (.nil))))) ?_
  rintro k ⟨hk1, hy⟩
  repeat' (first
    | (refine W.cond rfl ?_ ?_ <;> intro hb <;> try simp at hb)
    | refine cl (keyOk_impl l[k].key) ?_
    | refine cl (value_ok _) ?_
    | refine OpK.of (OpOk.ixI D rfl rfl rfl rfl rfl rfl (by omega) (by omega) (fun _ => rfl)) ?_
    | refine OpD.of (OpOk.ixI D rfl rfl rfl rfl rfl rfl (by omega) (by omega) (fun _ => rfl)) ?_
    | refine goO ?_
    | refine goS ?_
    | (refine WO.gs _ rfl rfl rfl ?_ ?_ <;> intro hb <;> simp only [hb] <;> try simp at hb)
    | (refine WD.gs _ rfl rfl rfl ?_ ?_ <;> intro hb <;> simp only [hb] <;> try simp at hb))
  all_goals first
    | (have hlt : k < l.length := by assumption
       rw [rowOk_cons _ hlt] at hy
       by_cases hk0 : k = 0
       · rw [ahead_0 hk0] at hy
         first
          | (refine ⟨.inr rfl, _, _, rfl, .cons (.c (.id rfl)) .nil, ?_⟩; simp_all [resV, X.v, prOk, lt]; done)
          | (refine ⟨.inr rfl, _, _, rfl, .cons (.c (.id rfl)) .nil, ?_⟩; simp [resV, X.v, prOk, lt] at *; grind)
          | (refine ⟨k + 1, ⟨by omega, ?_⟩, by omega, (.cons rfl rfl (.cons rfl rfl (.cons rfl rfl (.cons rfl rfl (.nil))))), rfl, rfl⟩; simp_all [prOk, lt]; done)
          | (refine ⟨k + 1, ⟨by omega, ?_⟩, by omega, (.cons rfl rfl (.cons rfl rfl (.cons rfl rfl (.cons rfl rfl (.nil))))), rfl, rfl⟩; simp_all [prOk, lt]; omega)
          | (refine ⟨k + 1, ⟨by omega, ?_⟩, by omega, (.cons rfl rfl (.cons rfl rfl (.cons rfl rfl (.cons rfl rfl (.nil))))), rfl, rfl⟩; simp [prOk, lt] at *; grind)
          | (exfalso; omega)
       · rw [ahead_s hk0 (by omega)] at hy
         first
          | (refine ⟨.inr rfl, _, _, rfl, .cons (.c (.id rfl)) .nil, ?_⟩; simp_all [resV, X.v, prOk, lt]; done)
          | (refine ⟨.inr rfl, _, _, rfl, .cons (.c (.id rfl)) .nil, ?_⟩; simp [resV, X.v, prOk, lt] at *; grind)
          | (refine ⟨k + 1, ⟨by omega, ?_⟩, by omega, (.cons rfl rfl (.cons rfl rfl (.cons rfl rfl (.cons rfl rfl (.nil))))), rfl, rfl⟩; simp_all [prOk, lt]; done)
          | (refine ⟨k + 1, ⟨by omega, ?_⟩, by omega, (.cons rfl rfl (.cons rfl rfl (.cons rfl rfl (.cons rfl rfl (.nil))))), rfl, rfl⟩; simp_all [prOk, lt]; omega)
          | (refine ⟨k + 1, ⟨by omega, ?_⟩, by omega, (.cons rfl rfl (.cons rfl rfl (.cons rfl rfl (.cons rfl rfl (.nil))))), rfl, rfl⟩; simp [prOk, lt] at *; grind)
          | (exfalso; omega))
    | (refine ⟨.inr rfl, _, _, rfl, .cons (.c (.id rfl)) .nil, ?_⟩; rw [rowOk_nil _ (by omega)] at hy; simp_all [resV, X.v]; done)

theorem pairsOk_spec (l : List Pr) : Pu Tryz.prog 256 [L Pr.e l] (B (pairsOk l)) := by
  refine Pu.of D Tryz.func256 rfl rfl rfl ?_
  repeat' (first
    | (refine W.cond rfl ?_ ?_ <;> intro hb <;> try simp at hb)
    | refine goO ?_
    | refine goS ?_
    | (refine WO.gs _ rfl rfl rfl ?_ ?_ <;> intro hb <;> simp only [hb] <;> try simp at hb)
    | (refine WD.gs _ rfl rfl rfl ?_ ?_ <;> intro hb <;> simp only [hb] <;> try simp at hb))
  · refine ⟨.inr rfl, _, _, rfl, .cons (.c (.id rfl)) .nil, ?_⟩
    simp [resV, X.v, pairsOk] at *; grind
  refine W.loop (σ := Nat) (fun k => [(3, I k), (0, L Pr.e l)]) (fun _ => []) (fun k => k ≤ l.length ∧ pairsOk l = rowOk prOk (ahead l k) (l.drop k)) (fun k => l.length - k) 0 (fun _ _ => rfl) 0 ⟨by simp, by simp [pairsOk, ahead]; omega⟩ rfl (.cons rfl rfl (.cons rfl rfl (.nil))) ?_
  rintro k ⟨hk1, hy⟩
  repeat' (first
    | (refine W.cond rfl ?_ ?_ <;> intro hb <;> try simp at hb)
    | refine cl (keyOk_spec l[k].key) ?_
    | refine cl (in_ok _ _ _) ?_
    | refine OpK.of (OpOk.ixI D rfl rfl rfl rfl rfl rfl (by omega) (by omega) (fun _ => rfl)) ?_
    | refine OpD.of (OpOk.ixI D rfl rfl rfl rfl rfl rfl (by omega) (by omega) (fun _ => rfl)) ?_
    | refine goO ?_
    | refine goS ?_
    | (refine WO.gs _ rfl rfl rfl ?_ ?_ <;> intro hb <;> simp only [hb] <;> try simp at hb)
    | (refine WD.gs _ rfl rfl rfl ?_ ?_ <;> intro hb <;> simp only [hb] <;> try simp at hb))
  all_goals first
    | (have hlt : k < l.length := by assumption
       rw [rowOk_cons _ hlt] at hy
       by_cases hk0 : k = 0
       · rw [ahead_0 hk0] at hy
         first
          | (refine ⟨.inr rfl, _, _, rfl, .cons (.c (.id rfl)) .nil, ?_⟩; simp_all [resV, X.v, prOk, lt, lt_anti l[k - 1].key l[k].key]; done)
          | (refine ⟨.inr rfl, _, _, rfl, .cons (.c (.id rfl)) .nil, ?_⟩; simp [resV, X.v, prOk, lt, lt_anti l[k - 1].key l[k].key] at *; grind)
          | (refine ⟨k + 1, ⟨by omega, ?_⟩, by omega, (.cons rfl rfl (.cons rfl rfl (.nil))), rfl, rfl⟩; simp_all [prOk, lt, lt_anti l[k - 1].key l[k].key]; done)
          | (refine ⟨k + 1, ⟨by omega, ?_⟩, by omega, (.cons rfl rfl (.cons rfl rfl (.nil))), rfl, rfl⟩; simp_all [prOk, lt, lt_anti l[k - 1].key l[k].key]; omega)
          | (refine ⟨k + 1, ⟨by omega, ?_⟩, by omega, (.cons rfl rfl (.cons rfl rfl (.nil))), rfl, rfl⟩; simp [prOk, lt, lt_anti l[k - 1].key l[k].key] at *; grind)
          | (exfalso; omega)
       · rw [ahead_s hk0 (by omega)] at hy
         first
          | (refine ⟨.inr rfl, _, _, rfl, .cons (.c (.id rfl)) .nil, ?_⟩; simp_all [resV, X.v, prOk, lt, lt_anti l[k - 1].key l[k].key]; done)
          | (refine ⟨.inr rfl, _, _, rfl, .cons (.c (.id rfl)) .nil, ?_⟩; simp [resV, X.v, prOk, lt, lt_anti l[k - 1].key l[k].key] at *; grind)
          | (refine ⟨k + 1, ⟨by omega, ?_⟩, by omega, (.cons rfl rfl (.cons rfl rfl (.nil))), rfl, rfl⟩; simp_all [prOk, lt, lt_anti l[k - 1].key l[k].key]; done)
          | (refine ⟨k + 1, ⟨by omega, ?_⟩, by omega, (.cons rfl rfl (.cons rfl rfl (.nil))), rfl, rfl⟩; simp_all [prOk, lt, lt_anti l[k - 1].key l[k].key]; omega)
          | (refine ⟨k + 1, ⟨by omega, ?_⟩, by omega, (.cons rfl rfl (.cons rfl rfl (.nil))), rfl, rfl⟩; simp [prOk, lt, lt_anti l[k - 1].key l[k].key] at *; grind)
          | (exfalso; omega))
    | (refine ⟨.inr rfl, _, _, rfl, .cons (.c (.id rfl)) .nil, ?_⟩; rw [rowOk_nil _ (by omega)] at hy; simp_all [resV, X.v]; done)

theorem sesOk_impl (l : List Ses) (hl : l.length ≤ 1048576) : Pu Tryz.prog 267 [L Ses.e l] (B (sesOk l)) := by
  refine Pu.of D Tryz.func267 rfl rfl rfl ?_
  repeat' (first
    | (refine W.cond rfl ?_ ?_ <;> intro hb <;> try simp at hb)
    | refine goO ?_
    | refine goS ?_
    | (refine WO.gs _ rfl rfl rfl ?_ ?_ <;> intro hb <;> simp only [hb] <;> try simp at hb)
    | (refine WD.gs _ rfl rfl rfl ?_ ?_ <;> intro hb <;> simp only [hb] <;> try simp at hb))
  refine W.loop (σ := Nat) (fun k => [(7, I k), (6, I l.length), (5, L Ses.e l), (0, L Ses.e l)]) (fun _ => []) (fun k => k ≤ l.length ∧ sesOk l = rowOk seOk (ahead l k) (l.drop k)) (fun k => l.length - k) 0 (fun _ _ => rfl) 0 ⟨by simp, by simp [sesOk, ahead]⟩ rfl (.cons rfl rfl (.cons rfl rfl (.cons rfl rfl (.cons rfl rfl (.nil))))) ?_
  rintro k ⟨hk1, hy⟩
  repeat' (first
    | (refine W.cond rfl ?_ ?_ <;> intro hb <;> try simp at hb)
    | refine cl (seq_ok _) ?_
    | refine OpK.of (OpOk.ixI D rfl rfl rfl rfl rfl rfl (by omega) (by omega) (fun _ => rfl)) ?_
    | refine OpD.of (OpOk.ixI D rfl rfl rfl rfl rfl rfl (by omega) (by omega) (fun _ => rfl)) ?_
    | refine goO ?_
    | refine goS ?_
    | (refine WO.gs _ rfl rfl rfl ?_ ?_ <;> intro hb <;> simp only [hb] <;> try simp at hb)
    | (refine WD.gs _ rfl rfl rfl ?_ ?_ <;> intro hb <;> simp only [hb] <;> try simp at hb))
  all_goals first
    | (have hlt : k < l.length := by assumption
       rw [rowOk_cons _ hlt] at hy
       by_cases hk0 : k = 0
       · rw [ahead_0 hk0] at hy
         first
          | (refine ⟨.inr rfl, _, _, rfl, .cons (.c (.id rfl)) .nil, ?_⟩; simp_all [resV, X.v, seOk, inR]; done)
          | (refine ⟨.inr rfl, _, _, rfl, .cons (.c (.id rfl)) .nil, ?_⟩; simp [resV, X.v, seOk, inR] at *; grind)
          | (refine ⟨k + 1, ⟨by omega, ?_⟩, by omega, (.cons rfl rfl (.cons rfl rfl (.cons rfl rfl (.cons rfl rfl (.nil))))), rfl, rfl⟩; simp_all [seOk, inR]; done)
          | (refine ⟨k + 1, ⟨by omega, ?_⟩, by omega, (.cons rfl rfl (.cons rfl rfl (.cons rfl rfl (.cons rfl rfl (.nil))))), rfl, rfl⟩; simp_all [seOk, inR]; omega)
          | (refine ⟨k + 1, ⟨by omega, ?_⟩, by omega, (.cons rfl rfl (.cons rfl rfl (.cons rfl rfl (.cons rfl rfl (.nil))))), rfl, rfl⟩; simp [seOk, inR] at *; grind)
          | (exfalso; omega)
       · rw [ahead_s hk0 (by omega)] at hy
         first
          | (refine ⟨.inr rfl, _, _, rfl, .cons (.c (.id rfl)) .nil, ?_⟩; simp_all [resV, X.v, seOk, inR]; done)
          | (refine ⟨.inr rfl, _, _, rfl, .cons (.c (.id rfl)) .nil, ?_⟩; simp [resV, X.v, seOk, inR] at *; grind)
          | (refine ⟨k + 1, ⟨by omega, ?_⟩, by omega, (.cons rfl rfl (.cons rfl rfl (.cons rfl rfl (.cons rfl rfl (.nil))))), rfl, rfl⟩; simp_all [seOk, inR]; done)
          | (refine ⟨k + 1, ⟨by omega, ?_⟩, by omega, (.cons rfl rfl (.cons rfl rfl (.cons rfl rfl (.cons rfl rfl (.nil))))), rfl, rfl⟩; simp_all [seOk, inR]; omega)
          | (refine ⟨k + 1, ⟨by omega, ?_⟩, by omega, (.cons rfl rfl (.cons rfl rfl (.cons rfl rfl (.cons rfl rfl (.nil))))), rfl, rfl⟩; simp [seOk, inR] at *; grind)
          | (exfalso; omega))
    | (refine ⟨.inr rfl, _, _, rfl, .cons (.c (.id rfl)) .nil, ?_⟩; rw [rowOk_nil _ (by omega)] at hy; simp_all [resV, X.v]; done)

theorem sesOk_spec (l : List Ses) (hl : l.length ≤ 1048576) : Pu Tryz.prog 257 [L Ses.e l] (B (sesOk l)) := by
  refine Pu.of D Tryz.func257 rfl rfl rfl ?_
  repeat' (first
    | (refine W.cond rfl ?_ ?_ <;> intro hb <;> try simp at hb)
    | refine goO ?_
    | refine goS ?_
    | (refine WO.gs _ rfl rfl rfl ?_ ?_ <;> intro hb <;> simp only [hb] <;> try simp at hb)
    | (refine WD.gs _ rfl rfl rfl ?_ ?_ <;> intro hb <;> simp only [hb] <;> try simp at hb))
  refine W.loop (σ := Nat) (fun k => [(3, I k), (0, L Ses.e l)]) (fun _ => []) (fun k => k ≤ l.length ∧ sesOk l = rowOk seOk (ahead l k) (l.drop k)) (fun k => l.length - k) 0 (fun _ _ => rfl) 0 ⟨by simp, by simp [sesOk, ahead]⟩ rfl (.cons rfl rfl (.cons rfl rfl (.nil))) ?_
  rintro k ⟨hk1, hy⟩
  repeat' (first
    | (refine W.cond rfl ?_ ?_ <;> intro hb <;> try simp at hb)
    | refine cl (in_ok _ _ _) ?_
    | refine OpK.of (OpOk.ixI D rfl rfl rfl rfl rfl rfl (by omega) (by omega) (fun _ => rfl)) ?_
    | refine OpD.of (OpOk.ixI D rfl rfl rfl rfl rfl rfl (by omega) (by omega) (fun _ => rfl)) ?_
    | refine goO ?_
    | refine goS ?_
    | (refine WO.gs _ rfl rfl rfl ?_ ?_ <;> intro hb <;> simp only [hb] <;> try simp at hb)
    | (refine WD.gs _ rfl rfl rfl ?_ ?_ <;> intro hb <;> simp only [hb] <;> try simp at hb))
  all_goals first
    | (have hlt : k < l.length := by assumption
       rw [rowOk_cons _ hlt] at hy
       by_cases hk0 : k = 0
       · rw [ahead_0 hk0] at hy
         first
          | (refine ⟨.inr rfl, _, _, rfl, .cons (.c (.id rfl)) .nil, ?_⟩; simp_all [resV, X.v, seOk, inR]; done)
          | (refine ⟨.inr rfl, _, _, rfl, .cons (.c (.id rfl)) .nil, ?_⟩; simp [resV, X.v, seOk, inR] at *; grind)
          | (refine ⟨k + 1, ⟨by omega, ?_⟩, by omega, (.cons rfl rfl (.cons rfl rfl (.nil))), rfl, rfl⟩; simp_all [seOk, inR]; done)
          | (refine ⟨k + 1, ⟨by omega, ?_⟩, by omega, (.cons rfl rfl (.cons rfl rfl (.nil))), rfl, rfl⟩; simp_all [seOk, inR]; omega)
          | (refine ⟨k + 1, ⟨by omega, ?_⟩, by omega, (.cons rfl rfl (.cons rfl rfl (.nil))), rfl, rfl⟩; simp [seOk, inR] at *; grind)
          | (exfalso; omega)
       · rw [ahead_s hk0 (by omega)] at hy
         first
          | (refine ⟨.inr rfl, _, _, rfl, .cons (.c (.id rfl)) .nil, ?_⟩; simp_all [resV, X.v, seOk, inR]; done)
          | (refine ⟨.inr rfl, _, _, rfl, .cons (.c (.id rfl)) .nil, ?_⟩; simp [resV, X.v, seOk, inR] at *; grind)
          | (refine ⟨k + 1, ⟨by omega, ?_⟩, by omega, (.cons rfl rfl (.cons rfl rfl (.nil))), rfl, rfl⟩; simp_all [seOk, inR]; done)
          | (refine ⟨k + 1, ⟨by omega, ?_⟩, by omega, (.cons rfl rfl (.cons rfl rfl (.nil))), rfl, rfl⟩; simp_all [seOk, inR]; omega)
          | (refine ⟨k + 1, ⟨by omega, ?_⟩, by omega, (.cons rfl rfl (.cons rfl rfl (.nil))), rfl, rfl⟩; simp [seOk, inR] at *; grind)
          | (exfalso; omega))
    | (refine ⟨.inr rfl, _, _, rfl, .cons (.c (.id rfl)) .nil, ?_⟩; rw [rowOk_nil _ (by omega)] at hy; simp_all [resV, X.v]; done)

end Go.YtakiodehjhpgkaaGreatMc
