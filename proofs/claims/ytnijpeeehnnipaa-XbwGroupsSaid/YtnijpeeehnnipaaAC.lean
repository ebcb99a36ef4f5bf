
/- The abstract machine, third part: drawn regions, more rules; plain facts on words, numbers, bytes. No condition. -/
import Derived.Test.YtnijpeeehnnipaaAB
import Derived.Orders
import Derived.LoopN
import Derived.Lib.BitFns
set_option linter.unusedVariables false
set_option linter.unusedSimpArgs false
namespace Go.Proofs.Ytnijpeeehnnipaa.AM
open Go Go.RowKit

def rnk : Cls → Nat | .p => 0 | .r => 1 | .w => 2
def leC (a b : Cls) : Bool := decide (rnk a ≤ rnk b)
def isBS (o : Oper) : Bool := match o.op with
  | .buildSlice _ _ _ => true
  | _ => false
def fzM (k : Nat) : Oper := ⟨some k, .nilCheck (.tmp 0), 0, "", #[], none⟩
def fz (cw : Oper → Cls) : Bool := cw (fzM 1000001) == .r && cw (fzM 1000002) == .w
def cls0 (cw : Oper → Cls) (o : Oper) : Cls := match o.op with
  | .alloc _ => .w
  | .box _ _ => .w
  | .buildSlice _ _ _ => if fz cw then .p else .w
  | .makeSlice _ _ _ => .w
  | .store _ _ _ => .w
  | .assign (.const (.slice _ _ _)) => .w
  | .makeMap _ _ => .w
  | .mapUpdate _ _ _ _ => .w
  | .range _ _ => .w
  | .next _ _ => .w
  | .lookup _ _ _ _ => .r
  | .entry _ => .r
  | .call c => match c.callee with
    | .builtin .append => .w
    | .builtin .copy => .w
    | .builtin .clear => .w
    | .builtin .len => .r
    | .builtin _ => .p
    | _ => cw o
  | .load _ _ => .r
  | .slice _ _ _ _ _ => .r
  | .indexAddr _ _ _ => .r
  | .nilCheck _ => .r
  | .fieldAddr _ _ _ => .r
  | .convert _ _ _ => .r
  | _ => .p

section
variable {P : Program} {o : Oper} {ev ev' : Operand → AV} {M : List MO}

theorem parts_congr {ps : List (Nat × Operand)} (h : ∀ x ∈ ps.map (·.2), ev x = ev' x) : (ps.map fun (i, x) => (i, ev x)) = ps.map fun (i, x) => (i, ev' x) := by
  apply List.map_congr_left
  intro p hp
  have := h p.2 (List.mem_map.2 ⟨p, hp, rfl⟩)
  simp [this]

theorem effM_congr (h : ∀ x ∈ o.op.operands, ev x = ev' x) : effM P o ev M = effM P o ev' M := by
  unfold effM
  cases ho : o.op with
  | makeMap t r => cases r <;> rfl
  | lookup _ a b _ =>
    rw [ho] at h
    have h1 := h a (by simp [Op.operands]); have h2 := h b (by simp [Op.operands])
    simp only [h1, h2]
  | mapUpdate _ a b c =>
    rw [ho] at h
    have h1 := h a (by simp [Op.operands]); have h2 := h b (by simp [Op.operands]); have h3 := h c (by simp [Op.operands])
    simp only [h1, h2, h3]
  | range _ x => rw [ho] at h; simp only [Op.operands, List.mem_toArray, List.mem_singleton, forall_eq] at h; simp only [h]
  | next x b => rw [ho] at h; simp only [Op.operands, List.mem_toArray, List.mem_singleton, forall_eq] at h; cases b <;> simp only [h]
  | entry x => rw [ho] at h; simp only [Op.operands, List.mem_toArray, List.mem_singleton, forall_eq] at h; simp only [h]
  | _ => rfl
theorem eff_congr (h : ∀ x ∈ o.op.operands, ev x = ev' x) : eff P o ev M = eff P o ev' M := by
  have h0 := h
  unfold eff
  cases ho : o.op with
  | move x => rw [ho] at h; simp only [Op.operands, List.mem_toArray, List.mem_singleton, forall_eq] at h; simp only [h]
  | assign x =>
    rw [ho] at h; simp only [Op.operands, List.mem_toArray, List.mem_singleton, forall_eq] at h
    dsimp only
    split
    · rfl
    · rw [h]
  | box T x => rw [ho] at h; simp only [Op.operands, List.mem_toArray, List.mem_singleton, forall_eq] at h; simp only [h]
  | load T x => rw [ho] at h; simp only [Op.operands, List.mem_toArray, List.mem_singleton, forall_eq] at h; simp only [h]
  | nilCheck x => rw [ho] at h; simp only [Op.operands, List.mem_toArray, List.mem_singleton, forall_eq] at h; simp only [h]
  | unOp _ _ x => rw [ho] at h; simp only [Op.operands, List.mem_toArray, List.mem_singleton, forall_eq] at h; simp only [h]
  | convert _ _ x => rw [ho] at h; simp only [Op.operands, List.mem_toArray, List.mem_singleton, forall_eq] at h; simp only [h]
  | fieldAddr _ x _ => rw [ho] at h; simp only [Op.operands, List.mem_toArray, List.mem_singleton, forall_eq] at h; simp only [h]
  | field _ x _ => rw [ho] at h; simp only [Op.operands, List.mem_toArray, List.mem_singleton, forall_eq] at h; simp only [h]
  | extract x _ => rw [ho] at h; simp only [Op.operands, List.mem_toArray, List.mem_singleton, forall_eq] at h; simp only [h]
  | pick c a b =>
    rw [ho] at h
    have h1 := h c (by simp [Op.operands]); have h2 := h a (by simp [Op.operands]); have h3 := h b (by simp [Op.operands])
    simp only [h1, h2, h3]
  | store _ a b =>
    rw [ho] at h
    have h1 := h a (by simp [Op.operands]); have h2 := h b (by simp [Op.operands])
    simp only [h1, h2]
  | binOp _ _ a b _ =>
    rw [ho] at h
    have h1 := h a (by simp [Op.operands]); have h2 := h b (by simp [Op.operands])
    simp only [h1, h2]
  | makeSlice _ a b =>
    rw [ho] at h
    have h1 := h a (by simp [Op.operands]); have h2 := h b (by simp [Op.operands])
    simp only [h1, h2]
  | indexAddr _ a b =>
    rw [ho] at h
    have h1 := h a (by simp [Op.operands]); have h2 := h b (by simp [Op.operands])
    simp only [h1, h2]
  | index _ a b =>
    rw [ho] at h
    have h1 := h a (by simp [Op.operands]); have h2 := h b (by simp [Op.operands])
    simp only [h1, h2]
  | build _ ps =>
    rw [ho] at h
    simp only [Op.operands, List.mem_toArray] at h
    simp only [parts_congr h]
  | buildSlice _ _ ps =>
    rw [ho] at h
    simp only [Op.operands, List.mem_toArray] at h
    simp only [parts_congr h]
  | slice _ x l hi m =>
    rw [ho] at h
    have h1 := h x (by simp [Op.operands])
    have hl : l.map ev = l.map ev' := by cases l with | none => rfl | some y => simp [h y (by simp [Op.operands])]
    have hh : hi.map ev = hi.map ev' := by cases hi with | none => rfl | some y => simp [h y (by simp [Op.operands])]
    have hm : m.map ev = m.map ev' := by cases m with | none => rfl | some y => simp [h y (by simp [Op.operands])]
    simp only [h1, hl, hh, hm]
  | makeFunc fd first caps =>
    rw [ho] at h
    have : caps.toList.map ev = caps.toList.map ev' := List.map_congr_left (fun x hx => h x (by simp [Op.operands]; exact .inr (by simpa using hx)))
    cases fd with
    | func f => simp only [this]
    | _ => exact effM_congr h0
  | call c =>
    rw [ho] at h
    have : c.args.toList.map ev = c.args.toList.map ev' := List.map_congr_left (fun x hx => h x (by simp [Op.operands, Call.operands]; exact .inr (by simpa using hx)))
    simp only [this]
  | _ => first | rfl | exact effM_congr h0

def ClsOk (P : Program) (o : Oper) (ev : Operand → AV) (M : List MO) (c0 : Cls) (c : Cls) (v : AV) (M' : List MO) : Prop := leC c c0 = true ∧ (c = .w ∨ M' = M) ∧ (c = .p → ∀ M2, eff P o ev M2 = some (.p, v, M2))

theorem ok_w {c0 : Cls} {v : AV} {M' : List MO} (h : c0 = .w) : ClsOk P o ev M c0 .w v M' := ⟨by rw [h]; rfl, .inl rfl, fun h => by cases h⟩
theorem ok_r {c0 : Cls} {v : AV} (h : leC .r c0 = true) : ClsOk P o ev M c0 .r v M := ⟨h, .inr rfl, fun h => by cases h⟩
theorem ok_p {c0 : Cls} {v : AV} (h : ∀ M2, eff P o ev M2 = some (.p, v, M2)) : ClsOk P o ev M c0 .p v M := ⟨by cases c0 <;> rfl, .inr rfl, fun _ => h⟩

theorem effM_ok (cw : Oper → Cls) {c : Cls} {v : AV} {M' : List MO} (h : effM P o ev M = some (c, v, M')) : ClsOk P o ev M (cls0 cw o) c v M' := by
  unfold effM at h
  split at h
  · rename_i ho
    obtain ⟨_, _, h⟩ := option_map_some h
    cases h; exact ok_w (by simp only [cls0, ho])
  · rename_i ho
    obtain ⟨q1, _, h⟩ := option_bind_some h
    obtain ⟨q2, _, h⟩ := option_bind_some h
    obtain ⟨q3, _, h⟩ := option_bind_some h
    obtain ⟨q4, _, h⟩ := option_bind_some h
    obtain ⟨q5, _, h⟩ := option_map_some h
    cases h; exact ok_r (by simp only [cls0, ho]; rfl)
  · rename_i ho
    obtain ⟨q1, _, h⟩ := option_bind_some h
    obtain ⟨q2, _, h⟩ := option_bind_some h
    split at h
    · split at h
      · obtain ⟨q5, _, h⟩ := option_map_some h
        cases h; exact ok_w (by simp only [cls0, ho])
      · cases h
    · cases h
  · rename_i ho
    split at h
    · cases h; exact ok_w (by simp only [cls0, ho])
    · obtain ⟨q5, _, h⟩ := option_map_some h
      cases h; exact ok_w (by simp only [cls0, ho])
    · cases h
  · rename_i ho
    unfold nextV at h
    split at h
    · split at h
      · split at h <;> (cases h; exact ok_w (by simp only [cls0, ho]))
      · cases h
    · cases h
  · rename_i ho
    unfold nextEV at h
    split at h
    · split at h
      · obtain ⟨q5, _, h⟩ := option_bind_some h
        split at h
        · cases h; exact ok_w (by simp only [cls0, ho])
        · cases h
      · cases h
    · cases h
  · rename_i ho
    split at h
    · split at h
      · obtain ⟨q5, _, h⟩ := option_bind_some h
        simp only at h
        split at h
        · obtain ⟨q1, _, h⟩ := option_bind_some h
          obtain ⟨q2, _, h⟩ := option_bind_some h
          obtain ⟨q3, _, h⟩ := option_map_some h
          cases h; exact ok_r (by simp only [cls0, ho]; rfl)
        · cases h
      · cases h
    · cases h
  · cases h
theorem eff_ok (cw : Oper → Cls) (hz : isBS o = true → fz cw = false) {c : Cls} {v : AV} {M' : List MO} (h : eff P o ev M = some (c, v, M')) : ClsOk P o ev M (cls0 cw o) c v M' := by
  cases ho : o.op with
  | move x => simp only [eff, ho] at h; cases h; exact ok_p (fun M2 => by simp only [eff, ho])
  | assign x =>
    by_cases hx : x = .const (.slice none 0 0)
    · subst hx
      simp only [eff, ho] at h
      obtain ⟨e, he, h⟩ := option_map_some h
      cases h
      exact ok_w (by simp only [cls0, ho])
    · have key : ∀ M2, eff P o ev M2 = some (.p, ev x, M2) := by
        intro M2
        simp only [eff, ho]
      rw [key M] at h; cases h; exact ok_p key
  | pick a b d =>
    have h0 := h
    simp only [eff, ho] at h
    split at h
    · rename_i t ht; cases h; exact ok_p (fun M2 => by simp only [eff, ho, ht])
    · cases h
  | alloc T =>
    simp only [eff, ho] at h
    obtain ⟨z, _, h⟩ := option_bind_some h
    obtain ⟨cs, _, h⟩ := option_map_some h
    cases h; exact ok_w (by simp only [cls0, ho])
  | box T x =>
    simp only [eff, ho] at h
    obtain ⟨cs, _, h⟩ := option_map_some h
    cases h; exact ok_w (by simp only [cls0, ho])
  | build t ps =>
    simp only [eff, ho] at h
    obtain ⟨z, h1, h⟩ := option_bind_some h
    obtain ⟨cs, h2, h⟩ := option_bind_some h
    obtain ⟨pl, h3, h⟩ := option_bind_some h
    obtain ⟨cs', h4, h⟩ := option_map_some h
    cases h
    exact ok_p (fun M2 => by simp only [eff, ho, h1, h2, h3, h4, Option.bind_some, Option.map_some])
  | buildSlice t len ps =>
    simp only [eff, ho] at h
    obtain ⟨e, h1, h⟩ := option_bind_some h
    obtain ⟨z, h2, h⟩ := option_bind_some h
    split at h
    · obtain ⟨⟨q, M1⟩, h3, h⟩ := option_bind_some h
      simp only at h
      split at h
      · obtain ⟨xs, h4, h⟩ := option_map_some h
        cases h; exact ok_w (by simp only [cls0, ho, hz (by simp [isBS, ho])]; rfl)
      · cases h
    · cases h
  | load t a =>
    simp only [eff, ho] at h
    obtain ⟨ag, h1, h⟩ := option_bind_some h
    split at h
    · split at h
      · obtain ⟨x, _, h⟩ := option_map_some h
        cases h; exact ok_r (by simp only [cls0, ho]; rfl)
      · cases h
    · obtain ⟨q, _, h⟩ := option_bind_some h
      obtain ⟨x, _, h⟩ := option_bind_some h
      obtain ⟨y, _, h⟩ := option_map_some h
      cases h; exact ok_r (by simp only [cls0, ho]; rfl)
    · rename_i ha
      obtain ⟨x, h2, h⟩ := option_bind_some h
      obtain ⟨y, h3, h⟩ := option_map_some h
      cases h; exact ok_p (fun M2 => by simp only [eff, ho, h1, ha, h2, h3, Option.bind_some, Option.map_some])
    · cases h
  | store t a x =>
    simp only [eff, ho] at h
    obtain ⟨n, h1, h⟩ := option_bind_some h
    split at h
    · split at h
      · obtain ⟨ys, _, h⟩ := option_bind_some h
        split at h
        · cases h; exact ok_w (by simp only [cls0, ho])
        · cases h
      · cases h
    · obtain ⟨⟨y, M1⟩, _, h⟩ := option_bind_some h
      simp only at h
      split at h
      · split at h
        · obtain ⟨old, _, h⟩ := option_bind_some h
          obtain ⟨z, _, h⟩ := option_map_some h
          cases h; exact ok_w (by simp only [cls0, ho])
        · cases h
      · cases h
    · cases h
  | nilCheck x =>
    simp only [eff, ho] at h
    split at h
    · rename_i hx; cases h; exact ok_p (fun M2 => by simp only [eff, ho, hx])
    · rename_i hx; cases h; exact ok_p (fun M2 => by simp only [eff, ho, hx])
    · obtain ⟨q, _, h⟩ := option_map_some h
      cases h; exact ok_r (by simp only [cls0, ho]; rfl)
    · rename_i hx; cases h; exact ok_p (fun M2 => by simp only [eff, ho, hx])
    · rename_i hx; cases h; exact ok_p (fun M2 => by simp only [eff, ho, hx])
    · cases h
  | binOp op t x y yt =>
    simp only [eff, ho] at h
    cases hn : nilCmp P op t y (ev x) with
    | some b =>
      rw [hn] at h
      cases h; exact ok_p (fun M2 => by simp only [eff, ho, hn])
    | none =>
      rw [hn] at h
      obtain ⟨q, h1, h⟩ := option_map_some h
      cases h; exact ok_p (fun M2 => by simp only [eff, ho, hn, h1, Option.map_some])
  | unOp op t x =>
    simp only [eff, ho] at h
    obtain ⟨q, h1, h⟩ := option_map_some h
    cases h; exact ok_p (fun M2 => by simp only [eff, ho, h1, Option.map_some])
  | convert src dst x =>
    simp only [eff, ho] at h
    have key : ∀ M, convAV P src dst (ev x) M = (convAV P src dst (ev x) []).map fun q => (q.1, q.2.1, M) := by
      intro M
      unfold convAV
      split
      · split <;> rfl
      · split <;> rfl
      · rfl
    have key2 : ∀ {q}, convAV P src dst (ev x) [] = some q → q.1 = .p := by
      intro q hq
      unfold convAV at hq
      split at hq
      · split at hq <;> cases hq; rfl
      · split at hq <;> cases hq; rfl
      · cases hq
    rw [key] at h
    cases hc : convAV P src dst (ev x) [] with
    | some q =>
      rw [hc] at h
      have hq := key2 hc
      cases h
      rw [hq]
      refine ok_p (fun M2 => ?_)
      simp only [eff, ho]
      rw [key, hc, Option.map_some, hq]
    | none =>
      rw [hc] at h
      simp only [Option.map_none] at h
      unfold strOf at h
      split at h
      · split at h
        · obtain ⟨ys, _, h⟩ := option_bind_some h
          obtain ⟨l, _, h⟩ := option_map_some h
          cases h; exact ok_r (by simp only [cls0, ho]; rfl)
        · cases h
      · cases h
  | makeFunc fd first caps =>
    cases fd with
    | func f =>
      simp only [eff, ho] at h
      split at h
      · rename_i hf; cases h; exact ok_p (fun M2 => by simp only [eff, ho, hf, if_true])
      · cases h
    | _ => simp only [eff, ho] at h; exact effM_ok cw h
  | makeSlice t l d =>
    simp only [eff, ho] at h
    split at h
    · obtain ⟨e, _, h⟩ := option_bind_some h
      obtain ⟨z, _, h⟩ := option_bind_some h
      split at h
      · cases h; exact ok_w (by simp only [cls0, ho])
      · cases h
    · cases h
  | slice t x l hi m =>
    simp only [eff, ho] at h
    split at h
    · cases h
    · obtain ⟨q, _, h⟩ := option_map_some h
      cases h; exact ok_r (by simp only [cls0, ho]; rfl)
  | fieldAddr t x f =>
    simp only [eff, ho] at h
    obtain ⟨⟨off, ft⟩, h1, h⟩ := option_bind_some h
    simp only at h
    split at h
    · rename_i hx; cases h; exact ok_p (fun M2 => by simp only [eff, ho, h1, hx, Option.bind_some])
    · rename_i hx; cases h; exact ok_p (fun M2 => by simp only [eff, ho, h1, hx, Option.bind_some])
    · obtain ⟨q, _, h⟩ := option_map_some h
      cases h; exact ok_r (by simp only [cls0, ho]; rfl)
    · cases h
  | field t x f =>
    simp only [eff, ho] at h
    obtain ⟨⟨off, ft⟩, h1, h⟩ := option_bind_some h
    simp only at h
    obtain ⟨ag, h2, h⟩ := option_bind_some h
    split at h
    · rename_i hx
      obtain ⟨q, h3, h⟩ := option_map_some h
      cases h; exact ok_p (fun M2 => by simp only [eff, ho, h1, h2, hx, h3, Option.bind_some, Option.map_some])
    · rename_i hx
      obtain ⟨q, h3, h⟩ := option_map_some h
      cases h; exact ok_p (fun M2 => by simp only [eff, ho, h1, h2, hx, h3, Option.bind_some, Option.map_some])
    · cases h
  | indexAddr t x i =>
    simp only [eff, ho] at h
    obtain ⟨j, h1, h⟩ := option_bind_some h
    split at h
    · rename_i hx
      obtain ⟨e, h2, h⟩ := option_bind_some h
      split at h
      · rename_i hc; cases h; exact ok_p (fun M2 => by simp only [eff, ho, h1, hx, h2, Option.bind_some, if_pos hc])
      · cases h
    · obtain ⟨e, h2, h⟩ := option_bind_some h
      obtain ⟨q, h3, h⟩ := option_bind_some h
      split at h
      · cases h; exact ok_r (by simp only [cls0, ho]; rfl)
      · cases h
    · rename_i hx
      obtain ⟨q, h2, h⟩ := option_bind_some h
      split at h
      · rename_i hc; cases h; exact ok_p (fun M2 => by simp only [eff, ho, h1, hx, h2, Option.bind_some, if_pos hc])
      · cases h
    · cases h
  | index t x i =>
    simp only [eff, ho] at h
    obtain ⟨j, h1, h⟩ := option_bind_some h
    split at h
    · rename_i hx
      simp only [Option.ite_none_right_eq_some, Option.some.injEq, Prod.mk.injEq] at h
      obtain ⟨hk, hc, rfl, rfl, rfl⟩ := h
      exact ok_p (fun M2 => by simp only [eff, ho, h1, hx, Option.bind_some]; rw [if_pos hk, if_pos hc])
    · rename_i hx
      obtain ⟨q, h2, h⟩ := option_bind_some h
      obtain ⟨ag, h3, h⟩ := option_bind_some h
      split at h
      · rename_i hc
        obtain ⟨y, h4, h⟩ := option_map_some h
        cases h; exact ok_p (fun M2 => by simp only [eff, ho, h1, hx, h2, h3, h4, Option.bind_some, Option.map_some, if_pos hc])
      · cases h
    · cases h
  | extract x i =>
    simp only [eff, ho] at h
    split at h
    · rename_i hx
      obtain ⟨q, h3, h⟩ := option_map_some h
      cases h; exact ok_p (fun M2 => by simp only [eff, ho, hx, h3, Option.map_some])
    · rename_i hx
      obtain ⟨q, h3, h⟩ := option_map_some h
      cases h; exact ok_p (fun M2 => by simp only [eff, ho, hx, h3, Option.map_some])
    · cases h
  | call cl =>
    simp only [eff, ho] at h
    split at h
    · rename_i b hb
      unfold builtinAV at h
      split at h
      · unfold clearAV at h
        split at h
        · obtain ⟨e, _, h⟩ := option_bind_some h
          obtain ⟨z, _, h⟩ := option_bind_some h
          split at h
          · split at h
            · split at h
              · cases h; exact ok_w (by simp only [cls0, ho, hb])
              · cases h
            · cases h
          · cases h
        · cases h
      unfold builtin0 at h
      split at h
      · split at h
        · split at h
          · cases h
          · obtain ⟨n, _, h⟩ := option_map_some h
            cases h; exact ok_r (by simp only [cls0, ho, hb]; rfl)
        · split at h
          · cases h
            refine ok_p (fun M2 => ?_)
            simp only [eff, ho, hb, builtinAV, builtin0, *]
          · cases h
        · obtain ⟨q, _, h⟩ := option_map_some h
          cases h; exact ok_r (by simp only [cls0, ho, hb]; rfl)
        · cases h
      · split at h
        · obtain ⟨e, _, h⟩ := option_bind_some h
          obtain ⟨⟨q, M1⟩, _, h⟩ := option_map_some h
          cases h; exact ok_w (by simp only [cls0, ho, hb])
        · obtain ⟨e, _, h⟩ := option_bind_some h
          obtain ⟨⟨q, M1⟩, _, h⟩ := option_map_some h
          cases h; exact ok_w (by simp only [cls0, ho, hb])
        · cases h
      · rename_i hargs hnc
        obtain ⟨q, h1, h⟩ := option_map_some h
        cases h
        refine ok_p (fun M2 => ?_)
        simp only [eff, ho, hb, hargs]
        simp only [builtinAV, builtin0, h1, Option.map_some]
      · rename_i hargs hnc
        obtain ⟨q, h1, h⟩ := option_map_some h
        cases h
        refine ok_p (fun M2 => ?_)
        simp only [eff, ho, hb, hargs]
        simp only [builtinAV, builtin0, h1, Option.map_some]
      · obtain ⟨e, _, h⟩ := option_bind_some h
        obtain ⟨ys, _, h⟩ := option_bind_some h
        split at h
        · split at h
          · split at h
            · cases h; exact ok_w (by simp only [cls0, ho, hb])
            · cases h
          · cases h
        · cases h
      · cases h
    · cases h
  | _ => simp only [eff, ho] at h; exact effM_ok cw h

end

/-! ### steps with their classes -/
def looks (ops : List Oper) (o : Oper) : List Tmp :=
  (o.op.operands.toList.filterMap fun | .tmp t => some t | _ => none) ++
  (match o.guard with
   | some (g, _) => ((ops[g]?).bind (·.dst)).toList
   | none => [])

inductive DStep (P : Program) (ops : List Oper) (o : Oper) : Cls → St → AV → List MO → Prop
  | bfz (c : Cls) (s : St) (y : IV) (hw : s.want ops o = some true) (h : bfz P o s.ev = some y) : DStep P ops o c s (.iv y) s.M
  | skip (c : Cls) (s : St) (hw : s.want ops o = some false) : DStep P ops o c s (.iv (.tup [])) s.M
  | eff (c : Cls) (c0 : Cls) (s : St) (v : AV) (M' : List MO) (hw : s.want ops o = some true) (h : eff P o s.ev s.M = some (c0, v, M')) (hc : leC c0 c = true) : DStep P ops o c s v M'
  | call (c : Cls) (s : St) (f : Nat) (cl : Call) (x : Operand) (ys : List IV) (r : IV) (hw : s.want ops o = some true) (ho : o.op = .call cl) (hc : cl.callee = .value x) (hx : s.ev x = .iv (.fnc f))
      (ha : ivs (cl.args.toList.map s.ev) = some ys) (h : PCalls P f ys r) : DStep P ops o c s (.iv r) s.M
  | callF (s : St) (f : Nat) (cl : Call) (x : Operand) (ys : List IV) (r : IV) (M' : List MO) (hw : s.want ops o = some true) (ho : o.op = .call cl) (hc : cl.callee = .value x) (hx : s.ev x = .iv (.fnc f))
      (ha : argsF s.M (cl.args.toList.map s.ev) = some (ys, M')) (h : PCalls P f ys r) : DStep P ops o .w s (.iv r) M'
  | callB (c : Cls) (hcp : c ≠ .p) (s : St) (f : Nat) (cl : Call) (x : Operand) (ys : List IV) (r : IV) (M' : List MO) (hw : s.want ops o = some true) (ho : o.op = .call cl) (hc : cl.callee = .value x) (hx : s.ev x = .iv (.fnc f))
      (ha : argsF s.M (cl.args.toList.map s.ev) = some (ys, M')) (h : PCalls P f ys r) (hr : r.flat = true) : DStep P ops o c s (.iv r) s.M
  | callM (s : St) (f : Nat) (caps : List AV) (cl : Call) (x : Operand) (l : List Nat) (xs : List AV) (Ml M' : List MO) (r : AV) (hw : s.want ops o = some true) (ho : o.op = .call cl) (hc : cl.callee = .value x)
      (hx : calleeOf (s.ev x) = some (f, caps)) (ha : cl.args.toList.map s.ev ++ caps = rens (sg l s.M.length) xs) (hp : Part s.M l Ml) (h : MCalls P f xs Ml r M') : DStep P ops o .w s (ren (sg l s.M.length) r) (backM s.M l M')
  | callR (c : Cls) (hcp : c ≠ .p) (s : St) (f : Nat) (caps : List AV) (cl : Call) (x : Operand) (l : List Nat) (xs : List AV) (Ml : List MO) (r : AV) (hw : s.want ops o = some true) (ho : o.op = .call cl) (hc : cl.callee = .value x)
      (hx : calleeOf (s.ev x) = some (f, caps)) (ha : cl.args.toList.map s.ev ++ caps = rens (sg l s.M.length) xs) (hp : Part s.M l Ml) (h : MCalls P f xs Ml r Ml) : DStep P ops o c s (ren (sg l s.M.length) r) s.M

theorem setAll_same : ∀ {l : List Nat} {M os : List MO}, l.length = os.length → (∀ (i j : Nat) (o : MO), l[i]? = some j → os[i]? = some o → M[j]? = some o) → setAll M l os = M
  | [], M, [], _, _ => by simp [setAll]
  | [], M, _ :: _, h, _ => by simp at h
  | j :: l, M, [], h, _ => by simp at h
  | j :: l, M, o :: os, h, hg => by
    have h0 := hg 0 j o rfl rfl
    have e : M.set j o = M := by
      apply List.ext_getElem?
      intro i
      rw [List.getElem?_set]
      by_cases hi : j = i
      · subst hi; rw [if_pos rfl, if_pos (lt_of_get h0), h0]
      · rw [if_neg hi]
    rw [setAll, e]
    exact setAll_same (by simpa using h) (fun i j' o' h1 h2 => hg (i + 1) j' o' (by simpa using h1) (by simpa using h2))
theorem backM_same {M Ml : List MO} {l : List Nat} (h : Part M l Ml) : backM M l Ml = M := by
  unfold backM
  refine setAll_same (by rw [List.length_map, h.len]) (fun i j o h1 h2 => ?_)
  rw [List.getElem?_map] at h2
  cases h3 : Ml[i]? with
  | none => rw [h3] at h2; cases h2
  | some o' => rw [h3] at h2; cases h2; exact h.get i j o' h1 h3

section
variable {P : Program} {ops : List Oper} {o : Oper} {s s2 : St} {c : Cls} {v : AV} {M' : List MO}

theorem DStep.op (h : DStep P ops o c s v M') : ∃ c', OpStep P ops o c' s ({ s with M := M' }.put o.dst v) := by
  cases h with
  | bfz _ _ y hw h => exact ⟨_, .bfz s y hw h⟩
  | skip _ _ hw => exact ⟨_, .skip s hw⟩
  | eff _ c0 _ _ _ hw h hc => exact ⟨_, .eff s c0 v M' hw h⟩
  | call _ _ f cl x ys r hw ho hc hx ha h => exact ⟨_, .call s f cl x ys r hw ho hc hx ha h⟩
  | callF _ f cl x ys r _ hw ho hc hx ha h => exact ⟨_, .callF s f cl x ys r M' hw ho hc hx ha h⟩
  | callB _ hcp _ f cl x ys r M1 hw ho hc hx ha h hr => exact ⟨_, .callB s f cl x ys r M1 hw ho hc hx ha h hr⟩
  | callM _ f caps cl x l xs Ml M1 r hw ho hc hx ha hp h => exact ⟨_, .callM s s (Wk.refl s) f caps cl x l xs Ml M1 r hw ho hc hx ha hp h⟩
  | callR _ hcp _ f caps cl x l xs Ml r hw ho hc hx ha hp h =>
    have := OpStep.callM (ops := ops) (o := o) s s (Wk.refl s) f caps cl x l xs Ml Ml r hw ho hc hx ha hp h
    rw [backM_same hp] at this
    exact ⟨_, this⟩

theorem DStep.keep (h : DStep P ops o c s v M') (hc : c ≠ .w) : M' = s.M := by
  cases h with
  | bfz => rfl
  | skip => rfl
  | eff _ c0 _ _ _ hw h hc' =>
    rcases (eff_ok (fun _ => .p) (fun _ => rfl) h).2.1 with h1 | h1
    · subst h1
      cases c <;> simp [leC, rnk] at hc' hc
    · exact h1
  | call => rfl
  | callF => exact absurd rfl hc
  | callB => rfl
  | callM => exact absurd rfl hc
  | callR => rfl

theorem ev_of (h : ∀ t ∈ looks ops o, s2.t t = s.t t) : ∀ x ∈ o.op.operands, s2.ev x = s.ev x := by
  intro x hx
  cases x with
  | tmp t =>
    exact h t (by
      unfold looks
      rw [List.mem_append]; left
      rw [List.mem_filterMap]
      exact ⟨.tmp t, by simpa using hx, rfl⟩)
  | const v => rfl
  | func f => rfl
  | global g => rfl
theorem want_of (h : ∀ t ∈ looks ops o, s2.t t = s.t t) : s2.want ops o = s.want ops o := by
  unfold St.want
  cases hg : o.guard with
  | none => rfl
  | some q =>
    obtain ⟨j, w⟩ := q
    simp only
    cases hd : (ops[j]?).bind (·.dst) with
    | none => rfl
    | some d =>
      simp only
      rw [h d (by unfold looks; rw [List.mem_append, hg]; right; simp [hd])]

theorem call_ops {cl : Call} (ho : o.op = .call cl) {x : Operand} (hc : cl.callee = .value x) (he : ∀ y ∈ o.op.operands, s2.ev y = s.ev y) : s2.ev x = s.ev x ∧ cl.args.toList.map s2.ev = cl.args.toList.map s.ev := by
  rw [ho] at he
  refine ⟨he x (by simp [Op.operands, Call.operands, hc]), List.map_congr_left (fun y hy => he y (by simp [Op.operands, Call.operands]; exact .inr (by simpa using hy)))⟩

theorem bfz_congr {ev ev' : Operand → AV} (he : ∀ x ∈ o.op.operands, ev x = ev' x) : bfz P o ev = bfz P o ev' := by
  unfold bfz
  cases ho : o.op with
  | buildSlice t len ps =>
    rw [ho] at he
    simp only
    rw [parts_congr (ps := ps.toList) (fun x hx => he x (by
      simp only [Op.operands]
      simpa using hx))]
  | _ => rfl
theorem DStep.cong (h : DStep P ops o c s v M') (hl : ∀ t ∈ looks ops o, s2.t t = s.t t) (hM : s2.M = s.M) : DStep P ops o c s2 v M' := by
  have he := ev_of hl
  have hwt := want_of hl
  cases h with
  | bfz _ _ y hw h => rw [← hM]; exact .bfz c s2 y (hwt.trans hw) (by rw [bfz_congr he]; exact h)
  | skip _ _ hw => rw [← hM]; exact .skip c s2 (hwt.trans hw)
  | eff _ c0 _ _ _ hw h hc => exact .eff c c0 s2 v M' (hwt.trans hw) (by rw [hM, eff_congr he]; exact h) hc
  | call _ _ f cl x ys r hw ho hc hx ha h =>
    obtain ⟨h1, h2⟩ := call_ops ho hc he
    rw [← hM]
    exact .call c s2 f cl x ys r (hwt.trans hw) ho hc (h1.trans hx) (by rw [h2]; exact ha) h
  | callF _ f cl x ys r _ hw ho hc hx ha h =>
    obtain ⟨h1, h2⟩ := call_ops ho hc he
    exact .callF s2 f cl x ys r M' (hwt.trans hw) ho hc (h1.trans hx) (by rw [h2, hM]; exact ha) h
  | callB _ hcp _ f cl x ys r M1 hw ho hc hx ha h hr =>
    obtain ⟨h1, h2⟩ := call_ops ho hc he
    rw [← hM]
    exact .callB c hcp s2 f cl x ys r M1 (hwt.trans hw) ho hc (h1.trans hx) (by rw [h2, hM]; exact ha) h hr
  | callM _ f caps cl x l xs Ml M1 r hw ho hc hx ha hp h =>
    obtain ⟨h1, h2⟩ := call_ops ho hc he
    rw [← hM]
    exact .callM s2 f caps cl x l xs Ml M1 r (hwt.trans hw) ho hc (by rw [h1]; exact hx) (by rw [h2, hM]; exact ha) (by rw [hM]; exact hp) h
  | callR _ hcp _ f caps cl x l xs Ml r hw ho hc hx ha hp h =>
    obtain ⟨h1, h2⟩ := call_ops ho hc he
    rw [← hM]
    exact .callR c hcp s2 f caps cl x l xs Ml r (hwt.trans hw) ho hc (by rw [h1]; exact hx) (by rw [h2, hM]; exact ha) (by rw [hM]; exact hp) h

theorem DStep.congP (h : DStep P ops o .p s v M') (hl : ∀ t ∈ looks ops o, s2.t t = s.t t) : DStep P ops o .p s2 v s2.M := by
  have he := ev_of hl
  have hwt := want_of hl
  cases h with
  | bfz _ _ y hw h => exact .bfz .p s2 y (hwt.trans hw) (by rw [bfz_congr he]; exact h)
  | skip _ _ hw => exact .skip .p s2 (hwt.trans hw)
  | eff _ c0 _ _ _ hw h hc =>
    have hc0 : c0 = .p := by cases c0 <;> simp [leC, rnk] at hc; rfl
    subst hc0
    have := (eff_ok (fun _ => .p) (fun _ => rfl) h).2.2 rfl s2.M
    exact .eff .p .p s2 v s2.M (hwt.trans hw) (by rw [eff_congr he]; exact this) rfl
  | call _ _ f cl x ys r hw ho hc hx ha h =>
    obtain ⟨h1, h2⟩ := call_ops ho hc he
    exact .call .p s2 f cl x ys r (hwt.trans hw) ho hc (h1.trans hx) (by rw [h2]; exact ha) h
  | callB _ hcp => exact absurd rfl hcp
  | callR _ hcp => exact absurd rfl hcp

def apartL (ops : List Oper) (x y : Oper) : Bool :=
  (match x.dst with
   | some d => !(looks ops y).contains d && y.dst != some d
   | none => true) &&
  (match y.dst with
   | some d => !(looks ops x).contains d
   | none => true)
theorem apartL_spec {x y : Oper} (h : apartL ops x y = true) :
    (∀ d, x.dst = some d → d ∉ looks ops y) ∧ (∀ d, x.dst = some d → y.dst ≠ some d) ∧ (∀ d, y.dst = some d → d ∉ looks ops x) := by
  refine ⟨fun d hd => ?_, fun d hd => ?_, fun d hd => ?_⟩ <;> simp [apartL, hd] at h
  · exact h.1.1
  · exact h.1.2
  · exact h.2
def clsC : Cls → Cls → Bool
  | .p, _ => true
  | _, .p => true
  | .r, .r => true
  | _, _ => false
def reads (o : Oper) : Bool := match o.op with
  | .load _ _ => true
  | .slice _ _ _ _ _ => true
  | .indexAddr _ _ _ => true
  | .nilCheck _ => true
  | .fieldAddr _ _ _ => true
  | .call c => match c.callee with
    | .builtin .len => true
    | _ => false
  | _ => false
def appends (o : Oper) : Bool := match o.op with
  | .alloc _ => true
  | .box _ _ => true
  | .makeSlice _ _ _ => true
  | _ => false
theorem get_app {M : List MO} {k : Nat} {y : MO} (x : MO) (h : M[k]? = some y) : (M ++ [x])[k]? = some y := by rw [List.getElem?_append_left (lt_of_get h), h]
theorem rowAt_app {M : List MO} {k n : Nat} {r} (x : MO) (h : rowAt M k n = some r) : rowAt (M ++ [x]) k n = some r := by
  unfold rowAt at *
  cases hk : M[k]? with
  | none => rw [hk] at h; cases h
  | some y => rw [get_app x hk]; rw [hk] at h; exact h
theorem sliceAV_app {t : TypeId} {M : List MO} {a : AV} {lo hi mx : Option AV} {v : AV} (x : MO) (h : sliceAV P t M a lo hi mx = some v) : sliceAV P t (M ++ [x]) a lo hi mx = some v := by
  unfold sliceAV at *
  split at h
  · exact h
  · exact h
  · obtain ⟨e, h1, h⟩ := option_bind_some h
    obtain ⟨q, h2, h⟩ := option_bind_some h
    simp only [h1, rowAt_app x h2, Option.bind_some]
    exact h
  · exact h
  · cases h
theorem lenAV_app {M : List MO} {a : AV} {v : Nat} (x : MO) (h : lenAV M a = some v) : lenAV (M ++ [x]) a = some v := by
  unfold lenAV at *
  split at h
  · exact h
  · exact h
  · obtain ⟨q, h2, h⟩ := option_bind_some h
    simp only [rowAt_app x h2, Option.bind_some]
    exact h
  · exact h
  · cases h
theorem mapOf_app {M : List MO} {a : AV} {q : List IV × List AV} (x : MO) (h : mapOf M a = some q) : mapOf (M ++ [x]) a = some q := by
  unfold mapOf at *
  split at h
  · exact h
  · split at h
    · rename_i hM
      simp only [get_app x hM]; exact h
    · cases h
  · cases h
theorem len_app {ts : List TypeId} {args : List AV} {M M' : List MO} {c : Cls} {v : AV} (x : MO) (h : builtinAV P .len ts args M = some (c, v, M')) : builtinAV P .len ts args (M ++ [x]) = some (c, v, M ++ [x]) := by
  cases ts with
  | nil => simp only [builtinAV, builtin0] at h; cases h
  | cons t ts =>
    cases args with
    | nil => simp only [builtinAV, builtin0] at h; cases h
    | cons a args =>
      cases args with
      | cons b args => simp only [builtinAV, builtin0] at h; cases h
      | nil =>
        simp only [builtinAV, builtin0] at h ⊢
        split at h
        · split at h
          · cases h
          · obtain ⟨n, h2, h⟩ := option_map_some h
            cases h
            simp only [lenAV_app x h2, Option.map_some]
        · split at h
          · cases h; rfl
          · cases h
        · obtain ⟨q, h2, h⟩ := option_map_some h
          cases h
          simp only [mapOf_app x h2, Option.map_some]
        · cases h
theorem eff_app {ev : Operand → AV} {M : List MO} (x : MO) (hr : reads o = true) (h : eff P o ev M = some (c, v, M')) : eff P o ev (M ++ [x]) = some (c, v, M ++ [x]) := by
  have hk := eff_ok (fun _ => .p) (fun _ => rfl) h
  cases ho : o.op with
  | load t a =>
    simp only [eff, ho] at h ⊢
    obtain ⟨ag, h1, h⟩ := option_bind_some h
    rw [h1, Option.bind_some]
    split at h
    · rename_i ha
      split at h
      · rename_i hm
        obtain ⟨y, h2, h⟩ := option_map_some h
        cases h
        simp only [ha, get_app x hm, h2, Option.map_some]
      · cases h
    · rename_i ha
      obtain ⟨q, h2, h⟩ := option_bind_some h
      obtain ⟨y, h3, h⟩ := option_bind_some h
      obtain ⟨z, h4, h⟩ := option_map_some h
      cases h
      simp only [ha, rowAt_app x h2, h3, h4, Option.map_some, Option.bind_some]
    · rename_i ha
      obtain ⟨y, h3, h⟩ := option_bind_some h
      obtain ⟨z, h4, h⟩ := option_map_some h
      cases h
      simp only [ha, h3, h4, Option.map_some, Option.bind_some]
    · cases h
  | slice t a l hi m =>
    simp only [eff, ho] at h ⊢
    split at h
    · cases h
    · rename_i hc
      obtain ⟨q, h2, h⟩ := option_map_some h
      cases h
      rw [if_neg hc, sliceAV_app x h2]; rfl
  | indexAddr t a i =>
    simp only [eff, ho] at h ⊢
    obtain ⟨j, h1, h⟩ := option_bind_some h
    rw [h1, Option.bind_some]
    split at h
    · rename_i ha
      obtain ⟨e, h2, h⟩ := option_bind_some h
      split at h
      · rename_i hc; cases h; simp only [ha, h2, Option.bind_some, if_pos hc]
      · cases h
    · rename_i ha
      obtain ⟨e, h2, h⟩ := option_bind_some h
      obtain ⟨q, h3, h⟩ := option_bind_some h
      split at h
      · rename_i hc; cases h; simp only [ha, h2, rowAt_app x h3, Option.bind_some, if_pos hc]
      · cases h
    · rename_i ha
      obtain ⟨e, h2, h⟩ := option_bind_some h
      split at h
      · rename_i hc; cases h; simp only [ha, h2, Option.bind_some, if_pos hc]
      · cases h
    · cases h
  | nilCheck a =>
    simp only [eff, ho] at h ⊢
    split at h
    · rename_i ha; cases h; simp only [ha]
    · rename_i ha; cases h; simp only [ha]
    · rename_i ha
      obtain ⟨q, h3, h⟩ := option_map_some h
      cases h; simp only [ha, rowAt_app x h3, Option.map_some]
    · rename_i ha; cases h; simp only [ha]
    · rename_i ha; cases h; simp only [ha]
    · cases h
  | fieldAddr t a f =>
    simp only [eff, ho] at h ⊢
    obtain ⟨⟨off, ft⟩, h1, h⟩ := option_bind_some h
    simp only at h
    rw [h1, Option.bind_some]
    split at h
    · rename_i ha; cases h; simp only [ha]
    · rename_i ha; cases h; simp only [ha]
    · rename_i ha
      obtain ⟨q, h3, h⟩ := option_map_some h
      cases h; simp only [ha, rowAt_app x h3, Option.map_some]
    · cases h
  | call cl =>
    simp only [eff, ho] at h ⊢
    simp only [reads, ho] at hr
    split at hr
    · rename_i hb
      simp only [hb] at h ⊢
      exact len_app x h
    · cases hr
  | _ => simp only [reads, ho] at hr; cases hr
theorem eff_appends {ev : Operand → AV} {M : List MO} (hr : appends o = true) (h : eff P o ev M = some (c, v, M')) : ∃ x, M' = M ++ [x] := by
  cases ho : o.op with
  | alloc T =>
    simp only [eff, ho] at h
    obtain ⟨z, _, h⟩ := option_bind_some h
    obtain ⟨cs, _, h⟩ := option_map_some h
    cases h; exact ⟨_, rfl⟩
  | box T a =>
    simp only [eff, ho] at h
    obtain ⟨cs, _, h⟩ := option_map_some h
    cases h; exact ⟨_, rfl⟩
  | makeSlice t l d =>
    simp only [eff, ho] at h
    split at h
    · obtain ⟨e, _, h⟩ := option_bind_some h
      obtain ⟨z, _, h⟩ := option_bind_some h
      split at h
      · cases h; exact ⟨_, rfl⟩
      · cases h
    · cases h
  | _ => simp only [appends, ho] at hr; cases hr
theorem reads_call {cl : Call} {y : Operand} (hr : reads o = true) (ho : o.op = .call cl) (hc : cl.callee = .value y) : False := by
  simp only [reads, ho, hc] at hr; cases hr
theorem appends_call {cl : Call} (hr : appends o = true) (ho : o.op = .call cl) : False := by
  simp only [appends, ho] at hr; cases hr
theorem DStep.app (h : DStep P ops o c s v M') (hr : reads o = true) (x : MO) (hl : ∀ t ∈ looks ops o, s2.t t = s.t t) (hM : s2.M = s.M ++ [x]) : DStep P ops o c s2 v s2.M := by
  have he := ev_of hl
  have hwt := want_of hl
  cases h with
  | bfz _ _ y hw h => exact .bfz c s2 y (hwt.trans hw) (by rw [bfz_congr he]; exact h)
  | skip _ _ hw => exact .skip c s2 (hwt.trans hw)
  | eff _ c0 _ _ _ hw h hc => exact .eff c c0 s2 v s2.M (hwt.trans hw) (by rw [hM, eff_congr he]; exact eff_app x hr h) hc
  | call _ _ f cl x ys r hw ho hc hx ha h => exact (reads_call hr ho hc).elim
  | callF _ f cl x ys r _ hw ho hc hx ha h => exact (reads_call hr ho hc).elim
  | callB _ hcp _ f cl x ys r M1 hw ho hc hx ha h hr' => exact (reads_call hr ho hc).elim
  | callM _ f caps cl x l xs Ml M1 r hw ho hc hx ha hp h => exact (reads_call hr ho hc).elim
  | callR _ hcp _ f caps cl x l xs Ml r hw ho hc hx ha hp h => exact (reads_call hr ho hc).elim
theorem DStep.apps (h : DStep P ops o c s v M') (hr : appends o = true) : M' = s.M ∨ ∃ x, M' = s.M ++ [x] := by
  cases h with
  | bfz => exact .inl rfl
  | skip _ _ hw => exact .inl rfl
  | eff _ c0 _ _ _ hw h hc => exact .inr (eff_appends hr h)
  | call _ _ f cl x ys r hw ho hc hx ha h => exact (appends_call hr ho).elim
  | callF _ f cl x ys r _ hw ho hc hx ha h => exact (appends_call hr ho).elim
  | callB _ hcp _ f cl x ys r M1 hw ho hc hx ha h hr' => exact (appends_call hr ho).elim
  | callM _ f caps cl x l xs Ml M1 r hw ho hc hx ha hp h => exact (appends_call hr ho).elim
  | callR _ hcp _ f caps cl x l xs Ml r hw ho hc hx ha hp h => exact (appends_call hr ho).elim
theorem reads_w {cw : Oper → Cls} (hr : reads o = true) : cls0 cw o ≠ .w := by
  unfold reads at hr
  unfold cls0
  cases ho : o.op with
  | call cl =>
    simp only [ho] at hr ⊢
    split at hr
    · rename_i hb; simp only [hb]; simp
    · cases hr
  | _ => simp_all
def compat (cw : Oper → Cls) (ops : List Oper) (x y : Oper) : Bool := apartL ops x y && (clsC (cls0 cw x) (cls0 cw y) || (reads x && appends y))

theorem put_t (s : St) (M' : List MO) (d : Option Nat) (v : AV) (t : Nat) (h : ∀ x, d = some x → t ≠ x) : ({ s with M := M' }.put d v).t t = s.t t := by
  cases d with
  | none => rfl
  | some d => exact upd_ne _ _ (h d rfl)
theorem put_M (s : St) (M' : List MO) (d : Option Nat) (v : AV) : ({ s with M := M' }.put d v).M = M' := by cases d <;> rfl
theorem put_put (s : St) (M1 M2 M3 : List MO) (d e : Option Nat) (v u : AV) (h : ∀ x, d = some x → e ≠ some x) :
    ({ ({ s with M := M1 }.put d v) with M := M3 }.put e u) = ({ ({ s with M := M2 }.put e u) with M := M3 }.put d v) := by
  cases d with
  | none => cases e <;> rfl
  | some d =>
    cases e with
    | none => rfl
    | some e =>
      have hne : d ≠ e := fun hh => h d rfl (by rw [hh])
      show St.mk s.n (upd (upd s.t d v) e u) M3 s.b = St.mk s.n (upd (upd s.t e u) d v) M3 s.b
      congr 1
      funext i
      unfold upd
      by_cases h1 : i = e
      · subst h1; rw [if_pos rfl, if_neg (Ne.symm hne), if_pos rfl]
      · rw [if_neg h1]
        by_cases h2 : i = d
        · rw [if_pos h2, if_pos h2]
        · rw [if_neg h2, if_neg h2, if_neg h1]

theorem diamond {cw : Oper → Cls} {oi oj : Oper} {vi vj : AV} {M1 M2 : List MO} (hc : compat cw ops oi oj = true) (hi : DStep P ops oi (cls0 cw oi) s vi M1) (hj : DStep P ops oj (cls0 cw oj) ({ s with M := M1 }.put oi.dst vi) vj M2) :
    ∃ Mj, DStep P ops oj (cls0 cw oj) s vj Mj ∧ DStep P ops oi (cls0 cw oi) ({ s with M := Mj }.put oj.dst vj) vi M2 ∧
      ({ ({ s with M := M1 }.put oi.dst vi) with M := M2 }.put oj.dst vj) = ({ ({ s with M := Mj }.put oj.dst vj) with M := M2 }.put oi.dst vi) := by
  simp only [compat, Bool.and_eq_true] at hc
  obtain ⟨ha, hcc⟩ := hc
  obtain ⟨a1, a2, a3⟩ := apartL_spec ha
  have hlj : ∀ t ∈ looks ops oj, s.t t = ({ s with M := M1 }.put oi.dst vi).t t := fun t ht => (put_t s M1 oi.dst vi t (fun x hx e => by subst e; exact a1 t hx ht)).symm
  have hli : ∀ (Mj : List MO), ∀ t ∈ looks ops oi, ({ s with M := Mj }.put oj.dst vj).t t = s.t t := fun Mj t ht => put_t s Mj oj.dst vj t (fun x hx e => by subst e; exact a3 t hx ht)
  by_cases hra : (reads oi && appends oj) = true
  · rw [Bool.and_eq_true] at hra
    have e1 : M1 = s.M := hi.keep (reads_w hra.1)
    have hj' : DStep P ops oj (cls0 cw oj) s vj M2 := hj.cong hlj (by rw [put_M]; exact e1.symm)
    refine ⟨M2, hj', ?_, put_put s M1 M2 M2 oi.dst oj.dst vi vj a2⟩
    rcases hj'.apps hra.2 with e2 | ⟨x, e2⟩
    · have := hi.cong (hli M2) (by rw [put_M]; exact e2)
      rwa [e1, ← e2] at this
    · have := hi.app hra.1 x (hli M2) (by rw [put_M]; exact e2)
      rwa [put_M] at this
  rw [Bool.not_eq_true] at hra
  rw [hra, Bool.or_false] at hcc
  by_cases hip : cls0 cw oi = .p
  · rw [hip] at hi ⊢
    have e1 : M1 = s.M := hi.keep (by simp)
    have hj' : DStep P ops oj (cls0 cw oj) s vj M2 := hj.cong hlj (by rw [put_M]; exact e1.symm)
    refine ⟨M2, hj', ?_, put_put s M1 M2 M2 oi.dst oj.dst vi vj a2⟩
    have := hi.congP (hli M2)
    rwa [put_M] at this
  · by_cases hjp : cls0 cw oj = .p
    · rw [hjp] at hj ⊢
      have e2 : M2 = M1 := by have := hj.keep (by simp); rwa [put_M] at this
      have hj' := hj.congP (s2 := s) hlj
      refine ⟨s.M, hj', ?_, by rw [e2]; exact put_put s M1 s.M M1 oi.dst oj.dst vi vj a2⟩
      rw [e2]
      exact hi.cong (hli s.M) (by rw [put_M])
    · have hir : cls0 cw oi = .r := by cases h1 : cls0 cw oi <;> cases h2 : cls0 cw oj <;> simp_all [clsC]
      have hjr : cls0 cw oj = .r := by cases h1 : cls0 cw oi <;> cases h2 : cls0 cw oj <;> simp_all [clsC]
      have e1 : M1 = s.M := hi.keep (by rw [hir]; simp)
      have e2 : M2 = M1 := by have := hj.keep (by rw [hjr]; simp); rwa [put_M] at this
      refine ⟨s.M, ?_, ?_, by rw [e2]; exact put_put s M1 s.M M1 oi.dst oj.dst vi vj a2⟩
      · have := hj.cong hlj (by rw [put_M]; exact e1.symm)
        rw [e2, e1] at this; exact this
      · rw [e2]
        exact hi.cong (hli s.M) (by rw [put_M])

/-! ### any order -/
def aStep (P : Program) (cw : Oper → Cls) (ops : List Oper) (i : Nat) (k : St → Prop) (s : St) : Prop := match ops[i]? with
  | none => k s
  | some o => ∃ v M', DStep P ops o (cls0 cw o) s v M' ∧ k ({ s with M := M' }.put o.dst v)
def rdy (ops : List Oper) (listed : Array Bool) : List Nat := Region.ready .any ops.toArray listed
def aAny (P : Program) (cw : Oper → Cls) (ops : List Oper) (K : St → Prop) : Nat → Array Bool → St → Prop
  | 0, listed, s => rdy ops listed = [] ∧ K s
  | fuel + 1, listed, s => (rdy ops listed = [] → K s) ∧ ∀ i ∈ rdy ops listed, aStep P cw ops i (aAny P cw ops K fuel (listed.setIfInBounds i true)) s

theorem aAny_first {cw : Oper → Cls} {K : St → Prop} {i : Nat} {oi : Oper} {D : List Nat} (hi : ops[i]? = some oi)
    (hDr : ∀ j ∈ D, ∃ oj, ops[j]? = some oj ∧ ∃ e ∈ oj.after, Region.binds .any e = true ∧ (e.on = i ∨ e.on ∈ D)) :
    ∀ (fuel : Nat) (listed : Array Bool) (s : St) (v : AV) (M' : List MO),
      (∀ j oj, ops[j]? = some oj → j ≠ i → listed.getD j true = false → j ∉ D → compat cw ops oi oj = true) → (∀ j ∈ D, listed.getD j false = false) →
      i ∈ rdy ops listed → DStep P ops oi (cls0 cw oi) s v M' →
      aAny P cw ops K fuel (listed.setIfInBounds i true) ({ s with M := M' }.put oi.dst v) → aAny P cw ops K (fuel + 1) listed s := by
  have hstep : ∀ {k : St → Prop} {s : St} {v : AV} {M' : List MO}, DStep P ops oi (cls0 cw oi) s v M' → k ({ s with M := M' }.put oi.dst v) → aStep P cw ops i k s := by
    intro k s v M' h1 h2
    unfold aStep
    rw [hi]
    exact ⟨v, M', h1, h2⟩
  intro fuel
  induction fuel with
  | zero =>
    intro listed s v M' _ _ hr hy H
    refine ⟨fun h => (by rw [h] at hr; cases hr), fun j hj => ?_⟩
    by_cases hji : j = i
    · subst hji; exact hstep hy H
    · have := ready_mono hj hji
      have h0 : Region.ready .any ops.toArray (listed.setIfInBounds i true) = [] := H.1
      rw [h0] at this
      cases this
  | succ fuel ih =>
    intro listed s v M' hfree hDu hr hy H
    refine ⟨fun h => (by rw [h] at hr; cases hr), fun j hj => ?_⟩
    by_cases hji : j = i
    · subst hji; exact hstep hy H
    · have h1 := H.2 j (ready_mono hj hji)
      obtain ⟨hjun, oj, hoj, hall⟩ := mem_ready.1 hj
      have hun : listed.getD i false = false := by
        have h0 := (mem_ready.1 hr).1
        rcases Nat.lt_or_ge i listed.size with h' | h'
        · simp [h'] at h0 ⊢; exact h0
        · simp [Array.getElem?_eq_none h']
      have hjD : j ∉ D := by
        intro hjD
        obtain ⟨oj', hoj', e, he, hb, hc⟩ := hDr j hjD
        rw [List.getElem?_toArray] at hoj
        rw [hoj] at hoj'; cases hoj'
        have hl := hall e he hb
        rcases hc with hc | hc
        · rw [hc, hun] at hl; cases hl
        · rw [hDu _ hc] at hl; cases hl
      rw [List.getElem?_toArray] at hoj
      have hcc := hfree j oj hoj hji hjun hjD
      unfold aStep at h1 ⊢
      rw [hoj] at h1 ⊢
      obtain ⟨v2, M2, hj2, hk⟩ := h1
      obtain ⟨Mj, d1, d2, d3⟩ := diamond hcc hy hj2
      refine ⟨v2, Mj, d1, ih (listed.setIfInBounds j true) _ v M2 ?_ ?_ (ready_mono hr (Ne.symm hji)) d2 ?_⟩
      · intro k ok hk hki hun' hkD
        refine hfree k ok hk hki ?_ hkD
        by_cases hjk : j = k
        · subst hjk; exact hjun
        · rw [getD_set_ne true hjk] at hun'; exact hun'
      · intro k hkD
        rw [getD_set_ne (i := j) (j := k) false (fun e => hjD (by rw [e]; exact hkD))]
        exact hDu k hkD
      · rw [Array.setIfInBounds_comm _ _ hji, ← d3]
        exact hk

def reach (ops : List Oper) (i : Nat) : List Nat := (List.range ops.length).foldl (fun acc j => match ops[j]? with
  | some oj => if oj.after.any (fun e => Region.binds .any e && (e.on == i || acc.contains e.on)) then j :: acc else acc
  | none => acc) []
def freeA (cw : Oper → Cls) (ops : List Oper) (listed : Array Bool) (i : Nat) (oi : Oper) (D : List Nat) : Bool :=
  (D.all fun j => !listed.getD j false && (match ops[j]? with
    | some oj => oj.after.any (fun e => Region.binds .any e && (e.on == i || D.contains e.on))
    | none => false)) &&
  ((List.range ops.length).all fun j => j == i || listed.getD j true || D.contains j || (match ops[j]? with
    | some oj => compat cw ops oi oj
    | none => true))
def lexA (cw : Oper → Cls) (ops : List Oper) : List Oper → Nat → Array Bool → Bool
  | [], _, listed => (rdy ops listed).isEmpty
  | o :: rest, k, listed => (rdy ops listed).contains k && freeA cw ops listed k o (reach ops k) && lexA cw ops rest (k + 1) (listed.setIfInBounds k true)

def dops (P : Program) (cw : Oper → Cls) (ops : List Oper) : List Oper → (St → Prop) → St → Prop
  | [], K, s => K s
  | o :: rest, K, s => ∃ v M', DStep P ops o (cls0 cw o) s v M' ∧ dops P cw ops rest K ({ s with M := M' }.put o.dst v)

theorem aAny_lex {cw : Oper → Cls} {K : St → Prop} : ∀ (l : List Oper) (k : Nat) (listed : Array Bool) (s : St), (∀ j, l[j]? = ops[k + j]?) → lexA cw ops l k listed = true → dops P cw ops l K s → aAny P cw ops K l.length listed s
  | [], k, listed, s, hl, hB, h => by
    simp only [lexA, List.isEmpty_iff] at hB
    exact ⟨hB, h⟩
  | o :: rest, k, listed, s, hl, hB, h => by
    simp only [lexA, Bool.and_eq_true] at hB
    obtain ⟨⟨hr, hf⟩, hB⟩ := hB
    obtain ⟨v, M', h1, h2⟩ := h
    have hk : ops[k]? = some o := by have := hl 0; simpa using this.symm
    simp only [freeA, Bool.and_eq_true, List.all_eq_true] at hf
    obtain ⟨hD, hfr⟩ := hf
    refine aAny_first (D := reach ops k) hk (fun j hj => ?_) rest.length listed s v M' (fun j oj hj hne hun hnD => ?_) (fun j hj => ?_) (by simpa using hr) h1 (aAny_lex rest (k + 1) _ _ (fun j => by have := hl (j + 1); rw [List.getElem?_cons_succ] at this; rw [this]; congr 1; omega) hB h2)
    · have := (hD j hj).2
      cases hoj : ops[j]? with
      | none => rw [hoj] at this; cases this
      | some oj =>
        rw [hoj] at this
        obtain ⟨e, he, hb⟩ := Array.any_eq_true'.1 this
        simp only [Bool.and_eq_true, Bool.or_eq_true, beq_iff_eq, List.contains_iff_mem] at hb
        exact ⟨oj, rfl, e, he, hb.1, hb.2⟩
    · have := hfr j (List.mem_range.2 (lt_of_get hj))
      rw [hj] at this
      simp only [Bool.or_eq_true, beq_iff_eq, hne, false_or, hun, Bool.false_eq_true, List.contains_iff_mem, hnD] at this
      exact this
    · have := (hD j hj).1
      simpa using this

theorem Sim.drawn {X O : Nat → Prop} {w0 : World} {F : AV → Value → Prop} {ρ : Nat → Option Nat} {a : Act} {w : World} (h : Sim X O w0 F s ρ a w) (n : Nat) : Sim X O w0 F s ρ a { w with drawn := n } := by
  have hev : Evo s.M s.M ρ ρ (excl X s.M ρ) (excl X s.M ρ) w { w with drawn := n } := Evo.world (Nat.le_refl _) (fun _ _ => rfl)
  exact ⟨h.size, h.defers.keep (fun _ _ _ => rfl), fun i => (h.tm i).mono hev, h.mem.world ⟨h.mem.keep.os, h.mem.keep.tape, h.mem.keep.output, h.mem.keep.size, h.mem.keep.block⟩ (Nat.le_refl _) (fun _ _ => rfl), fun x u hx => ⟨(h.fr x u hx).1, (h.fr x u hx).2.mono hev⟩⟩

theorem aAny_sound {rd : Option Nat} {cw : Oper → Cls} {K : St → Prop} {X O : Nat → Prop} {w0 : World} {F : AV → Value → Prop} {Q : Exit → Act → World → Prop} (hQ : ∀ s' ρ' a' w', Sim X O w0 F s' ρ' a' w' → K s' → Q .normal a' w') :
    ∀ (fuel : Nat) (listed : Array Bool) (s : St) (ρ : Nat → Option Nat) (a : Act) (w : World), (∀ o ∈ ops, ∀ x, o.dst = some x → x < s.n) → aAny P cw ops K fuel listed s → Sim X O w0 F s ρ a w → wpAnyIn (fr rd) 0 P .any ops.toArray Q fuel listed a w
  | 0, listed, s, ρ, a, w, hd, h, hs => ⟨h.1, hQ _ _ _ _ hs h.2⟩
  | fuel + 1, listed, s, ρ, a, w, hd, h, hs => by
    refine ⟨fun hr => hQ _ _ _ _ hs (h.1 hr), fun i hi => ?_⟩
    have h1 := h.2 i hi
    unfold aStep at h1
    unfold wpOpIn
    cases ho : ops[i]? with
    | none =>
      rw [ho] at h1
      rw [List.getElem?_toArray, ho]
      exact aAny_sound hQ fuel _ s ρ a w hd h1 hs
    | some o =>
      rw [ho] at h1
      rw [List.getElem?_toArray, ho]
      obtain ⟨v, M', h2, h3⟩ := h1
      obtain ⟨c', hop⟩ := h2.op
      have := opStep_sound (rd := rd) (ops := ops.toArray) (Q := Q) (K := wpAnyIn (fr rd) 0 P .any ops.toArray Q fuel (listed.setIfInBounds i true)) hop (hd o (List.mem_of_getElem? ho)) hs (fun a' w' ρ' hs' =>
        aAny_sound hQ fuel _ _ ρ' a' w' (fun o' ho' x hx => by rw [hop.n]; exact hd o' ho' x hx) h3 hs')
      simp only
      split
      · rename_i hw; rw [if_pos hw] at this; exact this
      · rename_i hw; rw [if_neg hw] at this; exact ⟨fun _ _ => fr_fn _ _, this⟩

theorem DStep.n (h : DStep P ops o c s v M') : ({ s with M := M' }.put o.dst v).n = s.n := put_n s M' _ _

theorem aw_regionD {id : Nat} {Q : Exit → St → Prop} (cw : Oper → Cls) (hm : P.follows .mixedOrders = true) (hB : lexA cw ops ops 0 (Array.replicate ops.length false) = true) (h : dops P cw ops ops (Q .normal) s) : aw P (.region id ops.toArray true) Q s := by
  intro rd hb X O w0 F ρ a w hs
  have hd : ∀ o ∈ ops, ∀ x, o.dst = some x → x < s.n := by
    intro o ho x hx
    simp only [bnd, List.all_eq_true] at hb
    have := hb o ho
    simp only [dstOk, hx, decide_eq_true_eq] at this
    exact this
  have key : ∀ (l : List Oper) (s1 : St), dops P cw ops l (Q .normal) s1 → dops P cw ops l (fun s' => s'.n = s1.n ∧ Q .normal s') s1 := by
    intro l
    induction l with
    | nil => intro s1 h; exact ⟨rfl, h⟩
    | cons o l ih =>
      rintro s1 ⟨v, M', h1, h2⟩
      refine ⟨v, M', h1, ?_⟩
      have := ih _ h2
      rwa [put_n] at this
  refine wpIn_region_any hm ?_
  rw [List.size_toArray]
  exact aAny_sound (K := fun s' => s'.n = s.n ∧ Q .normal s') (fun s' ρ' a' w' h1 h2 => ⟨s', ρ', h2.1, h1, h2.2⟩) ops.length _ s ρ a _ hd
    (aAny_lex ops 0 _ s (fun j => by simp) hB (key ops s h)) (hs.drawn _)

def leftD (P : Program) (cw : Oper → Cls) (ops : List Oper) (Q : St → Prop) (s : St) (l : List Oper) : Prop := match l with
  | [] => Q s
  | o :: rest => fz cw = false → s.want ops o = some true → dops P cw ops (o :: rest) Q s
def leftF (P : Program) (cw : Oper → Cls) (ops : List Oper) (Q : St → Prop) (s : St) (l : List Oper) : Prop := match l with
  | [] => Q s
  | o :: rest => s.want ops o = some true → dops P cw ops (o :: rest) Q s
theorem dops_run0 {cw : Oper → Cls} {Q : St → Prop} (hz : fz cw = false) : ∀ {l : List Oper} {s : St}, run P ops l (fun s l => leftD P cw ops Q s l) s → dops P cw ops l Q s
  | [], s, h => h
  | o :: rest, s, h => by
    simp only [run, runR] at h
    unfold wantK at h
    split at h
    · exact h.elim
    · rename_i b hb
      cases b with
      | false =>
        have h2 : runR P ops rest (fun s l => leftD P cw ops Q s l) (s.put o.dst (.iv (.tup []))) := by simpa using h
        exact ⟨_, _, .skip _ s hb, dops_run0 hz h2⟩
      | true =>
        simp only [forall_const, if_true, reduceCtorEq, false_implies, and_true] at h
        split at h
        · exact h hz hb
        · unfold effK at h
          split at h
          · exact h.elim
          · rename_i c v M' he
            exact ⟨v, M', .eff _ c s v M' hb he (eff_ok cw (fun _ => hz) he).1, dops_run0 hz h⟩
theorem dops_run {cw : Oper → Cls} {Q : St → Prop} {l : List Oper} {s : St} (h : run P ops l (fun s l => leftD P cw ops Q s l) s) (hz : fz cw = false := by decide) : dops P cw ops l Q s := dops_run0 hz h
variable {cw : Oper → Cls} {Q : St → Prop} {rest : List Oper}
theorem leftD_callf {f : Nat} {args : List Operand} {ts : Array TypeId} {ys : List IV} {r : IV} (ho : o.op = .call ⟨.value (.func f), args.toArray, ts⟩) (ha : ivs (args.map s.ev) = some ys) (h : PCalls P f ys r)
    (hk : run P ops rest (fun s l => leftD P cw ops Q s l) (s.put o.dst (.iv r))) : leftD P cw ops Q s (o :: rest) :=
  fun hz hw => ⟨_, _, .call _ s f _ _ ys r hw ho rfl rfl ha h, dops_run0 hz hk⟩
theorem leftD_callMs {f : Nat} {xs : List AV} {Ml M' : List MO} {r : AV} (l : List Nat) (hcp : cls0 cw o = .w) (h : MCalls P f xs Ml r M') (hc : callMK o l f xs Ml s)
    (hk : run P ops rest (fun s l => leftD P cw ops Q s l) ({ s with M := backM s.M l M' }.put o.dst (ren (sg l s.M.length) r))) : leftD P cw ops Q s (o :: rest) := by
  unfold callMK at hc
  split at hc
  · rename_i c ho
    split at hc
    · rename_i x hx
      split at hc
      · rename_i g caps hg
        obtain ⟨rfl, h1, h2, h3⟩ := hc
        exact fun hz hw => ⟨_, _, hcp ▸ .callM s _ caps c x l xs Ml M' r hw ho hx hg h1 (Part.ofR h2 h3) h, dops_run0 hz hk⟩
      · exact hc.elim
    · exact hc.elim
  · exact hc.elim
theorem leftD_callRs {f : Nat} {xs : List AV} {Ml : List MO} {r : AV} (l : List Nat) (hcp : cls0 cw o ≠ .p) (h : MCalls P f xs Ml r Ml) (hc : callMK o l f xs Ml s)
    (hk : run P ops rest (fun s l => leftD P cw ops Q s l) (s.put o.dst (ren (sg l s.M.length) r))) : leftD P cw ops Q s (o :: rest) := by
  unfold callMK at hc
  split at hc
  · rename_i c ho
    split at hc
    · rename_i x hx
      split at hc
      · rename_i g caps hg
        obtain ⟨rfl, h1, h2, h3⟩ := hc
        exact fun hz hw => ⟨_, _, .callR _ hcp s _ caps c x l xs Ml r hw ho hx hg h1 (Part.ofR h2 h3) h, dops_run0 hz hk⟩
      · exact hc.elim
    · exact hc.elim
  · exact hc.elim
@[go_sem ↓] theorem leftD_nil (Q : St → Prop) : leftD P cw ops Q s [] = Q s := Eq.trans rfl rfl

@[go_sem ↓] theorem leftF_nil (Q : St → Prop) : leftF P cw ops Q s [] = Q s := Eq.trans rfl rfl
/-! ### regions whose list literals are never written -/
def effF (P : Program) (o : Oper) (ev : Operand → AV) (M : List MO) : Option (Cls × AV × List MO) := if isBS o = true then (bfz P o ev).map fun y => (Cls.p, AV.iv y, M) else eff P o ev M
def runRF (P : Program) (ops : List Oper) : List Oper → (St → List Oper → Prop) → St → Prop
  | [], K, s => K s []
  | o :: rest, K, s => wantK (s.want ops o) fun b => if b = true then (if isFCall o = true then K s (o :: rest) else effK (effF P o s.ev s.M) fun v M' => runRF P ops rest K ({ s with M := M' }.put o.dst v)) else runRF P ops rest K (s.put o.dst (.iv (.tup [])))
def runF (P : Program) (ops : List Oper) (l : List Oper) (K : St → List Oper → Prop) (s : St) : Prop := runRF P ops l K s
def runFT (P : Program) (ops : List Oper) (l : List Oper) (K : St → List Oper → Prop) (_ : Tok (ops, l, K)) (s : St) : Prop := runF P ops l K s
@[go_sem ↓] theorem runF_T (l : List Oper) (K : St → List Oper → Prop) : runF P ops l K s = runFT P ops l K ⟨()⟩ s := Eq.trans rfl rfl
@[go_sem] theorem runF_nil (K : St → List Oper → Prop) (t : Tok (ops, ([] : List Oper), K)) : runFT P ops [] K t s = K s [] := Eq.trans rfl rfl
@[go_sem] theorem runF_cons (K : St → List Oper → Prop) (t : Tok (ops, o :: rest, K)) : runFT P ops (o :: rest) K t s = wantK (s.want ops o) fun b => if b = true then (if isFCall o = true then K s (o :: rest) else effK (effF P o s.ev s.M) fun v M' => runF P ops rest K ({ s with M := M' }.put o.dst v)) else runF P ops rest K (s.put o.dst (.iv (.tup []))) := Eq.trans rfl rfl
theorem eff_okF {cw : Oper → Cls} {ev : Operand → AV} {M : List MO} {c : Cls} {v : AV} {M' : List MO} (hb : isBS o = false) (h : eff P o ev M = some (c, v, M')) : leC c (cls0 cw o) = true :=
  (eff_ok cw (fun h => by rw [hb] at h; cases h) h).1
theorem dops_runF {cw : Oper → Cls} {Q : St → Prop} : ∀ {l : List Oper} {s : St}, runF P ops l (fun s l => leftF P cw ops Q s l) s → dops P cw ops l Q s
  | [], s, h => h
  | o :: rest, s, h => by
    simp only [runF, runRF] at h
    unfold wantK at h
    split at h
    · exact h.elim
    · rename_i b hb
      cases b with
      | false =>
        have h2 : runRF P ops rest (fun s l => leftF P cw ops Q s l) (s.put o.dst (.iv (.tup []))) := by simpa using h
        exact ⟨_, _, .skip _ s hb, dops_runF h2⟩
      | true =>
        simp only [forall_const, if_true, reduceCtorEq, false_implies, and_true] at h
        split at h
        · exact h hb
        · unfold effK at h
          split at h
          · exact h.elim
          · rename_i c v M' he
            unfold effF at he
            split at he
            · obtain ⟨y, hy, he⟩ := option_map_some he
              cases he
              exact ⟨_, _, .bfz _ s y hb hy, dops_runF h⟩
            · rename_i hbs
              exact ⟨v, M', .eff _ c s v M' hb he (eff_okF (by simpa using hbs) he), dops_runF h⟩
theorem leftF_callf {f : Nat} {args : List Operand} {ts : Array TypeId} {ys : List IV} {r : IV} (ho : o.op = .call ⟨.value (.func f), args.toArray, ts⟩) (ha : ivs (args.map s.ev) = some ys) (h : PCalls P f ys r)
    (hk : runF P ops rest (fun s l => leftF P cw ops Q s l) (s.put o.dst (.iv r))) : leftF P cw ops Q s (o :: rest) :=
  fun hw => ⟨_, _, .call _ s f _ _ ys r hw ho rfl rfl ha h, dops_runF hk⟩

end

end Go.Proofs.Ytnijpeeehnnipaa.AM
set_option linter.unusedVariables false
set_option linter.unusedSimpArgs false
namespace Go.Proofs.Ytnijpeeehnnipaa.AM
open Go Go.RowKit
section
variable {P : Program} {t : TypeId} {M : List MO} {lo hi : Option AV}
@[go_sem] theorem slice_sl (sz : Nat) (xs : List IV) : sliceAV P t M (.iv (.sl sz xs)) lo hi none = (tElem P t).bind fun e => (bound lo 0).bind fun l => (bound hi xs.length).bind fun h =>
  if (sz = e.sz ∨ xs = []) ∧ 0 ≤ l ∧ l ≤ h ∧ h ≤ xs.length then some (.iv (.sl sz ((xs.drop l.toNat).take (h.toNat - l.toNat)))) else none := rfl
@[go_sem] theorem slice3_sl (sz : Nat) (xs : List IV) (k : IntKind) (m : Int) : sliceAV P t M (.iv (.sl sz xs)) lo hi (some (.iv (.int k m))) = (tElem P t).bind fun e => (bound lo 0).bind fun l => (bound hi xs.length).bind fun h =>
  if (sz = e.sz ∨ xs = []) ∧ 0 ≤ l ∧ l ≤ h ∧ h ≤ m ∧ m ≤ xs.length then some (if m = l then .nilsl else .iv (.sl sz ((xs.drop l.toNat).take (h.toNat - l.toNat)))) else none := rfl
@[go_sem] theorem slice_str (s : ByteArray) : sliceAV P t M (.iv (.str s)) lo hi none = if tKind P t matches some .str then (bound lo 0).bind fun l => (bound hi s.size).bind fun h => if 0 ≤ l ∧ l ≤ h ∧ h ≤ s.size then some (.iv (.str (s.extract l.toNat h.toNat))) else none else none := rfl
@[go_sem] theorem slice_msl (k off len n : Nat) : sliceAV P t M (.msl k off len n) lo hi none = (tElem P t).bind fun e => (rowAt M k n).bind fun (_, _, sz, _) => (bound lo 0).bind fun l => (bound hi len).bind fun h =>
  if sz = e.sz ∧ 0 ≤ l ∧ l ≤ h ∧ h ≤ len then some (.msl k (off + l.toNat) (h.toNat - l.toNat) n) else none := rfl
@[go_sem] theorem slice_nilsl : sliceAV P t M .nilsl lo hi none = (tElem P t).bind fun e => (bound lo 0).bind fun l => (bound hi 0).bind fun h => if l = 0 ∧ h = 0 then some .nilsl else none := rfl
attribute [go_sem] Int.toNat_zero Nat.sub_zero Int.le_refl
@[go_sem] theorem takeGet {α : Type} (xs : List α) {m k : Nat} (h : k < m) : (xs.take m)[k]? = xs[k]? := by rw [List.getElem?_take, if_pos h]
end
theorem wk_ivc (sz k j : Nat) {n b : Nat} {t : Nat → AV} {M : List MO} {T' : TypeId} {cs : List AV} (hk : M[k]? = some (.var T' cs)) (h : cs[j]? = some .nilsl) :
    Wk ⟨n, t, M, b⟩ ⟨n, t, M.set k (.var T' (cs.set j (.iv (.sl sz [])))), b⟩ := by
  refine ⟨rfl, fun X O w0 F ρ a w hs => ⟨ρ, ?_⟩⟩
  obtain ⟨bl, arr, fz, g1, g2, g3, g4, g5⟩ := hs.mem.obj k _ hk
  have hev := Evo.set (X := X) (w := w) (w' := w) k bl _ (.var T' (cs.set j (.iv (.sl sz [])))) hk g1 rfl (Wrote.refl _ _) rfl (hs.mem.other (lt_of_get hk) g1)
  have hm : MemOk X O w0 (M.set k (.var T' (cs.set j (.iv (.sl sz []))))) ρ w := by
    refine hs.mem.set k bl _ _ hk g1 (Wrote.refl _ _) hev ⟨bl, arr, fz, g1, g2, g3, by simpa using g4, fun i y u hy hu => ?_⟩
    by_cases e : i = j
    · subst e
      rw [List.getElem?_set_self (lt_of_get h)] at hy
      cases hy
      have := g5 i _ u h hu
      obtain ⟨A, hA⟩ := inv_nilsl this
      rw [hA]
      exact .iv _ _ (.sl0 _ _ _)
    · rw [List.getElem?_set_ne (Ne.symm e)] at hy
      exact (g5 i y u hy hu).mono hev
  exact ⟨hs.size, hs.defers, fun i => (hs.tm i).mono hev, hm, fun x u hx => ⟨(hs.fr x u hx).1, (hs.fr x u hx).2.mono hev⟩⟩
theorem aw_cut {P : Program} {c y : Code} {Q : Exit → St → Prop} {s : St} (S1 : St) (h : aw P c (thenQ (fun s' => Wk s' S1) Q) s) (k : aw P y Q S1) : aw P (.seq c y) Q s := by
  refine aw_seq (aw_mono h (fun e s' hq => ?_))
  cases e with
  | normal => exact aw_wk hq k
  | exit i => exact hq
  | goto i => exact hq
  | ret => exact hq
  | panic c => exact hq
  | outgrown => exact hq
attribute [go_sem ↓] reduceIte
attribute [go_sem] reduceCtorEq Nat.reduceEqDiff Nat.reduceAdd Nat.reduceSub Nat.reduceMul Nat.reduceLT Nat.reduceLeDiff Nat.reduceBEq Nat.reduceBNe Int.reduceEq Int.reduceLT Int.reduceLE Int.reduceAdd Int.reduceSub Int.reduceMul Int.reduceToNat Int.reduceNeg Int.reduceBEq Int.reduceBNe
attribute [go_sem] wrapS wrapU wrapB tdivS tmodS mapGetI mapGetB replGet Int.natCast_add natCast_zero natCast_one Int.toNat_natCast Int.cast_ofNat_Int getMap beq_int bne_int Int.sub_self Int.add_zero Int.zero_add List.append_assoc
end Go.Proofs.Ytnijpeeehnnipaa.AM
set_option linter.unusedVariables false
set_option linter.unusedSimpArgs false
namespace Go.Proofs.Ytnijpeeehnnipaa.AM
open Go Go.RowKit
@[go_sem] theorem effK_map_bind_ite {α β : Type} (c : Prop) [Decidable c] (x : Option α) (g : α → Option β) (f : β → Cls × AV × List MO) (F : AV → List MO → Prop) (t : Tok F) : effT (((if c then x else none).bind g).map f) F t = (c ∧ effK ((x.bind g).map f) F) := by
  by_cases h : c
  · rw [if_pos h]; simp only [h, true_and]; rfl
  · rw [if_neg h]; simp only [h, false_and]; rfl
/-! Long lists stand in two parts. -/
@[go_sem] theorem append_cons_ {α : Type} (a : α) (l m : List α) : List.append (a :: l) m = a :: List.append l m := rfl
@[go_sem] theorem append_nil_ {α : Type} (m : List α) : List.append [] m = m := rfl
@[go_sem] theorem sg_five (a b c d e f : Nat) (l : List Nat) (m : Nat) : sg (a :: b :: c :: d :: e :: f :: l) m 5 = f := rfl
@[go_sem] theorem sg_six (a b c d e f g : Nat) (l : List Nat) (m : Nat) : sg (a :: b :: c :: d :: e :: f :: g :: l) m 6 = g := rfl
end Go.Proofs.Ytnijpeeehnnipaa.AM
set_option linter.unusedVariables false
set_option linter.unusedSimpArgs false
namespace Go.Proofs.Ytnijpeeehnnipaa.AM
open Go Go.RowKit
def awN (P : Program) (c : Code) (Q : Exit → St → Prop) : Nat → St → Prop
  | 0, _ => False
  | n + 1, s => aw P c (thenQ (awN P c Q n) Q) s
theorem awN_step {P : Program} {c : Code} {Q : Exit → St → Prop} {n : Nat} {s : St} (h : aw P c (thenQ (awN P c Q n) Q) s) : awN P c Q (n + 1) s := h
theorem awN_rounds {rd : Option Nat} {P : Program} {c : Code} {Q : Exit → St → Prop} {X O : Nat → Prop} {w0 : World} {F : AV → Value → Prop} {n0 : Nat} (hb : bnd rd.isNone n0 c = true) :
    ∀ (n : Nat) (s : St) (ρ : Nat → Option Nat) (a : Act) (w : World), s.n = n0 → awN P c Q n s → Sim X O w0 F s ρ a w → Code.roundsIn (fr rd) 0 P c (conc X O w0 F n0 Q) n a w
  | 0, s, ρ, a, w, hn, h, hs => h.elim
  | n + 1, s, ρ, a, w, hn, h, hs => by
    have h' : aw P c (thenQ (awN P c Q n) Q) s := h
    have := h' rd (by rw [hn]; exact hb) X O w0 F ρ a w hs
    rw [roundsIn_succ]
    refine wpIn_mono this (fun e a' w' ⟨s', ρ', hn', h1, h2⟩ => ?_)
    cases e with
    | normal => exact awN_rounds hb n s' ρ' a' w' (hn'.trans hn) h2 h1
    | exit i => exact ⟨s', ρ', hn'.trans hn, h1, h2⟩
    | goto i => exact ⟨s', ρ', hn'.trans hn, h1, h2⟩
    | ret => exact ⟨s', ρ', hn'.trans hn, h1, h2⟩
    | panic i => exact ⟨s', ρ', hn'.trans hn, h1, h2⟩
    | outgrown => exact ⟨s', ρ', hn'.trans hn, h1, h2⟩
theorem aw_rounds (n : Nat) {P : Program} {c : Code} {Q : Exit → St → Prop} {s : St} (h : awN P c Q n s) : aw P (.loop c) Q s := by
  intro rd hb X O w0 F ρ a w hs
  have hb' : bnd rd.isNone s.n c = true := hb
  exact wpIn_loop_rounds n (awN_rounds hb' n s ρ a w rfl h hs)
end Go.Proofs.Ytnijpeeehnnipaa.AM
set_option linter.unusedVariables false
set_option linter.unusedSimpArgs false
namespace Go.Proofs.Ytnijpeeehnnipaa.AM
open Go Go.RowKit

def natOf : List Bool → Nat
  | [] => 0
  | b :: l => b.toNat + 2 * natOf l
/-! ### words -/
def wordAt (l : List Bool) (k : Nat) : Nat := natOf ((l.drop (64 * k)).take 64)
def nw (l : List Bool) : Nat := (l.length + 63) / 64
def ws (l : List Bool) : List IV := (List.range (nw l)).map fun k => .int .u64 (wordAt l k)
theorem ws_len (l : List Bool) : (ws l).length = (l.length + 63) / 64 := by simp [ws, nw]
/-! ### what the machine's operations are on such numbers -/
theorem wrap64N (n : Nat) (h : n < 18446744073709551616) : IntKind.u64.wrap (n : Int) = (n : Int) := wrapU ⟨by omega, by omega⟩
theorem bitand64 (a b : Nat) (ha : a < 18446744073709551616) (hb : b < 18446744073709551616) : bitI .and .u64 (a : Int) (b : Int) = ((a &&& b : Nat) : Int) := by
  have e : (BitVec.ofInt IntKind.u64.bits (a : Int) &&& BitVec.ofInt IntKind.u64.bits (b : Int)).toNat = a &&& b := by
    rw [BitVec.toNat_and, BitVec.ofInt_natCast, BitVec.ofInt_natCast, BitVec.toNat_ofNat, BitVec.toNat_ofNat]
    rw [Nat.mod_eq_of_lt (show a < 2 ^ IntKind.u64.bits from ha), Nat.mod_eq_of_lt (show b < 2 ^ IntKind.u64.bits from hb)]
  show IntKind.u64.wrap _ = _
  rw [e]
  exact wrap64N _ (Nat.lt_of_le_of_lt Nat.and_le_left ha)
theorem shrN (a : Nat) {r : Int} (h0 : 0 ≤ r) (h1 : r < 64) : (a : Int).fdiv (2 ^ (min r.toNat 64)) = ((a / 2 ^ r.toNat : Nat) : Int) := by
  rw [Nat.min_eq_left (by omega), Int.fdiv_eq_ediv_of_nonneg _ (by have := Int.natCast_nonneg (2 ^ r.toNat); simpa using this)]
  simp
end Go.Proofs.Ytnijpeeehnnipaa.AM
set_option linter.unusedVariables false
set_option linter.unusedSimpArgs false
namespace Go.Proofs.Ytnijpeeehnnipaa.AM
open Go Go.RowKit

def t1 (d : Nat) : Nat := (d / 2 &&& 85) + (d &&& 85)
def t2 (d : Nat) : Nat := (d / 4 &&& 51) + (d &&& 51)
def t3 (d : Nat) : Nat := (d / 16 + d) &&& 15
end Go.Proofs.Ytnijpeeehnnipaa.AM
set_option linter.unusedVariables false
set_option linter.unusedSimpArgs false
namespace Go.Proofs.Ytnijpeeehnnipaa.AM
open Go Go.RowKit

def o1 (x : Nat) : Nat := (x / 2 &&& 6148914691236517205) + (x &&& 6148914691236517205)
def o2 (x : Nat) : Nat := (o1 x / 4 &&& 3689348814741910323) + (o1 x &&& 3689348814741910323)
def o3 (x : Nat) : Nat := (o2 x / 16 + o2 x) &&& 1085102592571150095
def o4 (x : Nat) : Nat := o3 x + o3 x / 256
theorem shrK (a k : Nat) (h : k < 64) : (a : Int).fdiv (2 ^ (min k 64)) = ((a / 2 ^ k : Nat) : Int) := by
  have := shrN a (r := (k : Int)) (by omega) (by omega)
  simpa using this
end Go.Proofs.Ytnijpeeehnnipaa.AM
set_option linter.unusedVariables false
set_option linter.unusedSimpArgs false
namespace Go.Proofs.Ytnijpeeehnnipaa.AM
open Go Go.RowKit

def bitsOf (n w : Nat) : List Bool := (List.range w).map fun i => n / 2 ^ i % 2 == 1
theorem bitsOf_len (n w : Nat) : (bitsOf n w).length = w := by simp [bitsOf]
theorem bitLenAux_lt : ∀ (f x : Nat), x < 2 ^ f → x < 2 ^ Lib.bitLenAux f x
  | 0, x, h => by simpa [Lib.bitLenAux] using h
  | f + 1, x, h => by
    unfold Lib.bitLenAux
    split
    · rename_i h0; subst h0; simp
    · have := bitLenAux_lt f (x / 2) (by rw [Nat.pow_succ] at h; omega)
      rw [Nat.add_comm, Nat.pow_succ]; omega
theorem bitLen_fits (x : Nat) (hx : x < 18446744073709551616) {w : Nat} (hw : w ≤ 64) : Lib.bitLen x ≤ w ↔ x < 2 ^ w := by
  constructor
  · intro h
    exact Nat.lt_of_lt_of_le (bitLenAux_lt 64 x hx) (Nat.pow_le_pow_right (by decide) h)
  · exact Lib.bitLen_le x w hw
/-! ### a number in a row -/
/-! ### bytes -/
def readB (s : ByteArray) (n : Nat) : List Bool := (List.range n).map fun i => (s.data.toList.getD (i / 8) 0).toNat / 2 ^ (i % 8) % 2 == 1
theorem readB_len (s : ByteArray) (n : Nat) : (readB s n).length = n := by simp [readB]
end Go.Proofs.Ytnijpeeehnnipaa.AM
set_option linter.unusedVariables false
set_option linter.unusedSimpArgs false
namespace Go.Proofs.Ytnijpeeehnnipaa.AM
open Go Go.RowKit

theorem take_snoc (l : List Int) {j : Nat} (h : j < l.length) : l.take (j + 1) = l.take j ++ [l.getD j 0] := by
  rw [List.take_add_one, List.getElem?_eq_getElem h]
  simp [List.getD, List.getElem?_eq_getElem h]
theorem dq {P : Prop} (h : P := by first | omega | (simp only [List.length_append, List.length_cons, List.length_nil, List.length_map, bitsOf_len, readB_len, Int.natCast_add, Int.natCast_succ, Nat.zero_add, natCast_one, natCast_zero] <;> omega) | fail) : P := h
class Nx (p : Prop) (q : outParam Prop) : Prop where
  go : q → p
class Sp (p : Prop) (b : outParam Bool) (q r : outParam Prop) : Prop where
  go : (b = true → q) → (b = false → r) → p
section
variable {P : Program} {Q : Exit → St → Prop} {s : St} {x y c : Code} {i : Nat}
instance nx0 {d : Tok (Code.seq x y, Q)} : Nx (awT P (.seq x y) Q d s) (aw P x (thenQ (aw P y Q) Q) s) := ⟨aw_seq⟩
instance nx1 {ops : List Oper} {d : Tok (Code.region i ops.toArray false, Q)} : Nx (awT P (.region i ops.toArray false) Q d s) (run P ops ops (fun s l => left P ops (Q .normal) s l) s) := ⟨fun h => aw_region (aops_run h)⟩
instance nx2 {o : Operand} {d : Tok (Code.cond o x y, Q)} : Nx (awT P (.cond o x y) Q d s) (condT (s.ev o) (aw P x Q s) (aw P y Q s) ⟨()⟩) := ⟨aw_condK⟩
instance nx3 {d : Tok (Code.skip, Q)} : Nx (awT P .skip Q d s) (Q .normal s) := ⟨aw_skip⟩
instance nx4 {d : Tok (Code.ret, Q)} : Nx (awT P .ret Q d s) (Q .ret s) := ⟨aw_ret⟩
instance nx5 {d : Tok (Code.exit i, Q)} : Nx (awT P (.exit i) Q d s) (Q (.exit i) s) := ⟨aw_exit⟩
instance nx6 {d : Tok (Code.label i, Q)} : Nx (awT P (.label i) Q d s) (Q .normal s) := ⟨aw_label⟩
instance nx7 {d : Tok (Code.block i c, Q)} : Nx (awT P (.block i c) Q d s) (aw P c (blockQ i Q) s) := ⟨aw_block⟩
instance nx8 {d : Tok (Code.scope c, Q)} : Nx (awT P (.scope c) Q d s) (aw P c (scopeQ Q) s) := ⟨aw_scope⟩
instance sp0 {b : Bool} {f : Bool → Prop} {t : Tok f} : Sp (wantT (some b) f t) b (f true) (f false) := ⟨wantK_split⟩
instance sp1 {b : Bool} {A B : Prop} {t : Tok (A, B)} : Sp (condT (.iv (.bool b)) A B t) b A B := ⟨condK_split⟩
instance sp2 {b : Bool} {u v : AV} {M : List MO} {F : AV → List MO → Prop} {t : Tok F} : Sp (effT (pickV (.iv (.bool b)) u v M) F t) b (F u M) (F v M) := ⟨pickV_split⟩
end
end Go.Proofs.Ytnijpeeehnnipaa.AM
