
/- The abstract machine, third part: drawn regions, more rules; plain facts on words, numbers, bytes. No condition. -/
import Derived.Test.YtpjncojljamacaaGreatAB
import Derived.Orders
import Derived.LoopN
import Derived.Lib.BitFns
set_option linter.unusedVariables false
set_option linter.unusedSimpArgs false
namespace Go.Proofs.YtpjncojljamacaaGreat.AM
open Go Go.RowKit

def rnk : Cls → Nat | .p => 0 | .r => 1 | .w => 2
def leC (a b : Cls) : Bool := decide (rnk a ≤ rnk b)
def isBS (o : Oper) : Bool := match o.op with
  | .buildSlice _ _ _ => true
  | _ => false
def fzM (k : Nat) : Oper := ⟨some k, .nilCheck (.tmp 0), 0, "", #[], none⟩
def fz (cw : Oper → Cls) : Bool := cw (fzM 1000001) == .r && cw (fzM 1000002) == .w
def cls0 (cw : Oper → Cls) (o : Oper) : Cls := match o.op with
  | .alloc _ => .w
  | .box _ _ => .w
  | .buildSlice _ _ _ => if fz cw then .p else .w
  | .makeSlice _ _ _ => .w
  | .store _ _ _ => .w
  | .assign (.const (.slice _ _ _)) => .w
  | .makeMap _ _ => .w
  | .mapUpdate _ _ _ _ => .w
  | .range _ _ => .w
  | .next _ _ => .w
  | .lookup _ _ _ _ => .r
  | .entry _ => .r
  | .call c => match c.callee with
    | .builtin .append => .w
    | .builtin .copy => .w
    | .builtin .clear => .w
    | .builtin .len => .r
    | .builtin _ => .p
    | _ => cw o
  | .load _ _ => .r
  | .slice _ _ _ _ _ => .r
  | .indexAddr _ _ _ => .r
  | .nilCheck _ => .r
  | .fieldAddr _ _ _ => .r
  | .convert _ _ _ => .r
  | _ => .p

section
variable {P : Program} {o : Oper} {ev ev' : Operand → AV} {M : List MO}

theorem parts_congr {ps : List (Nat × Operand)} (h : ∀ x ∈ ps.map (·.2), ev x = ev' x) : (ps.map fun (i, x) => (i, ev x)) = ps.map fun (i, x) => (i, ev' x) := by
  apply List.map_congr_left
  intro p hp
  have := h p.2 (List.mem_map.2 ⟨p, hp, rfl⟩)
  simp [this]

theorem effM_congr (h : ∀ x ∈ o.op.operands, ev x = ev' x) : effM P o ev M = effM P o ev' M := by
  unfold effM
  cases ho : o.op with
  | makeMap t r => cases r <;> rfl
  | lookup _ a b _ =>
    rw [ho] at h
    have h1 := h a (by simp [Op.operands]); have h2 := h b (by simp [Op.operands])
    simp only [h1, h2]
  | mapUpdate _ a b c =>
    rw [ho] at h
    have h1 := h a (by simp [Op.operands]); have h2 := h b (by simp [Op.operands]); have h3 := h c (by simp [Op.operands])
    simp only [h1, h2, h3]
  | range _ x => rw [ho] at h; simp only [Op.operands, List.mem_toArray, List.mem_singleton, forall_eq] at h; simp only [h]
  | next x b => rw [ho] at h; simp only [Op.operands, List.mem_toArray, List.mem_singleton, forall_eq] at h; cases b <;> simp only [h]
  | entry x => rw [ho] at h; simp only [Op.operands, List.mem_toArray, List.mem_singleton, forall_eq] at h; simp only [h]
  | _ => rfl
theorem eff_congr (h : ∀ x ∈ o.op.operands, ev x = ev' x) : eff P o ev M = eff P o ev' M := by
  have h0 := h
  unfold eff
  cases ho : o.op with
  | move x => rw [ho] at h; simp only [Op.operands, List.mem_toArray, List.mem_singleton, forall_eq] at h; simp only [h]
  | assign x =>
    rw [ho] at h; simp only [Op.operands, List.mem_toArray, List.mem_singleton, forall_eq] at h
    dsimp only
    split
    · rfl
    · rw [h]
  | box T x => rw [ho] at h; simp only [Op.operands, List.mem_toArray, List.mem_singleton, forall_eq] at h; simp only [h]
  | load T x => rw [ho] at h; simp only [Op.operands, List.mem_toArray, List.mem_singleton, forall_eq] at h; simp only [h]
  | nilCheck x => rw [ho] at h; simp only [Op.operands, List.mem_toArray, List.mem_singleton, forall_eq] at h; simp only [h]
  | unOp _ _ x => rw [ho] at h; simp only [Op.operands, List.mem_toArray, List.mem_singleton, forall_eq] at h; simp only [h]
  | convert _ _ x => rw [ho] at h; simp only [Op.operands, List.mem_toArray, List.mem_singleton, forall_eq] at h; simp only [h]
  | fieldAddr _ x _ => rw [ho] at h; simp only [Op.operands, List.mem_toArray, List.mem_singleton, forall_eq] at h; simp only [h]
  | field _ x _ => rw [ho] at h; simp only [Op.operands, List.mem_toArray, List.mem_singleton, forall_eq] at h; simp only [h]
  | extract x _ => rw [ho] at h; simp only [Op.operands, List.mem_toArray, List.mem_singleton, forall_eq] at h; simp only [h]
  | pick c a b =>
    rw [ho] at h
    have h1 := h c (by simp [Op.operands]); have h2 := h a (by simp [Op.operands]); have h3 := h b (by simp [Op.operands])
    simp only [h1, h2, h3]
  | store _ a b =>
    rw [ho] at h
    have h1 := h a (by simp [Op.operands]); have h2 := h b (by simp [Op.operands])
    simp only [h1, h2]
  | binOp _ _ a b _ =>
    rw [ho] at h
    have h1 := h a (by simp [Op.operands]); have h2 := h b (by simp [Op.operands])
    simp only [h1, h2]
  | makeSlice _ a b =>
    rw [ho] at h
    have h1 := h a (by simp [Op.operands]); have h2 := h b (by simp [Op.operands])
    simp only [h1, h2]
  | indexAddr _ a b =>
    rw [ho] at h
    have h1 := h a (by simp [Op.operands]); have h2 := h b (by simp [Op.operands])
    simp only [h1, h2]
  | index _ a b =>
    rw [ho] at h
    have h1 := h a (by simp [Op.operands]); have h2 := h b (by simp [Op.operands])
    simp only [h1, h2]
  | build _ ps =>
    rw [ho] at h
    simp only [Op.operands, List.mem_toArray] at h
    simp only [parts_congr h]
  | buildSlice _ _ ps =>
    rw [ho] at h
    simp only [Op.operands, List.mem_toArray] at h
    simp only [parts_congr h]
  | slice _ x l hi m =>
    rw [ho] at h
    have h1 := h x (by simp [Op.operands])
    have hl : l.map ev = l.map ev' := by cases l with | none => rfl | some y => simp [h y (by simp [Op.operands])]
    have hh : hi.map ev = hi.map ev' := by cases hi with | none => rfl | some y => simp [h y (by simp [Op.operands])]
    have hm : m.map ev = m.map ev' := by cases m with | none => rfl | some y => simp [h y (by simp [Op.operands])]
    simp only [h1, hl, hh, hm]
  | makeFunc fd first caps =>
    rw [ho] at h
    have : caps.toList.map ev = caps.toList.map ev' := List.map_congr_left (fun x hx => h x (by simp [Op.operands]; exact .inr (by simpa using hx)))
    cases fd with
    | func f => simp only [this]
    | _ => exact effM_congr h0
  | call c =>
    rw [ho] at h
    have : c.args.toList.map ev = c.args.toList.map ev' := List.map_congr_left (fun x hx => h x (by simp [Op.operands, Call.operands]; exact .inr (by simpa using hx)))
    simp only [this]
  | _ => first | rfl | exact effM_congr h0

def ClsOk (P : Program) (o : Oper) (ev : Operand → AV) (M : List MO) (c0 : Cls) (c : Cls) (v : AV) (M' : List MO) : Prop := leC c c0 = true ∧ (c = .w ∨ M' = M) ∧ (c = .p → ∀ M2, eff P o ev M2 = some (.p, v, M2))

theorem ok_w {c0 : Cls} {v : AV} {M' : List MO} (h : c0 = .w) : ClsOk P o ev M c0 .w v M' := ⟨by rw [h]; rfl, .inl rfl, fun h => by cases h⟩
theorem ok_r {c0 : Cls} {v : AV} (h : leC .r c0 = true) : ClsOk P o ev M c0 .r v M := ⟨h, .inr rfl, fun h => by cases h⟩
theorem ok_p {c0 : Cls} {v : AV} (h : ∀ M2, eff P o ev M2 = some (.p, v, M2)) : ClsOk P o ev M c0 .p v M := ⟨by cases c0 <;> rfl, .inr rfl, fun _ => h⟩

theorem effM_ok (cw : Oper → Cls) {c : Cls} {v : AV} {M' : List MO} (h : effM P o ev M = some (c, v, M')) : ClsOk P o ev M (cls0 cw o) c v M' := by
  unfold effM at h
  split at h
  · rename_i ho
    obtain ⟨_, _, h⟩ := option_map_some h
    cases h; exact ok_w (by simp only [cls0, ho])
  · rename_i ho
    obtain ⟨q1, _, h⟩ := option_bind_some h
    obtain ⟨q2, _, h⟩ := option_bind_some h
    obtain ⟨q3, _, h⟩ := option_bind_some h
    obtain ⟨q4, _, h⟩ := option_bind_some h
    obtain ⟨q5, _, h⟩ := option_map_some h
    cases h; exact ok_r (by simp only [cls0, ho]; rfl)
  · rename_i ho
    obtain ⟨q1, _, h⟩ := option_bind_some h
    obtain ⟨q2, _, h⟩ := option_bind_some h
    split at h
    · split at h
      · obtain ⟨q5, _, h⟩ := option_map_some h
        cases h; exact ok_w (by simp only [cls0, ho])
      · cases h
    · cases h
  · rename_i ho
    split at h
    · cases h; exact ok_w (by simp only [cls0, ho])
    · obtain ⟨q5, _, h⟩ := option_map_some h
      cases h; exact ok_w (by simp only [cls0, ho])
    · cases h
  · rename_i ho
    unfold nextV at h
    split at h
    · split at h
      · split at h <;> (cases h; exact ok_w (by simp only [cls0, ho]))
      · cases h
    · cases h
  · rename_i ho
    unfold nextEV at h
    split at h
    · split at h
      · obtain ⟨q5, _, h⟩ := option_bind_some h
        split at h
        · cases h; exact ok_w (by simp only [cls0, ho])
        · cases h
      · cases h
    · cases h
  · rename_i ho
    split at h
    · split at h
      · obtain ⟨q5, _, h⟩ := option_bind_some h
        simp only at h
        split at h
        · obtain ⟨q1, _, h⟩ := option_bind_some h
          obtain ⟨q2, _, h⟩ := option_bind_some h
          obtain ⟨q3, _, h⟩ := option_map_some h
          cases h; exact ok_r (by simp only [cls0, ho]; rfl)
        · cases h
      · cases h
    · cases h
  · cases h
theorem eff_ok (cw : Oper → Cls) (hz : isBS o = true → fz cw = false) {c : Cls} {v : AV} {M' : List MO} (h : eff P o ev M = some (c, v, M')) : ClsOk P o ev M (cls0 cw o) c v M' := by
  cases ho : o.op with
  | move x => simp only [eff, ho] at h; cases h; exact ok_p (fun M2 => by simp only [eff, ho])
  | assign x =>
    by_cases hx : x = .const (.slice none 0 0)
    · subst hx
      simp only [eff, ho] at h
      obtain ⟨e, he, h⟩ := option_map_some h
      cases h
      exact ok_w (by simp only [cls0, ho])
    · have key : ∀ M2, eff P o ev M2 = some (.p, ev x, M2) := by
        intro M2
        simp only [eff, ho]
      rw [key M] at h; cases h; exact ok_p key
  | pick a b d =>
    have h0 := h
    simp only [eff, ho] at h
    split at h
    · rename_i t ht; cases h; exact ok_p (fun M2 => by simp only [eff, ho, ht])
    · cases h
  | alloc T =>
    simp only [eff, ho] at h
    obtain ⟨z, _, h⟩ := option_bind_some h
    obtain ⟨cs, _, h⟩ := option_map_some h
    cases h; exact ok_w (by simp only [cls0, ho])
  | box T x =>
    simp only [eff, ho] at h
    obtain ⟨cs, _, h⟩ := option_map_some h
    cases h; exact ok_w (by simp only [cls0, ho])
  | build t ps =>
    simp only [eff, ho] at h
    obtain ⟨z, h1, h⟩ := option_bind_some h
    obtain ⟨cs, h2, h⟩ := option_bind_some h
    obtain ⟨pl, h3, h⟩ := option_bind_some h
    obtain ⟨cs', h4, h⟩ := option_map_some h
    cases h
    exact ok_p (fun M2 => by simp only [eff, ho, h1, h2, h3, h4, Option.bind_some, Option.map_some])
  | buildSlice t len ps =>
    simp only [eff, ho] at h
    obtain ⟨e, h1, h⟩ := option_bind_some h
    obtain ⟨z, h2, h⟩ := option_bind_some h
    split at h
    · obtain ⟨⟨q, M1⟩, h3, h⟩ := option_bind_some h
      simp only at h
      split at h
      · obtain ⟨xs, h4, h⟩ := option_map_some h
        cases h; exact ok_w (by simp only [cls0, ho, hz (by simp [isBS, ho])]; rfl)
      · cases h
    · cases h
  | load t a =>
    simp only [eff, ho] at h
    obtain ⟨ag, h1, h⟩ := option_bind_some h
    split at h
    · split at h
      · obtain ⟨x, _, h⟩ := option_map_some h
        cases h; exact ok_r (by simp only [cls0, ho]; rfl)
      · cases h
    · obtain ⟨q, _, h⟩ := option_bind_some h
      obtain ⟨x, _, h⟩ := option_bind_some h
      obtain ⟨y, _, h⟩ := option_map_some h
      cases h; exact ok_r (by simp only [cls0, ho]; rfl)
    · rename_i ha
      obtain ⟨x, h2, h⟩ := option_bind_some h
      obtain ⟨y, h3, h⟩ := option_map_some h
      cases h; exact ok_p (fun M2 => by simp only [eff, ho, h1, ha, h2, h3, Option.bind_some, Option.map_some])
    · cases h
  | store t a x =>
    simp only [eff, ho] at h
    obtain ⟨n, h1, h⟩ := option_bind_some h
    split at h
    · split at h
      · obtain ⟨ys, _, h⟩ := option_bind_some h
        split at h
        · cases h; exact ok_w (by simp only [cls0, ho])
        · cases h
      · cases h
    · obtain ⟨⟨y, M1⟩, _, h⟩ := option_bind_some h
      simp only at h
      split at h
      · split at h
        · obtain ⟨old, _, h⟩ := option_bind_some h
          obtain ⟨z, _, h⟩ := option_map_some h
          cases h; exact ok_w (by simp only [cls0, ho])
        · cases h
      · cases h
    · cases h
  | nilCheck x =>
    simp only [eff, ho] at h
    split at h
    · rename_i hx; cases h; exact ok_p (fun M2 => by simp only [eff, ho, hx])
    · rename_i hx; cases h; exact ok_p (fun M2 => by simp only [eff, ho, hx])
    · obtain ⟨q, _, h⟩ := option_map_some h
      cases h; exact ok_r (by simp only [cls0, ho]; rfl)
    · rename_i hx; cases h; exact ok_p (fun M2 => by simp only [eff, ho, hx])
    · rename_i hx; cases h; exact ok_p (fun M2 => by simp only [eff, ho, hx])
    · cases h
  | binOp op t x y yt =>
    simp only [eff, ho] at h
    cases hn : nilCmp P op t y (ev x) with
    | some b =>
      rw [hn] at h
      cases h; exact ok_p (fun M2 => by simp only [eff, ho, hn])
    | none =>
      rw [hn] at h
      obtain ⟨q, h1, h⟩ := option_map_some h
      cases h; exact ok_p (fun M2 => by simp only [eff, ho, hn, h1, Option.map_some])
  | unOp op t x =>
    simp only [eff, ho] at h
    obtain ⟨q, h1, h⟩ := option_map_some h
    cases h; exact ok_p (fun M2 => by simp only [eff, ho, h1, Option.map_some])
  | convert src dst x =>
    simp only [eff, ho] at h
    have key : ∀ M, convAV P src dst (ev x) M = (convAV P src dst (ev x) []).map fun q => (q.1, q.2.1, M) := by
      intro M
      unfold convAV
      split
      · split <;> rfl
      · split <;> rfl
      · rfl
    have key2 : ∀ {q}, convAV P src dst (ev x) [] = some q → q.1 = .p := by
      intro q hq
      unfold convAV at hq
      split at hq
      · split at hq <;> cases hq; rfl
      · split at hq <;> cases hq; rfl
      · cases hq
    rw [key] at h
    cases hc : convAV P src dst (ev x) [] with
    | some q =>
      rw [hc] at h
      have hq := key2 hc
      cases h
      rw [hq]
      refine ok_p (fun M2 => ?_)
      simp only [eff, ho]
      rw [key, hc, Option.map_some, hq]
    | none =>
      rw [hc] at h
      simp only [Option.map_none] at h
      unfold strOf at h
      split at h
      · split at h
        · obtain ⟨ys, _, h⟩ := option_bind_some h
          obtain ⟨l, _, h⟩ := option_map_some h
          cases h; exact ok_r (by simp only [cls0, ho]; rfl)
        · cases h
      · cases h
  | makeFunc fd first caps =>
    cases fd with
    | func f =>
      simp only [eff, ho] at h
      split at h
      · rename_i hf; cases h; exact ok_p (fun M2 => by simp only [eff, ho, hf, if_true])
      · cases h
    | _ => simp only [eff, ho] at h; exact effM_ok cw h
  | makeSlice t l d =>
    simp only [eff, ho] at h
    split at h
    · obtain ⟨e, _, h⟩ := option_bind_some h
      obtain ⟨z, _, h⟩ := option_bind_some h
      split at h
      · cases h; exact ok_w (by simp only [cls0, ho])
      · cases h
    · cases h
  | slice t x l hi m =>
    simp only [eff, ho] at h
    split at h
    · cases h
    · obtain ⟨q, _, h⟩ := option_map_some h
      cases h; exact ok_r (by simp only [cls0, ho]; rfl)
  | fieldAddr t x f =>
    simp only [eff, ho] at h
    obtain ⟨⟨off, ft⟩, h1, h⟩ := option_bind_some h
    simp only at h
    split at h
    · rename_i hx; cases h; exact ok_p (fun M2 => by simp only [eff, ho, h1, hx, Option.bind_some])
    · rename_i hx; cases h; exact ok_p (fun M2 => by simp only [eff, ho, h1, hx, Option.bind_some])
    · obtain ⟨q, _, h⟩ := option_map_some h
      cases h; exact ok_r (by simp only [cls0, ho]; rfl)
    · cases h
  | field t x f =>
    simp only [eff, ho] at h
    obtain ⟨⟨off, ft⟩, h1, h⟩ := option_bind_some h
    simp only at h
    obtain ⟨ag, h2, h⟩ := option_bind_some h
    split at h
    · rename_i hx
      obtain ⟨q, h3, h⟩ := option_map_some h
      cases h; exact ok_p (fun M2 => by simp only [eff, ho, h1, h2, hx, h3, Option.bind_some, Option.map_some])
    · rename_i hx
      obtain ⟨q, h3, h⟩ := option_map_some h
      cases h; exact ok_p (fun M2 => by simp only [eff, ho, h1, h2, hx, h3, Option.bind_some, Option.map_some])
    · cases h
  | indexAddr t x i =>
    simp only [eff, ho] at h
    obtain ⟨j, h1, h⟩ := option_bind_some h
    split at h
    · rename_i hx
      obtain ⟨e, h2, h⟩ := option_bind_some h
      split at h
      · rename_i hc; cases h; exact ok_p (fun M2 => by simp only [eff, ho, h1, hx, h2, Option.bind_some, if_pos hc])
      · cases h
    · obtain ⟨e, h2, h⟩ := option_bind_some h
      obtain ⟨q, h3, h⟩ := option_bind_some h
      split at h
      · cases h; exact ok_r (by simp only [cls0, ho]; rfl)
      · cases h
    · rename_i hx
      obtain ⟨q, h2, h⟩ := option_bind_some h
      split at h
      · rename_i hc; cases h; exact ok_p (fun M2 => by simp only [eff, ho, h1, hx, h2, Option.bind_some, if_pos hc])
      · cases h
    · cases h
  | index t x i =>
    simp only [eff, ho] at h
    obtain ⟨j, h1, h⟩ := option_bind_some h
    split at h
    · rename_i hx
      simp only [Option.ite_none_right_eq_some, Option.some.injEq, Prod.mk.injEq] at h
      obtain ⟨hk, hc, rfl, rfl, rfl⟩ := h
      exact ok_p (fun M2 => by simp only [eff, ho, h1, hx, Option.bind_some]; rw [if_pos hk, if_pos hc])
    · rename_i hx
      obtain ⟨q, h2, h⟩ := option_bind_some h
      obtain ⟨ag, h3, h⟩ := option_bind_some h
      split at h
      · rename_i hc
        obtain ⟨y, h4, h⟩ := option_map_some h
        cases h; exact ok_p (fun M2 => by simp only [eff, ho, h1, hx, h2, h3, h4, Option.bind_some, Option.map_some, if_pos hc])
      · cases h
    · cases h
  | extract x i =>
    simp only [eff, ho] at h
    split at h
    · rename_i hx
      obtain ⟨q, h3, h⟩ := option_map_some h
      cases h; exact ok_p (fun M2 => by simp only [eff, ho, hx, h3, Option.map_some])
    · rename_i hx
      obtain ⟨q, h3, h⟩ := option_map_some h
      cases h; exact ok_p (fun M2 => by simp only [eff, ho, hx, h3, Option.map_some])
    · cases h
  | call cl =>
    simp only [eff, ho] at h
    split at h
    · rename_i b hb
      unfold builtinAV at h
      split at h
      · unfold clearAV at h
        split at h
        · obtain ⟨e, _, h⟩ := option_bind_some h
          obtain ⟨z, _, h⟩ := option_bind_some h
          split at h
          · split at h
            · split at h
              · cases h; exact ok_w (by simp only [cls0, ho, hb])
              · cases h
            · cases h
          · cases h
        · cases h
      unfold builtin0 at h
      split at h
      · split at h
        · split at h
          · cases h
          · obtain ⟨n, _, h⟩ := option_map_some h
            cases h; exact ok_r (by simp only [cls0, ho, hb]; rfl)
        · split at h
          · cases h
            refine ok_p (fun M2 => ?_)
            simp only [eff, ho, hb, builtinAV, builtin0, *]
          · cases h
        · obtain ⟨q, _, h⟩ := option_map_some h
          cases h; exact ok_r (by simp only [cls0, ho, hb]; rfl)
        · cases h
      · split at h
        · obtain ⟨e, _, h⟩ := option_bind_some h
          obtain ⟨⟨q, M1⟩, _, h⟩ := option_map_some h
          cases h; exact ok_w (by simp only [cls0, ho, hb])
        · obtain ⟨e, _, h⟩ := option_bind_some h
          obtain ⟨⟨q, M1⟩, _, h⟩ := option_map_some h
          cases h; exact ok_w (by simp only [cls0, ho, hb])
        · cases h
      · rename_i hargs hnc
        obtain ⟨q, h1, h⟩ := option_map_some h
        cases h
        refine ok_p (fun M2 => ?_)
        simp only [eff, ho, hb, hargs]
        simp only [builtinAV, builtin0, h1, Option.map_some]
      · rename_i hargs hnc
        obtain ⟨q, h1, h⟩ := option_map_some h
        cases h
        refine ok_p (fun M2 => ?_)
        simp only [eff, ho, hb, hargs]
        simp only [builtinAV, builtin0, h1, Option.map_some]
      · obtain ⟨e, _, h⟩ := option_bind_some h
        obtain ⟨ys, _, h⟩ := option_bind_some h
        split at h
        · split at h
          · split at h
            · cases h; exact ok_w (by simp only [cls0, ho, hb])
            · cases h
          · cases h
        · cases h
      · cases h
    · cases h
  | _ => simp only [eff, ho] at h; exact effM_ok cw h

end

/-! ### steps with their classes -/
def looks (ops : List Oper) (o : Oper) : List Tmp :=
  (o.op.operands.toList.filterMap fun | .tmp t => some t | _ => none) ++
  (match o.guard with
   | some (g, _) => ((ops[g]?).bind (·.dst)).toList
   | none => [])

inductive DStep (P : Program) (ops : List Oper) (o : Oper) : Cls → St → AV → List MO → Prop
  | bfz (c : Cls) (s : St) (y : IV) (hw : s.want ops o = some true) (h : bfz P o s.ev = some y) : DStep P ops o c s (.iv y) s.M
  | skip (c : Cls) (s : St) (hw : s.want ops o = some false) : DStep P ops o c s (.iv (.tup [])) s.M
  | eff (c : Cls) (c0 : Cls) (s : St) (v : AV) (M' : List MO) (hw : s.want ops o = some true) (h : eff P o s.ev s.M = some (c0, v, M')) (hc : leC c0 c = true) : DStep P ops o c s v M'
  | call (c : Cls) (s : St) (f : Nat) (cl : Call) (x : Operand) (ys : List IV) (r : IV) (hw : s.want ops o = some true) (ho : o.op = .call cl) (hc : cl.callee = .value x) (hx : s.ev x = .iv (.fnc f))
      (ha : ivs (cl.args.toList.map s.ev) = some ys) (h : PCalls P f ys r) : DStep P ops o c s (.iv r) s.M
  | callF (s : St) (f : Nat) (cl : Call) (x : Operand) (ys : List IV) (r : IV) (M' : List MO) (hw : s.want ops o = some true) (ho : o.op = .call cl) (hc : cl.callee = .value x) (hx : s.ev x = .iv (.fnc f))
      (ha : argsF s.M (cl.args.toList.map s.ev) = some (ys, M')) (h : PCalls P f ys r) : DStep P ops o .w s (.iv r) M'
  | callB (c : Cls) (hcp : c ≠ .p) (s : St) (f : Nat) (cl : Call) (x : Operand) (ys : List IV) (r : IV) (M' : List MO) (hw : s.want ops o = some true) (ho : o.op = .call cl) (hc : cl.callee = .value x) (hx : s.ev x = .iv (.fnc f))
      (ha : argsF s.M (cl.args.toList.map s.ev) = some (ys, M')) (h : PCalls P f ys r) (hr : r.flat = true) : DStep P ops o c s (.iv r) s.M
  | callM (s : St) (f : Nat) (caps : List AV) (cl : Call) (x : Operand) (l : List Nat) (xs : List AV) (Ml M' : List MO) (r : AV) (hw : s.want ops o = some true) (ho : o.op = .call cl) (hc : cl.callee = .value x)
      (hx : calleeOf (s.ev x) = some (f, caps)) (ha : cl.args.toList.map s.ev ++ caps = rens (sg l s.M.length) xs) (hp : Part s.M l Ml) (h : MCalls P f xs Ml r M') : DStep P ops o .w s (ren (sg l s.M.length) r) (backM s.M l M')
  | callR (c : Cls) (hcp : c ≠ .p) (s : St) (f : Nat) (caps : List AV) (cl : Call) (x : Operand) (l : List Nat) (xs : List AV) (Ml : List MO) (r : AV) (hw : s.want ops o = some true) (ho : o.op = .call cl) (hc : cl.callee = .value x)
      (hx : calleeOf (s.ev x) = some (f, caps)) (ha : cl.args.toList.map s.ev ++ caps = rens (sg l s.M.length) xs) (hp : Part s.M l Ml) (h : MCalls P f xs Ml r Ml) : DStep P ops o c s (ren (sg l s.M.length) r) s.M

theorem setAll_same : ∀ {l : List Nat} {M os : List MO}, l.length = os.length → (∀ (i j : Nat) (o : MO), l[i]? = some j → os[i]? = some o → M[j]? = some o) → setAll M l os = M
  | [], M, [], _, _ => by simp [setAll]
  | [], M, _ :: _, h, _ => by simp at h
  | j :: l, M, [], h, _ => by simp at h
  | j :: l, M, o :: os, h, hg => by
    have h0 := hg 0 j o rfl rfl
    have e : M.set j o = M := by
      apply List.ext_getElem?
      intro i
      rw [List.getElem?_set]
      by_cases hi : j = i
      · subst hi; rw [if_pos rfl, if_pos (lt_of_get h0), h0]
      · rw [if_neg hi]
    rw [setAll, e]
    exact setAll_same (by simpa using h) (fun i j' o' h1 h2 => hg (i + 1) j' o' (by simpa using h1) (by simpa using h2))
theorem backM_same {M Ml : List MO} {l : List Nat} (h : Part M l Ml) : backM M l Ml = M := by
  unfold backM
  refine setAll_same (by rw [List.length_map, h.len]) (fun i j o h1 h2 => ?_)
  rw [List.getElem?_map] at h2
  cases h3 : Ml[i]? with
  | none => rw [h3] at h2; cases h2
  | some o' => rw [h3] at h2; cases h2; exact h.get i j o' h1 h3

section
variable {P : Program} {ops : List Oper} {o : Oper} {s s2 : St} {c : Cls} {v : AV} {M' : List MO}

theorem DStep.op (h : DStep P ops o c s v M') : ∃ c', OpStep P ops o c' s ({ s with M := M' }.put o.dst v) := by
  cases h with
  | bfz _ _ y hw h => exact ⟨_, .bfz s y hw h⟩
  | skip _ _ hw => exact ⟨_, .skip s hw⟩
  | eff _ c0 _ _ _ hw h hc => exact ⟨_, .eff s c0 v M' hw h⟩
  | call _ _ f cl x ys r hw ho hc hx ha h => exact ⟨_, .call s f cl x ys r hw ho hc hx ha h⟩
  | callF _ f cl x ys r _ hw ho hc hx ha h => exact ⟨_, .callF s f cl x ys r M' hw ho hc hx ha h⟩
  | callB _ hcp _ f cl x ys r M1 hw ho hc hx ha h hr => exact ⟨_, .callB s f cl x ys r M1 hw ho hc hx ha h hr⟩
  | callM _ f caps cl x l xs Ml M1 r hw ho hc hx ha hp h => exact ⟨_, .callM s s (Wk.refl s) f caps cl x l xs Ml M1 r hw ho hc hx ha hp h⟩
  | callR _ hcp _ f caps cl x l xs Ml r hw ho hc hx ha hp h =>
    have := OpStep.callM (ops := ops) (o := o) s s (Wk.refl s) f caps cl x l xs Ml Ml r hw ho hc hx ha hp h
    rw [backM_same hp] at this
    exact ⟨_, this⟩

theorem DStep.keep (h : DStep P ops o c s v M') (hc : c ≠ .w) : M' = s.M := by
  cases h with
  | bfz => rfl
  | skip => rfl
  | eff _ c0 _ _ _ hw h hc' =>
    rcases (eff_ok (fun _ => .p) (fun _ => rfl) h).2.1 with h1 | h1
    · subst h1
      cases c <;> simp [leC, rnk] at hc' hc
    · exact h1
  | call => rfl
  | callF => exact absurd rfl hc
  | callB => rfl
  | callM => exact absurd rfl hc
  | callR => rfl

theorem ev_of (h : ∀ t ∈ looks ops o, s2.t t = s.t t) : ∀ x ∈ o.op.operands, s2.ev x = s.ev x := by
  intro x hx
  cases x with
  | tmp t =>
    exact h t (by
      unfold looks
      rw [List.mem_append]; left
      rw [List.mem_filterMap]
      exact ⟨.tmp t, by simpa using hx, rfl⟩)
  | const v => rfl
  | func f => rfl
  | global g => rfl
theorem want_of (h : ∀ t ∈ looks ops o, s2.t t = s.t t) : s2.want ops o = s.want ops o := by
  unfold St.want
  cases hg : o.guard with
  | none => rfl
  | some q =>
    obtain ⟨j, w⟩ := q
    simp only
    cases hd : (ops[j]?).bind (·.dst) with
    | none => rfl
    | some d =>
      simp only
      rw [h d (by unfold looks; rw [List.mem_append, hg]; right; simp [hd])]

theorem call_ops {cl : Call} (ho : o.op = .call cl) {x : Operand} (hc : cl.callee = .value x) (he : ∀ y ∈ o.op.operands, s2.ev y = s.ev y) : s2.ev x = s.ev x ∧ cl.args.toList.map s2.ev = cl.args.toList.map s.ev := by
  rw [ho] at he
  refine ⟨he x (by simp [Op.operands, Call.operands, hc]), List.map_congr_left (fun y hy => he y (by simp [Op.operands, Call.operands]; exact .inr (by simpa using hy)))⟩

theorem bfz_congr {ev ev' : Operand → AV} (he : ∀ x ∈ o.op.operands, ev x = ev' x) : bfz P o ev = bfz P o ev' := by
  unfold bfz
  cases ho : o.op with
  | buildSlice t len ps =>
    rw [ho] at he
    simp only
    rw [parts_congr (ps := ps.toList) (fun x hx => he x (by
      simp only [Op.operands]
      simpa using hx))]
  | _ => rfl
theorem DStep.cong (h : DStep P ops o c s v M') (hl : ∀ t ∈ looks ops o, s2.t t = s.t t) (hM : s2.M = s.M) : DStep P ops o c s2 v M' := by
  have he := ev_of hl
  have hwt := want_of hl
  cases h with
  | bfz _ _ y hw h => rw [← hM]; exact .bfz c s2 y (hwt.trans hw) (by rw [bfz_congr he]; exact h)
  | skip _ _ hw => rw [← hM]; exact .skip c s2 (hwt.trans hw)
  | eff _ c0 _ _ _ hw h hc => exact .eff c c0 s2 v M' (hwt.trans hw) (by rw [hM, eff_congr he]; exact h) hc
  | call _ _ f cl x ys r hw ho hc hx ha h =>
    obtain ⟨h1, h2⟩ := call_ops ho hc he
    rw [← hM]
    exact .call c s2 f cl x ys r (hwt.trans hw) ho hc (h1.trans hx) (by rw [h2]; exact ha) h
  | callF _ f cl x ys r _ hw ho hc hx ha h =>
    obtain ⟨h1, h2⟩ := call_ops ho hc he
    exact .callF s2 f cl x ys r M' (hwt.trans hw) ho hc (h1.trans hx) (by rw [h2, hM]; exact ha) h
  | callB _ hcp _ f cl x ys r M1 hw ho hc hx ha h hr =>
    obtain ⟨h1, h2⟩ := call_ops ho hc he
    rw [← hM]
    exact .callB c hcp s2 f cl x ys r M1 (hwt.trans hw) ho hc (h1.trans hx) (by rw [h2, hM]; exact ha) h hr
  | callM _ f caps cl x l xs Ml M1 r hw ho hc hx ha hp h =>
    obtain ⟨h1, h2⟩ := call_ops ho hc he
    rw [← hM]
    exact .callM s2 f caps cl x l xs Ml M1 r (hwt.trans hw) ho hc (by rw [h1]; exact hx) (by rw [h2, hM]; exact ha) (by rw [hM]; exact hp) h
  | callR _ hcp _ f caps cl x l xs Ml r hw ho hc hx ha hp h =>
    obtain ⟨h1, h2⟩ := call_ops ho hc he
    rw [← hM]
    exact .callR c hcp s2 f caps cl x l xs Ml r (hwt.trans hw) ho hc (by rw [h1]; exact hx) (by rw [h2, hM]; exact ha) (by rw [hM]; exact hp) h

theorem DStep.congP (h : DStep P ops o .p s v M') (hl : ∀ t ∈ looks ops o, s2.t t = s.t t) : DStep P ops o .p s2 v s2.M := by
  have he := ev_of hl
  have hwt := want_of hl
  cases h with
  | bfz _ _ y hw h => exact .bfz .p s2 y (hwt.trans hw) (by rw [bfz_congr he]; exact h)
  | skip _ _ hw => exact .skip .p s2 (hwt.trans hw)
  | eff _ c0 _ _ _ hw h hc =>
    have hc0 : c0 = .p := by cases c0 <;> simp [leC, rnk] at hc; rfl
    subst hc0
    have := (eff_ok (fun _ => .p) (fun _ => rfl) h).2.2 rfl s2.M
    exact .eff .p .p s2 v s2.M (hwt.trans hw) (by rw [eff_congr he]; exact this) rfl
  | call _ _ f cl x ys r hw ho hc hx ha h =>
    obtain ⟨h1, h2⟩ := call_ops ho hc he
    exact .call .p s2 f cl x ys r (hwt.trans hw) ho hc (h1.trans hx) (by rw [h2]; exact ha) h
  | callB _ hcp => exact absurd rfl hcp
  | callR _ hcp => exact absurd rfl hcp

def apartL (ops : List Oper) (x y : Oper) : Bool :=
  (match x.dst with
   | some d => !(looks ops y).contains d && y.dst != some d
   | none => true) &&
  (match y.dst with
   | some d => !(looks ops x).contains d
   | none => true)
theorem apartL_spec {x y : Oper} (h : apartL ops x y = true) :
    (∀ d, x.dst = some d → d ∉ looks ops y) ∧ (∀ d, x.dst = some d → y.dst ≠ some d) ∧ (∀ d, y.dst = some d → d ∉ looks ops x) := by
  refine ⟨fun d hd => ?_, fun d hd => ?_, fun d hd => ?_⟩ <;> simp [apartL, hd] at h
  · exact h.1.1
  · exact h.1.2
  · exact h.2
def clsC : Cls → Cls → Bool
  | .p, _ => true
  | _, .p => true
  | .r, .r => true
  | _, _ => false
def reads (o : Oper) : Bool := match o.op with
  | .load _ _ => true
  | .slice _ _ _ _ _ => true
  | .indexAddr _ _ _ => true
  | .nilCheck _ => true
  | .fieldAddr _ _ _ => true
  | .lookup _ _ _ _ => true
  | .call c => match c.callee with
    | .builtin .len => true
    | _ => false
  | _ => false
def appends (o : Oper) : Bool := match o.op with
  | .alloc _ => true
  | .box _ _ => true
  | .makeSlice _ _ _ => true
  | _ => false
theorem get_app {M : List MO} {k : Nat} {y : MO} (x : MO) (h : M[k]? = some y) : (M ++ [x])[k]? = some y := by rw [List.getElem?_append_left (lt_of_get h), h]
theorem rowAt_app {M : List MO} {k n : Nat} {r} (x : MO) (h : rowAt M k n = some r) : rowAt (M ++ [x]) k n = some r := by
  unfold rowAt at *
  cases hk : M[k]? with
  | none => rw [hk] at h; cases h
  | some y => rw [get_app x hk]; rw [hk] at h; exact h
theorem sliceAV_app {t : TypeId} {M : List MO} {a : AV} {lo hi mx : Option AV} {v : AV} (x : MO) (h : sliceAV P t M a lo hi mx = some v) : sliceAV P t (M ++ [x]) a lo hi mx = some v := by
  unfold sliceAV at *
  split at h
  · exact h
  · exact h
  · obtain ⟨e, h1, h⟩ := option_bind_some h
    obtain ⟨q, h2, h⟩ := option_bind_some h
    simp only [h1, rowAt_app x h2, Option.bind_some]
    exact h
  · exact h
  · cases h
theorem lenAV_app {M : List MO} {a : AV} {v : Nat} (x : MO) (h : lenAV M a = some v) : lenAV (M ++ [x]) a = some v := by
  unfold lenAV at *
  split at h
  · exact h
  · exact h
  · obtain ⟨q, h2, h⟩ := option_bind_some h
    simp only [rowAt_app x h2, Option.bind_some]
    exact h
  · exact h
  · cases h
theorem mapOf_app {M : List MO} {a : AV} {q : List IV × List AV} (x : MO) (h : mapOf M a = some q) : mapOf (M ++ [x]) a = some q := by
  unfold mapOf at *
  split at h
  · exact h
  · split at h
    · rename_i hM
      simp only [get_app x hM]; exact h
    · cases h
  · cases h
theorem len_app {ts : List TypeId} {args : List AV} {M M' : List MO} {c : Cls} {v : AV} (x : MO) (h : builtinAV P .len ts args M = some (c, v, M')) : builtinAV P .len ts args (M ++ [x]) = some (c, v, M ++ [x]) := by
  cases ts with
  | nil => simp only [builtinAV, builtin0] at h; cases h
  | cons t ts =>
    cases args with
    | nil => simp only [builtinAV, builtin0] at h; cases h
    | cons a args =>
      cases args with
      | cons b args => simp only [builtinAV, builtin0] at h; cases h
      | nil =>
        simp only [builtinAV, builtin0] at h ⊢
        split at h
        · split at h
          · cases h
          · obtain ⟨n, h2, h⟩ := option_map_some h
            cases h
            simp only [lenAV_app x h2, Option.map_some]
        · split at h
          · cases h; rfl
          · cases h
        · obtain ⟨q, h2, h⟩ := option_map_some h
          cases h
          simp only [mapOf_app x h2, Option.map_some]
        · cases h
theorem eff_app {ev : Operand → AV} {M : List MO} (x : MO) (hr : reads o = true) (h : eff P o ev M = some (c, v, M')) : eff P o ev (M ++ [x]) = some (c, v, M ++ [x]) := by
  have hk := eff_ok (fun _ => .p) (fun _ => rfl) h
  cases ho : o.op with
  | load t a =>
    simp only [eff, ho] at h ⊢
    obtain ⟨ag, h1, h⟩ := option_bind_some h
    rw [h1, Option.bind_some]
    split at h
    · rename_i ha
      split at h
      · rename_i hm
        obtain ⟨y, h2, h⟩ := option_map_some h
        cases h
        simp only [ha, get_app x hm, h2, Option.map_some]
      · cases h
    · rename_i ha
      obtain ⟨q, h2, h⟩ := option_bind_some h
      obtain ⟨y, h3, h⟩ := option_bind_some h
      obtain ⟨z, h4, h⟩ := option_map_some h
      cases h
      simp only [ha, rowAt_app x h2, h3, h4, Option.map_some, Option.bind_some]
    · rename_i ha
      obtain ⟨y, h3, h⟩ := option_bind_some h
      obtain ⟨z, h4, h⟩ := option_map_some h
      cases h
      simp only [ha, h3, h4, Option.map_some, Option.bind_some]
    · cases h
  | slice t a l hi m =>
    simp only [eff, ho] at h ⊢
    split at h
    · cases h
    · rename_i hc
      obtain ⟨q, h2, h⟩ := option_map_some h
      cases h
      rw [if_neg hc, sliceAV_app x h2]; rfl
  | indexAddr t a i =>
    simp only [eff, ho] at h ⊢
    obtain ⟨j, h1, h⟩ := option_bind_some h
    rw [h1, Option.bind_some]
    split at h
    · rename_i ha
      obtain ⟨e, h2, h⟩ := option_bind_some h
      split at h
      · rename_i hc; cases h; simp only [ha, h2, Option.bind_some, if_pos hc]
      · cases h
    · rename_i ha
      obtain ⟨e, h2, h⟩ := option_bind_some h
      obtain ⟨q, h3, h⟩ := option_bind_some h
      split at h
      · rename_i hc; cases h; simp only [ha, h2, rowAt_app x h3, Option.bind_some, if_pos hc]
      · cases h
    · rename_i ha
      obtain ⟨e, h2, h⟩ := option_bind_some h
      split at h
      · rename_i hc; cases h; simp only [ha, h2, Option.bind_some, if_pos hc]
      · cases h
    · cases h
  | lookup t y i ok =>
    simp only [eff, effM, ho] at h ⊢
    obtain ⟨q, h1, h⟩ := option_bind_some h
    obtain ⟨key, h2, h⟩ := option_bind_some h
    obtain ⟨m, h3, h⟩ := option_bind_some h
    obtain ⟨r, h4, h⟩ := option_bind_some h
    obtain ⟨z, h5, h⟩ := option_map_some h
    cases h
    simp only [h1, h2, mapOf_app x h3, h4, h5, Option.map_some, Option.bind_some]
  | nilCheck a =>
    simp only [eff, ho] at h ⊢
    split at h
    · rename_i ha; cases h; simp only [ha]
    · rename_i ha; cases h; simp only [ha]
    · rename_i ha
      obtain ⟨q, h3, h⟩ := option_map_some h
      cases h; simp only [ha, rowAt_app x h3, Option.map_some]
    · rename_i ha; cases h; simp only [ha]
    · rename_i ha; cases h; simp only [ha]
    · cases h
  | fieldAddr t a f =>
    simp only [eff, ho] at h ⊢
    obtain ⟨⟨off, ft⟩, h1, h⟩ := option_bind_some h
    simp only at h
    rw [h1, Option.bind_some]
    split at h
    · rename_i ha; cases h; simp only [ha]
    · rename_i ha; cases h; simp only [ha]
    · rename_i ha
      obtain ⟨q, h3, h⟩ := option_map_some h
      cases h; simp only [ha, rowAt_app x h3, Option.map_some]
    · cases h
  | call cl =>
    simp only [eff, ho] at h ⊢
    simp only [reads, ho] at hr
    split at hr
    · rename_i hb
      simp only [hb] at h ⊢
      exact len_app x h
    · cases hr
  | _ => simp only [reads, ho] at hr; cases hr
theorem eff_appends {ev : Operand → AV} {M : List MO} (hr : appends o = true) (h : eff P o ev M = some (c, v, M')) : ∃ x, M' = M ++ [x] := by
  cases ho : o.op with
  | alloc T =>
    simp only [eff, ho] at h
    obtain ⟨z, _, h⟩ := option_bind_some h
    obtain ⟨cs, _, h⟩ := option_map_some h
    cases h; exact ⟨_, rfl⟩
  | box T a =>
    simp only [eff, ho] at h
    obtain ⟨cs, _, h⟩ := option_map_some h
    cases h; exact ⟨_, rfl⟩
  | makeSlice t l d =>
    simp only [eff, ho] at h
    split at h
    · obtain ⟨e, _, h⟩ := option_bind_some h
      obtain ⟨z, _, h⟩ := option_bind_some h
      split at h
      · cases h; exact ⟨_, rfl⟩
      · cases h
    · cases h
  | _ => simp only [appends, ho] at hr; cases hr
theorem reads_call {cl : Call} {y : Operand} (hr : reads o = true) (ho : o.op = .call cl) (hc : cl.callee = .value y) : False := by
  simp only [reads, ho, hc] at hr; cases hr
theorem appends_call {cl : Call} (hr : appends o = true) (ho : o.op = .call cl) : False := by
  simp only [appends, ho] at hr; cases hr
theorem DStep.app (h : DStep P ops o c s v M') (hr : reads o = true) (x : MO) (hl : ∀ t ∈ looks ops o, s2.t t = s.t t) (hM : s2.M = s.M ++ [x]) : DStep P ops o c s2 v s2.M := by
  have he := ev_of hl
  have hwt := want_of hl
  cases h with
  | bfz _ _ y hw h => exact .bfz c s2 y (hwt.trans hw) (by rw [bfz_congr he]; exact h)
  | skip _ _ hw => exact .skip c s2 (hwt.trans hw)
  | eff _ c0 _ _ _ hw h hc => exact .eff c c0 s2 v s2.M (hwt.trans hw) (by rw [hM, eff_congr he]; exact eff_app x hr h) hc
  | call _ _ f cl x ys r hw ho hc hx ha h => exact (reads_call hr ho hc).elim
  | callF _ f cl x ys r _ hw ho hc hx ha h => exact (reads_call hr ho hc).elim
  | callB _ hcp _ f cl x ys r M1 hw ho hc hx ha h hr' => exact (reads_call hr ho hc).elim
  | callM _ f caps cl x l xs Ml M1 r hw ho hc hx ha hp h => exact (reads_call hr ho hc).elim
  | callR _ hcp _ f caps cl x l xs Ml r hw ho hc hx ha hp h => exact (reads_call hr ho hc).elim
theorem DStep.apps (h : DStep P ops o c s v M') (hr : appends o = true) : M' = s.M ∨ ∃ x, M' = s.M ++ [x] := by
  cases h with
  | bfz => exact .inl rfl
  | skip _ _ hw => exact .inl rfl
  | eff _ c0 _ _ _ hw h hc => exact .inr (eff_appends hr h)
  | call _ _ f cl x ys r hw ho hc hx ha h => exact (appends_call hr ho).elim
  | callF _ f cl x ys r _ hw ho hc hx ha h => exact (appends_call hr ho).elim
  | callB _ hcp _ f cl x ys r M1 hw ho hc hx ha h hr' => exact (appends_call hr ho).elim
  | callM _ f caps cl x l xs Ml M1 r hw ho hc hx ha hp h => exact (appends_call hr ho).elim
  | callR _ hcp _ f caps cl x l xs Ml r hw ho hc hx ha hp h => exact (appends_call hr ho).elim
theorem reads_w {cw : Oper → Cls} (hr : reads o = true) : cls0 cw o ≠ .w := by
  unfold reads at hr
  unfold cls0
  cases ho : o.op with
  | call cl =>
    simp only [ho] at hr ⊢
    split at hr
    · rename_i hb; simp only [hb]; simp
    · cases hr
  | _ => simp_all
def compat (cw : Oper → Cls) (ops : List Oper) (x y : Oper) : Bool := apartL ops x y && (clsC (cls0 cw x) (cls0 cw y) || (reads x && appends y))

theorem put_t (s : St) (M' : List MO) (d : Option Nat) (v : AV) (t : Nat) (h : ∀ x, d = some x → t ≠ x) : ({ s with M := M' }.put d v).t t = s.t t := by
  cases d with
  | none => rfl
  | some d => exact upd_ne _ _ (h d rfl)
theorem put_M (s : St) (M' : List MO) (d : Option Nat) (v : AV) : ({ s with M := M' }.put d v).M = M' := by cases d <;> rfl
theorem put_put (s : St) (M1 M2 M3 : List MO) (d e : Option Nat) (v u : AV) (h : ∀ x, d = some x → e ≠ some x) :
    ({ ({ s with M := M1 }.put d v) with M := M3 }.put e u) = ({ ({ s with M := M2 }.put e u) with M := M3 }.put d v) := by
  cases d with
  | none => cases e <;> rfl
  | some d =>
    cases e with
    | none => rfl
    | some e =>
      have hne : d ≠ e := fun hh => h d rfl (by rw [hh])
      show St.mk s.n (upd (upd s.t d v) e u) M3 s.b = St.mk s.n (upd (upd s.t e u) d v) M3 s.b
      congr 1
      funext i
      unfold upd
      by_cases h1 : i = e
      · subst h1; rw [if_pos rfl, if_neg (Ne.symm hne), if_pos rfl]
      · rw [if_neg h1]
        by_cases h2 : i = d
        · rw [if_pos h2, if_pos h2]
        · rw [if_neg h2, if_neg h2, if_neg h1]

theorem diamond {cw : Oper → Cls} {oi oj : Oper} {vi vj : AV} {M1 M2 : List MO} (hc : compat cw ops oi oj = true) (hi : DStep P ops oi (cls0 cw oi) s vi M1) (hj : DStep P ops oj (cls0 cw oj) ({ s with M := M1 }.put oi.dst vi) vj M2) :
    ∃ Mj, DStep P ops oj (cls0 cw oj) s vj Mj ∧ DStep P ops oi (cls0 cw oi) ({ s with M := Mj }.put oj.dst vj) vi M2 ∧
      ({ ({ s with M := M1 }.put oi.dst vi) with M := M2 }.put oj.dst vj) = ({ ({ s with M := Mj }.put oj.dst vj) with M := M2 }.put oi.dst vi) := by
  simp only [compat, Bool.and_eq_true] at hc
  obtain ⟨ha, hcc⟩ := hc
  obtain ⟨a1, a2, a3⟩ := apartL_spec ha
  have hlj : ∀ t ∈ looks ops oj, s.t t = ({ s with M := M1 }.put oi.dst vi).t t := fun t ht => (put_t s M1 oi.dst vi t (fun x hx e => by subst e; exact a1 t hx ht)).symm
  have hli : ∀ (Mj : List MO), ∀ t ∈ looks ops oi, ({ s with M := Mj }.put oj.dst vj).t t = s.t t := fun Mj t ht => put_t s Mj oj.dst vj t (fun x hx e => by subst e; exact a3 t hx ht)
  by_cases hra : (reads oi && appends oj) = true
  · rw [Bool.and_eq_true] at hra
    have e1 : M1 = s.M := hi.keep (reads_w hra.1)
    have hj' : DStep P ops oj (cls0 cw oj) s vj M2 := hj.cong hlj (by rw [put_M]; exact e1.symm)
    refine ⟨M2, hj', ?_, put_put s M1 M2 M2 oi.dst oj.dst vi vj a2⟩
    rcases hj'.apps hra.2 with e2 | ⟨x, e2⟩
    · have := hi.cong (hli M2) (by rw [put_M]; exact e2)
      rwa [e1, ← e2] at this
    · have := hi.app hra.1 x (hli M2) (by rw [put_M]; exact e2)
      rwa [put_M] at this
  rw [Bool.not_eq_true] at hra
  rw [hra, Bool.or_false] at hcc
  by_cases hip : cls0 cw oi = .p
  · rw [hip] at hi ⊢
    have e1 : M1 = s.M := hi.keep (by simp)
    have hj' : DStep P ops oj (cls0 cw oj) s vj M2 := hj.cong hlj (by rw [put_M]; exact e1.symm)
    refine ⟨M2, hj', ?_, put_put s M1 M2 M2 oi.dst oj.dst vi vj a2⟩
    have := hi.congP (hli M2)
    rwa [put_M] at this
  · by_cases hjp : cls0 cw oj = .p
    · rw [hjp] at hj ⊢
      have e2 : M2 = M1 := by have := hj.keep (by simp); rwa [put_M] at this
      have hj' := hj.congP (s2 := s) hlj
      refine ⟨s.M, hj', ?_, by rw [e2]; exact put_put s M1 s.M M1 oi.dst oj.dst vi vj a2⟩
      rw [e2]
      exact hi.cong (hli s.M) (by rw [put_M])
    · have hir : cls0 cw oi = .r := by cases h1 : cls0 cw oi <;> cases h2 : cls0 cw oj <;> simp_all [clsC]
      have hjr : cls0 cw oj = .r := by cases h1 : cls0 cw oi <;> cases h2 : cls0 cw oj <;> simp_all [clsC]
      have e1 : M1 = s.M := hi.keep (by rw [hir]; simp)
      have e2 : M2 = M1 := by have := hj.keep (by rw [hjr]; simp); rwa [put_M] at this
      refine ⟨s.M, ?_, ?_, by rw [e2]; exact put_put s M1 s.M M1 oi.dst oj.dst vi vj a2⟩
      · have := hj.cong hlj (by rw [put_M]; exact e1.symm)
        rw [e2, e1] at this; exact this
      · rw [e2]
        exact hi.cong (hli s.M) (by rw [put_M])

/-! ### any order -/
def aStep (P : Program) (cw : Oper → Cls) (ops : List Oper) (i : Nat) (k : St → Prop) (s : St) : Prop := match ops[i]? with
  | none => k s
  | some o => ∃ v M', DStep P ops o (cls0 cw o) s v M' ∧ k ({ s with M := M' }.put o.dst v)
def rdy (ops : List Oper) (listed : Array Bool) : List Nat := Region.ready .any ops.toArray listed
def aAny (P : Program) (cw : Oper → Cls) (ops : List Oper) (K : St → Prop) : Nat → Array Bool → St → Prop
  | 0, listed, s => rdy ops listed = [] ∧ K s
  | fuel + 1, listed, s => (rdy ops listed = [] → K s) ∧ ∀ i ∈ rdy ops listed, aStep P cw ops i (aAny P cw ops K fuel (listed.setIfInBounds i true)) s

theorem aAny_first {cw : Oper → Cls} {K : St → Prop} {i : Nat} {oi : Oper} {D : List Nat} (hi : ops[i]? = some oi)
    (hDr : ∀ j ∈ D, ∃ oj, ops[j]? = some oj ∧ ∃ e ∈ oj.after, Region.binds .any e = true ∧ (e.on = i ∨ e.on ∈ D)) :
    ∀ (fuel : Nat) (listed : Array Bool) (s : St) (v : AV) (M' : List MO),
      (∀ j oj, ops[j]? = some oj → j ≠ i → listed.getD j true = false → j ∉ D → compat cw ops oi oj = true) → (∀ j ∈ D, listed.getD j false = false) →
      i ∈ rdy ops listed → DStep P ops oi (cls0 cw oi) s v M' →
      aAny P cw ops K fuel (listed.setIfInBounds i true) ({ s with M := M' }.put oi.dst v) → aAny P cw ops K (fuel + 1) listed s := by
  have hstep : ∀ {k : St → Prop} {s : St} {v : AV} {M' : List MO}, DStep P ops oi (cls0 cw oi) s v M' → k ({ s with M := M' }.put oi.dst v) → aStep P cw ops i k s := by
    intro k s v M' h1 h2
    unfold aStep
    rw [hi]
    exact ⟨v, M', h1, h2⟩
  intro fuel
  induction fuel with
  | zero =>
    intro listed s v M' _ _ hr hy H
    refine ⟨fun h => (by rw [h] at hr; cases hr), fun j hj => ?_⟩
    by_cases hji : j = i
    · subst hji; exact hstep hy H
    · have := ready_mono hj hji
      have h0 : Region.ready .any ops.toArray (listed.setIfInBounds i true) = [] := H.1
      rw [h0] at this
      cases this
  | succ fuel ih =>
    intro listed s v M' hfree hDu hr hy H
    refine ⟨fun h => (by rw [h] at hr; cases hr), fun j hj => ?_⟩
    by_cases hji : j = i
    · subst hji; exact hstep hy H
    · have h1 := H.2 j (ready_mono hj hji)
      obtain ⟨hjun, oj, hoj, hall⟩ := mem_ready.1 hj
      have hun : listed.getD i false = false := by
        have h0 := (mem_ready.1 hr).1
        rcases Nat.lt_or_ge i listed.size with h' | h'
        · simp [h'] at h0 ⊢; exact h0
        · simp [Array.getElem?_eq_none h']
      have hjD : j ∉ D := by
        intro hjD
        obtain ⟨oj', hoj', e, he, hb, hc⟩ := hDr j hjD
        rw [List.getElem?_toArray] at hoj
        rw [hoj] at hoj'; cases hoj'
        have hl := hall e he hb
        rcases hc with hc | hc
        · rw [hc, hun] at hl; cases hl
        · rw [hDu _ hc] at hl; cases hl
      rw [List.getElem?_toArray] at hoj
      have hcc := hfree j oj hoj hji hjun hjD
      unfold aStep at h1 ⊢
      rw [hoj] at h1 ⊢
      obtain ⟨v2, M2, hj2, hk⟩ := h1
      obtain ⟨Mj, d1, d2, d3⟩ := diamond hcc hy hj2
      refine ⟨v2, Mj, d1, ih (listed.setIfInBounds j true) _ v M2 ?_ ?_ (ready_mono hr (Ne.symm hji)) d2 ?_⟩
      · intro k ok hk hki hun' hkD
        refine hfree k ok hk hki ?_ hkD
        by_cases hjk : j = k
        · subst hjk; exact hjun
        · rw [getD_set_ne true hjk] at hun'; exact hun'
      · intro k hkD
        rw [getD_set_ne (i := j) (j := k) false (fun e => hjD (by rw [e]; exact hkD))]
        exact hDu k hkD
      · rw [Array.setIfInBounds_comm _ _ hji, ← d3]
        exact hk

def reach (ops : List Oper) (i : Nat) : List Nat := (List.range ops.length).foldl (fun acc j => match ops[j]? with
  | some oj => if oj.after.any (fun e => Region.binds .any e && (e.on == i || acc.contains e.on)) then j :: acc else acc
  | none => acc) []
def freeA (cw : Oper → Cls) (ops : List Oper) (listed : Array Bool) (i : Nat) (oi : Oper) (D : List Nat) : Bool :=
  (D.all fun j => !listed.getD j false && (match ops[j]? with
    | some oj => oj.after.any (fun e => Region.binds .any e && (e.on == i || D.contains e.on))
    | none => false)) &&
  ((List.range ops.length).all fun j => j == i || listed.getD j true || D.contains j || (match ops[j]? with
    | some oj => compat cw ops oi oj
    | none => true))
def lexA (cw : Oper → Cls) (ops : List Oper) : List Oper → Nat → Array Bool → Bool
  | [], _, listed => (rdy ops listed).isEmpty
  | o :: rest, k, listed => (rdy ops listed).contains k && freeA cw ops listed k o (reach ops k) && lexA cw ops rest (k + 1) (listed.setIfInBounds k true)

def dops (P : Program) (cw : Oper → Cls) (ops : List Oper) : List Oper → (St → Prop) → St → Prop
  | [], K, s => K s
  | o :: rest, K, s => ∃ v M', DStep P ops o (cls0 cw o) s v M' ∧ dops P cw ops rest K ({ s with M := M' }.put o.dst v)

theorem aAny_lex {cw : Oper → Cls} {K : St → Prop} : ∀ (l : List Oper) (k : Nat) (listed : Array Bool) (s : St), (∀ j, l[j]? = ops[k + j]?) → lexA cw ops l k listed = true → dops P cw ops l K s → aAny P cw ops K l.length listed s
  | [], k, listed, s, hl, hB, h => by
    simp only [lexA, List.isEmpty_iff] at hB
    exact ⟨hB, h⟩
  | o :: rest, k, listed, s, hl, hB, h => by
    simp only [lexA, Bool.and_eq_true] at hB
    obtain ⟨⟨hr, hf⟩, hB⟩ := hB
    obtain ⟨v, M', h1, h2⟩ := h
    have hk : ops[k]? = some o := by have := hl 0; simpa using this.symm
    simp only [freeA, Bool.and_eq_true, List.all_eq_true] at hf
    obtain ⟨hD, hfr⟩ := hf
    refine aAny_first (D := reach ops k) hk (fun j hj => ?_) rest.length listed s v M' (fun j oj hj hne hun hnD => ?_) (fun j hj => ?_) (by simpa using hr) h1 (aAny_lex rest (k + 1) _ _ (fun j => by have := hl (j + 1); rw [List.getElem?_cons_succ] at this; rw [this]; congr 1; omega) hB h2)
    · have := (hD j hj).2
      cases hoj : ops[j]? with
      | none => rw [hoj] at this; cases this
      | some oj =>
        rw [hoj] at this
        obtain ⟨e, he, hb⟩ := Array.any_eq_true'.1 this
        simp only [Bool.and_eq_true, Bool.or_eq_true, beq_iff_eq, List.contains_iff_mem] at hb
        exact ⟨oj, rfl, e, he, hb.1, hb.2⟩
    · have := hfr j (List.mem_range.2 (lt_of_get hj))
      rw [hj] at this
      simp only [Bool.or_eq_true, beq_iff_eq, hne, false_or, hun, Bool.false_eq_true, List.contains_iff_mem, hnD] at this
      exact this
    · have := (hD j hj).1
      simpa using this

theorem Sim.drawn {X O : Nat → Prop} {w0 : World} {F : AV → Value → Prop} {ρ : Nat → Option Nat} {a : Act} {w : World} (h : Sim X O w0 F s ρ a w) (n : Nat) : Sim X O w0 F s ρ a { w with drawn := n } := by
  have hev : Evo s.M s.M ρ ρ (excl X s.M ρ) (excl X s.M ρ) w { w with drawn := n } := Evo.world (Nat.le_refl _) (fun _ _ => rfl)
  exact ⟨h.size, h.defers.keep (fun _ _ _ => rfl), fun i => (h.tm i).mono hev, h.mem.world ⟨h.mem.keep.os, h.mem.keep.tape, h.mem.keep.output, h.mem.keep.size, h.mem.keep.block⟩ (Nat.le_refl _) (fun _ _ => rfl), fun x u hx => ⟨(h.fr x u hx).1, (h.fr x u hx).2.mono hev⟩⟩

theorem aAny_sound {rd : Option Nat} {cw : Oper → Cls} {K : St → Prop} {X O : Nat → Prop} {w0 : World} {F : AV → Value → Prop} {Q : Exit → Act → World → Prop} (hQ : ∀ s' ρ' a' w', Sim X O w0 F s' ρ' a' w' → K s' → Q .normal a' w') :
    ∀ (fuel : Nat) (listed : Array Bool) (s : St) (ρ : Nat → Option Nat) (a : Act) (w : World), (∀ o ∈ ops, ∀ x, o.dst = some x → x < s.n) → aAny P cw ops K fuel listed s → Sim X O w0 F s ρ a w → wpAnyIn (fr rd) 0 P .any ops.toArray Q fuel listed a w
  | 0, listed, s, ρ, a, w, hd, h, hs => ⟨h.1, hQ _ _ _ _ hs h.2⟩
  | fuel + 1, listed, s, ρ, a, w, hd, h, hs => by
    refine ⟨fun hr => hQ _ _ _ _ hs (h.1 hr), fun i hi => ?_⟩
    have h1 := h.2 i hi
    unfold aStep at h1
    unfold wpOpIn
    cases ho : ops[i]? with
    | none =>
      rw [ho] at h1
      rw [List.getElem?_toArray, ho]
      exact aAny_sound hQ fuel _ s ρ a w hd h1 hs
    | some o =>
      rw [ho] at h1
      rw [List.getElem?_toArray, ho]
      obtain ⟨v, M', h2, h3⟩ := h1
      obtain ⟨c', hop⟩ := h2.op
      have := opStep_sound (rd := rd) (ops := ops.toArray) (Q := Q) (K := wpAnyIn (fr rd) 0 P .any ops.toArray Q fuel (listed.setIfInBounds i true)) hop (hd o (List.mem_of_getElem? ho)) hs (fun a' w' ρ' hs' =>
        aAny_sound hQ fuel _ _ ρ' a' w' (fun o' ho' x hx => by rw [hop.n]; exact hd o' ho' x hx) h3 hs')
      simp only
      split
      · rename_i hw; rw [if_pos hw] at this; exact this
      · rename_i hw; rw [if_neg hw] at this; exact ⟨fun _ _ => fr_fn _ _, this⟩

theorem DStep.n (h : DStep P ops o c s v M') : ({ s with M := M' }.put o.dst v).n = s.n := put_n s M' _ _

theorem aw_regionD {id : Nat} {Q : Exit → St → Prop} (cw : Oper → Cls) (hm : P.follows .mixedOrders = true) (hB : lexA cw ops ops 0 (Array.replicate ops.length false) = true) (h : dops P cw ops ops (Q .normal) s) : aw P (.region id ops.toArray true) Q s := by
  intro rd hb X O w0 F ρ a w hs
  have hd : ∀ o ∈ ops, ∀ x, o.dst = some x → x < s.n := by
    intro o ho x hx
    simp only [bnd, List.all_eq_true] at hb
    have := hb o ho
    simp only [dstOk, hx, decide_eq_true_eq] at this
    exact this
  have key : ∀ (l : List Oper) (s1 : St), dops P cw ops l (Q .normal) s1 → dops P cw ops l (fun s' => s'.n = s1.n ∧ Q .normal s') s1 := by
    intro l
    induction l with
    | nil => intro s1 h; exact ⟨rfl, h⟩
    | cons o l ih =>
      rintro s1 ⟨v, M', h1, h2⟩
      refine ⟨v, M', h1, ?_⟩
      have := ih _ h2
      rwa [put_n] at this
  refine wpIn_region_any hm ?_
  rw [List.size_toArray]
  exact aAny_sound (K := fun s' => s'.n = s.n ∧ Q .normal s') (fun s' ρ' a' w' h1 h2 => ⟨s', ρ', h2.1, h1, h2.2⟩) ops.length _ s ρ a _ hd
    (aAny_lex ops 0 _ s (fun j => by simp) hB (key ops s h)) (hs.drawn _)

def leftD (P : Program) (cw : Oper → Cls) (ops : List Oper) (Q : St → Prop) (s : St) (l : List Oper) : Prop := match l with
  | [] => Q s
  | o :: rest => fz cw = false → s.want ops o = some true → dops P cw ops (o :: rest) Q s
def leftF (P : Program) (cw : Oper → Cls) (ops : List Oper) (Q : St → Prop) (s : St) (l : List Oper) : Prop := match l with
  | [] => Q s
  | o :: rest => s.want ops o = some true → dops P cw ops (o :: rest) Q s
theorem dops_run0 {cw : Oper → Cls} {Q : St → Prop} (hz : fz cw = false) : ∀ {l : List Oper} {s : St}, run P ops l (fun s l => leftD P cw ops Q s l) s → dops P cw ops l Q s
  | [], s, h => h
  | o :: rest, s, h => by
    simp only [run, runR] at h
    unfold wantK at h
    split at h
    · exact h.elim
    · rename_i b hb
      cases b with
      | false =>
        have h2 : runR P ops rest (fun s l => leftD P cw ops Q s l) (s.put o.dst (.iv (.tup []))) := by simpa using h
        exact ⟨_, _, .skip _ s hb, dops_run0 hz h2⟩
      | true =>
        simp only [forall_const, if_true, reduceCtorEq, false_implies, and_true] at h
        split at h
        · exact h hz hb
        · unfold effK at h
          split at h
          · exact h.elim
          · rename_i c v M' he
            exact ⟨v, M', .eff _ c s v M' hb he (eff_ok cw (fun _ => hz) he).1, dops_run0 hz h⟩
theorem dops_run {cw : Oper → Cls} {Q : St → Prop} {l : List Oper} {s : St} (h : run P ops l (fun s l => leftD P cw ops Q s l) s) (hz : fz cw = false := by decide) : dops P cw ops l Q s := dops_run0 hz h
variable {cw : Oper → Cls} {Q : St → Prop} {rest : List Oper}
theorem leftD_callf {f : Nat} {args : List Operand} {ts : Array TypeId} {ys : List IV} {r : IV} (ho : o.op = .call ⟨.value (.func f), args.toArray, ts⟩) (ha : ivs (args.map s.ev) = some ys) (h : PCalls P f ys r)
    (hk : run P ops rest (fun s l => leftD P cw ops Q s l) (s.put o.dst (.iv r))) : leftD P cw ops Q s (o :: rest) :=
  fun hz hw => ⟨_, _, .call _ s f _ _ ys r hw ho rfl rfl ha h, dops_run0 hz hk⟩
theorem leftD_callMs {f : Nat} {xs : List AV} {Ml M' : List MO} {r : AV} (l : List Nat) (hcp : cls0 cw o = .w) (h : MCalls P f xs Ml r M') (hc : callMK o l f xs Ml s)
    (hk : run P ops rest (fun s l => leftD P cw ops Q s l) ({ s with M := backM s.M l M' }.put o.dst (ren (sg l s.M.length) r))) : leftD P cw ops Q s (o :: rest) := by
  unfold callMK at hc
  split at hc
  · rename_i c ho
    split at hc
    · rename_i x hx
      split at hc
      · rename_i g caps hg
        obtain ⟨rfl, h1, h2, h3⟩ := hc
        exact fun hz hw => ⟨_, _, hcp ▸ .callM s _ caps c x l xs Ml M' r hw ho hx hg h1 (Part.ofR h2 h3) h, dops_run0 hz hk⟩
      · exact hc.elim
    · exact hc.elim
  · exact hc.elim
theorem leftD_callRs {f : Nat} {xs : List AV} {Ml : List MO} {r : AV} (l : List Nat) (hcp : cls0 cw o ≠ .p) (h : MCalls P f xs Ml r Ml) (hc : callMK o l f xs Ml s)
    (hk : run P ops rest (fun s l => leftD P cw ops Q s l) (s.put o.dst (ren (sg l s.M.length) r))) : leftD P cw ops Q s (o :: rest) := by
  unfold callMK at hc
  split at hc
  · rename_i c ho
    split at hc
    · rename_i x hx
      split at hc
      · rename_i g caps hg
        obtain ⟨rfl, h1, h2, h3⟩ := hc
        exact fun hz hw => ⟨_, _, .callR _ hcp s _ caps c x l xs Ml r hw ho hx hg h1 (Part.ofR h2 h3) h, dops_run0 hz hk⟩
      · exact hc.elim
    · exact hc.elim
  · exact hc.elim
@[go_sem ↓] theorem leftD_nil (Q : St → Prop) : leftD P cw ops Q s [] = Q s := Eq.trans rfl rfl

@[go_sem ↓] theorem leftF_nil (Q : St → Prop) : leftF P cw ops Q s [] = Q s := Eq.trans rfl rfl
/-! ### regions whose list literals are never written -/
def effF (P : Program) (o : Oper) (ev : Operand → AV) (M : List MO) : Option (Cls × AV × List MO) := if isBS o = true then (bfz P o ev).map fun y => (Cls.p, AV.iv y, M) else eff P o ev M
def runRF (P : Program) (ops : List Oper) : List Oper → (St → List Oper → Prop) → St → Prop
  | [], K, s => K s []
  | o :: rest, K, s => wantK (s.want ops o) fun b => if b = true then (if isFCall o = true then K s (o :: rest) else effK (effF P o s.ev s.M) fun v M' => runRF P ops rest K ({ s with M := M' }.put o.dst v)) else runRF P ops rest K (s.put o.dst (.iv (.tup [])))
def runF (P : Program) (ops : List Oper) (l : List Oper) (K : St → List Oper → Prop) (s : St) : Prop := runRF P ops l K s
def runFT (P : Program) (ops : List Oper) (l : List Oper) (K : St → List Oper → Prop) (_ : Tok (ops, l, K)) (s : St) : Prop := runF P ops l K s
@[go_sem ↓] theorem runF_T (l : List Oper) (K : St → List Oper → Prop) : runF P ops l K s = runFT P ops l K ⟨()⟩ s := Eq.trans rfl rfl
@[go_sem] theorem runF_nil (K : St → List Oper → Prop) (t : Tok (ops, ([] : List Oper), K)) : runFT P ops [] K t s = K s [] := Eq.trans rfl rfl
@[go_sem] theorem runF_cons (K : St → List Oper → Prop) (t : Tok (ops, o :: rest, K)) : runFT P ops (o :: rest) K t s = wantK (s.want ops o) fun b => if b = true then (if isFCall o = true then K s (o :: rest) else effK (effF P o s.ev s.M) fun v M' => runF P ops rest K ({ s with M := M' }.put o.dst v)) else runF P ops rest K (s.put o.dst (.iv (.tup []))) := Eq.trans rfl rfl
theorem eff_okF {cw : Oper → Cls} {ev : Operand → AV} {M : List MO} {c : Cls} {v : AV} {M' : List MO} (hb : isBS o = false) (h : eff P o ev M = some (c, v, M')) : leC c (cls0 cw o) = true :=
  (eff_ok cw (fun h => by rw [hb] at h; cases h) h).1
theorem dops_runF {cw : Oper → Cls} {Q : St → Prop} : ∀ {l : List Oper} {s : St}, runF P ops l (fun s l => leftF P cw ops Q s l) s → dops P cw ops l Q s
  | [], s, h => h
  | o :: rest, s, h => by
    simp only [runF, runRF] at h
    unfold wantK at h
    split at h
    · exact h.elim
    · rename_i b hb
      cases b with
      | false =>
        have h2 : runRF P ops rest (fun s l => leftF P cw ops Q s l) (s.put o.dst (.iv (.tup []))) := by simpa using h
        exact ⟨_, _, .skip _ s hb, dops_runF h2⟩
      | true =>
        simp only [forall_const, if_true, reduceCtorEq, false_implies, and_true] at h
        split at h
        · exact h hb
        · unfold effK at h
          split at h
          · exact h.elim
          · rename_i c v M' he
            unfold effF at he
            split at he
            · obtain ⟨y, hy, he⟩ := option_map_some he
              cases he
              exact ⟨_, _, .bfz _ s y hb hy, dops_runF h⟩
            · rename_i hbs
              exact ⟨v, M', .eff _ c s v M' hb he (eff_okF (by simpa using hbs) he), dops_runF h⟩
theorem leftF_callf {f : Nat} {args : List Operand} {ts : Array TypeId} {ys : List IV} {r : IV} (ho : o.op = .call ⟨.value (.func f), args.toArray, ts⟩) (ha : ivs (args.map s.ev) = some ys) (h : PCalls P f ys r)
    (hk : runF P ops rest (fun s l => leftF P cw ops Q s l) (s.put o.dst (.iv r))) : leftF P cw ops Q s (o :: rest) :=
  fun hw => ⟨_, _, .call _ s f _ _ ys r hw ho rfl rfl ha h, dops_runF hk⟩

end

end Go.Proofs.YtpjncojljamacaaGreat.AM
set_option linter.unusedVariables false
set_option linter.unusedSimpArgs false
namespace Go.Proofs.YtpjncojljamacaaGreat.AM
open Go Go.RowKit
section
variable {P : Program} {t : TypeId} {M : List MO} {lo hi : Option AV}
@[go_sem] theorem slice_sl (sz : Nat) (xs : List IV) : sliceAV P t M (.iv (.sl sz xs)) lo hi none = (tElem P t).bind fun e => (bound lo 0).bind fun l => (bound hi xs.length).bind fun h =>
  if (sz = e.sz ∨ xs = []) ∧ 0 ≤ l ∧ l ≤ h ∧ h ≤ xs.length then some (.iv (.sl sz ((xs.drop l.toNat).take (h.toNat - l.toNat)))) else none := rfl
@[go_sem] theorem slice3_sl (sz : Nat) (xs : List IV) (k : IntKind) (m : Int) : sliceAV P t M (.iv (.sl sz xs)) lo hi (some (.iv (.int k m))) = (tElem P t).bind fun e => (bound lo 0).bind fun l => (bound hi xs.length).bind fun h =>
  if (sz = e.sz ∨ xs = []) ∧ 0 ≤ l ∧ l ≤ h ∧ h ≤ m ∧ m ≤ xs.length then some (if m = l then .nilsl else .iv (.sl sz ((xs.drop l.toNat).take (h.toNat - l.toNat)))) else none := rfl
@[go_sem] theorem slice_str (s : ByteArray) : sliceAV P t M (.iv (.str s)) lo hi none = if tKind P t matches some .str then (bound lo 0).bind fun l => (bound hi s.size).bind fun h => if 0 ≤ l ∧ l ≤ h ∧ h ≤ s.size then some (.iv (.str (s.extract l.toNat h.toNat))) else none else none := rfl
@[go_sem] theorem slice_msl (k off len n : Nat) : sliceAV P t M (.msl k off len n) lo hi none = (tElem P t).bind fun e => (rowAt M k n).bind fun (_, _, sz, _) => (bound lo 0).bind fun l => (bound hi len).bind fun h =>
  if sz = e.sz ∧ 0 ≤ l ∧ l ≤ h ∧ h ≤ len then some (.msl k (off + l.toNat) (h.toNat - l.toNat) n) else none := rfl
@[go_sem] theorem slice_nilsl : sliceAV P t M .nilsl lo hi none = (tElem P t).bind fun e => (bound lo 0).bind fun l => (bound hi 0).bind fun h => if l = 0 ∧ h = 0 then some .nilsl else none := rfl
attribute [go_sem] Int.toNat_zero Nat.sub_zero Int.le_refl
@[go_sem] theorem takeGet {α : Type} (xs : List α) {m k : Nat} (h : k < m) : (xs.take m)[k]? = xs[k]? := by rw [List.getElem?_take, if_pos h]
end
theorem aw_cut {P : Program} {c y : Code} {Q : Exit → St → Prop} {s : St} (S1 : St) (h : aw P c (thenQ (fun s' => Wk s' S1) Q) s) (k : aw P y Q S1) : aw P (.seq c y) Q s := by
  refine aw_seq (aw_mono h (fun e s' hq => ?_))
  cases e with
  | normal => exact aw_wk hq k
  | exit i => exact hq
  | goto i => exact hq
  | ret => exact hq
  | panic c => exact hq
  | outgrown => exact hq
attribute [go_sem ↓] reduceIte
attribute [go_sem] reduceCtorEq Nat.reduceEqDiff Nat.reduceAdd Nat.reduceSub Nat.reduceMul Nat.reduceLT Nat.reduceLeDiff Nat.reduceBEq Nat.reduceBNe Int.reduceEq Int.reduceLT Int.reduceLE Int.reduceAdd Int.reduceSub Int.reduceMul Int.reduceToNat Int.reduceNeg Int.reduceBEq Int.reduceBNe
attribute [go_sem] wrapS wrapU wrapB tdivS tmodS mapGetI mapGetB replGet Int.natCast_add natCast_zero natCast_one Int.toNat_natCast Int.cast_ofNat_Int getMap beq_int bne_int Int.sub_self Int.add_zero Int.zero_add List.append_assoc
end Go.Proofs.YtpjncojljamacaaGreat.AM
set_option linter.unusedVariables false
set_option linter.unusedSimpArgs false
namespace Go.Proofs.YtpjncojljamacaaGreat.AM
open Go Go.RowKit
@[go_sem] theorem effK_map_bind_ite {α β : Type} (c : Prop) [Decidable c] (x : Option α) (g : α → Option β) (f : β → Cls × AV × List MO) (F : AV → List MO → Prop) (t : Tok F) : effT (((if c then x else none).bind g).map f) F t = (c ∧ effK ((x.bind g).map f) F) := by
  by_cases h : c
  · rw [if_pos h]; simp only [h, true_and]; rfl
  · rw [if_neg h]; simp only [h, false_and]; rfl
/-! Long lists stand in two parts. -/
@[go_sem] theorem append_cons_ {α : Type} (a : α) (l m : List α) : List.append (a :: l) m = a :: List.append l m := rfl
@[go_sem] theorem append_nil_ {α : Type} (m : List α) : List.append [] m = m := rfl
@[go_sem] theorem sg_five (a b c d e f : Nat) (l : List Nat) (m : Nat) : sg (a :: b :: c :: d :: e :: f :: l) m 5 = f := rfl
@[go_sem] theorem sg_six (a b c d e f g : Nat) (l : List Nat) (m : Nat) : sg (a :: b :: c :: d :: e :: f :: g :: l) m 6 = g := rfl
end Go.Proofs.YtpjncojljamacaaGreat.AM
set_option linter.unusedVariables false
set_option linter.unusedSimpArgs false
namespace Go.Proofs.YtpjncojljamacaaGreat.AM
open Go Go.RowKit
def awN (P : Program) (c : Code) (Q : Exit → St → Prop) : Nat → St → Prop
  | 0, _ => False
  | n + 1, s => aw P c (thenQ (awN P c Q n) Q) s
theorem awN_step {P : Program} {c : Code} {Q : Exit → St → Prop} {n : Nat} {s : St} (h : aw P c (thenQ (awN P c Q n) Q) s) : awN P c Q (n + 1) s := h
theorem awN_rounds {rd : Option Nat} {P : Program} {c : Code} {Q : Exit → St → Prop} {X O : Nat → Prop} {w0 : World} {F : AV → Value → Prop} {n0 : Nat} (hb : bnd rd.isNone n0 c = true) :
    ∀ (n : Nat) (s : St) (ρ : Nat → Option Nat) (a : Act) (w : World), s.n = n0 → awN P c Q n s → Sim X O w0 F s ρ a w → Code.roundsIn (fr rd) 0 P c (conc X O w0 F n0 Q) n a w
  | 0, s, ρ, a, w, hn, h, hs => h.elim
  | n + 1, s, ρ, a, w, hn, h, hs => by
    have h' : aw P c (thenQ (awN P c Q n) Q) s := h
    have := h' rd (by rw [hn]; exact hb) X O w0 F ρ a w hs
    rw [roundsIn_succ]
    refine wpIn_mono this (fun e a' w' ⟨s', ρ', hn', h1, h2⟩ => ?_)
    cases e with
    | normal => exact awN_rounds hb n s' ρ' a' w' (hn'.trans hn) h2 h1
    | exit i => exact ⟨s', ρ', hn'.trans hn, h1, h2⟩
    | goto i => exact ⟨s', ρ', hn'.trans hn, h1, h2⟩
    | ret => exact ⟨s', ρ', hn'.trans hn, h1, h2⟩
    | panic i => exact ⟨s', ρ', hn'.trans hn, h1, h2⟩
    | outgrown => exact ⟨s', ρ', hn'.trans hn, h1, h2⟩
theorem aw_rounds (n : Nat) {P : Program} {c : Code} {Q : Exit → St → Prop} {s : St} (h : awN P c Q n s) : aw P (.loop c) Q s := by
  intro rd hb X O w0 F ρ a w hs
  have hb' : bnd rd.isNone s.n c = true := hb
  exact wpIn_loop_rounds n (awN_rounds hb' n s ρ a w rfl h hs)
end Go.Proofs.YtpjncojljamacaaGreat.AM
set_option linter.unusedVariables false
set_option linter.unusedSimpArgs false
namespace Go.Proofs.YtpjncojljamacaaGreat.AM
open Go Go.RowKit

def natOf : List Bool → Nat
  | [] => 0
  | b :: l => b.toNat + 2 * natOf l
theorem boolNat_lt (b : Bool) : b.toNat < 2 := by cases b <;> decide
theorem natOf_lt : ∀ l, natOf l < 2 ^ l.length
  | [] => by simp [natOf]
  | b :: l => by
    have h1 := natOf_lt l
    have h2 := boolNat_lt b
    simp only [natOf, List.length_cons, Nat.pow_succ]
    omega
theorem natOf_append (a b : List Bool) : natOf (a ++ b) = natOf a + 2 ^ a.length * natOf b := by
  induction a with
  | nil => simp [natOf]
  | cons x a ih =>
    simp only [List.cons_append, natOf, ih, List.length_cons, Nat.pow_succ]
    rw [Nat.mul_comm (2 ^ a.length) 2, Nat.mul_assoc]
    omega
theorem natOf_take_drop (l : List Bool) {i : Nat} (h : i ≤ l.length) : natOf l = natOf (l.take i) + 2 ^ i * natOf (l.drop i) := by
  have := natOf_append (l.take i) (l.drop i)
  rw [List.take_append_drop, List.length_take, Nat.min_eq_left h] at this
  exact this
theorem natOf_mod (l : List Bool) (i : Nat) : natOf l % 2 ^ i = natOf (l.take i) := by
  by_cases h : i ≤ l.length
  · have h1 := natOf_lt (l.take i)
    rw [List.length_take, Nat.min_eq_left h] at h1
    rw [natOf_take_drop l h, Nat.add_mul_mod_self_left, Nat.mod_eq_of_lt h1]
  · rw [List.take_of_length_le (by omega)]
    exact Nat.mod_eq_of_lt (Nat.lt_of_lt_of_le (natOf_lt l) (Nat.pow_le_pow_right (by decide) (by omega)))
theorem natOf_div (l : List Bool) (i : Nat) : natOf l / 2 ^ i = natOf (l.drop i) := by
  by_cases h : i ≤ l.length
  · have h1 := natOf_lt (l.take i)
    rw [List.length_take, Nat.min_eq_left h] at h1
    rw [natOf_take_drop l h, Nat.add_mul_div_left _ _ (Nat.two_pow_pos i), Nat.div_eq_of_lt h1, Nat.zero_add]
  · rw [List.drop_of_length_le (by omega)]
    exact Nat.div_eq_of_lt (Nat.lt_of_lt_of_le (natOf_lt l) (Nat.pow_le_pow_right (by decide) (by omega)))
theorem natOf_two (l : List Bool) : natOf l % 2 = (l.getD 0 false).toNat := by
  cases l with
  | nil => rfl
  | cons b l =>
    have h2 := boolNat_lt b
    simp only [natOf, List.getD_cons_zero]; omega
theorem natOf_bit (l : List Bool) (i : Nat) : natOf l / 2 ^ i % 2 = (l.getD i false).toNat := by
  rw [natOf_div, natOf_two]
  simp [List.getD_eq_getElem?_getD, List.getElem?_drop]
/-! ### words -/
def wordAt (l : List Bool) (k : Nat) : Nat := natOf ((l.drop (64 * k)).take 64)
theorem wordAt_lt (l : List Bool) (k : Nat) : wordAt l k < 18446744073709551616 := by
  refine Nat.lt_of_lt_of_le (natOf_lt _) ?_
  rw [show (18446744073709551616 : Nat) = 2 ^ 64 from by decide]
  exact Nat.pow_le_pow_right (by decide) (by simp; omega)
def nw (l : List Bool) : Nat := (l.length + 63) / 64
def ws (l : List Bool) : List IV := (List.range (nw l)).map fun k => .int .u64 (wordAt l k)
theorem ws_len (l : List Bool) : (ws l).length = (l.length + 63) / 64 := by simp [ws, nw]
theorem ws_get (l : List Bool) {k : Nat} (h : k < (l.length + 63) / 64) : (ws l)[k]? = some (.int .u64 (wordAt l k)) := by
  rw [ws, List.getElem?_map, List.getElem?_range (by simpa [nw] using h)]; rfl
theorem ws_none (l : List Bool) {k : Nat} (h : (l.length + 63) / 64 ≤ k) : (ws l)[k]? = none := List.getElem?_eq_none (by rw [ws_len]; exact h)
theorem wordAt_bit (l : List Bool) {k r : Nat} (h : r < 64) : wordAt l k / 2 ^ r % 2 = (l.getD (64 * k + r) false).toNat := by
  rw [wordAt, natOf_bit]
  simp only [List.getD_eq_getElem?_getD, List.getElem?_take, if_pos h, List.getElem?_drop]
theorem wordAt_snoc (l : List Bool) (b : Bool) {k : Nat} (h : 64 * k ≤ l.length) : wordAt (l ++ [b]) k = if l.length < 64 * (k + 1) then wordAt l k + 2 ^ (l.length - 64 * k) * b.toNat else wordAt l k := by
  unfold wordAt
  rw [List.drop_append_of_le_length h]
  split
  · rename_i h1
    rw [List.take_of_length_le (l := l.drop (64 * k) ++ [b]) (by simp; omega), List.take_of_length_le (l := l.drop (64 * k)) (by simp; omega), natOf_append]
    simp [natOf]
  · rename_i h1
    rw [List.take_append_of_le_length (by simp; omega)]
theorem ws_snoc_old (l : List Bool) (b : Bool) (h : ¬ l.length % 64 = 0) : ws (l ++ [b]) = (ws l).set (l.length / 64) (.int .u64 ((wordAt l (l.length / 64) + 2 ^ (l.length % 64) * b.toNat : Nat))) := by
  apply List.ext_getElem?
  intro k
  by_cases hk : k < (l.length + 63) / 64
  · rw [ws_get _ (by simp; omega), List.getElem?_set]
    rw [wordAt_snoc _ _ (by omega)]
    by_cases e : l.length / 64 = k
    · rw [if_pos e, if_pos (show l.length < 64 * (k + 1) by omega), if_pos (by rw [ws_len]; omega), ← e, show l.length - 64 * (l.length / 64) = l.length % 64 from by omega]
    · rw [if_neg e, if_neg (by omega), ws_get _ hk]
  · rw [ws_none _ (by simp; omega), List.getElem?_eq_none (by simp [ws_len]; omega)]
theorem ws_snoc_new (l : List Bool) (b : Bool) (h : l.length % 64 = 0) : ws (l ++ [b]) = ws l ++ [.int .u64 (b.toNat : Int)] := by
  apply List.ext_getElem?
  intro k
  by_cases hk : k < (l.length + 63) / 64
  · rw [ws_get _ (by simp; omega), List.getElem?_append_left (by rw [ws_len]; omega), ws_get _ hk, wordAt_snoc _ _ (by omega), if_neg (by omega)]
  · by_cases e : k = l.length / 64
    · rw [ws_get _ (by simp; omega), List.getElem?_append_right (by rw [ws_len]; omega), ws_len, show k - (l.length + 63) / 64 = 0 from by omega, wordAt_snoc _ _ (by omega), if_pos (by omega)]
      have h0 : wordAt l k = 0 := by
        unfold wordAt
        rw [List.drop_of_length_le (by omega)]; rfl
      have h1 : l.length - 64 * k = 0 := by omega
      rw [h0, h1]; simp
    · rw [ws_none _ (by simp; omega), List.getElem?_eq_none (by simp [ws_len]; omega)]
theorem ws_nil : ws [] = [] := rfl

/-! ### what the machine's operations are on such numbers -/
theorem wrap64N (n : Nat) (h : n < 18446744073709551616) : IntKind.u64.wrap (n : Int) = (n : Int) := wrapU ⟨by omega, by omega⟩
theorem bitand64 (a b : Nat) (ha : a < 18446744073709551616) (hb : b < 18446744073709551616) : bitI .and .u64 (a : Int) (b : Int) = ((a &&& b : Nat) : Int) := by
  have e : (BitVec.ofInt IntKind.u64.bits (a : Int) &&& BitVec.ofInt IntKind.u64.bits (b : Int)).toNat = a &&& b := by
    rw [BitVec.toNat_and, BitVec.ofInt_natCast, BitVec.ofInt_natCast, BitVec.toNat_ofNat, BitVec.toNat_ofNat]
    rw [Nat.mod_eq_of_lt (show a < 2 ^ IntKind.u64.bits from ha), Nat.mod_eq_of_lt (show b < 2 ^ IntKind.u64.bits from hb)]
  show IntKind.u64.wrap _ = _
  rw [e]
  exact wrap64N _ (Nat.lt_of_le_of_lt Nat.and_le_left ha)
theorem bitor64 (a b : Nat) (ha : a < 18446744073709551616) (hb : b < 18446744073709551616) : bitI .or .u64 (a : Int) (b : Int) = ((a ||| b : Nat) : Int) := by
  have e : (BitVec.ofInt IntKind.u64.bits (a : Int) ||| BitVec.ofInt IntKind.u64.bits (b : Int)).toNat = a ||| b := by
    rw [BitVec.toNat_or, BitVec.ofInt_natCast, BitVec.ofInt_natCast, BitVec.toNat_ofNat, BitVec.toNat_ofNat]
    rw [Nat.mod_eq_of_lt (show a < 2 ^ IntKind.u64.bits from ha), Nat.mod_eq_of_lt (show b < 2 ^ IntKind.u64.bits from hb)]
  show IntKind.u64.wrap _ = _
  rw [e]
  exact wrap64N _ (Nat.or_lt_two_pow (n := 64) ha hb)
theorem shrN (a : Nat) {r : Int} (h0 : 0 ≤ r) (h1 : r < 64) : (a : Int).fdiv (2 ^ (min r.toNat 64)) = ((a / 2 ^ r.toNat : Nat) : Int) := by
  rw [Nat.min_eq_left (by omega), Int.fdiv_eq_ediv_of_nonneg _ (by have := Int.natCast_nonneg (2 ^ r.toNat); simpa using this)]
  simp
theorem shlN {r : Int} (a : Nat) (h0 : 0 ≤ r) (h1 : r < 64) (h : a * 2 ^ r.toNat < 18446744073709551616) : IntKind.u64.wrap ((a : Int) * 2 ^ (min r.toNat 64)) = ((a * 2 ^ r.toNat : Nat) : Int) := by
  rw [Nat.min_eq_left (by omega)]
  have : ((a : Int) * 2 ^ r.toNat) = ((a * 2 ^ r.toNat : Nat) : Int) := by simp
  rw [this, wrap64N _ h]
theorem and_one (a : Nat) : a &&& 1 = a % 2 := Nat.and_one_is_mod a
theorem and_mask (a r : Nat) : a &&& (2 ^ r - 1) = a % 2 ^ r := Nat.and_two_pow_sub_one_eq_mod a r
theorem or_top {a r : Nat} (b : Nat) (h : a < 2 ^ r) : a ||| 2 ^ r * b = a + 2 ^ r * b := by
  rw [Nat.or_comm, ← Nat.two_pow_add_eq_or_of_lt h b, Nat.add_comm]
theorem two_pow_lt64 {r : Nat} (h : r < 64) : 2 ^ r < 18446744073709551616 := Nat.pow_lt_pow_right (a := 2) (by decide) h
theorem wordAt_part (l : List Bool) (k : Nat) (h : 64 * k ≤ l.length) (h2 : l.length < 64 * (k + 1)) : wordAt l k < 2 ^ (l.length - 64 * k) := by
  have := natOf_lt ((l.drop (64 * k)).take 64)
  rwa [List.length_take, List.length_drop, Nat.min_eq_right (by omega)] at this

theorem shl1 {r : Int} (h0 : 0 ≤ r) (h1 : r < 64) : IntKind.u64.wrap (1 * 2 ^ (min r.toNat 64)) = ((2 ^ r.toNat : Nat) : Int) := by
  have := shlN (r := r) 1 h0 h1 (by rw [Nat.one_mul]; exact two_pow_lt64 (by omega))
  rw [Nat.one_mul] at this
  exact this
theorem or_word (l : List Bool) (h : ¬ l.length % 64 = 0) : bitI .or .u64 (wordAt l ((l.length : Int) / 64).toNat) (IntKind.u64.wrap (1 * 2 ^ (min ((l.length : Int) % 64).toNat 64))) = ((wordAt l (l.length / 64) + 2 ^ (l.length % 64) * true.toNat : Nat) : Int) := by
  rw [shl1 (by omega) (by omega), show ((l.length : Int) / 64).toNat = l.length / 64 from by omega, show ((l.length : Int) % 64).toNat = l.length % 64 from by omega]
  rw [bitor64 _ _ (wordAt_lt _ _) (two_pow_lt64 (by omega))]
  have h1 := wordAt_part l (l.length / 64) (by omega) (by omega)
  rw [show l.length - 64 * (l.length / 64) = l.length % 64 from by omega] at h1
  have := or_top 1 h1
  simp only [Nat.mul_one] at this
  rw [this]; simp
theorem ws_add_old0 (l : List Bool) (h : ¬ l.length % 64 = 0) : ws (l ++ [false]) = ws l := by
  rw [ws_snoc_old l false h]
  apply List.ext_getElem?
  intro k
  rw [List.getElem?_set]
  by_cases e : l.length / 64 = k
  · rw [if_pos e, if_pos (by rw [ws_len]; omega), ← e, ws_get l (by omega)]; simp
  · rw [if_neg e]
theorem ws_add_old1 (l : List Bool) (h : ¬ l.length % 64 = 0) : (ws l).set ((l.length : Int) / 64).toNat (.int .u64 (bitI .or .u64 (wordAt l ((l.length : Int) / 64).toNat) (IntKind.u64.wrap (1 * 2 ^ (min ((l.length : Int) % 64).toNat 64))))) = ws (l ++ [true]) := by
  rw [or_word l h, ws_snoc_old l true h, show ((l.length : Int) / 64).toNat = l.length / 64 from by omega]
theorem ws_add_new1 (l : List Bool) (h : l.length % 64 = 0) : (ws l ++ [IV.int .u64 0]).set ((l.length : Int) / 64).toNat (.int .u64 (bitI .or .u64 0 (IntKind.u64.wrap (1 * 2 ^ (min ((l.length : Int) % 64).toNat 64))))) = ws (l ++ [true]) := by
  rw [ws_snoc_new l true h, show ((l.length : Int) / 64).toNat = l.length / 64 from by omega, show ((l.length : Int) % 64).toNat = 0 from by omega]
  rw [List.set_append_right _ _ (by rw [ws_len]; omega), ws_len, show l.length / 64 - (l.length + 63) / 64 = 0 from by omega]
  rfl

end Go.Proofs.YtpjncojljamacaaGreat.AM
set_option linter.unusedVariables false
set_option linter.unusedSimpArgs false
namespace Go.Proofs.YtpjncojljamacaaGreat.AM
open Go Go.RowKit

def pc : Nat → Nat → Nat
  | 0, _ => 0
  | f + 1, x => x % 2 + pc f (x / 2)
theorem pc_natOf : ∀ (f : Nat) (l : List Bool), l.length ≤ f → pc f (natOf l) = l.count true
  | 0, l, h => by
    have : l = [] := List.eq_nil_of_length_eq_zero (by omega)
    subst this; rfl
  | f + 1, [], h => by
    have := pc_natOf f [] (by simp)
    simpa [pc, natOf] using this
  | f + 1, b :: l, h => by
    have h1 := pc_natOf f l (by simpa using h)
    have h2 := boolNat_lt b
    have e1 : natOf (b :: l) % 2 = b.toNat := by simp only [natOf]; omega
    have e2 : natOf (b :: l) / 2 = natOf l := by simp only [natOf]; omega
    rw [pc, e1, e2, h1]
    cases b
    · rw [List.count_cons_of_ne (by decide)]; simp
    · rw [List.count_cons_self]; simp; omega

def bmap (f : Nat → Nat) : Nat → Nat → Nat
  | 0, _ => 0
  | k + 1, x => f (x % 256) + 256 * bmap f k (x / 256)
def mk8 (c : Nat) : Nat → Nat
  | 0 => 0
  | k + 1 => c + 256 * mk8 c k
theorem and_byte {p p' : Nat} (q q' : Nat) (h : p < 256) (h' : p' < 256) : (p + 256 * q) &&& (p' + 256 * q') = (p &&& p') + 256 * (q &&& q') := by
  have e1 : ((p + 256 * q) &&& (p' + 256 * q')) % 256 = p &&& p' := by
    have := Nat.and_mod_two_pow (a := p + 256 * q) (b := p' + 256 * q') (n := 8)
    rw [show (2 : Nat) ^ 8 = 256 from rfl] at this
    rw [this, show (p + 256 * q) % 256 = p from by omega, show (p' + 256 * q') % 256 = p' from by omega]
  have e2 : ((p + 256 * q) &&& (p' + 256 * q')) / 256 = q &&& q' := by
    have := Nat.and_div_two_pow (a := p + 256 * q) (b := p' + 256 * q') (n := 8)
    rw [show (2 : Nat) ^ 8 = 256 from rfl] at this
    rw [this, show (p + 256 * q) / 256 = q from by omega, show (p' + 256 * q') / 256 = q' from by omega]
  omega
def t1 (d : Nat) : Nat := (d / 2 &&& 85) + (d &&& 85)
def t2 (d : Nat) : Nat := (d / 4 &&& 51) + (d &&& 51)
def t3 (d : Nat) : Nat := (d / 16 + d) &&& 15
theorem t1_byte : ∀ (d : Fin 256) (b : Fin 2), ((d.val / 2 + 128 * b.val) &&& 85) = (d.val / 2 &&& 85) := by decide +kernel
theorem t2_byte : ∀ (d : Fin 256) (b : Fin 4), ((d.val / 4 + 64 * b.val) &&& 51) = (d.val / 4 &&& 51) := by decide +kernel
theorem t1_lt : ∀ d : Fin 256, t1 d.val < 256 := by decide +kernel
theorem t21_lt : ∀ d : Fin 256, t2 (t1 d.val) ≤ 68 ∧ t2 (t1 d.val) % 16 ≤ 4 := by decide +kernel
theorem t321 : ∀ d : Fin 256, t3 (t2 (t1 d.val)) = pc 8 d.val ∧ pc 8 d.val ≤ 8 := by decide +kernel
theorem step1 : ∀ (k x : Nat), (x / 2 &&& mk8 85 k) + (x &&& mk8 85 k) = bmap t1 k x
  | 0, x => by simp [mk8, bmap]
  | k + 1, x => by
    have ih := step1 k (x / 256)
    have e1 : x / 2 = ((x % 256) / 2 + 128 * ((x / 256) % 2)) + 256 * ((x / 256) / 2) := by omega
    have e2 : x = x % 256 + 256 * (x / 256) := by omega
    have a1 := and_byte ((x / 256) / 2) (mk8 85 k) (show (x % 256) / 2 + 128 * ((x / 256) % 2) < 256 by omega) (show 85 < 256 by decide)
    have a2 := and_byte (x / 256) (mk8 85 k) (show x % 256 < 256 by omega) (show 85 < 256 by decide)
    rw [← e1] at a1
    rw [← e2] at a2
    have a3 := t1_byte ⟨x % 256, by omega⟩ ⟨(x / 256) % 2, by omega⟩
    simp only at a3
    rw [a3] at a1
    simp only [mk8, bmap, t1]
    rw [a1, a2, ← ih]
    omega
theorem step2 : ∀ (k x : Nat), (x / 4 &&& mk8 51 k) + (x &&& mk8 51 k) = bmap t2 k x
  | 0, x => by simp [mk8, bmap]
  | k + 1, x => by
    have ih := step2 k (x / 256)
    have e1 : x / 4 = ((x % 256) / 4 + 64 * ((x / 256) % 4)) + 256 * ((x / 256) / 4) := by omega
    have e2 : x = x % 256 + 256 * (x / 256) := by omega
    have a1 := and_byte ((x / 256) / 4) (mk8 51 k) (show (x % 256) / 4 + 64 * ((x / 256) % 4) < 256 by omega) (show 51 < 256 by decide)
    have a2 := and_byte (x / 256) (mk8 51 k) (show x % 256 < 256 by omega) (show 51 < 256 by decide)
    rw [← e1] at a1
    rw [← e2] at a2
    have a3 := t2_byte ⟨x % 256, by omega⟩ ⟨(x / 256) % 4, by omega⟩
    simp only at a3
    rw [a3] at a1
    simp only [mk8, bmap, t2]
    rw [a1, a2, ← ih]
    omega
theorem bmap_comp (f g : Nat → Nat) (hf : ∀ d, d < 256 → f d < 256) : ∀ (k x : Nat), bmap g k (bmap f k x) = bmap (fun d => g (f d)) k x
  | 0, x => rfl
  | k + 1, x => by
    have h := hf (x % 256) (by omega)
    simp only [bmap]
    rw [show (f (x % 256) + 256 * bmap f k (x / 256)) % 256 = f (x % 256) from by omega, show (f (x % 256) + 256 * bmap f k (x / 256)) / 256 = bmap f k (x / 256) from by omega, bmap_comp f g hf k]
theorem bmap_congr {f g : Nat → Nat} (h : ∀ d, d < 256 → f d = g d) : ∀ (k x : Nat), bmap f k x = bmap g k x
  | 0, x => rfl
  | k + 1, x => by simp only [bmap]; rw [h _ (by omega), bmap_congr h k]
theorem step3 (f : Nat → Nat) (hf : ∀ d, d < 256 → f d ≤ 68 ∧ f d % 16 ≤ 4) : ∀ (k x : Nat), ((bmap f k x / 16 + bmap f k x) &&& mk8 15 k) = bmap (fun d => t3 (f d)) k x
  | 0, x => by simp [mk8, bmap]
  | k + 1, x => by
    have ih := step3 f hf k (x / 256)
    have h := hf (x % 256) (by omega)
    have hz : bmap f k (x / 256) % 16 ≤ 4 := by
      cases k with
      | zero => simp [bmap]
      | succ k =>
        have := hf (x / 256 % 256) (by omega)
        simp only [bmap]; omega
    simp only [mk8, bmap]
    generalize hz' : bmap f k (x / 256) = z at *
    generalize hd : f (x % 256) = d at *
    have e1 : (d + 256 * z) / 16 + (d + 256 * z) = (d / 16 + 16 * (z % 16) + d) + 256 * (z / 16 + z) := by omega
    rw [e1, and_byte _ _ (by omega) (by decide), ih]
    have e2 : (d / 16 + 16 * (z % 16) + d) &&& 15 = t3 d := by
      unfold t3
      have a := Nat.and_two_pow_sub_one_eq_mod (d / 16 + 16 * (z % 16) + d) 4
      have b := Nat.and_two_pow_sub_one_eq_mod (d / 16 + d) 4
      simp only [show (2 : Nat) ^ 4 = 16 from rfl, show (16 : Nat) - 1 = 15 from rfl] at a b
      omega
    rw [e2]
theorem pc_byte (f x : Nat) : pc (f + 8) x = pc 8 (x % 256) + pc f (x / 256) := by
  have e : x / 2 / 2 / 2 / 2 / 2 / 2 / 2 / 2 = x / 256 := by omega
  show x % 2 + (x / 2 % 2 + (x / 2 / 2 % 2 + (x / 2 / 2 / 2 % 2 + (x / 2 / 2 / 2 / 2 % 2 + (x / 2 / 2 / 2 / 2 / 2 % 2 + (x / 2 / 2 / 2 / 2 / 2 / 2 % 2 + (x / 2 / 2 / 2 / 2 / 2 / 2 / 2 % 2 + pc f (x / 2 / 2 / 2 / 2 / 2 / 2 / 2 / 2)))))))) = _
  rw [e]
  simp only [pc]
  omega
theorem div8' {y a z : Nat} (e : y = a + 256 * z) (h : a < 256) : y / 256 = z := by omega
theorem div16' {y a b z : Nat} (e : y = a + 256 * (b + 256 * z)) (h : a < 256) (h1 : b < 256) : y / 65536 = z := by omega
theorem div32' {y a b c d z : Nat} (e : y = a + 256 * (b + 256 * (c + 256 * (d + 256 * z)))) (h : a < 256) (h1 : b < 256) (h2 : c < 256) (h3 : d < 256) : y / 4294967296 = z := by omega
theorem mod128' {y a z : Nat} (e : y = a + 256 * z) (h : a < 128) : y % 128 = a := by omega
theorem bnd_f' {y a b c d e f g h : Nat} (hy : y = a + 256 * (b + 256 * (c + 256 * (d + 256 * (e + 256 * (f + 256 * (g + 256 * h))))))) (ha : a ≤ 64) (hb : b ≤ 64) (hc : c ≤ 64) (hd : d ≤ 64) (he : e ≤ 64) (hf : f ≤ 64) (hg : g ≤ 64) (hh : h ≤ 64) : y < 18446744073709551616 := by omega
theorem sum_f1 (p0 p1 p2 p3 p4 p5 p6 p7 : Nat) : p0 + 256 * (p1 + 256 * (p2 + 256 * (p3 + 256 * (p4 + 256 * (p5 + 256 * (p6 + 256 * (p7 + 256 * 0))))))) + (p1 + 256 * (p2 + 256 * (p3 + 256 * (p4 + 256 * (p5 + 256 * (p6 + 256 * (p7 + 256 * 0))))))) =
      (p0 + p1) + 256 * ((p1 + p2) + 256 * ((p2 + p3) + 256 * ((p3 + p4) + 256 * ((p4 + p5) + 256 * ((p5 + p6) + 256 * ((p6 + p7) + 256 * p7)))))) := by omega
theorem sum_f2 (p0 p1 p2 p3 p4 p5 p6 p7 : Nat) : (p0 + p1) + 256 * ((p1 + p2) + 256 * ((p2 + p3) + 256 * ((p3 + p4) + 256 * ((p4 + p5) + 256 * ((p5 + p6) + 256 * ((p6 + p7) + 256 * p7)))))) + ((p2 + p3) + 256 * ((p3 + p4) + 256 * ((p4 + p5) + 256 * ((p5 + p6) + 256 * ((p6 + p7) + 256 * p7))))) =
      (p0 + p1 + p2 + p3) + 256 * ((p1 + p2 + p3 + p4) + 256 * ((p2 + p3 + p4 + p5) + 256 * ((p3 + p4 + p5 + p6) + 256 * ((p4 + p5 + p6 + p7) + 256 * ((p5 + p6 + p7) + 256 * ((p6 + p7) + 256 * p7)))))) := by omega
theorem sum_f3 (p0 p1 p2 p3 p4 p5 p6 p7 : Nat) : (p0 + p1 + p2 + p3) + 256 * ((p1 + p2 + p3 + p4) + 256 * ((p2 + p3 + p4 + p5) + 256 * ((p3 + p4 + p5 + p6) + 256 * ((p4 + p5 + p6 + p7) + 256 * ((p5 + p6 + p7) + 256 * ((p6 + p7) + 256 * p7)))))) + ((p4 + p5 + p6 + p7) + 256 * ((p5 + p6 + p7) + 256 * ((p6 + p7) + 256 * p7))) =
      (p0 + (p1 + (p2 + (p3 + (p4 + (p5 + (p6 + p7))))))) + 256 * ((p1 + p2 + p3 + p4 + (p5 + p6 + p7)) + 256 * ((p2 + p3 + p4 + p5 + (p6 + p7)) + 256 * ((p3 + p4 + p5 + p6 + p7) + 256 * ((p4 + p5 + p6 + p7) + 256 * ((p5 + p6 + p7) + 256 * ((p6 + p7) + 256 * p7)))))) := by omega
set_option maxHeartbeats 2000000 in
theorem ones_fin (y y1 y2 y3 p0 p1 p2 p3 p4 p5 p6 p7 : Nat) (hy : y = p0 + 256 * (p1 + 256 * (p2 + 256 * (p3 + 256 * (p4 + 256 * (p5 + 256 * (p6 + 256 * (p7 + 256 * 0)))))))) (h1 : y1 = y + y / 256) (h2 : y2 = y1 + y1 / 65536) (h3 : y3 = y2 + y2 / 4294967296)
    (b0 : p0 ≤ 8) (b1 : p1 ≤ 8) (b2 : p2 ≤ 8) (b3 : p3 ≤ 8) (b4 : p4 ≤ 8) (b5 : p5 ≤ 8) (b6 : p6 ≤ 8) (b7 : p7 ≤ 8) :
    y1 < 18446744073709551616 ∧ y2 < 18446744073709551616 ∧ y3 < 18446744073709551616 ∧ y3 % 128 = p0 + (p1 + (p2 + (p3 + (p4 + (p5 + (p6 + p7)))))) := by
  have a1 := div8' hy (by omega)
  have c1 := (h1.trans (congr (congrArg HAdd.hAdd hy) a1)).trans (sum_f1 p0 p1 p2 p3 p4 p5 p6 p7)
  have a2 := div16' c1 (by omega) (by omega)
  have c2 := (h2.trans (congr (congrArg HAdd.hAdd c1) a2)).trans (sum_f2 p0 p1 p2 p3 p4 p5 p6 p7)
  have a3 := div32' c2 (by omega) (by omega) (by omega) (by omega)
  have c3 := (h3.trans (congr (congrArg HAdd.hAdd c2) a3)).trans (sum_f3 p0 p1 p2 p3 p4 p5 p6 p7)
  clear h1 h2 h3 a1 a2 a3 hy
  refine ⟨bnd_f' c1 ?_ ?_ ?_ ?_ ?_ ?_ ?_ ?_, bnd_f' c2 ?_ ?_ ?_ ?_ ?_ ?_ ?_ ?_, bnd_f' c3 ?_ ?_ ?_ ?_ ?_ ?_ ?_ ?_, mod128' c3 ?_⟩ <;> (clear c1 c2 c3; omega)
theorem pc64 (x : Nat) (hx : x < 18446744073709551616) : pc 64 x = pc 8 (x % 256) + (pc 8 (x / 256 % 256) + (pc 8 (x / 256 / 256 % 256) + (pc 8 (x / 256 / 256 / 256 % 256) + (pc 8 (x / 256 / 256 / 256 / 256 % 256) + (pc 8 (x / 256 / 256 / 256 / 256 / 256 % 256) + (pc 8 (x / 256 / 256 / 256 / 256 / 256 / 256 % 256) + pc 8 (x / 256 / 256 / 256 / 256 / 256 / 256 / 256 % 256))))))) := by
  rw [pc_byte 56, pc_byte 48, pc_byte 40, pc_byte 32, pc_byte 24, pc_byte 16, pc_byte 8]
  rw [show x / 256 / 256 / 256 / 256 / 256 / 256 / 256 % 256 = x / 256 / 256 / 256 / 256 / 256 / 256 / 256 from Nat.mod_eq_of_lt (by omega)]
theorem ones_sum (x y y1 y2 y3 : Nat) (hx : x < 18446744073709551616) (hy : y = bmap (pc 8) 8 x) (h1 : y1 = y + y / 256) (h2 : y2 = y1 + y1 / 65536) (h3 : y3 = y2 + y2 / 4294967296) :
    y1 < 18446744073709551616 ∧ y2 < 18446744073709551616 ∧ y3 < 18446744073709551616 ∧ y3 % 128 = pc 64 x := by
  have hp : ∀ d, d < 256 → pc 8 d ≤ 8 := fun d hd => (t321 ⟨d, hd⟩).2
  rw [pc64 x hx]
  exact ones_fin y y1 y2 y3 _ _ _ _ _ _ _ _ hy h1 h2 h3 (hp _ (Nat.mod_lt _ (by decide))) (hp _ (Nat.mod_lt _ (by decide))) (hp _ (Nat.mod_lt _ (by decide))) (hp _ (Nat.mod_lt _ (by decide))) (hp _ (Nat.mod_lt _ (by decide))) (hp _ (Nat.mod_lt _ (by decide))) (hp _ (Nat.mod_lt _ (by decide))) (hp _ (Nat.mod_lt _ (by decide)))

def swar (x : Nat) : Nat :=
  let a := (x / 2 &&& 6148914691236517205) + (x &&& 6148914691236517205)
  let b := (a / 4 &&& 3689348814741910323) + (a &&& 3689348814741910323)
  (b / 16 + b) &&& 1085102592571150095
theorem swar_eq (x : Nat) : swar x = bmap (pc 8) 8 x := by
  unfold swar
  have m1 : 6148914691236517205 = mk8 85 8 := by decide
  have m2 : 3689348814741910323 = mk8 51 8 := by decide
  have m3 : 1085102592571150095 = mk8 15 8 := by decide
  simp only [m1, m2, m3]
  rw [step1, step2, bmap_comp t1 t2 (fun d hd => t1_lt ⟨d, hd⟩), step3 _ (fun d hd => t21_lt ⟨d, hd⟩)]
  exact bmap_congr (fun d hd => (t321 ⟨d, hd⟩).1) 8 x

end Go.Proofs.YtpjncojljamacaaGreat.AM
set_option linter.unusedVariables false
set_option linter.unusedSimpArgs false
namespace Go.Proofs.YtpjncojljamacaaGreat.AM
open Go Go.RowKit

theorem bmap_lt (f : Nat → Nat) (hf : ∀ d, d < 256 → f d < 256) : ∀ (k x : Nat), bmap f k x < 256 ^ k
  | 0, x => by simp [bmap]
  | k + 1, x => by
    have h1 := hf (x % 256) (by omega)
    have h2 := bmap_lt f hf k (x / 256)
    simp only [bmap, Nat.pow_succ]; omega
def o1 (x : Nat) : Nat := (x / 2 &&& 6148914691236517205) + (x &&& 6148914691236517205)
def o2 (x : Nat) : Nat := (o1 x / 4 &&& 3689348814741910323) + (o1 x &&& 3689348814741910323)
def o3 (x : Nat) : Nat := (o2 x / 16 + o2 x) &&& 1085102592571150095
def o4 (x : Nat) : Nat := o3 x + o3 x / 256
def o5 (x : Nat) : Nat := o4 x + o4 x / 65536
def o6 (x : Nat) : Nat := o5 x + o5 x / 4294967296
theorem o1_eq (x : Nat) : o1 x = bmap t1 8 x := by
  unfold o1
  have m1 : 6148914691236517205 = mk8 85 8 := by decide
  rw [m1, step1]
theorem o2_eq (x : Nat) : o2 x = bmap (fun d => t2 (t1 d)) 8 x := by
  unfold o2
  have m1 : 3689348814741910323 = mk8 51 8 := by decide
  rw [m1, step2, o1_eq, bmap_comp t1 t2 (fun d hd => t1_lt ⟨d, hd⟩)]
theorem o3_eq (x : Nat) : o3 x = bmap (pc 8) 8 x := swar_eq x
theorem o1_lt (x : Nat) : o1 x < 18446744073709551616 := by
  rw [o1_eq]; exact bmap_lt t1 (fun d hd => t1_lt ⟨d, hd⟩) 8 x
theorem o2_le (x : Nat) : ∀ k y, bmap (fun d => t2 (t1 d)) k y ≤ 68 * ((256 ^ k - 1) / 255)
  | 0, y => by simp [bmap]
  | k + 1, y => by
    have h1 := (t21_lt ⟨y % 256, by omega⟩).1
    have h2 := o2_le x k (y / 256)
    have h3 : 0 < 256 ^ k := Nat.pow_pos (by decide)
    simp only at h1
    simp only [bmap, Nat.pow_succ]
    have h4 : (256 ^ k * 256 - 1) / 255 = 256 * ((256 ^ k - 1) / 255) + 1 := by
      have : (256 ^ k - 1) % 255 = 0 := by
        have : ∀ k, 256 ^ k % 255 = 1 := by
          intro k
          induction k with
          | zero => rfl
          | succ k ih => rw [Nat.pow_succ]; omega
        have := this k; omega
      omega
    rw [h4]; omega
theorem o2_lt (x : Nat) : o2 x ≤ 4919131752989213764 := by
  have := o2_le x 8 x
  rw [o2_eq]; exact Nat.le_trans this (by decide)
theorem o456 (x : Nat) (hx : x < 18446744073709551616) : o4 x < 18446744073709551616 ∧ o5 x < 18446744073709551616 ∧ o6 x < 18446744073709551616 ∧ o6 x % 128 = pc 64 x :=
  ones_sum x (o3 x) (o4 x) (o5 x) (o6 x) hx (o3_eq x) rfl rfl rfl

theorem shrK (a k : Nat) (h : k < 64) : (a : Int).fdiv (2 ^ (min k 64)) = ((a / 2 ^ k : Nat) : Int) := by
  have := shrN a (r := (k : Int)) (by omega) (by omega)
  simpa using this
theorem addN (a b : Nat) (h : a + b < 18446744073709551616) : IntKind.u64.wrap ((a : Int) + (b : Int)) = ((a + b : Nat) : Int) := by
  rw [← Int.natCast_add]; exact wrap64N _ h
theorem bitandL (a b : Nat) (c : Int) (hc : c = (b : Int)) (ha : a < 18446744073709551616) (hb : b < 18446744073709551616) : bitI .and .u64 (a : Int) c = ((a &&& b : Nat) : Int) := by
  rw [hc]; exact bitand64 a b ha hb
theorem w_o1 (x : Nat) (hx : x < 18446744073709551616) : IntKind.u64.wrap (bitI .and .u64 ((x : Int).fdiv (2 ^ min 1 64)) 6148914691236517205 + bitI .and .u64 (x : Int) 6148914691236517205) = (o1 x : Int) := by
  rw [shrK x 1 (by decide), bitandL (x / 2 ^ 1) 6148914691236517205 6148914691236517205 rfl (by simp only [Nat.pow_one]; omega) (by decide), bitandL x 6148914691236517205 6148914691236517205 rfl hx (by decide)]
  exact addN _ _ (o1_lt x)
theorem w_o2 (x : Nat) : IntKind.u64.wrap (bitI .and .u64 ((o1 x : Int).fdiv (2 ^ min 2 64)) 3689348814741910323 + bitI .and .u64 (o1 x : Int) 3689348814741910323) = (o2 x : Int) := by
  have h := o1_lt x
  rw [shrK (o1 x) 2 (by decide), bitandL (o1 x / 2 ^ 2) 3689348814741910323 3689348814741910323 rfl (by rw [show (2 : Nat) ^ 2 = 4 from rfl]; omega) (by decide), bitandL (o1 x) 3689348814741910323 3689348814741910323 rfl h (by decide)]
  exact addN _ _ (Nat.lt_of_le_of_lt (o2_lt x) (by decide))
theorem w_o3 (x : Nat) : bitI .and .u64 (IntKind.u64.wrap ((o2 x : Int).fdiv (2 ^ min 4 64) + (o2 x : Int))) 1085102592571150095 = (o3 x : Int) := by
  have h := o2_lt x
  rw [shrK (o2 x) 4 (by decide), show (2 : Nat) ^ 4 = 16 from rfl, addN _ _ (by omega)]
  exact bitand64 _ 1085102592571150095 (by omega) (by decide)
theorem w_o4 (x : Nat) (hx : x < 18446744073709551616) : IntKind.u64.wrap ((o3 x : Int) + (o3 x : Int).fdiv (2 ^ min 8 64)) = (o4 x : Int) := by
  rw [shrK (o3 x) 8 (by decide)]
  exact addN _ _ (o456 x hx).1
theorem w_o5 (x : Nat) (hx : x < 18446744073709551616) : IntKind.u64.wrap ((o4 x : Int) + (o4 x : Int).fdiv (2 ^ min 16 64)) = (o5 x : Int) := by
  rw [shrK (o4 x) 16 (by decide)]
  exact addN _ _ (o456 x hx).2.1
theorem w_o6 (x : Nat) (hx : x < 18446744073709551616) : IntKind.u64.wrap ((o5 x : Int) + (o5 x : Int).fdiv (2 ^ min 32 64)) = (o6 x : Int) := by
  rw [shrK (o5 x) 32 (by decide)]
  exact addN _ _ (o456 x hx).2.2.1
theorem bv_and_int (a b : Nat) (hb : b < 18446744073709551616) : ∀ x : Int, x % 18446744073709551616 = (a : Int) → a < 18446744073709551616 → (BitVec.ofInt 64 x &&& BitVec.ofInt 64 (b : Int)).toNat = a &&& b := by
  intro x hx ha
  rw [BitVec.toNat_and, BitVec.toNat_ofInt, BitVec.toNat_ofInt]
  have e1 : (x % ((2 ^ 64 : Nat) : Int)).toNat = a := by
    rw [show ((2 ^ 64 : Nat) : Int) = 18446744073709551616 from rfl, hx]; rfl
  have e2 : ((b : Int) % ((2 ^ 64 : Nat) : Int)).toNat = b := by
    rw [show ((2 ^ 64 : Nat) : Int) = 18446744073709551616 from rfl]; omega
  rw [e1, e2]
theorem w_o7 (x : Nat) (hx : x < 18446744073709551616) : bitI .and .i64 (IntKind.i64.wrap (o6 x : Int)) 127 = (pc 64 x : Int) := by
  have h := o456 x hx
  have e : (BitVec.ofInt IntKind.i64.bits (IntKind.i64.wrap (o6 x : Int)) &&& BitVec.ofInt IntKind.i64.bits (127 : Int)).toNat = o6 x &&& 127 := by
    refine bv_and_int (o6 x) 127 (by decide) _ ?_ h.2.2.1
    show (if (true && decide ((o6 x : Int) % (2 ^ 64 : Int) ≥ (2 ^ (64 - 1) : Int))) = true then (o6 x : Int) % (2 ^ 64 : Int) - (2 ^ 64 : Int) else (o6 x : Int) % (2 ^ 64 : Int)) % 18446744073709551616 = _
    have := h.2.2.1
    split <;> omega
  show IntKind.i64.wrap _ = _
  rw [e]
  have e2 : o6 x &&& 127 = pc 64 x := by
    have := Nat.and_two_pow_sub_one_eq_mod (o6 x) 7
    rw [show (2 : Nat) ^ 7 = 128 from rfl] at this
    exact this.trans h.2.2.2
  rw [e2]
  have hb : pc 64 x < 128 := by rw [← h.2.2.2]; omega
  exact wrapS ⟨by omega, by omega⟩

def oneAt (l : List Bool) (i : Int) : Int := if 0 ≤ i ∧ i < l.length then ((l.getD i.toNat false).toNat : Int) else 0
theorem oneAt_out (l : List Bool) {i : Int} (h : i < 0 ∨ (l.length : Int) ≤ i) : oneAt l i = 0 := by
  unfold oneAt; rw [if_neg (by omega)]
theorem and1 (a : Nat) (h : a < 18446744073709551616) : bitI .and .u64 (a : Int) 1 = ((a % 2 : Nat) : Int) := by
  have := bitand64 a 1 h (by decide)
  rw [and_one] at this; exact this
theorem oneAt_word (l : List Bool) {i : Int} (h0 : 0 ≤ i) (h1 : i < l.length) : IntKind.i64.wrap (bitI .and .u64 ((wordAt l (i / 64).toNat : Int).fdiv (2 ^ min (i % 64).toNat 64)) 1) = oneAt l i := by
  rw [shrN _ (by omega) (by omega), and1 _ (Nat.lt_of_le_of_lt (Nat.div_le_self _ _) (wordAt_lt _ _)), wordAt_bit l (by omega)]
  have e : 64 * (i / 64).toNat + (i % 64).toNat = i.toNat := by omega
  rw [e]
  unfold oneAt
  rw [if_pos ⟨h0, h1⟩]
  have := boolNat_lt (l.getD i.toNat false)
  exact wrapS ⟨by omega, by omega⟩
def cnt (l : List Bool) (i : Nat) : Nat := (l.take i).count true
theorem cnt_add (l : List Bool) (a b : Nat) : cnt l (a + b) = cnt l a + ((l.drop a).take b).count true := by
  unfold cnt; rw [List.take_add, List.count_append]
theorem cnt_le (l : List Bool) (i : Nat) : cnt l i ≤ i ∧ cnt l i ≤ l.length := by
  unfold cnt
  have h := List.count_le_length (a := true) (l := l.take i)
  rw [List.length_take] at h
  omega
theorem cnt_zero (l : List Bool) : cnt l 0 = 0 := by simp [cnt]
theorem cnt_word (l : List Bool) (k : Nat) : cnt l (64 * (k + 1)) = cnt l (64 * k) + pc 64 (wordAt l k) := by
  rw [show 64 * (k + 1) = 64 * k + 64 from by omega, cnt_add, wordAt, pc_natOf 64 _ (by simp; omega)]
theorem cnt_part (l : List Bool) (k r : Nat) (h : r ≤ 64) : cnt l (64 * k + r) = cnt l (64 * k) + pc 64 (wordAt l k % 2 ^ r) := by
  rw [cnt_add, wordAt, natOf_mod, pc_natOf 64 _ (by simp; omega), List.take_take, Nat.min_eq_left h]
theorem cnt_mono (l : List Bool) {a b : Nat} (h : a ≤ b) : cnt l a ≤ cnt l b := by
  obtain ⟨c, rfl⟩ := Nat.exists_eq_add_of_le h
  rw [cnt_add]; omega
theorem pc_le (x : Nat) (hx : x < 18446744073709551616) : pc 64 x < 128 := by
  rw [← (o456 x hx).2.2.2]; omega
theorem mask_word (x : Nat) (hx : x < 18446744073709551616) {r : Int} (h0 : 0 ≤ r) (h1 : r < 64) : bitI .and .u64 (x : Int) (IntKind.u64.wrap (IntKind.u64.wrap (1 * 2 ^ min r.toNat 64) - 1)) = ((x % 2 ^ r.toNat : Nat) : Int) := by
  rw [shl1 h0 h1]
  have hp : 0 < 2 ^ r.toNat := Nat.two_pow_pos _
  have h2 : 2 ^ r.toNat < 18446744073709551616 := two_pow_lt64 (by omega)
  have e : ((2 ^ r.toNat : Nat) : Int) - 1 = ((2 ^ r.toNat - 1 : Nat) : Int) := by omega
  rw [e, wrap64N _ (by omega), bitand64 _ _ hx (by omega), and_mask]

end Go.Proofs.YtpjncojljamacaaGreat.AM
set_option linter.unusedVariables false
set_option linter.unusedSimpArgs false
namespace Go.Proofs.YtpjncojljamacaaGreat.AM
open Go Go.RowKit

def bitsOf (n w : Nat) : List Bool := (List.range w).map fun i => n / 2 ^ i % 2 == 1
theorem bitsOf_len (n w : Nat) : (bitsOf n w).length = w := by simp [bitsOf]
theorem bitsOf_succ (n w : Nat) : bitsOf n (w + 1) = bitsOf n w ++ [n / 2 ^ w % 2 == 1] := by simp [bitsOf, List.range_succ]
theorem natOf_bitsOf (n : Nat) : ∀ w, natOf (bitsOf n w) = n % 2 ^ w
  | 0 => by simp [bitsOf, natOf, Nat.mod_one]
  | w + 1 => by
    rw [bitsOf_succ, natOf_append, bitsOf_len, natOf_bitsOf n w, Nat.mod_pow_succ]
    have h : n / 2 ^ w % 2 < 2 := Nat.mod_lt _ (by decide)
    have : natOf [n / 2 ^ w % 2 == 1] = n / 2 ^ w % 2 := by
      generalize n / 2 ^ w % 2 = t at h
      match t, h with
      | 0, _ => rfl
      | 1, _ => rfl
    rw [this]
theorem bit_of (n : Nat) (hn : n < 18446744073709551616) {i : Int} (h0 : 0 ≤ i) (h1 : i < 64) : decide (bitI .and .u64 ((n : Int).fdiv (2 ^ min i.toNat 64)) 1 = 1) = (n / 2 ^ i.toNat % 2 == 1) := by
  rw [shrN n h0 h1, and1 _ (Nat.lt_of_le_of_lt (Nat.div_le_self _ _) hn)]
  have h : n / 2 ^ i.toNat % 2 < 2 := Nat.mod_lt _ (by decide)
  generalize n / 2 ^ i.toNat % 2 = t at h
  match t, h with
  | 0, _ => rfl
  | 1, _ => rfl

theorem bitLenAux_lt : ∀ (f x : Nat), x < 2 ^ f → x < 2 ^ Lib.bitLenAux f x
  | 0, x, h => by simpa [Lib.bitLenAux] using h
  | f + 1, x, h => by
    unfold Lib.bitLenAux
    split
    · rename_i h0; subst h0; simp
    · have := bitLenAux_lt f (x / 2) (by rw [Nat.pow_succ] at h; omega)
      rw [Nat.add_comm, Nat.pow_succ]; omega
theorem bitLen_fits (x : Nat) (hx : x < 18446744073709551616) {w : Nat} (hw : w ≤ 64) : Lib.bitLen x ≤ w ↔ x < 2 ^ w := by
  constructor
  · intro h
    exact Nat.lt_of_lt_of_le (bitLenAux_lt 64 x hx) (Nat.pow_le_pow_right (by decide) h)
  · exact Lib.bitLen_le x w hw
/-! ### a number in a row -/
def numN (l : List Bool) (a w : Nat) : Nat := natOf ((l.drop a).take w)
theorem numN_lt (l : List Bool) (a w : Nat) : numN l a w < 2 ^ w :=
  Nat.lt_of_lt_of_le (natOf_lt _) (Nat.pow_le_pow_right (by decide) (by rw [List.length_take]; omega))
theorem numN_zero (l : List Bool) (a : Nat) : numN l a 0 = 0 := by simp [numN, natOf]
theorem numN_add (l : List Bool) (a g m : Nat) (h : a + g ≤ l.length) : numN l a (g + m) = numN l a g + 2 ^ g * numN l (a + g) m := by
  unfold numN
  rw [List.take_add, natOf_append, List.length_take, List.length_drop, Nat.min_eq_left (by omega), List.drop_drop]
theorem word_shr (l : List Bool) (i : Nat) : wordAt l (i / 64) / 2 ^ (i % 64) = numN l i (64 - i % 64) := by
  unfold wordAt numN
  rw [natOf_div, List.drop_take, List.drop_drop, show 64 * (i / 64) + i % 64 = i from by omega]
theorem numN_mod (l : List Bool) (i : Nat) {m k : Nat} (h : m ≤ k) : numN l i k % 2 ^ m = numN l i m := by
  unfold numN
  rw [natOf_mod, List.take_take, Nat.min_eq_left h]

/-! ### bytes -/
theorem bytesOf?_map {α : Type} (f : α → Nat) : ∀ L : List α, bytesOf? (L.map fun a => IV.int .u8 (f a)) = some (L.map fun a => UInt8.ofNat (f a))
  | [] => rfl
  | a :: L => by
    simp only [List.map_cons, bytesOf?, bytesOf?_map f L, Option.map_some, Int.toNat_natCast]
def readB (s : ByteArray) (n : Nat) : List Bool := (List.range n).map fun i => (s.data.toList.getD (i / 8) 0).toNat / 2 ^ (i % 8) % 2 == 1
theorem readB_len (s : ByteArray) (n : Nat) : (readB s n).length = n := by simp [readB]
end Go.Proofs.YtpjncojljamacaaGreat.AM
set_option linter.unusedVariables false
set_option linter.unusedSimpArgs false
namespace Go.Proofs.YtpjncojljamacaaGreat.AM
open Go Go.RowKit

theorem and_maskS (n : Int) (m : Nat) (k : Nat) (hk : k ≤ 62) (hm : m = 2 ^ k) : bitI .and .i64 n ((m : Int) - 1) = n % (m : Int) := by
  subst hm
  have hp : (2 : Nat) ^ k ≤ 2 ^ 62 := Nat.pow_le_pow_right (by decide) hk
  have h0 := Nat.two_pow_pos k
  have hr := Int.emod_nonneg n (show ((2 ^ k : Nat) : Int) ≠ 0 by omega)
  have hr2 := Int.emod_lt_of_pos n (show 0 < ((2 ^ k : Nat) : Int) by omega)
  have e2 : ((((2 ^ k : Nat) : Int) - 1) % ((2 ^ 64 : Nat) : Int)).toNat = 2 ^ k - 1 := by
    rw [Int.emod_eq_of_lt (by omega) (by omega)]; omega
  have e3 : (n % ((2 ^ 64 : Nat) : Int)).toNat % 2 ^ k = (n % ((2 ^ k : Nat) : Int)).toNat := by
    have hd : ((2 ^ k : Nat) : Int) ∣ ((2 ^ 64 : Nat) : Int) := Int.natCast_dvd_natCast.2 (Nat.pow_dvd_pow 2 (by omega))
    have h3 := Int.emod_nonneg n (show ((2 ^ 64 : Nat) : Int) ≠ 0 by omega)
    have h4 := Int.emod_emod_of_dvd n hd
    rw [← h4]
    generalize n % ((2 ^ 64 : Nat) : Int) = z at *
    obtain ⟨y, rfl⟩ : ∃ y : Nat, z = (y : Int) := ⟨z.toNat, by omega⟩
    rw [Int.toNat_natCast, ← Int.natCast_emod, Int.toNat_natCast]
  have e : (BitVec.ofInt IntKind.i64.bits n &&& BitVec.ofInt IntKind.i64.bits (((2 ^ k : Nat) : Int) - 1)).toNat = (n % ((2 ^ k : Nat) : Int)).toNat := by
    rw [BitVec.toNat_and, BitVec.toNat_ofInt, BitVec.toNat_ofInt]
    show ((n % ((2 ^ 64 : Nat) : Int)).toNat &&& ((((2 ^ k : Nat) : Int) - 1) % ((2 ^ 64 : Nat) : Int)).toNat) = _
    rw [e2, Nat.and_two_pow_sub_one_eq_mod, e3]
  show IntKind.i64.wrap _ = _
  rw [e]
  generalize n % ((2 ^ k : Nat) : Int) = z at *
  rw [show ((z.toNat : Nat) : Int) = z from by omega]
  exact wrapS ⟨by omega, by omega⟩

theorem take_snoc (l : List Int) {j : Nat} (h : j < l.length) : l.take (j + 1) = l.take j ++ [l.getD j 0] := by
  rw [List.take_add_one, List.getElem?_eq_getElem h]
  simp [List.getD, List.getElem?_eq_getElem h]
theorem dq {P : Prop} (h : P := by first | omega | (simp only [List.length_append, List.length_cons, List.length_nil, List.length_map, bitsOf_len, readB_len, Int.natCast_add, Int.natCast_succ, Nat.zero_add, natCast_one, natCast_zero] <;> omega) | fail) : P := h
class Nx (p : Prop) (q : outParam Prop) : Prop where
  go : q → p
class Sp (p : Prop) (b : outParam Bool) (q r : outParam Prop) : Prop where
  go : (b = true → q) → (b = false → r) → p
section
variable {P : Program} {Q : Exit → St → Prop} {s : St} {x y c : Code} {i : Nat}
instance nx0 {d : Tok (Code.seq x y, Q)} : Nx (awT P (.seq x y) Q d s) (aw P x (thenQ (aw P y Q) Q) s) := ⟨aw_seq⟩
instance nx1 {ops : List Oper} {d : Tok (Code.region i ops.toArray false, Q)} : Nx (awT P (.region i ops.toArray false) Q d s) (run P ops ops (fun s l => left P ops (Q .normal) s l) s) := ⟨fun h => aw_region (aops_run h)⟩
instance nx2 {o : Operand} {d : Tok (Code.cond o x y, Q)} : Nx (awT P (.cond o x y) Q d s) (condT (s.ev o) (aw P x Q s) (aw P y Q s) ⟨()⟩) := ⟨aw_condK⟩
instance nx3 {d : Tok (Code.skip, Q)} : Nx (awT P .skip Q d s) (Q .normal s) := ⟨aw_skip⟩
instance nx4 {d : Tok (Code.ret, Q)} : Nx (awT P .ret Q d s) (Q .ret s) := ⟨aw_ret⟩
instance nx5 {d : Tok (Code.exit i, Q)} : Nx (awT P (.exit i) Q d s) (Q (.exit i) s) := ⟨aw_exit⟩
instance nx6 {d : Tok (Code.label i, Q)} : Nx (awT P (.label i) Q d s) (Q .normal s) := ⟨aw_label⟩
instance nx7 {d : Tok (Code.block i c, Q)} : Nx (awT P (.block i c) Q d s) (aw P c (blockQ i Q) s) := ⟨aw_block⟩
instance nx8 {d : Tok (Code.scope c, Q)} : Nx (awT P (.scope c) Q d s) (aw P c (scopeQ Q) s) := ⟨aw_scope⟩
instance sp0 {b : Bool} {f : Bool → Prop} {t : Tok f} : Sp (wantT (some b) f t) b (f true) (f false) := ⟨wantK_split⟩
instance sp1 {b : Bool} {A B : Prop} {t : Tok (A, B)} : Sp (condT (.iv (.bool b)) A B t) b A B := ⟨condK_split⟩
instance sp2 {b : Bool} {u v : AV} {M : List MO} {F : AV → List MO → Prop} {t : Tok F} : Sp (effT (pickV (.iv (.bool b)) u v M) F t) b (F u M) (F v M) := ⟨pickV_split⟩
end
end Go.Proofs.YtpjncojljamacaaGreat.AM
