
/- The abstract machine, 15: the rules by which it is run. No condition. -/
import Derived.Test.YtebegdnebjjnmaaA14
import Derived.Attr
set_option linter.unusedVariables false
set_option linter.unusedSimpArgs false
namespace Go.Proofs.Ytebegdnebjjnmaa.AM
open Go Go.RowKit

section
variable {P : Program} {ops rest : List Oper} {s : St} {o : Oper} {K : St → List Oper → Prop}
variable {d : Option Tmp} {ty : TypeId} {pos : String} {af : Array Edge} {g : Option (Nat × Bool)} {ev : Operand → AV} {M : List MO}

def runT (P : Program) (ops : List Oper) (l : List Oper) (K : St → List Oper → Prop) (_ : Tok (ops, l, K)) (s : St) : Prop := run P ops l K s
def wantT (o : Option Bool) (f : Bool → Prop) (_ : Tok f) : Prop := wantK o f
def effT (o : Option (Cls × AV × List MO)) (F : AV → List MO → Prop) (_ : Tok F) : Prop := effK o F
@[go_sem ↓] theorem aw_T (c : Code) (Q : Exit → St → Prop) : aw P c Q s = awT P c Q ⟨()⟩ s := Eq.trans rfl rfl
@[go_sem ↓] theorem run_T (l : List Oper) : run P ops l K s = runT P ops l K ⟨()⟩ s := Eq.trans rfl rfl
@[go_sem ↓] theorem wantK_T (o : Option Bool) (f : Bool → Prop) : wantK o f = wantT o f ⟨()⟩ := Eq.trans rfl rfl
@[go_sem ↓] theorem effK_T (o : Option (Cls × AV × List MO)) (F : AV → List MO → Prop) : effK o F = effT o F ⟨()⟩ := Eq.trans rfl rfl
variable {tr : Tok (ops, rest, K)} 
@[go_sem] theorem run_nil (t : Tok (ops, ([] : List Oper), K)) : runT P ops [] K t s = K s [] := Eq.trans rfl rfl
@[go_sem] theorem run_cons (t : Tok (ops, o :: rest, K)) : runT P ops (o :: rest) K t s = wantK (s.want ops o) fun b => if b = true then (if isFCall o = true then K s (o :: rest) else effK (eff P o s.ev s.M) fun v M' => run P ops rest K ({ s with M := M' }.put o.dst v)) else run P ops rest K (s.put o.dst (.iv (.tup []))) := Eq.trans rfl rfl
@[go_sem] theorem wantK_true (f : Bool → Prop) (t : Tok f) : wantT (some true) f t = f true := by simp [wantT, wantK]
@[go_sem] theorem wantK_false (f : Bool → Prop) (t : Tok f) : wantT (some false) f t = f false := by simp [wantT, wantK]
@[go_sem] theorem effK_some (c : Cls) (v : AV) (M' : List MO) (F : AV → List MO → Prop) (t : Tok F) : effT (some (c, v, M')) F t = F v M' := Eq.trans rfl rfl
@[go_sem] theorem effK_none (F : AV → List MO → Prop) (t : Tok F) : effT none F t = False := Eq.trans rfl rfl
@[go_sem] theorem effK_ite (c : Prop) [Decidable c] (x : Option (Cls × AV × List MO)) (F : AV → List MO → Prop) (t : Tok F) : effT (if c then x else none) F t = (c ∧ effK x F) := by
  by_cases h : c <;> simp [h, effK, effT]
@[go_sem] theorem effK_ite' (c : Prop) [Decidable c] (x : Option (Cls × AV × List MO)) (F : AV → List MO → Prop) (t : Tok F) : effT (if c then none else x) F t = (¬ c ∧ effK x F) := by
  by_cases h : c <;> simp [h, effK, effT]
@[go_sem] theorem effK_bind_ite {α : Type} (c : Prop) [Decidable c] (x : Option α) (f : α → Option (Cls × AV × List MO)) (F : AV → List MO → Prop) (t : Tok F) : effT ((if c then x else none).bind f) F t = (c ∧ effK (x.bind f) F) := by
  by_cases h : c <;> simp [h, effK, effT]
@[go_sem] theorem effK_map_ite {α : Type} (c : Prop) [Decidable c] (x : Option α) (f : α → Cls × AV × List MO) (F : AV → List MO → Prop) (t : Tok F) : effT ((if c then x else none).map f) F t = (c ∧ effK (x.map f) F) := by
  by_cases h : c <;> simp [h, effK, effT]
@[go_sem] theorem effK_bind_ite' {α : Type} (c : Prop) [Decidable c] (x : Option α) (f : α → Option (Cls × AV × List MO)) (F : AV → List MO → Prop) (t : Tok F) : effT ((if c then none else x).bind f) F t = (¬ c ∧ effK (x.bind f) F) := by
  by_cases h : c <;> simp [h, effK, effT]
@[go_sem] theorem effK_map_ite' {α : Type} (c : Prop) [Decidable c] (x : Option α) (f : α → Cls × AV × List MO) (F : AV → List MO → Prop) (t : Tok F) : effT ((if c then none else x).map f) F t = (¬ c ∧ effK (x.map f) F) := by
  by_cases h : c <;> simp [h, effK, effT]
@[go_sem ↓] theorem left_nil (Q : St → Prop) : left P ops Q s [] = Q s := Eq.trans rfl rfl

/-! operations -/
@[go_sem] theorem eff_move_ (x : Operand) : eff P ⟨d, .move x, ty, pos, af, g⟩ ev M = some (.p, ev x, M) := rfl
@[go_sem] theorem eff_assign_tmp_ (x : Tmp) : eff P ⟨d, .assign (.tmp x), ty, pos, af, g⟩ ev M = some (.p, ev (.tmp x), M) := rfl
@[go_sem] theorem eff_assign_int_ (k : IntKind) (n : Int) : eff P ⟨d, .assign (.const (.int k n)), ty, pos, af, g⟩ ev M = some (.p, ev (.const (.int k n)), M) := rfl
@[go_sem] theorem eff_assign_bool_ (b : Bool) : eff P ⟨d, .assign (.const (.bool b)), ty, pos, af, g⟩ ev M = some (.p, ev (.const (.bool b)), M) := rfl
@[go_sem] theorem eff_assign_str_ (b : ByteArray) : eff P ⟨d, .assign (.const (.string b)), ty, pos, af, g⟩ ev M = some (.p, ev (.const (.string b)), M) := rfl
@[go_sem] theorem eff_assign_ptr_ (b : Option Addr) : eff P ⟨d, .assign (.const (.pointer b)), ty, pos, af, g⟩ ev M = some (.p, ev (.const (.pointer b)), M) := rfl
@[go_sem] theorem eff_assign_agg_ (b : Array Value) : eff P ⟨d, .assign (.const (.agg b)), ty, pos, af, g⟩ ev M = some (.p, ev (.const (.agg b)), M) := rfl
@[go_sem] theorem eff_assign_nilf_ : eff P ⟨d, .assign (.const .nilFunc), ty, pos, af, g⟩ ev M = some (.p, ev (.const .nilFunc), M) := rfl
@[go_sem] theorem eff_assign_func_ (f : FuncId) : eff P ⟨d, .assign (.func f), ty, pos, af, g⟩ ev M = some (.p, ev (.func f), M) := rfl
@[go_sem] theorem eff_assign_nil_ : eff P ⟨d, .assign (.const (.slice none 0 0)), ty, pos, af, g⟩ ev M = (tElem P ty).map fun e => (.w, .msl M.length 0 0 0, M ++ [.row true e.T e.sz []]) := rfl
def pickV (c a b : AV) (M : List MO) : Option (Cls × AV × List MO) := match c with
  | .iv (.bool t) => some (.p, if t then a else b, M)
  | _ => none
@[go_sem] theorem eff_pick_ (c a b : Operand) : eff P ⟨d, .pick c a b, ty, pos, af, g⟩ ev M = pickV (ev c) (ev a) (ev b) M := rfl
@[go_sem] theorem pickV_true (a b : AV) : pickV (.iv (.bool true)) a b M = some (.p, a, M) := rfl
@[go_sem] theorem pickV_false (a b : AV) : pickV (.iv (.bool false)) a b M = some (.p, b, M) := rfl
@[go_sem] theorem eff_alloc_ (T : TypeId) : eff P ⟨d, .alloc T, ty, pos, af, g⟩ ev M = (tZero P T).bind fun z => (constAV z).cells.map fun cs => (.w, .mp M.length 0, M ++ [.var T cs]) := rfl
@[go_sem] theorem eff_box_ (T : TypeId) (x : Operand) : eff P ⟨d, .box T x, ty, pos, af, g⟩ ev M = (ev x).cells.map fun cs => (.w, .mp M.length 0, M ++ [.var T cs]) := rfl
@[go_sem] theorem eff_build_ (t : TypeId) (parts : List (Nat × Operand)) : eff P ⟨d, .build t parts.toArray, ty, pos, af, g⟩ ev M = (tZero P t).bind fun z => (constAV z).cells.bind fun cs =>
      (tPlaces P t).bind fun pl => (fillAV (fun i => pl[i]?) cs (parts.map fun (i, x) => (i, ev x))).map fun cs => (.p, mkAgg cs, M) := rfl
@[go_sem] theorem eff_buildSlice_ (t : TypeId) (len : Nat) (parts : List (Nat × Operand)) : eff P ⟨d, .buildSlice t len parts.toArray, ty, pos, af, g⟩ ev M = (tElem P t).bind fun e => (constIV e.zero).bind fun z =>
      if len * e.sz ≤ 16777216 ∧ z.fits e.sz = true then
        (partsF M (parts.map fun (i, x) => (i, ev x))).bind fun (ps, M') =>
          if ps.all (fun p => p.2.fits e.sz) then (fillRow (List.replicate len z) ps).map fun xs => (.w, .msl M'.length 0 len len, M' ++ [.row true e.T e.sz xs]) else none
      else none := rfl
def loadV (P : Program) (ag : Option Nat) (a : AV) (M : List MO) : Option (Cls × AV × List MO) := match a with
  | .mp k off => match M[k]? with
    | some (.var _ cs) => (varPart ag cs off).map fun v => (.r, v, M)
    | _ => none
  | .rp k n i c => (rowAt M k n).bind fun (_, _, _, xs) => (xs[i]?).bind fun x => (elemPart ag x c).map fun v => (.r, .iv v, M)
  | .ip _ xs i c => (xs[i]?).bind fun x => (elemPart ag x c).map fun v => (.p, .iv v, M)
  | _ => none
@[go_sem] theorem eff_load_ (t : TypeId) (a : Operand) : eff P ⟨d, .load t a, ty, pos, af, g⟩ ev M = (tAgg P t).bind fun ag => loadV P ag (ev a) M := rfl
@[go_sem] theorem loadV_mp (ag : Option Nat) (k off : Nat) : loadV P ag (.mp k off) M = match M[k]? with
    | some (.var _ cs) => (varPart ag cs off).map fun v => (.r, v, M)
    | _ => none := rfl
@[go_sem] theorem loadV_rp (ag : Option Nat) (k n i c : Nat) : loadV P ag (.rp k n i c) M = (rowAt M k n).bind fun (_, _, _, xs) => (xs[i]?).bind fun x => (elemPart ag x c).map fun v => (.r, .iv v, M) := rfl
@[go_sem] theorem loadV_ip (ag : Option Nat) (sz : Nat) (xs : List IV) (i c : Nat) : loadV P ag (.ip sz xs i c) M = (xs[i]?).bind fun x => (elemPart ag x c).map fun v => (.p, .iv v, M) := rfl
def storeV (n : Nat) (a x : AV) (M : List MO) : Option (Cls × AV × List MO) := match a with
  | .mp k off => match M[k]? with
    | some (.var T cs) => x.cells.bind fun ys => if ys.length = n ∧ off + n ≤ cs.length ∧ ys.all AV.one = true then some (.w, .any, M.set k (.var T (setCells cs off ys))) else none
    | _ => none
  | .rp k m i c => (toIVF M x).bind fun (y, M') =>
    match M'[k]? with
    | some (.row true T sz xs) => if m = xs.length ∧ y.cells.length = n then
        (xs[i]?).bind fun old => (putElem sz old c y).map fun z => (.w, .any, M'.set k (.row true T sz (xs.set i z))) else none
    | _ => none
  | _ => none
@[go_sem] theorem eff_store_ (t : TypeId) (a x : Operand) : eff P ⟨d, .store t a x, ty, pos, af, g⟩ ev M = (tSize P t).bind fun n => storeV n (ev a) (ev x) M := rfl
@[go_sem] theorem storeV_mp (n k off : Nat) (x : AV) : storeV n (.mp k off) x M = match M[k]? with
    | some (.var T cs) => x.cells.bind fun ys => if ys.length = n ∧ off + n ≤ cs.length ∧ ys.all AV.one = true then some (.w, .any, M.set k (.var T (setCells cs off ys))) else none
    | _ => none := rfl
@[go_sem] theorem storeV_rp (n k m i c : Nat) (x : AV) : storeV n (.rp k m i c) x M = (toIVF M x).bind fun (y, M') =>
    match M'[k]? with
    | some (.row true T sz xs) => if m = xs.length ∧ y.cells.length = n then
        (xs[i]?).bind fun old => (putElem sz old c y).map fun z => (.w, .any, M'.set k (.row true T sz (xs.set i z))) else none
    | _ => none := rfl
def nilV (x : AV) (M : List MO) : Option (Cls × AV × List MO) := match x with
  | .mp k off => some (.p, .mp k off, M)
  | .ip sz xs i c => some (.p, .ip sz xs i c, M)
  | .rp k n i c => (rowAt M k n).map fun _ => (.r, .rp k n i c, M)
  | .fn f cs => some (.p, .fn f cs, M)
  | .iv (.fnc f) => some (.p, .iv (.fnc f), M)
  | _ => none
@[go_sem] theorem eff_nilCheck_ (x : Operand) : eff P ⟨d, .nilCheck x, ty, pos, af, g⟩ ev M = nilV (ev x) M := rfl
@[go_sem] theorem nilV_mp (k off : Nat) : nilV (.mp k off) M = some (.p, .mp k off, M) := rfl
@[go_sem] theorem nilV_ip (sz : Nat) (xs : List IV) (i c : Nat) : nilV (.ip sz xs i c) M = some (.p, .ip sz xs i c, M) := rfl
@[go_sem] theorem nilV_rp (k n i c : Nat) : nilV (.rp k n i c) M = (rowAt M k n).map fun _ => (.r, .rp k n i c, M) := rfl
@[go_sem] theorem nilV_fn (f : Nat) (cs : List AV) : nilV (.fn f cs) M = some (.p, .fn f cs, M) := rfl
@[go_sem] theorem nilV_fnc (f : Nat) : nilV (.iv (.fnc f)) M = some (.p, .iv (.fnc f), M) := rfl
@[go_sem] theorem eff_binOp_ (op : BinOp) (t yt : TypeId) (x : Operand) (n : Tmp) : eff P ⟨d, .binOp op t x (.tmp n) yt, ty, pos, af, g⟩ ev M = (binAV P op t (ev x) (ev (.tmp n))).map fun v => (.p, .iv v, M) := rfl
@[go_sem] theorem eff_binOp_int (op : BinOp) (t yt : TypeId) (x : Operand) (k : IntKind) (n : Int) : eff P ⟨d, .binOp op t x (.const (.int k n)) yt, ty, pos, af, g⟩ ev M = (binAV P op t (ev x) (ev (.const (.int k n)))).map fun v => (.p, .iv v, M) := rfl
@[go_sem] theorem eff_binOp_str (op : BinOp) (t yt : TypeId) (x : Operand) (n : ByteArray) : eff P ⟨d, .binOp op t x (.const (.string n)) yt, ty, pos, af, g⟩ ev M = (binAV P op t (ev x) (ev (.const (.string n)))).map fun v => (.p, .iv v, M) := rfl
@[go_sem] theorem eff_binOp_bool (op : BinOp) (t yt : TypeId) (x : Operand) (n : Bool) : eff P ⟨d, .binOp op t x (.const (.bool n)) yt, ty, pos, af, g⟩ ev M = (binAV P op t (ev x) (ev (.const (.bool n)))).map fun v => (.p, .iv v, M) := rfl
@[go_sem] theorem eff_binOp_ptr (op : BinOp) (t yt : TypeId) (x : Operand) (n : Option Addr) : eff P ⟨d, .binOp op t x (.const (.pointer n)) yt, ty, pos, af, g⟩ ev M = (binAV P op t (ev x) (ev (.const (.pointer n)))).map fun v => (.p, .iv v, M) := rfl
def nilB (P : Program) (op : BinOp) (t : TypeId) (u : AV) (z : Option IV) (M : List MO) : Option (Cls × AV × List MO) := match nilCmp P op t (.const (.slice none 0 0)) u with
    | some b => some (.p, .iv (.bool b), M)
    | none => z.map fun v => (.p, .iv v, M)
@[go_sem] theorem eff_binOp_nil (op : BinOp) (t yt : TypeId) (x : Operand) : eff P ⟨d, .binOp op t x (.const (.slice none 0 0)) yt, ty, pos, af, g⟩ ev M = nilB P op t (ev x) (binAV P op t (ev x) (ev (.const (.slice none 0 0)))) M := rfl
def nilC : Option Kd → Bool → Option IV → List MO → Option (Cls × AV × List MO)
  | some .slc, b, _, M => some (.p, .iv (.bool b), M)
  | _, _, z, M => z.map fun v => (.p, .iv v, M)
@[go_sem] theorem nilC_slc (b : Bool) (z : Option IV) : nilC (some .slc) b z M = some (.p, .iv (.bool b), M) := rfl
@[go_sem] theorem nilB_eql (t : TypeId) (sz : Nat) (xs : List IV) (z : Option IV) (h : 0 < xs.length) : nilB P .eql t (.iv (.sl sz xs)) z M = nilC (tKind P t) false z M := by
  unfold nilB nilCmp nilC
  generalize tKind P t = kd
  cases kd with
  | none => rfl
  | some q => cases q <;> simp [h]
@[go_sem] theorem nilB_neq (t : TypeId) (sz : Nat) (xs : List IV) (z : Option IV) (h : 0 < xs.length) : nilB P .neq t (.iv (.sl sz xs)) z M = nilC (tKind P t) true z M := by
  unfold nilB nilCmp nilC
  generalize tKind P t = kd
  cases kd with
  | none => rfl
  | some q => cases q <;> simp [h]
@[go_sem] theorem eff_unOp_ (op : UnOp) (t : TypeId) (x : Operand) : eff P ⟨d, .unOp op t x, ty, pos, af, g⟩ ev M = (unAV op (ev x)).map fun v => (.p, .iv v, M) := rfl
def convV (P : Program) (src dst : TypeId) (x : AV) (M : List MO) : Option (Cls × AV × List MO) := match convAV P src dst x M with
    | some r => some r
    | none => strOf P src dst x M
@[go_sem] theorem eff_convert_ (src dst : TypeId) (x : Operand) : eff P ⟨d, .convert src dst x, ty, pos, af, g⟩ ev M = convV P src dst (ev x) M := rfl
def convKI (kd src : Option Kd) (n : Int) (M : List MO) : Option (Cls × AV × List MO) := match kd, src with
  | some (.int k), some _ => some (.p, .iv (.int k (k.wrap n)), M)
  | _, _ => none
@[go_sem] theorem convV_int (src dst : TypeId) (k' : IntKind) (n : Int) : convV P src dst (.iv (.int k' n)) M = convKI (tKind P dst) (tKind P src) n M := by
  unfold convV convAV convKI strOf
  cases h1 : tKind P dst with
  | none => simp
  | some kd =>
    cases kd <;> cases h2 : tKind P src <;> simp
    all_goals (cases h3 : tElem P src <;> simp [elems])
@[go_sem] theorem convKI_int (k : IntKind) (kd : Kd) (n : Int) : convKI (some (.int k)) (some kd) n M = some (.p, .iv (.int k (k.wrap n)), M) := rfl
def convB (kd : Option Kd) (e : Option Elem) (u8 : Bool) (ys : Option (List IV)) (M : List MO) : Option (Cls × AV × List MO) := match kd, e with
  | some .str, some _ => if u8 = true then ys.bind fun ys => (bytesOf? ys).map fun l => (.r, .iv (.str ⟨l.toArray⟩), M) else none
  | _, _ => none
@[go_sem] theorem convV_msl (src dst : TypeId) (k off len n : Nat) : convV P src dst (.msl k off len n) M = convB (tKind P dst) (tElem P src) (match tElem P src with | some e => isU8 P e.T | none => false) (elems M 1 (.msl k off len n)) M := by
  unfold convV convAV strOf convB
  cases h1 : tKind P dst with
  | none => simp
  | some kd => cases kd <;> cases h2 : tElem P src <;> simp [AV.isStr]
@[go_sem] theorem convB_str (e : Elem) (ys : Option (List IV)) : convB (some .str) (some e) true ys M = ys.bind fun ys => (bytesOf? ys).map fun l => (.r, .iv (.str ⟨l.toArray⟩), M) := rfl
@[go_sem] theorem eff_makeFunc_ (f : Nat) (caps : List Operand) : eff P ⟨d, .makeFunc (.func f) #[] caps.toArray, ty, pos, af, g⟩ ev M = some (.p, if caps.isEmpty then .iv (.fnc f) else .fn f (caps.map ev), M) := by
  cases caps <;> rfl
def makeV (P : Program) (t : TypeId) (l c : AV) (M : List MO) : Option (Cls × AV × List MO) := match l, c with
  | .iv (.int _ n), .iv (.int _ m) => (tElem P t).bind fun e => (constIV e.zero).bind fun z =>
    if 0 ≤ n ∧ n = m ∧ n * e.bytes ≤ 140737488355328 ∧ z.fits e.sz = true then some (.w, .msl M.length 0 n.toNat n.toNat, M ++ [.row true e.T e.sz (List.replicate n.toNat z)]) else none
  | _, _ => none
@[go_sem] theorem eff_makeSlice_ (t : TypeId) (l c : Operand) : eff P ⟨d, .makeSlice t l c, ty, pos, af, g⟩ ev M = makeV P t (ev l) (ev c) M := rfl
@[go_sem] theorem makeV_int (t : TypeId) (k k' : IntKind) (n m : Int) : makeV P t (.iv (.int k n)) (.iv (.int k' m)) M = (tElem P t).bind fun e => (constIV e.zero).bind fun z =>
    if 0 ≤ n ∧ n = m ∧ n * e.bytes ≤ 140737488355328 ∧ z.fits e.sz = true then some (.w, .msl M.length 0 n.toNat n.toNat, M ++ [.row true e.T e.sz (List.replicate n.toNat z)]) else none := rfl
@[go_sem] theorem eff_slice_ (t : TypeId) (x : Operand) (lo hi : Option Operand) : eff P ⟨d, .slice t x lo hi none, ty, pos, af, g⟩ ev M = (sliceAV P t M (ev x) (lo.map ev) (hi.map ev) none).map fun v => (.r, v, M) := by
  simp [eff]
@[go_sem] theorem eff_slice3_ (t : TypeId) (x : Operand) (lo : Option Operand) (hi mx : Operand) : eff P ⟨d, .slice t x lo (some hi) (some mx), ty, pos, af, g⟩ ev M = (sliceAV P t M (ev x) (lo.map ev) (some (ev hi)) (some (ev mx))).map fun v => (.r, v, M) := by
  simp [eff]
def fieldAddrV (off : Nat) (x : AV) (M : List MO) : Option (Cls × AV × List MO) := match x with
  | .mp k o => some (.p, .mp k (o + off), M)
  | .ip sz xs i c => some (.p, .ip sz xs i (c + off), M)
  | .rp k n i c => (rowAt M k n).map fun _ => (.r, .rp k n i (c + off), M)
  | _ => none
@[go_sem] theorem eff_fieldAddr_ (t : TypeId) (x : Operand) (f : Nat) : eff P ⟨d, .fieldAddr t x f, ty, pos, af, g⟩ ev M = (tField P t f).bind fun q => fieldAddrV q.1 (ev x) M := rfl
@[go_sem] theorem fieldAddrV_mp (off k o : Nat) : fieldAddrV off (.mp k o) M = some (.p, .mp k (o + off), M) := rfl
@[go_sem] theorem fieldAddrV_ip (off sz : Nat) (xs : List IV) (i c : Nat) : fieldAddrV off (.ip sz xs i c) M = some (.p, .ip sz xs i (c + off), M) := rfl
@[go_sem] theorem fieldAddrV_rp (off k n i c : Nat) : fieldAddrV off (.rp k n i c) M = (rowAt M k n).map fun _ => (.r, .rp k n i (c + off), M) := rfl
def fieldV (ag : Option Nat) (off : Nat) (x : AV) (M : List MO) : Option (Cls × AV × List MO) := match x with
  | .iv (.agg cs) => (elemPart ag (.agg cs) off).map fun v => (.p, .iv v, M)
  | .agg cs => (varPart ag cs off).map fun v => (.p, v, M)
  | _ => none
@[go_sem] theorem eff_field_ (t : TypeId) (x : Operand) (f : Nat) : eff P ⟨d, .field t x f, ty, pos, af, g⟩ ev M = (tField P t f).bind fun q => (tAgg P q.2).bind fun ag => fieldV ag q.1 (ev x) M := rfl
@[go_sem] theorem fieldV_iv (ag : Option Nat) (off : Nat) (cs : List IV) : fieldV ag off (.iv (.agg cs)) M = (elemPart ag (.agg cs) off).map fun v => (.p, .iv v, M) := rfl
@[go_sem] theorem fieldV_agg (ag : Option Nat) (off : Nat) (cs : List AV) : fieldV ag off (.agg cs) M = (varPart ag cs off).map fun v => (.p, v, M) := rfl
def indexAddrV (P : Program) (t : TypeId) (j : Int) (x : AV) (M : List MO) : Option (Cls × AV × List MO) := match x with
  | .iv (.sl sz xs) => (tElem P t).bind fun e => if 0 ≤ j ∧ j < xs.length ∧ sz = e.sz then some (.p, .ip sz xs j.toNat 0, M) else none
  | .msl k off len n => (tElem P t).bind fun e => (rowAt M k n).bind fun (_, _, sz, _) => if 0 ≤ j ∧ j < len ∧ sz = e.sz then some (.r, .rp k n (off + j.toNat) 0, M) else none
  | .mp k off => (tArr P t).bind fun (n, _, sz) => if 0 ≤ j ∧ j < n then some (.p, .mp k (off + j.toNat * sz), M) else none
  | _ => none
@[go_sem] theorem eff_indexAddr_ (t : TypeId) (x i : Operand) : eff P ⟨d, .indexAddr t x i, ty, pos, af, g⟩ ev M = (idx (ev i)).bind fun j => indexAddrV P t j (ev x) M := rfl
@[go_sem] theorem indexAddrV_sl (t : TypeId) (j : Int) (sz : Nat) (xs : List IV) : indexAddrV P t j (.iv (.sl sz xs)) M = (tElem P t).bind fun e => if 0 ≤ j ∧ j < xs.length ∧ sz = e.sz then some (.p, .ip sz xs j.toNat 0, M) else none := rfl
@[go_sem] theorem indexAddrV_msl (t : TypeId) (j : Int) (k off len n : Nat) : indexAddrV P t j (.msl k off len n) M = (tElem P t).bind fun e => (rowAt M k n).bind fun (_, _, sz, _) => if 0 ≤ j ∧ j < len ∧ sz = e.sz then some (.r, .rp k n (off + j.toNat) 0, M) else none := rfl
@[go_sem] theorem indexAddrV_mp (t : TypeId) (j : Int) (k off : Nat) : indexAddrV P t j (.mp k off) M = (tArr P t).bind fun (n, _, sz) => if 0 ≤ j ∧ j < n then some (.p, .mp k (off + j.toNat * sz), M) else none := rfl
def indexV (P : Program) (t : TypeId) (j : Int) (x : AV) (M : List MO) : Option (Cls × AV × List MO) := match x with
  | .iv (.str s) => if tKind P t matches some .str then if 0 ≤ j ∧ j < s.size then some (.p, .iv (.int .u8 (s.data.toList.getD j.toNat 0).toNat), M) else none else none
  | .iv (.agg cs) => (tArr P t).bind fun (n, et, sz) => (tAgg P et).bind fun ag => if 0 ≤ j ∧ j < n then (elemPart ag (.agg cs) (j.toNat * sz)).map fun v => (.p, .iv v, M) else none
  | _ => none
@[go_sem] theorem eff_index_ (t : TypeId) (x i : Operand) : eff P ⟨d, .index t x i, ty, pos, af, g⟩ ev M = (idx (ev i)).bind fun j => indexV P t j (ev x) M := rfl
@[go_sem] theorem indexV_str (t : TypeId) (j : Int) (s : ByteArray) : indexV P t j (.iv (.str s)) M = if tKind P t matches some .str then if 0 ≤ j ∧ j < s.size then some (.p, .iv (.int .u8 (s.data.toList.getD j.toNat 0).toNat), M) else none else none := rfl
@[go_sem] theorem indexV_agg (t : TypeId) (j : Int) (cs : List IV) : indexV P t j (.iv (.agg cs)) M = (tArr P t).bind fun (n, et, sz) => (tAgg P et).bind fun ag => if 0 ≤ j ∧ j < n then (elemPart ag (.agg cs) (j.toNat * sz)).map fun v => (.p, .iv v, M) else none := rfl
def extractV (i : Nat) (x : AV) (M : List MO) : Option (Cls × AV × List MO) := match x with
  | .iv (.tup vs) => (vs[i]?).map fun v => (.p, .iv v, M)
  | .tup vs => (vs[i]?).map fun v => (.p, v, M)
  | _ => none
@[go_sem] theorem eff_extract_ (x : Operand) (i : Nat) : eff P ⟨d, .extract x i, ty, pos, af, g⟩ ev M = extractV i (ev x) M := rfl
@[go_sem] theorem extractV_iv (i : Nat) (vs : List IV) : extractV i (.iv (.tup vs)) M = (vs[i]?).map fun v => (.p, .iv v, M) := rfl
@[go_sem] theorem extractV_tup (i : Nat) (vs : List AV) : extractV i (.tup vs) M = (vs[i]?).map fun v => (.p, v, M) := rfl
@[go_sem] theorem eff_builtin_ (b : Builtin) (args : List Operand) (ts : List TypeId) : eff P ⟨d, .call ⟨.builtin b, args.toArray, ts.toArray⟩, ty, pos, af, g⟩ ev M = builtinAV P b ts (args.map ev) M := rfl
@[go_sem] theorem isFCall_call (x : Operand) (args : Array Operand) (ts : Array TypeId) : isFCall ⟨d, .call ⟨.value x, args, ts⟩, ty, pos, af, g⟩ = true := rfl
@[go_sem] theorem isFCall_builtin (b : Builtin) (args : Array Operand) (ts : Array TypeId) : isFCall ⟨d, .call ⟨.builtin b, args, ts⟩, ty, pos, af, g⟩ = false := rfl

/-! builtins -/
def lenV (P : Program) (kd : Option Kd) (x : AV) (M : List MO) : Option (Cls × AV × List MO) := match kd with
  | some .slc => match x with | .iv (.str _) => none | _ => (lenAV M x).map fun (n : Nat) => (.r, .iv (.int .i64 (n : Int)), M)
  | some .str => match x with | .iv (.str s) => some (.p, .iv (.int .i64 s.size), M) | _ => none
  | _ => none
@[go_sem] theorem builtin_len_ (t : TypeId) (ts : List TypeId) (x : AV) : builtinAV P .len (t :: ts) [x] M = lenV P (tKind P t) x M := rfl
@[go_sem] theorem lenV_sl (sz : Nat) (xs : List IV) : lenV P (some .slc) (.iv (.sl sz xs)) M = some (.r, .iv (.int .i64 xs.length), M) := rfl
@[go_sem] theorem lenV_nilsl : lenV P (some .slc) .nilsl M = some (.r, .iv (.int .i64 (0 : Nat)), M) := rfl
@[go_sem] theorem lenV_msl (k off len n : Nat) : lenV P (some .slc) (.msl k off len n) M = ((rowAt M k n).bind fun _ => if off + len ≤ n then some len else none).map fun (n : Nat) => (.r, .iv (.int .i64 (n : Int)), M) := rfl
@[go_sem] theorem lenV_str (s : ByteArray) : lenV P (some .str) (.iv (.str s)) M = some (.p, .iv (.int .i64 s.size), M) := rfl
def appV (P : Program) (kd : Option Kd) (t : TypeId) (s x : AV) (M : List MO) : Option (Cls × AV × List MO) := match kd with
  | some .slc | some .str => (tElem P t).bind fun e => (appendAV M e s x).map fun (v, M') => (.w, v, M')
  | _ => none
@[go_sem] theorem builtin_append_ (t t2 : TypeId) (ts : List TypeId) (s x : AV) : builtinAV P .append (t :: t2 :: ts) [s, x] M = appV P (tKind P t2) t s x M := rfl
@[go_sem] theorem appV_slc (t : TypeId) (s x : AV) : appV P (some .slc) t s x M = (tElem P t).bind fun e => (appendAV M e s x).map fun (v, M') => (.w, v, M') := rfl
@[go_sem] theorem appV_str (t : TypeId) (s x : AV) : appV P (some .str) t s x M = (tElem P t).bind fun e => (appendAV M e s x).map fun (v, M') => (.w, v, M') := rfl
@[go_sem] theorem builtin_min_ (ts : List TypeId) (k : IntKind) (a : Int) (l : List AV) : builtinAV P .min ts (.iv (.int k a) :: l) M = (minAll k a l).map fun c => (.p, .iv (.int k c), M) := by cases ts <;> rfl
@[go_sem] theorem builtin_max_ (ts : List TypeId) (k : IntKind) (a : Int) (l : List AV) : builtinAV P .max ts (.iv (.int k a) :: l) M = (maxAll k a l).map fun c => (.p, .iv (.int k c), M) := by cases ts <;> rfl
@[go_sem] theorem minAll_nil (k : IntKind) (a : Int) : minAll k a [] = some a := rfl
@[go_sem] theorem minAll_cons (k : IntKind) (a b : Int) (l : List AV) : minAll k a (.iv (.int k b) :: l) = minAll k (min a b) l := by simp [minAll]
@[go_sem] theorem maxAll_nil (k : IntKind) (a : Int) : maxAll k a [] = some a := rfl
@[go_sem] theorem maxAll_cons (k : IntKind) (a b : Int) (l : List AV) : maxAll k a (.iv (.int k b) :: l) = maxAll k (max a b) l := by simp [maxAll]
@[go_sem] theorem builtin_clear_ (t : TypeId) (ts : List TypeId) (k off len n : Nat) : builtinAV P .clear (t :: ts) [.msl k off len n] M = (tElem P t).bind fun e => (constIV e.zero).bind fun z =>
      match M[k]? with
      | some (.row true T sz xs) => if n = xs.length ∧ off + len ≤ n ∧ sz = e.sz ∧ T = e.T ∧ z.fits e.sz = true then
          some (.w, .iv (.tup []), M.set k (.row true T sz (xs.take off ++ List.replicate len z ++ xs.drop (off + len)))) else none
      | _ => none := rfl
@[go_sem] theorem builtin_copy_ (t : TypeId) (ts : List TypeId) (k off len n : Nat) (x : AV) : builtinAV P .copy (t :: ts) [.msl k off len n, x] M = (tElem P t).bind fun e => (elems M e.sz x).bind fun ys =>
      match M[k]? with
      | some (.row true T sz xs) => if n = xs.length ∧ off + len ≤ n ∧ sz = e.sz ∧ T = e.T then
          some (.w, .iv (.int .i64 (min ys.length len : Nat)), M.set k (.row true T sz (xs.take off ++ ys.take (min ys.length len) ++ xs.drop (off + min ys.length len)))) else none
      | _ => none := rfl

/-! appends -/
@[go_sem] theorem append_nilsl (e : Elem) (x : AV) : appendAV M e .nilsl x = (elems M e.sz x).bind fun ys => if ys.length * e.bytes ≤ 140737488355328 then some (.msl M.length 0 ys.length ys.length, M ++ [.row true e.T e.sz ys]) else none := rfl
@[go_sem] theorem append_msl (e : Elem) (k off len n : Nat) (x : AV) : appendAV M e (.msl k off len n) x = (elems M e.sz x).bind fun ys =>
      match M[k]? with
      | some (.row true T sz xs) => if n = xs.length ∧ off = 0 ∧ len = n ∧ sz = e.sz ∧ T = e.T ∧ (n + ys.length) * e.bytes ≤ 140737488355328 then
          some (.msl k 0 (n + ys.length) (n + ys.length), M.set k (.row true T sz (xs ++ ys))) else none
      | _ => none := rfl
@[go_sem] theorem elems_sl (sz sz' : Nat) (xs : List IV) : elems M sz (.iv (.sl sz' xs)) = if sz' = sz ∨ xs = [] then some xs else none := rfl
@[go_sem] theorem elems_nilsl (sz : Nat) : elems M sz .nilsl = some [] := rfl
@[go_sem] theorem elems_msl (sz k off len n : Nat) : elems M sz (.msl k off len n) = (rowAt M k n).bind fun (_, _, sz', xs) => if sz' = sz ∧ off + len ≤ n then some ((xs.drop off).take len) else none := rfl
@[go_sem] theorem elems_str (sz : Nat) (s : ByteArray) : elems M sz (.iv (.str s)) = if sz = 1 then some (s.data.toList.map fun b => .int .u8 b.toNat) else none := rfl

/-! values -/
@[go_sem] theorem ev_tmp (n nb : Nat) (t : Nat → AV) (M : List MO) (x : Tmp) : St.ev ⟨n, t, M, nb⟩ (.tmp x) = t x := rfl
@[go_sem] theorem ev_const (v : Value) : St.ev s (.const v) = constAV v := rfl
@[go_sem] theorem ev_func (f : FuncId) : St.ev s (.func f) = .iv (.fnc f) := rfl
@[go_sem] theorem constAV_int (k : IntKind) (n : Int) : constAV (.int k n) = .iv (.int k n) := rfl
@[go_sem] theorem constAV_bool (b : Bool) : constAV (.bool b) = .iv (.bool b) := rfl
@[go_sem] theorem constAV_str (b : ByteArray) : constAV (.string b) = .iv (.str b) := rfl
@[go_sem] theorem constAV_nilp : constAV (.pointer none) = .iv .nilp := rfl
@[go_sem] theorem constAV_nil : constAV (.slice none 0 0) = .nilsl := rfl
@[go_sem] theorem constAV_map : constAV (.map none) = .any := rfl
@[go_sem] theorem constAV_nilf : constAV .nilFunc = .any := rfl
@[go_sem] theorem constAV_agg (l : List Value) : constAV (.agg l.toArray) = mkAgg (l.map constCell) := rfl
@[go_sem] theorem constCell_int (k : IntKind) (n : Int) : constCell (.int k n) = .iv (.int k n) := rfl
@[go_sem] theorem constCell_bool (b : Bool) : constCell (.bool b) = .iv (.bool b) := rfl
@[go_sem] theorem constCell_str (b : ByteArray) : constCell (.string b) = .iv (.str b) := rfl
@[go_sem] theorem constCell_nilp : constCell (.pointer none) = .iv .nilp := rfl
@[go_sem] theorem constCell_nil : constCell (.slice none 0 0) = .nilsl := rfl
@[go_sem] theorem constCell_map : constCell (.map none) = .any := rfl
@[go_sem] theorem constIV_int (k : IntKind) (n : Int) : constIV (.int k n) = some (.int k n) := rfl
@[go_sem] theorem constIV_bool (b : Bool) : constIV (.bool b) = some (.bool b) := rfl
@[go_sem] theorem constIV_str (b : ByteArray) : constIV (.string b) = some (.str b) := rfl
@[go_sem] theorem constIV_nil : constIV (.slice none 0 0) = some (.sl 0 []) := rfl
@[go_sem] theorem constIV_nilp : constIV (.pointer none) = some .nilp := rfl
@[go_sem] theorem constIV_agg (l : List Value) : constIV (.agg l.toArray) = (l.mapM constIVcell).map .agg := rfl
@[go_sem] theorem put_none (v : AV) : s.put none v = s := rfl
@[go_sem] theorem put_some (n nb : Nat) (t : Nat → AV) (x : Nat) (v : AV) : St.put ⟨n, t, M, nb⟩ (some x) v = ⟨n, upd t x v, M, nb⟩ := rfl
@[go_sem] theorem upd_at (t : Nat → AV) (x i : Nat) (v : AV) : upd t x v i = if i = x then v else t i := rfl
@[go_sem] theorem want_none (dd : Option Tmp) (op : Op) : s.want ops ⟨dd, op, ty, pos, af, none⟩ = some true := rfl
def wantV (w : Bool) (x : AV) : Option Bool := match x with
  | .iv (.bool b) => some (b == w)
  | .iv (.tup []) => some false
  | _ => none
@[go_sem] theorem wantV_skipped (w : Bool) : wantV w (.iv (.tup [])) = some false := rfl
def wantD (w : Bool) (t : Nat → AV) (x : Option Tmp) : Option Bool := match x with
  | some d => wantV w (t d)
  | none => none
@[go_sem] theorem want_some (n nb : Nat) (t : Nat → AV) (dd : Option Tmp) (op : Op) (j : Nat) (w : Bool) : St.want ops ⟨n, t, M, nb⟩ ⟨dd, op, ty, pos, af, some (j, w)⟩ = wantD w t ((ops[j]?).bind (·.dst)) := by
  unfold St.want wantD wantV
  dsimp only
  cases (ops[j]?).bind (·.dst) <;> rfl
@[go_sem] theorem wantD_some (w : Bool) (t : Nat → AV) (x : Tmp) : wantD w t (some x) = wantV w (t x) := rfl
@[go_sem] theorem wantV_bool (w b : Bool) : wantV w (.iv (.bool b)) = some (b == w) := rfl
@[go_sem] theorem idx_int (k : IntKind) (j : Int) : idx (.iv (.int k j)) = some j := rfl
@[go_sem] theorem bound_none_ (n : Nat) : bound none n = some (n : Int) := rfl
@[go_sem] theorem bound_some_ (x : AV) (n : Nat) : bound (some x) n = idx x := rfl
@[go_sem] theorem cells_agg (cs : List IV) : AV.cells (.iv (.agg cs)) = some (cs.map .iv) := rfl
@[go_sem] theorem cells_agg' (cs : List AV) : AV.cells (.agg cs) = some cs := rfl
@[go_sem] theorem cells_int (k : IntKind) (n : Int) : AV.cells (.iv (.int k n)) = some [.iv (.int k n)] := rfl
@[go_sem] theorem cells_bool (b : Bool) : AV.cells (.iv (.bool b)) = some [.iv (.bool b)] := rfl
@[go_sem] theorem cells_str (b : ByteArray) : AV.cells (.iv (.str b)) = some [.iv (.str b)] := rfl
@[go_sem] theorem cells_nilp : AV.cells (.iv .nilp) = some [.iv .nilp] := rfl
@[go_sem] theorem cells_fnc (f : Nat) : AV.cells (.iv (.fnc f)) = some [.iv (.fnc f)] := rfl
@[go_sem] theorem cells_sl (sz : Nat) (xs : List IV) : AV.cells (.iv (.sl sz xs)) = some [.iv (.sl sz xs)] := rfl
@[go_sem] theorem cells_nilsl : AV.cells .nilsl = some [.nilsl] := rfl
@[go_sem] theorem cells_msl (k off len n : Nat) : AV.cells (.msl k off len n) = some [.msl k off len n] := rfl
@[go_sem] theorem cells_mp (k off : Nat) : AV.cells (.mp k off) = some [.mp k off] := rfl
@[go_sem] theorem cells_fn (f : Nat) (cs : List AV) : AV.cells (.fn f cs) = some [.fn f cs] := rfl
@[go_sem] theorem icells_agg (cs : List IV) : IV.cells (.agg cs) = cs := rfl
@[go_sem] theorem icells_int (k : IntKind) (n : Int) : IV.cells (.int k n) = [.int k n] := rfl
@[go_sem] theorem icells_bool (b : Bool) : IV.cells (.bool b) = [.bool b] := rfl
@[go_sem] theorem icells_str (b : ByteArray) : IV.cells (.str b) = [.str b] := rfl
@[go_sem] theorem icells_sl (sz : Nat) (xs : List IV) : IV.cells (.sl sz xs) = [.sl sz xs] := rfl
@[go_sem] theorem fits_int (k : IntKind) (n : Int) : IV.fits 1 (.int k n) = true := rfl
@[go_sem] theorem fits_bool (b : Bool) : IV.fits 1 (.bool b) = true := rfl
@[go_sem] theorem fits_str (b : ByteArray) : IV.fits 1 (.str b) = true := rfl
@[go_sem] theorem fits_sl (sz : Nat) (xs : List IV) : IV.fits 1 (.sl sz xs) = true := rfl
@[go_sem] theorem fits_agg (sz : Nat) (cs : List IV) : IV.fits sz (.agg cs) = (cs.length == sz && cs.all IV.one) := rfl
attribute [go_sem] IV.one AV.one ivs mkAgg varPart elemPart setCells putElem cellF cellsF toIVF partsF fillRow fillAV argsF argsT
@[go_sem] theorem bin_int (op : BinOp) (t : TypeId) (k k' : IntKind) (a b : Int) : binAV P op t (.iv (.int k a)) (.iv (.int k' b)) = if isShift op = true then shiftI op k a b else if k = k' then numBin op k a b else none := rfl
@[go_sem] theorem bin_str (op : BinOp) (t : TypeId) (a b : ByteArray) : binAV P op t (.iv (.str a)) (.iv (.str b)) = strBin op a b := rfl
def boolBin (kd : Option Kd) (op : BinOp) (a b : Bool) : Option IV := match kd, op with
    | some .bool, .eql => some (.bool (a == b))
    | some .bool, .neq => some (.bool (!(a == b)))
    | _, _ => none
@[go_sem] theorem bin_bool (op : BinOp) (t : TypeId) (a b : Bool) : binAV P op t (.iv (.bool a)) (.iv (.bool b)) = boolBin (tKind P t) op a b := rfl
@[go_sem] theorem boolBin_eql (a b : Bool) : boolBin (some .bool) .eql a b = some (.bool (a == b)) := rfl
@[go_sem] theorem boolBin_neq (a b : Bool) : boolBin (some .bool) .neq a b = some (.bool (!(a == b))) := rfl
def ptrBin (kd : Option Kd) (op : BinOp) (b : Bool) : Option IV := match kd, op with
    | some .ptr, .eql => some (.bool b)
    | some .ptr, .neq => some (.bool (!b))
    | _, _ => none
@[go_sem] theorem bin_mp (op : BinOp) (t : TypeId) (k off : Nat) : binAV P op t (.mp k off) (.iv .nilp) = ptrBin (tKind P t) op false := by
  unfold binAV ptrBin
  cases tKind P t with
  | none => cases op <;> rfl
  | some kd => cases kd <;> cases op <;> rfl
@[go_sem] theorem bin_nilp (op : BinOp) (t : TypeId) : binAV P op t (.iv .nilp) (.iv .nilp) = ptrBin (tKind P t) op true := by
  unfold binAV ptrBin
  cases tKind P t with
  | none => cases op <;> rfl
  | some kd => cases kd <;> cases op <;> rfl
@[go_sem] theorem ptrBin_eql (b : Bool) : ptrBin (some .ptr) .eql b = some (.bool b) := rfl
@[go_sem] theorem ptrBin_neq (b : Bool) : ptrBin (some .ptr) .neq b = some (.bool (!b)) := rfl
attribute [go_sem] isShift numBin shiftI strBin unAV
@[go_sem] theorem resAV_tmp_ (t : Tmp) : resAV P s (.tmp t) = some (s.t t) := rfl
attribute [go_sem] resAV resAVs one? retV postQ isFCall rowAt
@[go_sem ↓] theorem thenQ_normal (K : St → Prop) (Q : Exit → St → Prop) (s : St) : thenQ K Q .normal s = K s := Eq.trans rfl rfl
@[go_sem ↓] theorem thenQ_exit (K : St → Prop) (Q : Exit → St → Prop) (i : Nat) (s : St) : thenQ K Q (.exit i) s = Q (.exit i) s := Eq.trans rfl rfl
@[go_sem ↓] theorem thenQ_ret (K : St → Prop) (Q : Exit → St → Prop) (s : St) : thenQ K Q .ret s = Q .ret s := Eq.trans rfl rfl
@[go_sem ↓] theorem blockQ_normal (i : Nat) (Q : Exit → St → Prop) (s : St) : blockQ i Q .normal s = Q .normal s := Eq.trans rfl rfl
theorem blockQ_exit_same (i : Nat) (Q : Exit → St → Prop) (s : St) : blockQ i Q (.exit i) s = Q .normal s := by simp [blockQ]
theorem blockQ_exit_ne {i j : Nat} (Q : Exit → St → Prop) (s : St) (h : (i == j) = false) : blockQ j Q (.exit i) s = Q (.exit i) s := by
  have : i ≠ j := by simpa using h
  simp [blockQ, this]
@[go_sem ↓] theorem blockQ_exit (i j : Nat) (Q : Exit → St → Prop) (s : St) : blockQ j Q (.exit i) s = if i = j then Q .normal s else Q (.exit i) s := Eq.trans rfl rfl
@[go_sem ↓] theorem blockQ_ret (i : Nat) (Q : Exit → St → Prop) (s : St) : blockQ i Q .ret s = Q .ret s := Eq.trans rfl rfl
@[go_sem ↓] theorem scopeQ_normal (Q : Exit → St → Prop) (s : St) : scopeQ Q .normal s = Q .normal s := Eq.trans rfl rfl
@[go_sem ↓] theorem scopeQ_exit (i : Nat) (Q : Exit → St → Prop) (s : St) : scopeQ Q (.exit i) s = Q (.exit i) s := Eq.trans rfl rfl
@[go_sem ↓] theorem scopeQ_ret (Q : Exit → St → Prop) (s : St) : scopeQ Q .ret s = Q .ret s := Eq.trans rfl rfl
attribute [go_sem] if_true if_false Option.bind_some Option.bind_none Option.map_some Option.map_none List.map_cons List.map_nil List.getElem?_cons_zero List.getElem?_cons_succ List.getElem?_nil List.length_cons List.length_nil List.length_map
  List.nil_append List.cons_append List.append_nil List.set_cons_zero List.set_cons_succ List.set_nil List.take_zero List.take_succ_cons List.take_nil List.drop_zero List.drop_succ_cons List.drop_nil List.all_cons List.all_nil List.isEmpty_cons List.isEmpty_nil
  true_and and_true false_and and_false true_or or_true false_or or_false and_self or_self not_true_eq_false not_false_eq_true Bool.and_true Bool.true_and Bool.and_false Bool.false_and Bool.or_true Bool.true_or Bool.or_false Bool.false_or Bool.not_true Bool.not_false
  Bool.false_eq_true decide_true decide_false ite_self List.replicate_zero List.replicate_succ Nat.add_zero Nat.zero_add Nat.mul_one List.drop_append_of_le_length
  forall_const true_implies false_implies implies_true Bool.not_eq_true Bool.not_eq_false beq_self_eq_true
@[go_sem] theorem beq_bool_true (b : Bool) : (b == true) = b := by cases b <;> rfl
@[go_sem] theorem beq_bool_false (b : Bool) : (b == false) = !b := by cases b <;> rfl
theorem wantK_split {b : Bool} {f : Bool → Prop} {t : Tok f} (h1 : b = true → f true) (h0 : b = false → f false) : wantT (some b) f t := ⟨h1, h0⟩
def condT (v : AV) (A B : Prop) (_ : Tok (A, B)) : Prop := match v with
  | .iv (.bool b) => (b = true → A) ∧ (b = false → B)
  | _ => False
@[go_sem] theorem condK_true (A B : Prop) (t : Tok (A, B)) : condT (.iv (.bool true)) A B t = A := by simp [condT]
@[go_sem] theorem condK_false (A B : Prop) (t : Tok (A, B)) : condT (.iv (.bool false)) A B t = B := by simp [condT]
theorem condK_split {b : Bool} {A B : Prop} {t : Tok (A, B)} (h1 : b = true → A) (h0 : b = false → B) : condT (.iv (.bool b)) A B t := ⟨h1, h0⟩
theorem aw_condK {c : Operand} {x y : Code} {Q : Exit → St → Prop} (h : condT (s.ev c) (aw P x Q s) (aw P y Q s) ⟨()⟩) : aw P (.cond c x y) Q s := by
  unfold condT at h
  split at h
  · rename_i b hb
    exact aw_cond hb h.1 h.2
  · exact h.elim
theorem pickV_split {b : Bool} {x y : AV} {F : AV → List MO → Prop} {t : Tok F} (h1 : b = true → F x M) (h0 : b = false → F y M) : effT (pickV (.iv (.bool b)) x y M) F t := by
  cases b
  · exact h0 rfl
  · exact h1 rfl
attribute [go_sem] decide_eq_true_eq decide_eq_false_iff_not Bool.not_eq_true' Bool.not_eq_false' reduceCtorEq
end

/-! ### numbers, where nothing wraps -/
theorem wrapS {x : Int} (h : -9223372036854775808 ≤ x ∧ x ≤ 9223372036854775807) : IntKind.i64.wrap x = x := wrap_i64_id h.1 h.2
theorem wrapU {x : Int} (h : 0 ≤ x ∧ x ≤ 18446744073709551615) : IntKind.u64.wrap x = x := by
  show (if (false && decide (x % (2 ^ 64 : Int) ≥ (2 ^ (64 - 1) : Int))) = true then x % (2 ^ 64 : Int) - (2 ^ 64 : Int) else x % (2 ^ 64 : Int)) = x
  simp only [Bool.false_and, Bool.false_eq_true, if_false]
  omega
theorem wrapB {x : Int} (h : 0 ≤ x ∧ x ≤ 255) : IntKind.u8.wrap x = x := by
  show (if (false && decide (x % (2 ^ 8 : Int) ≥ (2 ^ (8 - 1) : Int))) = true then x % (2 ^ 8 : Int) - (2 ^ 8 : Int) else x % (2 ^ 8 : Int)) = x
  simp only [Bool.false_and, Bool.false_eq_true, if_false]
  omega
theorem tdivS {a b : Int} (h : 0 ≤ a) : a.tdiv b = a / b := Int.tdiv_eq_ediv_of_nonneg h
theorem tmodS {a b : Int} (h : 0 ≤ a) : a.tmod b = a % b := Int.tmod_eq_emod_of_nonneg h
theorem mapGetI {f : Int → IV} {l : List Int} {i : Nat} (h : i < l.length) : (l.map f)[i]? = some (f (l.getD i 0)) := by
  rw [List.getElem?_map, List.getElem?_eq_getElem h]
  simp [List.getD, h]
theorem mapGetB {f : Bool → IV} {l : List Bool} {i : Nat} (h : i < l.length) : (l.map f)[i]? = some (f (l.getD i false)) := by
  rw [List.getElem?_map, List.getElem?_eq_getElem h]
  simp [List.getD, h]
theorem replGet {x : IV} {n i : Nat} (h : i < n) : (List.replicate n x)[i]? = some x := by simp [h]
theorem getMap {α : Type} {f : α → IV} {l : List α} {i : Nat} {x : α} (h : l[i]? = some x) : (l.map f)[i]? = some (f x) := by rw [List.getElem?_map, h]; rfl
theorem natCast_zero : ((0 : Nat) : Int) = 0 := rfl
theorem natCast_one : ((1 : Nat) : Int) = 1 := rfl
theorem beq_int {a b : Int} : (a == b) = decide (a = b) := by
  by_cases h : a = b <;> simp [h]
theorem bne_int {a b : Int} : (a != b) = decide (¬ a = b) := by
  by_cases h : a = b <;> simp [h]

end Go.Proofs.Ytebegdnebjjnmaa.AM
