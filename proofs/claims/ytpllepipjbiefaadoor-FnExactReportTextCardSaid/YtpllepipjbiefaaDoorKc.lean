/- Codes of plain values, rules on them, and the frame of a law. No condition. -/
import Derived.Test.YtpllepipjbiefaaDoorKb
import Derived.ProofKit
import Derived.OpenShut
import Derived.ShutString
import Derived.ChangeOld
import Derived.Below
import Derived.Lib.ItoaNum
set_option linter.unusedVariables false
set_option linter.unusedSimpArgs false
namespace AS
open Go

/-! ### How plain values are written as data -/
structure Cd (α : Type) where
  enc : α → D
  sz : Nat
  ag : Bool
  im : Bool
  h_sz : ∀ a, (enc a).size = sz
  h_ag : ∀ a, (enc a).isAgg = ag
  h_im : ∀ a, (enc a).imm = im

def cK (k : IntKind) : Cd Int := ⟨fun n => .int k n, 1, false, true, fun _ => by simp [D.size], fun _ => rfl, fun _ => by simp [D.imm]⟩
def cI : Cd Int := cK .i64
def cU : Cd Int := cK .u8
def cB : Cd Bool := ⟨fun b => .bool b, 1, false, true, fun _ => by simp [D.size], fun _ => rfl, fun _ => by simp [D.imm]⟩
def cS : Cd (List UInt8) := ⟨fun s => .str s, 1, false, true, fun _ => by simp [D.size], fun _ => rfl, fun _ => by simp [D.imm]⟩
theorem imms_map {α : Type} (c : Cd α) (h : c.im = true) (l : List α) : D.imms (l.map c.enc) = true := by
  rw [D.imms_iff]; intro x hx; obtain ⟨n, _, rfl⟩ := List.mem_map.1 hx; rw [c.h_im, h]
def cLo {α : Type} (c : Cd α) : Cd (List α) := ⟨fun l => .slice true (l.map c.enc), 1, false, false, fun _ => by simp [D.size], fun _ => rfl, fun _ => by simp [D.imm]⟩
def cLs {α : Type} (c : Cd α) (h : c.im = true) : Cd (List α) := ⟨fun l => .slice false (l.map c.enc), 1, false, true, fun _ => by simp [D.size], fun _ => rfl, fun l => by simp [D.imm, imms_map c h l]⟩
/-- A list that has been taken out. -/
def cH {α : Type} : Cd α := ⟨fun _ => .hole, 1, false, false, fun _ => by simp [D.size], fun _ => rfl, fun _ => by simp [D.imm]⟩
/-- Pointers to variables, and function values: what they hold. -/
def cP {α : Type} (o : Bool) (c : Cd α) : Cd α := ⟨fun a => .ptr o (c.enc a), 1, false, !o && c.im, fun _ => by simp [D.size], fun _ => rfl, fun a => by simp [D.imm, c.h_im]⟩
def cFn {α : Type} (g : Nat) (caps : α → List D) (im : Bool) (h : ∀ a, D.imms (caps a) = im) : Cd α := ⟨fun a => .fn g (caps a), 1, false, im, fun _ => by simp [D.size], fun _ => rfl, fun a => by simp [D.imm, h]⟩
/-- A list that may be nil, and it is known whether it is. -/
def cNo {α : Type} (c : Cd α) : Cd (Option (List α)) := ⟨fun v => match v with | none => .nilo | some l => .slice true (l.map c.enc), 1, false, false, fun v => by cases v <;> simp [D.size], fun v => by cases v <;> rfl, fun v => by cases v <;> simp [D.imm]⟩
def cNs {α : Type} (c : Cd α) (h : c.im = true) : Cd (Option (List α)) := ⟨fun v => match v with | none => .nil | some l => .slice false (l.map c.enc), 1, false, true, fun v => by cases v <;> simp [D.size], fun v => by cases v <;> rfl, fun v => by cases v <;> simp [D.imm, imms_map c h]⟩
theorem sizesAll_map {α : Type} (c : Cd α) {sz : Nat} (h : c.sz = sz) (l : List α) : sizesAll sz (l.map c.enc) := by
  intro x hx; obtain ⟨n, _, rfl⟩ := List.mem_map.1 hx; rw [c.h_sz, h]

structure ToI {α : Type} (c : Cd α) (c' : Cd α) : Prop where
  h : ∀ a, (c.enc a).toImm = c'.enc a
  im : c'.im = true
theorem tK {k : IntKind} : ToI (cK k) (cK k) := ⟨fun _ => by simp [cK, D.toImm], rfl⟩
theorem tB : ToI cB cB := ⟨fun _ => by simp [cB, D.toImm], rfl⟩
theorem tS : ToI cS cS := ⟨fun _ => by simp [cS, D.toImm], rfl⟩
theorem toImms_map {α : Type} (c c' : Cd α) (t : ToI c c') (l : List α) : D.toImms (l.map c.enc) = l.map c'.enc := by
  rw [D.toImms_eq, List.map_map]; exact List.map_congr_left fun a _ => t.h a
theorem tLo {α : Type} {c c' : Cd α} (t : ToI c c') : ToI (cLo c) (cLs c' t.im) := ⟨fun l => by simp [cLo, cLs, D.toImm, toImms_map c c' t l], rfl⟩
theorem tLs {α : Type} {c c' : Cd α} {h : c.im = true} (t : ToI c c') : ToI (cLs c h) (cLs c' t.im) := ⟨fun l => by simp [cLs, D.toImm, toImms_map c c' t l], rfl⟩

theorem tP {α : Type} {o : Bool} {c c' : Cd α} (t : ToI c c') : ToI (cP o c) (cP false c') := ⟨fun a => by simp [cP, D.toImm, t.h], by simp [cP, t.im]⟩
theorem tFn {α : Type} {g : Nat} {caps caps' : α → List D} {im : Bool} {h : ∀ a, D.imms (caps a) = im} {h' : ∀ a, D.imms (caps' a) = true} (e : ∀ a, D.toImms (caps a) = caps' a) : ToI (cFn g caps im h) (cFn g caps' true h') :=
  ⟨fun a => by simp [cFn, D.toImm, e], rfl⟩
theorem ti0 : D.toImms [] = [] := by simp [D.toImms]
theorem ti1 {α : Type} {o : Bool} {c c' : Cd α} {a : α} {l l' : List D} (t : ToI c c') (h : D.toImms l = l') : D.toImms (.ptr o (c.enc a) :: l) = .ptr false (c'.enc a) :: l' := by simp [D.toImms, D.toImm, t.h, h]
theorem im0 : D.imms [] = true := by simp [D.imms]
theorem im1 {α : Type} {c : Cd α} {a : α} {l : List D} {b : Bool} (i : c.im = true) (h : D.imms l = b) : D.imms (.ptr false (c.enc a) :: l) = b := by simp [D.imms, D.imm, c.h_im, i, h]
theorem imo {x : D} {l : List D} : D.imms (.ptr true x :: l) = false := by simp [D.imms, D.imm]
theorem iml {α : Type} {c : Cd α} {a : α} {l : List D} (h : D.imms l = false) : D.imms (.ptr false (c.enc a) :: l) = false := by simp [D.imms, h]

theorem tNo {α : Type} {c c' : Cd α} (t : ToI c c') : ToI (cNo c) (cNs c' t.im) := ⟨fun v => by cases v <;> simp [cNo, cNs, D.toImm, toImms_map c c' t], rfl⟩
theorem tNs {α : Type} {c c' : Cd α} {h : c.im = true} (t : ToI c c') : ToI (cNs c h) (cNs c' t.im) := ⟨fun v => by cases v <;> simp [cNs, D.toImm, toImms_map c c' t], rfl⟩

structure Sol {α : Type} (c : Cd α) : Prop where
  h : ∀ a, (c.enc a).solid = true
theorem sK {k : IntKind} : Sol (cK k) := ⟨fun _ => by simp [cK, D.solid]⟩
theorem sB : Sol cB := ⟨fun _ => by simp [cB, D.solid]⟩
theorem sS : Sol cS := ⟨fun _ => by simp [cS, D.solid]⟩
theorem sLo {α : Type} {c : Cd α} (t : Sol c) : Sol (cLo c) := ⟨fun l => by
  simp only [cLo, D.solid, Bool.true_or, Bool.true_and]
  rw [D.solids_iff]; intro x hx; obtain ⟨n, _, rfl⟩ := List.mem_map.1 hx; exact t.h n⟩

theorem sNo {α : Type} {c : Cd α} (t : Sol c) : Sol (cNo c) := ⟨fun v => by
  cases v with
  | none => simp [cNo, D.solid]
  | some l =>
    simp only [cNo, D.solid, Bool.true_or, Bool.true_and]
    rw [D.solids_iff]; intro x hx; obtain ⟨n, _, rfl⟩ := List.mem_map.1 hx; exact t.h n⟩

/-! ### The words -/
section
variable {R σ α : Type}
def ckK (k : IntKind) (n : Int) (f : Option R) : Option R := match k with
  | .i64 => if -9223372036854775808 ≤ n ∧ n ≤ 9223372036854775807 then f else none
  | .i32 => if -2147483648 ≤ n ∧ n ≤ 2147483647 then f else none
  | .u8 => if 0 ≤ n ∧ n ≤ 255 then f else none
  | .u64 => if 0 ≤ n ∧ n ≤ 18446744073709551615 then f else none
  | _ => none
def ckI (n : Int) (f : Option R) : Option R := if -9223372036854775808 ≤ n ∧ n ≤ 9223372036854775807 then f else none
def ckU (n : Int) (f : Option R) : Option R := if 0 ≤ n ∧ n ≤ 255 then f else none
/-- A condition. -/
def ck (p : Prop) [Decidable p] (f : Option R) : Option R := if p then f else none
def getO (l : List α) (i : Int) (f : α → Option R) : Option R := if 0 ≤ i then (match l[i.toNat]? with | some x => f x | none => none) else none
/-- Is a slice nil? Where it is empty, both answers are open. -/
def nilO [DecidableEq R] (l : List α) (ne : Bool) (f : Bool → Option R) : Option R :=
  if l.isEmpty then (match f true with | none => none | some a => if f false = some a then some a else none) else f ne
def mkO (n : Int) (f : Option R) : Option R := if 0 ≤ n ∧ n ≤ 1099511627776 then f else none
def lnO (n : Nat) (f : Option R) : Option R := if n ≤ 1099511627776 then f else none
def lmO (n : Nat) (f : Option R) : Option R := if n ≤ 9223372036854775807 then f else none
def loopF (body : (σ → Option R) → σ → Option R) : Nat → σ → Option R
  | 0, _ => none
  | n + 1, s => body (loopF body n) s
def FUEL : Nat := 2 ^ 100
def rangeF (body : Nat → α → σ → (σ → Option R) → Option R) (fin : σ → Option R) : List α → Nat → σ → Option R
  | [], _, s => fin s
  | x :: l, k, s => body k x s (rangeF body fin l (k + 1))
def bytesOf (l : List Int) : List UInt8 := l.map fun n => UInt8.ofNat n.toNat
/-- A join. -/
def jn (f : σ → Option R) (k : (σ → Option R) → Option R) : Option R := k f

theorem ckI_pos {n : Int} {f : Option R} (h1 : -9223372036854775808 ≤ n) (h2 : n ≤ 9223372036854775807) : ckI n f = f := if_pos ⟨h1, h2⟩
theorem ckU_pos {n : Int} {f : Option R} (h1 : 0 ≤ n) (h2 : n ≤ 255) : ckU n f = f := if_pos ⟨h1, h2⟩
theorem ck_pos {p : Prop} [Decidable p] {f : Option R} (h : p) : ck p f = f := if_pos h
theorem mkO_pos {n : Int} {f : Option R} (h1 : 0 ≤ n) (h2 : n ≤ 1099511627776) : mkO n f = f := if_pos ⟨h1, h2⟩
theorem lnO_pos {n : Nat} {f : Option R} (h : n ≤ 1099511627776) : lnO n f = f := if_pos h
theorem lmO_pos {n : Nat} {f : Option R} (h : n ≤ 9223372036854775807) : lmO n f = f := if_pos h
theorem getO_nat {l : List α} {k : Nat} {f : α → Option R} (h : k < l.length) : getO l (k : Int) f = f l[k] := by
  simp [getO, h]
theorem getO_pos {l : List α} {i : Int} {f : α → Option R} (h0 : 0 ≤ i) (h : i.toNat < l.length) : getO l i f = f l[i.toNat] := by
  simp [getO, h, h0]

/-- A loop gives what is claimed. -/
theorem loopF_eq {body : (σ → Option R) → σ → Option R} (I : σ → Prop) (mu : σ → Nat) (F : σ → Option R)
    (step : ∀ s next, I s → (∀ s', I s' → mu s' < mu s → next s' = F s') → body next s = F s) :
    ∀ (n : Nat) (s : σ), I s → mu s < n → loopF body n s = F s := by
  intro n
  induction n with
  | zero => intro s _ h; omega
  | succ n ih =>
    intro s hs hm
    exact step s _ hs fun s' h1 h2 => ih s' h1 (by omega)
end
end AS
set_option linter.unusedVariables false
set_option linter.unusedSimpArgs false
namespace AS
open Go

theorem evP_evW {P : Program} {T : Nat → SV} {k : MK} {K : SV → Prop} (h : evP P T k K) : evW P T k K := by
  unfold evP at h
  split at h
  · split at h
    · rename_i he; simp only [evW, he]; exact fun _ => h.2
    · exact h.elim
  · split at h
    · rename_i he; simp only [evW, he]; exact fun _ => h.2
    · rename_i he; simp only [evW, he]; exact h
    · exact h.elim
  · split at h
    · rename_i he; simp only [evW, he]; exact h
    · rename_i he; simp only [evW, he]; exact h
    · rename_i he; simp only [evW, he]; exact ⟨fun _ => h.2, fun e => absurd e h.1⟩
    · exact h.elim
  · exact h

/-! ### States that are quick to look into -/
def kE (d : Nat) : SV → SV
  | .ref r p => bif Nat.beq r d then .un else .ref r p
  | .adr r p => bif Nat.beq r d then .un else .adr r p
  | .mad r p => bif Nat.beq r d then .un else .mad r p
  | .un => .un
  | .d x => .d x
  | .box x => .box x
  | .tup l => .tup l
  | .ima x => .ima x
def pt (T : Nat → SV) (d : Nat) (s : SV) : Nat → SV := fun t => bif Nat.beq t d then s else kE d (T t)
def gl : TL → Nat → SV
  | [], _ => .un
  | (t, s) :: L, n => bif Nat.beq n t then s else gl L n
def eT (T : Nat → SV) (d : Nat) (s : SV) : Nat → SV := fun t => bif Nat.beq t d then s else T t
def elB : List Nat → Nat → Bool
  | [], _ => false
  | x :: l, n => bif Nat.beq n x then true else elB l n
def hT (T : Nat → SV) (hid : List Nat) : Nat → SV := fun t => bif elB hid t then .un else T t
def clE (ks : List Nat) : SV → SV
  | .ref r p => bif elB ks r then .ref r p else .un
  | .adr r p => bif elB ks r then .adr r p else .un
  | .mad r p => bif elB ks r then .mad r p else .un
  | .un => .un
  | .d x => .d x
  | .box x => .box x
  | .tup l => .tup l
  | .ima x => .ima x
def kG (T : Nat → SV) (ks : List Nat) : List Nat → TL
  | [] => []
  | k :: l => (k, clE ks (T k)) :: kG T ks l
def kS (r : Nat) (p : List Step) : SV → SV
  | .ref r' q => bif Nat.beq r' r && !(hasIdx p && !hasIdx q) then .un else .ref r' q
  | .adr r' q => bif Nat.beq r' r && !(hasIdx p && !hasIdx q) then .un else .adr r' q
  | .mad r' q => bif Nat.beq r' r && !(hasIdx p && !hasIdx q) then .un else .mad r' q
  | .un => .un
  | .d x => .d x
  | .box x => .box x
  | .tup l => .tup l
  | .ima x => .ima x
def sV (T : Nat → SV) (r : Nat) (p : List Step) (s : SV) : Nat → SV := fun t => bif Nat.beq t r then s else kS r p (T t)
def kK (r d : Nat) : SV → SV
  | .mad r' [] => bif Nat.beq r' r && !Nat.beq r d then .mad r' [] else kE d (kE r (.mad r' []))
  | .mad r' (q :: p) => kE d (kE r (.mad r' (q :: p)))
  | .ref r' p => kE d (kE r (.ref r' p))
  | .adr r' p => kE d (kE r (.adr r' p))
  | .un => .un
  | .d x => .d x
  | .box x => .box x
  | .tup l => .tup l
  | .ima x => .ima x
def kM (T : Nat → SV) (r : Nat) (s : SV) (d : Nat) (v : SV) : Nat → SV := fun t => bif Nat.beq t d then v else bif Nat.beq t r then (bif isMad (T r) r then T r else kE d s) else kK r d (T t)
def kH (r : Nat) (p : List Step) : SV → SV
  | .ref r' q => bif Nat.beq r' r then .un else .ref r' q
  | .adr r' q => bif Nat.beq r' r then (bif decide (q = p) then .adr r' q else .un) else .adr r' q
  | .mad r' q => bif Nat.beq r' r then .un else .mad r' q
  | .un => .un
  | .d x => .d x
  | .box x => .box x
  | .tup l => .tup l
  | .ima x => .ima x

theorem beq_if {α : Type} {a b : Nat} {x y : α} : (bif Nat.beq a b then x else y) = if a = b then x else y := by
  cases h : Nat.beq a b with
  | true => rw [if_pos (Nat.eq_of_beq_eq_true h)]; rfl
  | false => rw [if_neg (Nat.ne_of_beq_eq_false h)]; rfl
theorem nbeq_dec (a b : Nat) : Nat.beq a b = decide (a = b) := by
  cases h : Nat.beq a b with
  | true => simp [Nat.eq_of_beq_eq_true h]
  | false => simp [Nat.ne_of_beq_eq_false h]
theorem safe_kE (d : Nat) (s : SV) : s.safe d = kE d s := by cases s <;> simp only [SV.safe, kE, beq_if]
theorem kE_if (d : Nat) (s : SV) : (if s.root = some d then SV.un else s) = kE d s := by cases s <;> simp [SV.root, kE, beq_if]
theorem put_pt (T : Nat → SV) (d : Nat) (s : SV) : AS.put T d s = pt T d s := by
  funext t; simp only [AS.put, pt, beq_if, kE_if]
theorem ofL_gl : ∀ L : TL, ofL L = gl L
  | [] => rfl
  | (t, s) :: L => by funext n; simp only [ofL, gl, beq_if, ofL_gl L]
theorem extT_eT (T : Nat → SV) (d : Nat) (s : SV) : extT T d s = eT T d s := by funext t; simp only [extT, eT, beq_if]
theorem elB_elem : ∀ (l : List Nat) (n : Nat), elB l n = l.elem n
  | [], _ => rfl
  | x :: l, n => by
    by_cases h : n = x
    · subst h; simp [elB, nbeq_dec]
    · simp [elB, nbeq_dec, h, elB_elem l n]
theorem hideT_hT (T : Nat → SV) (hid : List Nat) : hideT T hid = hT T hid := by
  funext t; simp only [hideT, hT, elB_elem]; cases hid.elem t <;> rfl
theorem cleanE_clE (ks : List Nat) (s : SV) : cleanE ks s = clE ks s := by
  cases s <;> simp only [cleanE, clE, SV.root, elB_elem] <;> cases ks.elem _ <;> rfl
theorem keepL_kG (T : Nat → SV) (ks : List Nat) : ∀ l : List Nat, keepL T ks l = kG T ks l
  | [] => rfl
  | k :: l => by simp only [keepL, kG, cleanE_clE, keepL_kG T ks l]

def pureK : MK → Bool
  | .mv _ => true | .fa _ _ _ => true | .ia _ _ _ => true | .ld _ _ _ => true | .bin _ _ _ => true | .eqb _ _ _ => true | .eqn _ _ => true
  | .nt _ => true | .neg _ => true | .cvi _ _ => true | .len _ _ => true | .mmx _ _ _ => true | .mk _ _ => true | .sls _ _ _ => true | .sl _ _ _ _ => true
  | .ix _ _ => true | .pick _ _ _ => true | .call _ _ => true | .b2s _ => true | .i2s _ => true
  | _ => false
theorem opW_pure {P : Program} {T : Nat → SV} {k : MK} {d : Nat} {K : (Nat → SV) → Prop} (hk : pureK k = true) (h : evW P T k fun s => K (AS.put T d (s.safe d))) : opW P T ⟨some d, k, none⟩ K := by
  cases k <;> simp only [pureK] at hk <;> first | exact h | cases hk

/-- Paths that are read and written. -/
structure Ln (p : List Step) (x y y' x' : D) : Prop where
  g : getP p x = some y
  s : setP p x y' = x'
theorem Ln.nil {x y' : D} : Ln [] x x y' y' := ⟨rfl, rfl⟩
theorem Ln.fld {i : Nat} {p : List Step} {x y y' x' z z' : D} {ds : List D} (e : x = .agg ds) (g : ds[i]? = some z) (t : Ln p z y y' z') (e' : .agg (ds.set i z') = x') : Ln (.fld i :: p) x y y' x' := by
  subst e; subst e'
  exact ⟨by simp only [getP, D.sub, g, Option.bind_some, t.g], by simp only [setP, D.sub, g, D.upd, t.s]⟩
theorem Ln.idx {α : Type} {c : Cd α} {l : List α} {j : Nat} {a a' : α} {p : List Step} {y y' : D} (hx : l[j]? = some a) (t : Ln p (c.enc a) y y' (c.enc a')) : Ln (.idx j :: p) ((cLo c).enc l) y y' ((cLo c).enc (l.set j a')) := by
  have e : (l.map c.enc)[j]? = some (c.enc a) := by simp [hx]
  refine ⟨?_, ?_⟩
  · simp only [cLo, getP, D.sub, e, Option.bind_some, t.g]
  · simp only [cLo, setP, D.sub, e, D.upd, t.s, ← List.map_set]
theorem Ln.cap {j g : Nat} {p : List Step} {x y y' x' z z' : D} {ds : List D} (e : x = .fn g ds) (h : ds[j]? = some z) (t : Ln p z y y' z') (e' : .fn g (ds.set j z') = x') : Ln (.cap j :: p) x y y' x' := by
  subst e; subst e'
  exact ⟨by simp only [getP, D.sub, h, Option.bind_some, t.g], by simp only [setP, D.sub, h, D.upd, t.s]⟩
theorem Ln.dr {o : Bool} {p : List Step} {x y y' x' z z' : D} (e : x = .ptr o z) (t : Ln p z y y' z') (e' : .ptr o z' = x') : Ln (.dr :: p) x y y' x' := by
  subst e; subst e'
  exact ⟨by simp only [getP, D.sub, Option.bind_some, t.g], by simp only [setP, D.sub, D.upd, t.s]⟩
def Gt (p : List Step) (x y : D) : Prop := getP p x = some y
theorem Gt.nil {x : D} : Gt [] x x := rfl
theorem Gt.fld {i : Nat} {p : List Step} {x y z : D} {ds : List D} (e : x = .agg ds) (g : ds[i]? = some z) (t : Gt p z y) : Gt (.fld i :: p) x y := by
  subst e; simp only [Gt, getP, D.sub, g, Option.bind_some]; exact t
theorem Gt.cap {j g : Nat} {p : List Step} {x y z : D} {ds : List D} (e : x = .fn g ds) (h : ds[j]? = some z) (t : Gt p z y) : Gt (.cap j :: p) x y := by
  subst e; simp only [Gt, getP, D.sub, h, Option.bind_some]; exact t
theorem Gt.dr {o : Bool} {p : List Step} {x y z : D} (e : x = .ptr o z) (t : Gt p z y) : Gt (.dr :: p) x y := by
  subst e; simp only [Gt, getP, D.sub, Option.bind_some]; exact t
theorem Gt.idx {α : Type} {c : Cd α} {l : List α} {j : Nat} {a : α} {p : List Step} {y : D} (hx : l[j]? = some a) (t : Gt p (c.enc a) y) : Gt (.idx j :: p) ((cLo c).enc l) y := by
  have e : (l.map c.enc)[j]? = some (c.enc a) := by simp [hx]
  simp only [Gt, cLo, getP, D.sub, e, Option.bind_some]; exact t

section
variable {P : Program} {T T1 T2 : Nat → SV} {R : Type} {r : R} {ms : List MOp} {K : (Nat → SV) → Prop} {F : SV → Prop} {α β σ : Type} {f : Option R}

/-! ### Facts of the plain function -/
theorem bnd {X : Prop} {o : Option α} {g : α → Option R} (h : o.bind g = some r) (k : ∀ x, o = some x → g x = some r → X) : X := by
  cases o with
  | none => cases h
  | some x => exact k x rfl h
theorem ite_k {X : Prop} {b : Bool} {f g : Option R} (h : (if b = true then f else g) = some r) (t : b = true → f = some r → X) (e : b = false → g = some r → X) : X := by
  cases b with
  | true => exact t rfl (by simpa using h)
  | false => exact e rfl (by simpa using h)
theorem ckI_k {X : Prop} {n : Int} (h : ckI n f = some r) (k : InR .i64 n → f = some r → X) : X := by
  unfold ckI at h; split at h
  · rename_i hn; exact k hn h
  · cases h
theorem ckU_k {X : Prop} {n : Int} (h : ckU n f = some r) (k : InR .u8 n → f = some r → X) : X := by
  unfold ckU at h; split at h
  · rename_i hn; exact k hn h
  · cases h
theorem ckK_k {X : Prop} {kd : IntKind} {n : Int} (h : ckK kd n f = some r) (k : InR kd n → f = some r → X) : X := by
  unfold ckK at h
  split at h <;> first
    | (split at h
       · rename_i hn; exact k hn h
       · cases h)
    | cases h
theorem ck_k {X p : Prop} [Decidable p] (h : ck p f = some r) (k : p → f = some r → X) : X := by
  unfold ck at h; split at h
  · rename_i hn; exact k hn h
  · cases h
theorem getO_k {X : Prop} {l : List α} {i : Int} {g : α → Option R} (h : getO l i g = some r) (k : ∀ x, 0 ≤ i → l[i.toNat]? = some x → g x = some r → X) : X := by
  unfold getO at h; split at h
  · rename_i hi
    split at h
    · rename_i x hx; exact k x hi hx h
    · cases h
  · cases h
theorem nilO_k [DecidableEq R] {X : Prop} {l : List α} {ne : Bool} {g : Bool → Option R} (h : nilO l ne g = some r) (k : (l ≠ [] → g ne = some r) → (l = [] → g true = some r ∧ g false = some r) → X) : X := by
  unfold nilO at h; split at h
  · rename_i hl
    have hl := List.isEmpty_iff.1 hl
    refine k (fun e => absurd hl e) fun _ => ?_
    split at h
    · cases h
    · rename_i a ha
      split at h
      · rename_i hb; cases h; exact ⟨ha, hb⟩
      · cases h
  · rename_i hl; exact k (fun _ => h) fun e => absurd (List.isEmpty_iff.2 e) hl
theorem mkO_k {X : Prop} {n : Int} (h : mkO n f = some r) (k : 0 ≤ n → n.toNat ≤ 1099511627776 → f = some r → X) : X := by
  unfold mkO at h; split at h
  · rename_i hn; exact k hn.1 (by omega) h
  · cases h
theorem lnO_k {X : Prop} {n : Nat} (h : lnO n f = some r) (k : n ≤ 1099511627776 → f = some r → X) : X := by
  unfold lnO at h; split at h
  · rename_i hn; exact k hn h
  · cases h
theorem lmO_k {X : Prop} {n : Nat} (h : lmO n f = some r) (k : n ≤ 9223372036854775807 → f = some r → X) : X := by
  unfold lmO at h; split at h
  · rename_i hn; exact k hn h
  · cases h
theorem dlf (n : Int) : decide (n < n) = false := by simp
theorem dlt {k n : Nat} (h : k < n) : decide ((k : Int) < (n : Int)) = true := by simp [h]
theorem nn_t {b : Bool} (h : (!b) = true) : b = false := by cases b <;> simp_all
theorem nn_f {b : Bool} (h : (!b) = false) : b = true := by cases b <;> simp_all
theorem nt_t {b : Bool} (h : b = false) : (!b) = true := by subst h; rfl
theorem nt_f {b : Bool} (h : b = true) : (!b) = false := by subst h; rfl

/-! ### Operations that only read -/
theorem st {k : MK} {d : Nat} (hk : pureK k = true) (h : evP P T k fun s => seqW P ms (pt T d (kE d s)) K) : seqW P (⟨some d, k, none⟩ :: ms) T K := show opW P T ⟨some d, k, none⟩ (fun T' => seqW P ms T' K) from opW_pure hk (evP_evW (by simpa only [put_pt, safe_kE] using h))
theorem stw {k : MK} {d : Nat} (hk : pureK k = true) (h : evW P T k fun s => seqW P ms (pt T d (kE d s)) K) : seqW P (⟨some d, k, none⟩ :: ms) T K := show opW P T ⟨some d, k, none⟩ (fun T' => seqW P ms T' K) from opW_pure hk (by simpa only [put_pt, safe_kE] using h)
/-- A guard that holds; one that does not; one on a slot that was skipped. -/
theorem gt {m : MK} {d : Option Nat} {s : Nat} {b : Bool} (l : T s = .d (cB.enc b)) (h : seqW P (⟨d, m, none⟩ :: ms) T K) : seqW P (⟨d, m, some (s, b)⟩ :: ms) T K := by
  show guardW (T s) b _ _
  rw [l]; exact ⟨fun _ => h, fun e => by (cases b <;> cases e)⟩
theorem gt' {m : MK} {d : Option Nat} {s : Nat} {b x : Bool} (l : T s = .d (cB.enc x)) (e : x = b) (h : seqW P (⟨d, m, none⟩ :: ms) T K) : seqW P (⟨d, m, some (s, b)⟩ :: ms) T K := by
  subst e; exact gt l h
theorem gf {m : MK} {d : Nat} {s : Nat} {b x : Bool} (l : T s = .d (cB.enc x)) (e : x = !b) (h : seqW P ms (pt T d (.tup [])) K) : seqW P (⟨some d, m, some (s, b)⟩ :: ms) T K := by
  show guardW (T s) b _ _
  rw [l]; exact ⟨fun e' => by (subst e'; cases x <;> cases e), fun _ => by show seqW P ms (AS.put T d (.tup [])) K; rw [put_pt]; exact h⟩
theorem gf0 {m : MK} {s : Nat} {b x : Bool} (l : T s = .d (cB.enc x)) (e : x = !b) (h : seqW P ms T K) : seqW P (⟨none, m, some (s, b)⟩ :: ms) T K := by
  show guardW (T s) b _ _
  rw [l]; exact ⟨fun e' => by (subst e'; cases x <;> cases e), fun _ => h⟩
theorem gu {m : MK} {d : Nat} {s : Nat} {b : Bool} (l : T s = .tup []) (h : seqW P ms (pt T d (.tup [])) K) : seqW P (⟨some d, m, some (s, b)⟩ :: ms) T K := by
  show guardW (T s) b _ (seqW P ms (AS.put T d (.tup [])) K)
  rw [l, put_pt]; exact h
theorem gu0 {m : MK} {s : Nat} {b : Bool} (l : T s = .tup []) (h : seqW P ms T K) : seqW P (⟨none, m, some (s, b)⟩ :: ms) T K := by
  show guardW (T s) b _ _
  rw [l]; exact h
/-! The same in a drawn head. -/
theorem pst {ps : List PO} {j d : Nat} {k : MK} {hid : List Nat} (u : T d = .un) (h : evP P (hT T hid) k fun s => safeR s hid d = true ∧ preW P ps (eT T d s) K) : preW P (⟨j, ⟨some d, k, none⟩, hid⟩ :: ps) T K := ⟨u, by simpa only [hideT_hT, extT_eT] using h⟩
theorem pgt {ps : List PO} {j d s : Nat} {k : MK} {hid : List Nat} {b x : Bool} (l : hT T hid s = .d (cB.enc x)) (e : x = b) (h : preW P (⟨j, ⟨some d, k, none⟩, hid⟩ :: ps) T K) : preW P (⟨j, ⟨some d, k, some (s, b)⟩, hid⟩ :: ps) T K := by
  refine ⟨h.1, ?_⟩
  show guardW (hideT T hid s) b _ _
  rw [hideT_hT, l]; subst e; exact ⟨fun _ => by have := h.2; rw [hideT_hT] at this; exact this, fun e => by (cases x <;> cases e)⟩
theorem pgf {ps : List PO} {j d s : Nat} {k : MK} {hid : List Nat} {b x : Bool} (u : T d = .un) (l : hT T hid s = .d (cB.enc x)) (e : x = !b) (h : preW P ps (eT T d (.tup [])) K) : preW P (⟨j, ⟨some d, k, some (s, b)⟩, hid⟩ :: ps) T K := by
  refine ⟨u, ?_⟩
  show guardW (hideT T hid s) b _ (preW P ps (extT T d (.tup [])) K)
  rw [hideT_hT, l, extT_eT]; exact ⟨fun e' => by (subst e'; cases x <;> cases e), fun _ => h⟩
theorem pgu {ps : List PO} {j d s : Nat} {k : MK} {hid : List Nat} {b : Bool} (u : T d = .un) (l : hT T hid s = .tup []) (h : preW P ps (eT T d (.tup [])) K) : preW P (⟨j, ⟨some d, k, some (s, b)⟩, hid⟩ :: ps) T K := by
  refine ⟨u, ?_⟩
  show guardW (hideT T hid s) b _ (preW P ps (extT T d (.tup [])) K)
  rw [hideT_hT, l, extT_eT]; exact h

theorem mvc {x : D} (c : Cd α) (a : α) (e : x = c.enc a) (h : F (.d (c.enc a))) : evP P T (.mv (.c x)) F := by subst e; exact h
theorem mvd {n : Nat} {c : Cd α} {a : α} (l : T n = .d (c.enc a)) (i : c.im = true) (h : F (.d (c.enc a))) : evP P T (.mv (.t n)) F := by
  simp only [evP, evW, l, c.h_im, i, if_true]; exact h
theorem mvo {n : Nat} {c : Cd α} {a : α} (l : T n = .d (c.enc a)) (i : c.im = false) (h : F (.ref n [])) : evP P T (.mv (.t n)) F := by
  simp only [evP, evW, l, c.h_im, i]; exact h
theorem mvr {n r : Nat} {p : List Step} (l : T n = .ref r p) (h : F (.ref r p)) : evP P T (.mv (.t n)) F := by
  simp only [evP, evW, l]; exact h
theorem fldW_of {x : D} {ds : List D} {i off : Nat} {Q : Prop} (e : x = .agg ds) (lt : Nat.ble (i + 1) ds.length = true) (o : D.sizes (ds.take i) = off) (h : Q) : fldW (some x) i off Q := by subst e; exact ⟨Nat.le_of_ble_eq_true lt, o, h⟩
theorem fab {n i off : Nat} {x : D} {ds : List D} (l : T n = .box x) (e : x = .agg ds) (lt : Nat.ble (i + 1) ds.length = true) (o : D.sizes (ds.take i) = off) (h : F (.adr n [.fld i])) : evP P T (.fa n i off) F := by
  simp only [evP, evW, l]; exact fldW_of e lt o h
theorem faa {n i off r : Nat} {p : List Step} {x y : D} {ds : List D} (l : T n = .adr r p) (g : rootD T r = some x) (w : Gt p x y) (e : y = .agg ds) (lt : Nat.ble (i + 1) ds.length = true) (o : D.sizes (ds.take i) = off) (h : F (.adr r (p ++ [.fld i]))) : evP P T (.fa n i off) F := by
  simp only [evP, evW, l, wayD, g, Option.bind_some, show getP p x = some y from w]; exact fldW_of e lt o h
theorem fam {n i off r : Nat} {p : List Step} {x y : D} {ds : List D} (l : T n = .mad r p) (g : rootD T r = some x) (w : Gt p x y) (e : y = .agg ds) (lt : Nat.ble (i + 1) ds.length = true) (o : D.sizes (ds.take i) = off) (h : F (.mad r (p ++ [.fld i]))) : evP P T (.fa n i off) F := by
  simp only [evP, evW, l, wayD, g, Option.bind_some, show getP p x = some y from w]; exact fldW_of e lt o h
theorem fai {n i off : Nat} {x z : D} {ds : List D} (l : T n = .ima x) (e : x = .agg ds) (g : ds[i]? = some z) (o : D.sizes (ds.take i) = off) (h : F (.ima z)) : evP P T (.fa n i off) F := by
  subst e; simp only [evP, evW, l]; exact ⟨z, g, o, h⟩
theorem natW_of {k : IntKind} {i : Int} {Q : Nat → Prop} (h0 : 0 ≤ i) (h : Q i.toNat) : natW (some ((cK k).enc i)) Q := ⟨h0, h⟩
theorem ias {n sz : Nat} {i : Opd} {k : IntKind} {iv : Int} {c : Cd α} {hc : c.im = true} {l : List α} {a : α} (ri : rd T i = some ((cK k).enc iv)) (lk : T n = .d ((cLs c hc).enc l)) (h0 : 0 ≤ iv) (hx : l[iv.toNat]? = some a) (hs : c.sz = sz) (h : F (.ima (c.enc a))) : evP P T (.ia n i sz) F := by
  show evW P T (.ia n i sz) F
  simp only [evW, ri, lk]
  exact natW_of h0 ⟨c.enc a, by simp [hx], by rw [c.h_sz, hs], h⟩
theorem iao {n sz : Nat} {i : Opd} {k : IntKind} {iv : Int} {c : Cd α} {l : List α} {a : α} (ri : rd T i = some ((cK k).enc iv)) (lk : T n = .d ((cLo c).enc l)) (h0 : 0 ≤ iv) (hx : l[iv.toNat]? = some a) (hs : c.sz = sz) (h : F (.adr n [.idx iv.toNat])) : evP P T (.ia n i sz) F := by
  show evW P T (.ia n i sz) F
  simp only [evW, ri, lk]
  exact natW_of h0 ⟨c.enc a, by simp [hx], by rw [c.h_sz, hs], h⟩
theorem iar {n sz r : Nat} {p : List Step} {i : Opd} {k : IntKind} {iv : Int} {c : Cd α} {l : List α} {a : α} {x : D} (ri : rd T i = some ((cK k).enc iv)) (lk : T n = .ref r p) (g : rootD T r = some x) (w : Gt p x ((cLo c).enc l)) (h0 : 0 ≤ iv) (hx : l[iv.toNat]? = some a) (hs : c.sz = sz) (h : F (.adr r (p ++ [.idx iv.toNat]))) : evP P T (.ia n i sz) F := by
  show evW P T (.ia n i sz) F
  simp only [evW, ri, lk, wayD, g, Option.bind_some, show getP p x = some _ from w]
  exact natW_of h0 ⟨c.enc a, by simp [hx], by rw [c.h_sz, hs], h⟩
theorem ldb {n sz : Nat} {ag : Bool} {c : Cd α} {a : α} (l : T n = .box (c.enc a)) (hs : c.sz = sz) (ha : c.ag = ag) (i : c.im = true) (h : F (.d (c.enc a))) : evP P T (.ld n sz ag) F := by
  simp only [evP, evW, l, c.h_sz, c.h_ag, c.h_im, i, if_true]; exact ⟨⟨hs, ha⟩, h⟩
theorem ldbo {n sz : Nat} {ag : Bool} {c : Cd α} {a : α} (l : T n = .box (c.enc a)) (hs : c.sz = sz) (ha : c.ag = ag) (i : c.im = false) (h : F (.ref n [])) : evP P T (.ld n sz ag) F := by
  simp only [evP, evW, l, c.h_sz, c.h_ag, c.h_im, i]; exact ⟨⟨hs, ha⟩, h⟩
theorem lda {n sz r : Nat} {p : List Step} {ag : Bool} {c : Cd α} {a : α} {x : D} (l : T n = .adr r p) (g : rootD T r = some x) (w : Gt p x (c.enc a)) (hs : c.sz = sz) (ha : c.ag = ag) (i : c.im = true) (h : F (.d (c.enc a))) : evP P T (.ld n sz ag) F := by
  simp only [evP, evW, l, wayD, g, Option.bind_some, show getP p x = some _ from w, c.h_sz, c.h_ag, c.h_im, i, if_true]; exact ⟨⟨hs, ha⟩, h⟩
theorem ldao {n sz r : Nat} {p : List Step} {ag : Bool} {c : Cd α} {a : α} {x : D} (l : T n = .adr r p) (g : rootD T r = some x) (w : Gt p x (c.enc a)) (hs : c.sz = sz) (ha : c.ag = ag) (i : c.im = false) (h : F (.ref r p)) : evP P T (.ld n sz ag) F := by
  simp only [evP, evW, l, wayD, g, Option.bind_some, show getP p x = some _ from w, c.h_sz, c.h_ag, c.h_im, i]; exact ⟨⟨hs, ha⟩, h⟩
theorem ldm {n sz r : Nat} {p : List Step} {ag : Bool} {c : Cd α} {a : α} {x : D} (l : T n = .mad r p) (g : rootD T r = some x) (w : Gt p x (c.enc a)) (hs : c.sz = sz) (ha : c.ag = ag) (i : c.im = true) (h : F (.d (c.enc a))) : evP P T (.ld n sz ag) F := by
  simp only [evP, evW, l, wayD, g, Option.bind_some, show getP p x = some _ from w, c.h_sz, c.h_ag, c.h_im, i, if_true]; exact ⟨⟨hs, ha⟩, h⟩
theorem ldmo {n sz r : Nat} {p : List Step} {ag : Bool} {c : Cd α} {a : α} {x : D} (l : T n = .mad r p) (g : rootD T r = some x) (w : Gt p x (c.enc a)) (hs : c.sz = sz) (ha : c.ag = ag) (i : c.im = false) (h : F (.ref r p)) : evP P T (.ld n sz ag) F := by
  simp only [evP, evW, l, wayD, g, Option.bind_some, show getP p x = some _ from w, c.h_sz, c.h_ag, c.h_im, i]; exact ⟨⟨hs, ha⟩, h⟩
theorem ldi {n sz : Nat} {ag : Bool} {c : Cd α} {a : α} (l : T n = .ima (c.enc a)) (hs : c.sz = sz) (ha : c.ag = ag) (i : c.im = true) (h : F (.d (c.enc a))) : evP P T (.ld n sz ag) F := by
  simp only [evP, evW, l, c.h_sz, c.h_ag, c.h_im, i]; exact ⟨⟨hs, ha, trivial⟩, h⟩

/-! Operators -/
theorem rdr {n r : Nat} {p : List Step} {x y : D} (l : T n = .ref r p) (g : rootD T r = some x) (w : Gt p x y) : rd T (.t n) = some y := by
  simp only [rd, dataOf, l, g, Option.bind_some]; exact w
section
variable {x y : Opd} {k : IntKind} {a b : Int}
theorem b_add (hx : rd T x = some ((cK k).enc a)) (hy : rd T y = some ((cK k).enc b)) (i : InR k (a + b)) (h : F (.d ((cK k).enc (a + b)))) : evP P T (.bin .add x y) F := by
  simp only [evP, evW, hx, hy]; exact ⟨rfl, i, h⟩
theorem b_sub (hx : rd T x = some ((cK k).enc a)) (hy : rd T y = some ((cK k).enc b)) (i : InR k (a - b)) (h : F (.d ((cK k).enc (a - b)))) : evP P T (.bin .sub x y) F := by
  simp only [evP, evW, hx, hy]; exact ⟨rfl, i, h⟩
theorem b_mul (hx : rd T x = some ((cK k).enc a)) (hy : rd T y = some ((cK k).enc b)) (i : InR k (a * b)) (h : F (.d ((cK k).enc (a * b)))) : evP P T (.bin .mul x y) F := by
  simp only [evP, evW, hx, hy]; exact ⟨rfl, i, h⟩
theorem b_quo (hx : rd T x = some ((cK k).enc a)) (hy : rd T y = some ((cK k).enc b)) (n : b ≠ 0) (i : InR k (a.tdiv b)) (h : F (.d ((cK k).enc (a.tdiv b)))) : evP P T (.bin .quo x y) F := by
  simp only [evP, evW, hx, hy]; exact ⟨rfl, n, i, h⟩
theorem b_rem (hx : rd T x = some ((cK k).enc a)) (hy : rd T y = some ((cK k).enc b)) (n : b ≠ 0) (h : F (.d ((cK k).enc (a.tmod b)))) : evP P T (.bin .rem x y) F := by
  simp only [evP, evW, hx, hy]; exact ⟨rfl, n, h⟩
theorem b_and (hx : rd T x = some ((cK k).enc a)) (hy : rd T y = some ((cK k).enc b)) (i : 0 ≤ a ∧ InR k a) (j : 0 ≤ b ∧ InR k b) (h : F (.d ((cK k).enc ((a.toNat &&& b.toNat : Nat) : Int)))) : evP P T (.bin .and x y) F := by
  simp only [evP, evW, hx, hy]; exact ⟨rfl, i, j, h⟩
theorem b_or (hx : rd T x = some ((cK k).enc a)) (hy : rd T y = some ((cK k).enc b)) (i : 0 ≤ a ∧ InR k a) (j : 0 ≤ b ∧ InR k b) (h : F (.d ((cK k).enc ((a.toNat ||| b.toNat : Nat) : Int)))) : evP P T (.bin .or x y) F := by
  simp only [evP, evW, hx, hy]; exact ⟨rfl, i, j, h⟩
theorem b_andNot (hx : rd T x = some ((cK k).enc a)) (hy : rd T y = some ((cK k).enc b)) (i : 0 ≤ a ∧ InR k a) (j : 0 ≤ b ∧ InR k b) (h : F (.d ((cK k).enc (((a.toNat &&& b.toNat) ^^^ a.toNat : Nat) : Int)))) : evP P T (.bin .andNot x y) F := by
  simp only [evP, evW, hx, hy]; exact ⟨rfl, i, j, h⟩
theorem b_shl {k' : IntKind} (hx : rd T x = some ((cK k).enc a)) (hy : rd T y = some ((cK k').enc b)) (n : 0 ≤ b ∧ b < 64) (k6 : k.bits = 64) (i : InR k (a * 2 ^ b.toNat)) (h : F (.d ((cK k).enc (a * 2 ^ b.toNat)))) : evP P T (.bin .shl x y) F := by
  simp only [evP, evW, hx, hy]; exact ⟨n, k6, i, h⟩
theorem b_shr {k' : IntKind} (hx : rd T x = some ((cK k).enc a)) (hy : rd T y = some ((cK k').enc b)) (n : 0 ≤ b ∧ b < 64) (k6 : k.bits = 64) (h : F (.d ((cK k).enc (a / 2 ^ b.toNat)))) : evP P T (.bin .shr x y) F := by
  simp only [evP, evW, hx, hy]; exact ⟨n, k6, h⟩
theorem b_eql (hx : rd T x = some ((cK k).enc a)) (hy : rd T y = some ((cK k).enc b)) (h : F (.d (cB.enc (decide (a = b))))) : evP P T (.bin .eql x y) F := by
  simp only [evP, evW, hx, hy]; exact ⟨rfl, h⟩
theorem b_neq (hx : rd T x = some ((cK k).enc a)) (hy : rd T y = some ((cK k).enc b)) (h : F (.d (cB.enc (decide (a ≠ b))))) : evP P T (.bin .neq x y) F := by
  simp only [evP, evW, hx, hy]; exact ⟨rfl, h⟩
theorem b_lss (hx : rd T x = some ((cK k).enc a)) (hy : rd T y = some ((cK k).enc b)) (h : F (.d (cB.enc (decide (a < b))))) : evP P T (.bin .lss x y) F := by
  simp only [evP, evW, hx, hy]; exact ⟨rfl, h⟩
theorem b_leq (hx : rd T x = some ((cK k).enc a)) (hy : rd T y = some ((cK k).enc b)) (h : F (.d (cB.enc (decide (a ≤ b))))) : evP P T (.bin .leq x y) F := by
  simp only [evP, evW, hx, hy]; exact ⟨rfl, h⟩
theorem b_gtr (hx : rd T x = some ((cK k).enc a)) (hy : rd T y = some ((cK k).enc b)) (h : F (.d (cB.enc (decide (b < a))))) : evP P T (.bin .gtr x y) F := by
  simp only [evP, evW, hx, hy]; exact ⟨rfl, h⟩
theorem b_geq (hx : rd T x = some ((cK k).enc a)) (hy : rd T y = some ((cK k).enc b)) (h : F (.d (cB.enc (decide (b ≤ a))))) : evP P T (.bin .geq x y) F := by
  simp only [evP, evW, hx, hy]; exact ⟨rfl, h⟩
theorem b_cat {s t : List UInt8} (hx : rd T x = some (cS.enc s)) (hy : rd T y = some (cS.enc t)) (i : s.length + t.length ≤ 1099511627776) (h : F (.d (cS.enc (s ++ t)))) : evP P T (.bin .add x y) F := by
  simp only [evP, evW, hx, hy]; exact ⟨i, h⟩
theorem b_seq {s t : List UInt8} (hx : rd T x = some (cS.enc s)) (hy : rd T y = some (cS.enc t)) (h : F (.d (cB.enc (decide (s = t))))) : evP P T (.bin .eql x y) F := by
  simp only [evP, evW, hx, hy]; exact h
theorem b_sne {s t : List UInt8} (hx : rd T x = some (cS.enc s)) (hy : rd T y = some (cS.enc t)) (h : F (.d (cB.enc (decide (s ≠ t))))) : evP P T (.bin .neq x y) F := by
  simp only [evP, evW, hx, hy]; exact h
theorem eqb0 {p q : Bool} (hx : rd T x = some (cB.enc p)) (hy : rd T y = some (cB.enc q)) (h : F (.d (cB.enc (p == q)))) : evP P T (.eqb false x y) F := by
  simp only [evP, evW, hx, hy]; exact h
theorem eqb1 {p q : Bool} (hx : rd T x = some (cB.enc p)) (hy : rd T y = some (cB.enc q)) (h : F (.d (cB.enc (p != q)))) : evP P T (.eqb true x y) F := by
  simp only [evP, evW, hx, hy]; exact h
theorem o_nt {p : Bool} (hx : rd T x = some (cB.enc p)) (h : F (.d (cB.enc (!p)))) : evP P T (.nt x) F := by
  simp only [evP, evW, hx]; exact h
theorem o_neg (hx : rd T x = some ((cK k).enc a)) (i : InR k (-a)) (h : F (.d ((cK k).enc (-a)))) : evP P T (.neg x) F := by
  simp only [evP, evW, hx]; exact ⟨i, h⟩
theorem o_cvi {k' : IntKind} (hx : rd T x = some ((cK k).enc a)) (i : InR k' a) (h : F (.d ((cK k').enc a))) : evP P T (.cvi k' x) F := by
  simp only [evP, evW, hx]; exact ⟨i, h⟩
theorem o_max (hx : rd T x = some ((cK k).enc a)) (hy : rd T y = some ((cK k).enc b)) (h : F (.d ((cK k).enc (max a b)))) : evP P T (.mmx true x y) F := by
  simp only [evP, evW, hx, hy]; exact ⟨rfl, h⟩
theorem o_min (hx : rd T x = some ((cK k).enc a)) (hy : rd T y = some ((cK k).enc b)) (h : F (.d ((cK k).enc (min a b)))) : evP P T (.mmx false x y) F := by
  simp only [evP, evW, hx, hy]; exact ⟨rfl, h⟩
/-- Lengths: where the order is given (w), and in a head that draws. -/
theorem leno {c : Cd α} {l : List α} (hx : rd T x = some ((cLo c).enc l)) (h : l.length ≤ 9223372036854775807 → F (.d (cI.enc (l.length : Int)))) : evW P T (.len false x) F := by
  simp only [evW, hx]
  show (l.map c.enc).length ≤ _ → F (.d (.int .i64 ((l.map c.enc).length : Nat)))
  rw [List.length_map]; exact h
theorem lens {c : Cd α} {hc : c.im = true} {l : List α} (hx : rd T x = some ((cLs c hc).enc l)) (h : l.length ≤ 9223372036854775807 → F (.d (cI.enc (l.length : Int)))) : evW P T (.len false x) F := by
  simp only [evW, hx]
  show (l.map c.enc).length ≤ _ → F (.d (.int .i64 ((l.map c.enc).length : Nat)))
  rw [List.length_map]; exact h
theorem lent {s : List UInt8} (hx : rd T x = some (cS.enc s)) (h : s.length ≤ 9223372036854775807 → F (.d (cI.enc (s.length : Int)))) : evW P T (.len true x) F := by
  simp only [evW, hx]; exact h
theorem plno {c : Cd α} {l : List α} (hx : rd T x = some ((cLo c).enc l)) (b : l.length ≤ 9223372036854775807) (h : F (.d (cI.enc (l.length : Int)))) : evP P T (.len false x) F := by
  simp only [evP, hx]
  show (l.map c.enc).length ≤ _ ∧ F (.d (.int .i64 ((l.map c.enc).length : Nat)))
  rw [List.length_map]; exact ⟨b, h⟩
theorem plns {c : Cd α} {hc : c.im = true} {l : List α} (hx : rd T x = some ((cLs c hc).enc l)) (b : l.length ≤ 9223372036854775807) (h : F (.d (cI.enc (l.length : Int)))) : evP P T (.len false x) F := by
  simp only [evP, hx]
  show (l.map c.enc).length ≤ _ ∧ F (.d (.int .i64 ((l.map c.enc).length : Nat)))
  rw [List.length_map]; exact ⟨b, h⟩
theorem plnt {s : List UInt8} (hx : rd T x = some (cS.enc s)) (b : s.length ≤ 9223372036854775807) (h : F (.d (cI.enc (s.length : Int)))) : evP P T (.len true x) F := by
  simp only [evP, hx]; exact ⟨b, h⟩
theorem eqs {c : Cd α} {hc : c.im = true} {l : List α} {ne : Bool} {g : Bool → Option R} (hx : rd T x = some ((cLs c hc).enc l)) (p : l ≠ [] → g ne = some r) (q : l = [] → g true = some r ∧ g false = some r) (k : ∀ b, g b = some r → F (.d (cB.enc b))) : evW P T (.eqn ne x) F := by
  simp only [evW, hx]
  refine ⟨fun e => k ne (p fun e' => e (by rw [e']; rfl)), fun e => ?_⟩
  have := q (List.map_eq_nil_iff.1 e)
  exact ⟨k true this.1, k false this.2⟩
theorem eqo {c : Cd α} {l : List α} {ne : Bool} {g : Bool → Option R} (hx : rd T x = some ((cLo c).enc l)) (p : l ≠ [] → g ne = some r) (q : l = [] → g true = some r ∧ g false = some r) (k : ∀ b, g b = some r → F (.d (cB.enc b))) : evW P T (.eqn ne x) F := by
  simp only [evW, hx]
  refine ⟨fun e => k ne (p fun e' => e (by rw [e']; rfl)), fun e => ?_⟩
  have := q (List.map_eq_nil_iff.1 e)
  exact ⟨k true this.1, k false this.2⟩
theorem o_mk {z : D} {c : Cd α} {a0 : α} (e : z = c.enc a0) (hx : rd T x = some ((cK k).enc a)) (h0 : 0 ≤ a) (b : a.toNat ≤ 1099511627776) (h : F (.d ((cLo c).enc (List.replicate a.toNat a0)))) : evP P T (.mk z x) F := by
  subst e
  simp only [evP, evW, hx]
  refine natW_of h0 ⟨b, ?_⟩
  have : (cLo c).enc (List.replicate a.toNat a0) = .slice true (List.replicate a.toNat (c.enc a0)) := by simp [cLo]
  rw [← this]; exact h
/-- A bound of a slice expression. -/
def LoR (T : Nat → SV) (o : Option Opd) (n : Nat) : Prop := loW (o.map (rd T)) fun i => i = n
def HiR (T : Nat → SV) (o : Option Opd) (m n : Nat) : Prop := hiW (o.map (rd T)) m fun i => i = n
theorem lo0 : LoR T none 0 := rfl
theorem lo1 (hx : rd T x = some ((cK k).enc a)) (h0 : 0 ≤ a) : LoR T (some x) a.toNat := by
  simp only [LoR, loW, Option.map, hx]; exact natW_of h0 rfl
theorem hi0 {m : Nat} : HiR T none m m := rfl
theorem hi1 {m : Nat} (hx : rd T x = some ((cK k).enc a)) (h0 : 0 ≤ a) : HiR T (some x) m a.toNat := by
  simp only [HiR, hiW, Option.map, hx]; exact natW_of h0 rfl
theorem LoR.go {o : Option Opd} {n : Nat} {Q : Nat → Prop} (h : LoR T o n) (q : Q n) : loW (o.map (rd T)) Q := loW_mono (fun j e => by rw [e]; exact q) h
theorem HiR.go {o : Option Opd} {m n : Nat} {Q : Nat → Prop} (h : HiR T o m n) (q : Q n) : hiW (o.map (rd T)) m Q := hiW_mono (fun j e => by rw [e]; exact q) h
theorem o_sls {s : List UInt8} {lo hi : Option Opd} {i j : Nat} (hx : rd T x = some (cS.enc s)) (l : LoR T lo i) (m : HiR T hi s.length j) (b : i ≤ j ∧ j ≤ s.length) (h : F (.d (cS.enc ((s.take j).drop i)))) : evP P T (.sls x lo hi) F := by
  simp only [evP, evW, hx]; exact l.go (m.go ⟨b, h⟩)
theorem o_sl {n sz : Nat} {c : Cd α} {hc : c.im = true} {l : List α} {lo hi : Option Opd} {i j : Nat} (hx : T n = .d ((cLs c hc).enc l)) (hs : c.sz = sz) (u : LoR T lo i) (m : HiR T hi l.length j) (b : i ≤ j ∧ j ≤ l.length) (h : F (.d ((cLs c hc).enc ((l.take j).drop i)))) : evP P T (.sl (.t n) lo hi sz) F := by
  simp only [evP, evW, hx]
  refine ⟨sizesAll_map c hs l, u.go ?_⟩
  have e : (l.map c.enc).length = l.length := List.length_map ..
  show hiW _ (l.map c.enc).length _
  rw [e]
  refine m.go ⟨b, ?_⟩
  have : (cLs c hc).enc ((l.take j).drop i) = .slice false (((l.map c.enc).take j).drop i) := by simp [cLs, List.map_take, List.map_drop]
  rw [← this]; exact h
theorem o_ix {s : List UInt8} {c : UInt8} {i : Opd} (hx : rd T x = some (cS.enc s)) (hi : rd T i = some ((cK k).enc a)) (h0 : 0 ≤ a) (g : s[a.toNat]? = some c) (h : F (.d (cU.enc (c.toNat : Int)))) : evP P T (.ix x i) F := by
  simp only [evP, evW, hx, hi]; exact natW_of h0 ⟨c, g, h⟩
theorem pick1 {c : Opd} {p : Bool} {cd : Cd α} {v : α} {b : Opd} (hc : rd T c = some (cB.enc p)) (e : p = true) (hx : rd T x = some (cd.enc v)) (i : cd.im = true) (h : F (.d (cd.enc v))) : evP P T (.pick c x b) F := by
  subst e; simp only [evP, evW, hc]
  exact ⟨fun _ => ⟨_, hx, by rw [cd.h_im, i], h⟩, fun e => nomatch e⟩
theorem pick0 {c : Opd} {p : Bool} {cd : Cd α} {v : α} {b : Opd} (hc : rd T c = some (cB.enc p)) (e : p = false) (hx : rd T x = some (cd.enc v)) (i : cd.im = true) (h : F (.d (cd.enc v))) : evP P T (.pick c b x) F := by
  subst e; simp only [evP, evW, hc]
  exact ⟨fun e => (nomatch e : False).elim, fun _ => ⟨_, hx, by rw [cd.h_im, i], h⟩⟩
theorem o_b2s {l : List Int} {bs : List UInt8} {ds : List D} {o : Bool} (hx : rd T x = some (.slice o ds)) (hl : ds = l.map cU.enc) (e : l = bs.map fun b => ((b.toNat : Nat) : Int)) (h : F (.d (cS.enc bs))) : evP P T (.b2s x) F := by
  simp only [evP, evW, hx]
  exact ⟨bs, by rw [hl, e, List.map_map]; rfl, h⟩
theorem o_i2s (hx : rd T x = some ((cK k).enc a)) (b : 0 ≤ a ∧ a < 128) (h : F (.d (cS.enc [UInt8.ofNat a.toNat]))) : evP P T (.i2s x) F := by
  simp only [evP, evW, hx]; exact ⟨b, h⟩
end

/-! Lists and cells made in a head. -/
def Rds (T : Nat → SV) (l : List Opd) (sz : Nat) (ys : List D) : Prop := rds T l = some ys ∧ heres T l = true ∧ sizesAll sz ys
theorem e0 {sz : Nat} : Rds T [] sz [] := ⟨rfl, rfl, fun x hx => by simp at hx⟩
theorem e1 {sz n : Nat} {l : List Opd} {c : Cd α} {a : α} {ys : List D} (e : T n = .d (c.enc a)) (i : c.im = true) (s : c.sz = sz) (h : Rds T l sz ys) : Rds T (.t n :: l) sz (c.enc a :: ys) := by
  refine ⟨by simp only [rds, rd, e, dataOf, h.1, Option.bind_some, Option.map_some], by simp only [heres, here, e, c.h_im, i, h.2.1, Bool.and_self], ?_⟩
  intro y hy
  rcases List.mem_cons.1 hy with rfl | hy
  · rw [c.h_sz, s]
  · exact h.2.2 y hy
theorem ec {sz : Nat} {x : D} {l : List Opd} (c : Cd α) (a : α) {ys : List D} (e : x = c.enc a) (i : c.im = true) (s : c.sz = sz) (h : Rds T l sz ys) : Rds T (.c x :: l) sz (c.enc a :: ys) := by
  subst e
  refine ⟨by simp only [rds, rd, h.1, Option.bind_some, Option.map_some], by simp only [heres, here, c.h_im, i, h.2.1, Bool.and_self], ?_⟩
  intro y hy
  rcases List.mem_cons.1 hy with rfl | hy
  · rw [c.h_sz, s]
  · exact h.2.2 y hy
theorem p_bsl {sz : Nat} {parts : List Opd} {ys : List D} (c : Cd α) (l : List α) (hs : Rds T parts sz ys) (e : ys = l.map c.enc) (b : Nat.ble ys.length 1024 = true) (h : F (.d ((cLo c).enc l))) : evP P T (.bsl parts sz) F := by
  simp only [evP, evW, hs.1]
  refine ⟨⟨hs.2.1, Nat.le_of_ble_eq_true b, hs.2.2⟩, ?_⟩
  subst e; exact h
theorem p_all {z : D} (c : Cd α) (a : α) (e : z = c.enc a) (h : F (.box (c.enc a))) : evP P T (.alloc z) F := by
  subst e; exact h
/-! Calls -/
def Args (T : Nat → SV) (args : List Opd) (ds' : List D) : Prop := ∃ ds, rds T args = some ds ∧ D.toImms ds = ds'
theorem a0 : Args T [] [] := ⟨[], rfl, rfl⟩
theorem a1 {x : Opd} {l : List Opd} {c c' : Cd α} {a : α} {ds : List D} (t : ToI c c') (hx : rd T x = some (c.enc a)) (h : Args T l ds) : Args T (x :: l) (c'.enc a :: ds) := by
  obtain ⟨d1, h1, h2⟩ := h
  exact ⟨c.enc a :: d1, by simp only [rds, hx, h1, Option.bind_some, Option.map_some], by simp only [D.toImms, t.h, h2]⟩
theorem hr0 : heres T [] = true := rfl
theorem hr1 {n : Nat} {l : List Opd} {c : Cd α} {a : α} (e : T n = .d (c.enc a)) (i : c.im = true) (h : heres T l = true) : heres T (.t n :: l) = true := by
  simp only [heres, here, e, c.h_im, i, h, Bool.and_self]
theorem hrc {x : D} {l : List Opd} (e : x.imm = true) (h : heres T l = true) : heres T (.c x :: l) = true := by
  simp only [heres, here, e, h, Bool.and_self]
theorem so0 : D.solids [] = true := rfl
theorem so1 {l : List D} {c : Cd α} {a : α} (s : Sol c) (h : D.solids l = true) : D.solids (c.enc a :: l) = true := by
  simp only [D.solids, s.h, h, Bool.and_self]
theorem o_call {fn : Nat} {args : List Opd} {ds res : List D} (ha : Args T args ds) (hc : Con P fn ds [] res) (hs : D.solids res = true ∨ heres T args = true) (h : F (resSV res)) : evP P T (.call fn args) F := by
  obtain ⟨d1, h1, rfl⟩ := ha
  simp only [evP, evW, h1]
  exact ⟨res, hc, hs, h⟩

theorem eqN {x : Opd} {c : Cd α} {v : Option (List α)} (ne : Bool) (hx : rd T x = some ((cNo c).enc v)) (hn : v ≠ some []) (h : F (.d (cB.enc (if ne then v.isSome else v.isNone)))) : evP P T (.eqn ne x) F := by
  cases v with
  | none => simp only [evP, hx, cNo]; cases ne <;> exact h
  | some l =>
    have hl : l.map c.enc ≠ [] := fun e => hn (by rw [List.map_eq_nil_iff] at e; rw [e])
    simp only [evP, hx, cNo]; refine ⟨hl, ?_⟩; cases ne <;> exact h
/-! ### Operations that act -/
def Src (T : Nat → SV) (x : Opd) (c : Cd α) (a : α) (T1 : Nat → SV) : Prop := srcTake T x = some (c.enc a, T1)
theorem sc {x : D} (c : Cd α) (a : α) (e : x = c.enc a) : Src T (.c x) c a T := by subst e; rfl
theorem ss {n : Nat} {c : Cd α} {a : α} (l : T n = .d (c.enc a)) (i : c.im = true) : Src T (.t n) c a T := by
  simp only [Src, srcTake, put_pt, l, c.h_im, i, if_true]
theorem so {n : Nat} {c : Cd α} {a : α} (l : T n = .d (c.enc a)) (i : c.im = false) : Src T (.t n) c a (pt T n .un) := by
  simp only [Src, srcTake, put_pt, l, c.h_im, i]; rfl
theorem sr {n r : Nat} {c : Cd α} {a : α} (l : T n = .ref r []) (g : T r = .d (c.enc a)) : Src T (.t n) c a (pt T r .un) := by
  simp only [Src, srcTake, put_pt, l, g]
theorem sb {n r : Nat} {c : Cd α} {a : α} (l : T n = .ref r []) (g : T r = .box (c.enc a)) : Src T (.t n) c a (pt T r .un) := by
  simp only [Src, srcTake, put_pt, l, g]

/-- The state behind a write. -/
def reS (s : SV) (x : D) : SV := match s with
  | .d _ => .d x
  | .box _ => .box x
  | s => s
theorem stT_sV {r : Nat} {p : List Step} {y x x' : D} (g : rootD T r = some x) (e : setP p x y = x') : stT T r p y = sV T r p (reS (T r) x') := by
  funext t
  simp only [stT, sV, beq_if]
  split
  · unfold rootD at g
    cases hT : T r <;> simp only [hT] at g <;> cases g <;> simp only [SV.setR, reS, e]
  · cases hTt : T t with
    | ref r' q => simp only [SV.root, SV.path, kS, Option.some.injEq, nbeq_dec]; by_cases h1 : r' = r <;> cases hasIdx p <;> cases hasIdx q <;> simp [h1]
    | adr r' q => simp only [SV.root, SV.path, kS, Option.some.injEq, nbeq_dec]; by_cases h1 : r' = r <;> cases hasIdx p <;> cases hasIdx q <;> simp [h1]
    | mad r' q => simp only [SV.root, SV.path, kS, Option.some.injEq, nbeq_dec]; by_cases h1 : r' = r <;> cases hasIdx p <;> cases hasIdx q <;> simp [h1]
    | _ => simp [SV.root, kS]
/-- A list taken out of a slot's data. -/
def hV (T : Nat → SV) (r : Nat) (p : List Step) (s : SV) : Nat → SV := fun t => bif Nat.beq t r then s else kH r p (T t)
theorem hlT_hV {r : Nat} {p : List Step} {s : SV} (e : (T r).setR p .hole = s) : hlT T r p = hV T r p s := by
  funext t
  simp only [hlT, hV, beq_if, e]
  split
  · rfl
  · cases hTt : T t <;> simp only [SV.root, kH, sameAdr, reduceCtorEq, if_false, Option.some.injEq, beq_if] <;> split <;> simp_all
theorem sp {n r : Nat} {q : Step} {p : List Step} {c : Cd α} {v : List α} {x : D} (x' : D) (l : T n = .ref r (q :: p)) (g : rootD T r = some x) (w : Ln (q :: p) x ((cLo c).enc v) .hole x') : Src T (.t n) (cLo c) v (hV T r (q :: p) (reS (T r) x')) := by
  have e : (T r).setR (q :: p) .hole = reS (T r) x' := by
    unfold rootD at g
    cases hT : T r <;> simp only [hT] at g <;> cases g <;> simp only [SV.setR, reS, w.s]
  simp only [Src, srcTake, l, wayD, g, Option.bind_some, w.g, ← hlT_hV e]
  rfl
theorem x_asg {d : Nat} {x : Opd} {c : Cd α} {a : α} (s : Src T x c a T1) (h : seqW P ms (pt T1 d (.d (c.enc a))) K) : seqW P (⟨some d, .asg x, none⟩ :: ms) T K := by
  show opW P T ⟨some d, .asg x, none⟩ (fun T' => seqW P ms T' K)
  simp only [opW, put_pt, show srcTake T x = _ from s]; exact h
theorem x_box {d : Nat} {x : Opd} {c : Cd α} {a : α} (s : Src T x c a T1) (h : seqW P ms (pt T1 d (.box (c.enc a))) K) : seqW P (⟨some d, .box x, none⟩ :: ms) T K := by
  show opW P T ⟨some d, .box x, none⟩ (fun T' => seqW P ms T' K)
  simp only [opW, put_pt, show srcTake T x = _ from s]; exact h
theorem x_mvt {d n : Nat} {L : List (Option D)} (l : T n = .tup L) (h : seqW P ms (pt (pt T n .un) d (.tup L)) K) : seqW P (⟨some d, .mvt n, none⟩ :: ms) T K := by
  show opW P T ⟨some d, .mvt n, none⟩ (fun T' => seqW P ms T' K)
  simp only [opW, put_pt, l]; exact h
theorem x_boxm {d n : Nat} {x : D} (l : T n = .d x) (ne : (n == d) = false) (h : seqW P ms (pt T d (.mad n [])) K) : seqW P (⟨some d, .boxm n, none⟩ :: ms) T K := by
  show opW P T ⟨some d, .boxm n, none⟩ (fun T' => seqW P ms T' K)
  simp only [opW, put_pt, l]; exact ⟨by simpa using ne, h⟩
theorem x_all {d : Nat} {z : D} (c : Cd α) (a : α) (e : z = c.enc a) (h : seqW P ms (pt T d (.box (c.enc a))) K) : seqW P (⟨some d, .alloc z, none⟩ :: ms) T K := by
  subst e
  show opW P T ⟨some d, .alloc (c.enc a), none⟩ (fun T' => seqW P ms T' K)
  simp only [opW, put_pt]; exact h
theorem x_stb {n sz : Nat} {v : Opd} {c : Cd α} {a : α} {x : D} (s : Src T v c a T1) (l : T1 n = .box x) (h0 : x.size = sz) (h1 : c.sz = sz) (h : seqW P ms (sV T1 n [] (.box (c.enc a))) K) : seqW P (⟨none, .st n v sz, none⟩ :: ms) T K := by
  show opW P T ⟨none, .st n v sz, none⟩ (fun T' => seqW P ms T' K)
  simp only [opW, put_pt, show srcTake T v = _ from s, l]
  refine ⟨⟨h0, by rw [c.h_sz, h1]⟩, ?_⟩
  rw [stT_sV (x := x) (by simp only [rootD, l]) rfl, l]; exact h
theorem x_sta {n sz r : Nat} {p : List Step} {v : Opd} {c : Cd α} {a : α} {x y : D} (x' : D) (s : Src T v c a T1) (l : T1 n = .adr r p) (g : rootD T1 r = some x) (w : Ln p x y (c.enc a) x') (h0 : y.size = sz) (h1 : c.sz = sz) (h : seqW P ms (sV T1 r p (reS (T1 r) x')) K) : seqW P (⟨none, .st n v sz, none⟩ :: ms) T K := by
  show opW P T ⟨none, .st n v sz, none⟩ (fun T' => seqW P ms T' K)
  simp only [opW, put_pt, show srcTake T v = _ from s, l]
  refine ⟨⟨x, y, g, w.g, h0⟩, by rw [c.h_sz, h1], ?_⟩
  rw [stT_sV g w.s]; exact h
theorem x_stm {n v sz r : Nat} {p : List Step} {x y z : D} (l : T n = .box x) (l2 : T v = .ref r p) (ne : (n == r) = false) (h0 : x.size = sz) (g : rootD T r = some y) (w : Gt p y z) (h1 : z.size = sz) (h : seqW P ms (pt T n (.mad r p)) K) : seqW P (⟨none, .stm n v sz, none⟩ :: ms) T K := by
  show opW P T ⟨none, .stm n v sz, none⟩ (fun T' => seqW P ms T' K)
  simp only [opW, put_pt, l, l2, wayD, g, Option.bind_some]
  exact ⟨⟨by simpa using ne, h0, z, w, h1⟩, h⟩
/-- What is appended. -/
def Tl (T : Nat → SV) (x : Opd) (c : Cd α) (es : List α) (T1 : Nat → SV) : Prop := tailOf T x = some (es.map c.enc, T1)
theorem to {n : Nat} {c : Cd α} {es : List α} (l : T n = .d ((cLo c).enc es)) (i : c.im = true) : Tl T (.t n) c es T := by
  simp only [Tl, tailOf, l]
  show (if D.imms (es.map c.enc) = true then _ else _) = _
  rw [imms_map c i, if_pos rfl]
theorem to1 {n : Nat} {c : Cd α} {a : α} {es : List α} (l : T n = .d ((cLo c).enc (a :: es))) (i : c.im = false) : Tl T (.t n) c (a :: es) (pt T n .un) := by
  simp only [Tl, tailOf, l, put_pt]
  show (if D.imms ((a :: es).map c.enc) = true then _ else _) = _
  rw [if_neg (by simp [D.imms, c.h_im, i])]
theorem ts {n : Nat} {c : Cd α} {hc : c.im = true} {es : List α} (l : T n = .d ((cLs c hc).enc es)) : Tl T (.t n) c es T := by
  simp only [Tl, tailOf, l]; rfl
theorem tr {n r : Nat} {p : List Step} {c : Cd α} {es : List α} {x : D} (l : T n = .ref r p) (g : rootD T r = some x) (w : Gt p x ((cLo c).enc es)) (i : c.im = true) : Tl T (.t n) c es T := by
  simp only [Tl, tailOf, l, wayD, g, Option.bind_some, show getP p x = _ from w]
  show (if D.imms (es.map c.enc) = true then _ else _) = _
  rw [imms_map c i, if_pos rfl]
theorem tn {o : Bool} (c : Cd α) : Tl T (.c (.slice o [])) c ([] : List α) T := rfl
theorem x_app {d sz : Nat} {s x : Opd} {c : Cd α} {l es : List α} (hs : Src T s (cLo c) l T1) (ht : Tl T1 x c es T2) (b : l.length + es.length ≤ 1099511627776) (h1 : c.sz = sz) (h : seqW P ms (pt T2 d (.d ((cLo c).enc (l ++ es)))) K) : seqW P (⟨some d, .app s x sz, none⟩ :: ms) T K := by
  show opW P T ⟨some d, .app s x sz, none⟩ (fun T' => seqW P ms T' K)
  have e1 : baseOf ((cLo c).enc l) = some (l.map c.enc) := rfl
  simp only [opW, put_pt, show srcTake T s = _ from hs, e1, show tailOf T1 x = _ from ht]
  refine ⟨⟨by simpa using b, sizesAll_map c h1 l, sizesAll_map c h1 es⟩, ?_⟩
  have : (cLo c).enc (l ++ es) = .slice true (l.map c.enc ++ es.map c.enc) := by simp [cLo]
  rw [← this]; exact h
def Tks (T : Nat → SV) (l : List Opd) (sz : Nat) (ys : List D) (T1 : Nat → SV) : Prop := takes T l = some (ys, T1) ∧ sizesAll sz ys
theorem t0 {sz : Nat} : Tks T [] sz [] T := ⟨rfl, fun x hx => by simp at hx⟩
theorem t1 {sz : Nat} {x : Opd} {l : List Opd} {c : Cd α} {a : α} {ys : List D} (s : Src T x c a T1) (e : c.sz = sz) (h : Tks T1 l sz ys T2) : Tks T (x :: l) sz (c.enc a :: ys) T2 := by
  refine ⟨by simp only [takes, show srcTake T x = _ from s, Option.bind_some, h.1, Option.map_some], ?_⟩
  intro y hy
  rcases List.mem_cons.1 hy with rfl | hy
  · rw [c.h_sz, e]
  · exact h.2 y hy
theorem x_bsl {d sz : Nat} {parts : List Opd} {ys : List D} (c : Cd α) (l : List α) (hs : Tks T parts sz ys T1) (e : ys = l.map c.enc) (b : Nat.ble ys.length 1024 = true) (h : seqW P ms (pt T1 d (.d ((cLo c).enc l))) K) : seqW P (⟨some d, .bsl parts sz, none⟩ :: ms) T K := by
  show opW P T ⟨some d, .bsl parts sz, none⟩ (fun T' => seqW P ms T' K)
  simp only [opW, put_pt, hs.1]
  refine ⟨⟨Nat.le_of_ble_eq_true b, hs.2⟩, ?_⟩
  subst e; exact h
theorem x_bld {d : Nat} {z ys : List D} {parts : List (Nat × Opd)} (x' : D) (hs : Tks T (parts.map (·.2)) 1 ys T1) (hz : (z.all fun x => x.size == 1) = true) (e : D.agg (((parts.map (·.1)).zip ys).foldl (fun l p => l.set p.1 p.2) z) = x') (h : seqW P ms (pt T1 d (.d x')) K) : seqW P (⟨some d, .bld z parts, none⟩ :: ms) T K := by
  show opW P T ⟨some d, .bld z parts, none⟩ (fun T' => seqW P ms T' K)
  simp only [opW, put_pt, hs.1]
  refine ⟨⟨fun x hx => by simpa using List.all_eq_true.1 hz x hx, hs.2⟩, ?_⟩
  subst e; exact h
theorem x_bldw {d i k m : Nat} {z ys l : List D} {rest : List (Nat × Opd)} (x' : D) (hs : Tks T (.t k :: rest.map (·.2)) 1 ys T1) (hz : (z.all fun x => x.size == 1) = true) (lk : T k = .ref m []) (lm : T m = .d (.slice true l)) (lu : T1 m = .un) (ne : Nat.beq m d = false) (nr : (rest.all fun p => !Nat.beq p.1 i) = true) (e : D.agg (((i :: rest.map (·.1)).zip ys).foldl (fun l p => l.set p.1 p.2) z) = x') (h : seqW P ms (setW (pt T1 d (.d x')) m (.ref d [.fld i])) K) : seqW P (⟨some d, .bldw z i k rest m, none⟩ :: ms) T K := by
  show opW P T ⟨some d, .bldw z i k rest m, none⟩ (fun T' => seqW P ms T' K)
  simp only [opW, put_pt, hs.1]
  refine ⟨⟨⟨fun x hx => by simpa using List.all_eq_true.1 hz x hx, hs.2⟩, ⟨l, lk, lm⟩, lu, ne, nr⟩, ?_⟩
  subst e; exact h
theorem x_stw {n v sz m i : Nat} {x y : D} (l : T n = .box x) (l2 : T v = .d y) (h0 : x.size = sz) (h1 : y.size = sz) (im : y.imm = false) (lm : T m = .ref v [.fld i]) (ne : Nat.beq n v = false) (nm : Nat.beq m n = false) (h : seqW P ms (setW (sV (pt T v .un) n [] (.box y)) m (.ref n [.fld i])) K) : seqW P (⟨none, .stw n v sz m i, none⟩ :: ms) T K := by
  show opW P T ⟨none, .stw n v sz m i, none⟩ (fun T' => seqW P ms T' K)
  simp only [opW, put_pt, l, l2]
  have e : pt T v .un n = .box x := by
    rw [← put_pt]
    have hne : n ≠ v := by intro e; subst e; simp at ne
    simp [AS.put, hne, l, SV.root]
  refine ⟨⟨⟨h0, h1⟩, im, lm, ne, nm⟩, ?_⟩
  rw [stT_sV (x := x) (by simp only [rootD, e]) rfl, e]; exact h
theorem x_ext {d n i : Nat} {L : List (Option D)} {y : D} (l : T n = .tup L) (g : L[i]? = some (some y)) (h : seqW P ms (pt (pt T n (.tup (L.set i none))) d (.d y)) K) : seqW P (⟨some d, .ext n i, none⟩ :: ms) T K := by
  show opW P T ⟨some d, .ext n i, none⟩ (fun T' => seqW P ms T' K)
  simp only [opW, put_pt, l, g]; exact h
/-- Calls that take arguments over, and calls that hand one back. -/
def Mrg (T : Nat → SV) (args : List (Bool × Opd)) (ys ds : List D) : Prop := mergeA T args ys = some ds
theorem m0 : Mrg T [] [] [] := rfl
theorem m1 {x : Opd} {l : List (Bool × Opd)} {y : D} {ys ds : List D} (h : Mrg T l ys ds) : Mrg T ((true, x) :: l) (y :: ys) (y :: ds) := by
  simp only [Mrg, mergeA, show mergeA T l ys = _ from h, Option.map_some]
theorem m2 {x : Opd} {l : List (Bool × Opd)} {c c' : Cd α} {a : α} {ys ds : List D} (t : ToI c c') (hx : rd T x = some (c.enc a)) (h : Mrg T l ys ds) : Mrg T ((false, x) :: l) ys (c'.enc a :: ds) := by
  simp only [Mrg, mergeA, hx, show mergeA T l ys = _ from h, Option.bind_some, Option.map_some, t.h]
def Tkn (T : Nat → SV) (l : List Opd) (ys : List D) (T1 : Nat → SV) : Prop := takes T l = some (ys, T1)
theorem k0 : Tkn T [] [] T := rfl
theorem k1 {x : Opd} {l : List Opd} {c : Cd α} {a : α} {ys : List D} (s : Src T x c a T1) (h : Tkn T1 l ys T2) : Tkn T (x :: l) (c.enc a :: ys) T2 := by
  simp only [Tkn, takes, show srcTake T x = _ from s, Option.bind_some, show takes T1 l = _ from h, Option.map_some]
theorem x_clt {d fn : Nat} {args : List (Bool × Opd)} {ys ds res : List D} (hk : Tkn T (takenOf args) ys T1) (hm : Mrg T1 args ys ds) (hc : Con P fn ds [] res) (hs : D.solids res = true) (h : seqW P ms (pt T1 d (resSV res)) K) : seqW P (⟨some d, .callT fn args, none⟩ :: ms) T K := by
  show opW P T ⟨some d, .callT fn args, none⟩ (fun T' => seqW P ms T' K)
  simp only [opW, put_pt, argTakes, show takes T _ = _ from hk, Option.bind_some, show mergeA T1 args ys = _ from hm, Option.map_some]
  exact ⟨res, hc, hs, h⟩
/-! Lists that may be nil -/
theorem spN {n r : Nat} {q : Step} {p : List Step} {c : Cd α} {v : Option (List α)} {x : D} (x' : D) (l : T n = .ref r (q :: p)) (g : rootD T r = some x) (w : Ln (q :: p) x ((cNo c).enc v) .hole x') : Src T (.t n) (cNo c) v (hV T r (q :: p) (reS (T r) x')) := by
  have hh : (T r).setR (q :: p) .hole = reS (T r) x' := by
    unfold rootD at g
    cases hT : T r <;> simp only [hT] at g <;> cases g <;> simp only [SV.setR, reS, w.s]
  have hw : wayD T r (q :: p) = some ((cNo c).enc v) := by simp only [wayD, g, Option.bind_some, w.g]
  cases v with
  | none => simp only [Src, srcTake, l, hw, cNo, hlT_hV hh]
  | some v => simp only [Src, srcTake, l, hw, cNo, hlT_hV hh]
/-! Function values -/
def Cps (T : Nat → SV) (caps : List (Bool × Nat)) (ds : List D) (T1 : Nat → SV) : Prop := capsT T caps = some (ds, T1)
theorem cp0 : Cps T [] [] T := rfl
theorem cpo {m : Nat} {l : List (Bool × Nat)} {c : Cd α} {a : α} {ds : List D} (h0 : T m = .box (c.enc a)) (h : Cps (pt T m .un) l ds T1) : Cps T ((true, m) :: l) (.ptr true (c.enc a) :: ds) T1 := by
  simp only [Cps, capsT, capT, h0, Option.bind_some, put_pt, show capsT (pt T m .un) l = _ from h, Option.map_some]
theorem cps {m : Nat} {l : List (Bool × Nat)} {c c' : Cd α} {a : α} {ds : List D} (t : ToI c c') (h0 : T m = .box (c.enc a)) (h : Cps (pt T m (.ima (c'.enc a))) l ds T1) : Cps T ((false, m) :: l) (.ptr false (c'.enc a) :: ds) T1 := by
  simp only [Cps, capsT, capT, h0, Option.bind_some, put_pt, t.h, show capsT (pt T m (.ima (c'.enc a))) l = _ from h, Option.map_some]
theorem cpi {m : Nat} {l : List (Bool × Nat)} {c : Cd α} {a : α} {ds : List D} (h0 : T m = .ima (c.enc a)) (h : Cps T l ds T1) : Cps T ((false, m) :: l) (.ptr false (c.enc a) :: ds) T1 := by
  simp only [Cps, capsT, capT, h0, Option.bind_some, show capsT T l = _ from h, Option.map_some]
theorem x_mkf {d g : Nat} {caps : List (Bool × Nat)} {ds : List D} (cf : Cd α) (v : α) (hs : Cps T caps ds T1) (ne : (caps.all fun c => c.2 != d) = true) (e : D.fn g ds = cf.enc v) (h : seqW P ms (wayB (pt T1 d (.d (cf.enc v))) d caps) K) : seqW P (⟨some d, .mkf g caps, none⟩ :: ms) T K := by
  show opW P T ⟨some d, .mkf g caps, none⟩ (fun T' => seqW P ms T' K)
  simp only [opW, show capsT T caps = _ from hs, put_pt, e]
  exact ⟨ne, h⟩
def Fat (T : Nat → SV) (k r0 g : Nat) (caps : List D) : Prop := fnAt T k = some (r0, g, caps)
theorem fad {k g : Nat} {caps : List D} {cf : Cd α} {v : α} (l : T k = .d (cf.enc v)) (e : cf.enc v = .fn g caps) : Fat T k k g caps := by
  simp only [Fat, fnAt, l, e]
theorem far {k g r0 : Nat} {caps : List D} {cf : Cd α} {v : α} (l : T k = .ref r0 []) (l2 : T r0 = .d (cf.enc v)) (e : cf.enc v = .fn g caps) : Fat T k r0 g caps := by
  simp only [Fat, fnAt, l, l2, e]
theorem cl0 : capsLike [] [] := trivial
theorem cls {c : Cd α} {a : α} {l m : List D} (i : c.im = true) (h : capsLike l m) : capsLike (.ptr false (c.enc a) :: l) (.ptr false (c.enc a) :: m) := ⟨⟨rfl, by rw [c.h_im, i]⟩, h⟩
theorem clo {x : D} {c : Cd α} {a : α} {l m : List D} (s : Sol c) (h : capsLike l m) : capsLike (.ptr true x :: l) (.ptr true (c.enc a) :: m) := ⟨⟨_, rfl, s.h a⟩, h⟩
theorem x_cf {d k r0 g : Nat} {args : List (Bool × Opd)} {caps caps' ys ds res : List D} (cf : Cd α) (v : α) (hf : Fat T k r0 g caps) (hk : Tkn (pt T r0 .un) (takenOf args) ys T1) (hm : Mrg T1 args ys ds) (e : cf.enc v = D.fn g caps') (hc : Con P g (ds ++ caps) (capOuts ds.length caps') res) (hl : capsLike caps caps') (hs : D.solids res = true) (h : seqW P ms (pt (pt T1 r0 (.d (cf.enc v))) d (resSV res)) K) : seqW P (⟨some d, .callf k args, none⟩ :: ms) T K := by
  show opW P T ⟨some d, .callf k args, none⟩ (fun T' => seqW P ms T' K)
  simp only [opW, show fnAt T k = _ from hf, put_pt, argTakes, show takes _ _ = _ from hk, Option.bind_some, show mergeA T1 args ys = _ from hm, Option.map_some]
  exact ⟨res, caps', hc, hl, hs, by rw [← e]; exact h⟩
theorem Args.len : ∀ {T : Nat → SV} {args : List Opd} {ds0 : List D}, rds T args = some ds0 → ds0.length = args.length
  | T, [], ds0, h => by simp only [rds, Option.some.injEq] at h; subst h; rfl
  | T, x :: l, ds0, h => by
    simp only [rds] at h
    cases h1 : rd T x with
    | none => simp [h1] at h
    | some y =>
      cases h2 : rds T l with
      | none => simp [h1, h2] at h
      | some ys =>
        simp only [h1, h2, Option.bind_some, Option.map_some, Option.some.injEq] at h
        subst h
        simp [Args.len h2]
theorem x_cp {d fn k g n : Nat} {pre post : List Opd} {caps caps' ds es res : List D} {β : Type} {cf : Cd β} {v : β} (cf' : Cd α) (v' : α) (l : T k = .d (cf.enc v)) (e : cf.enc v = .fn g caps) (ha : Args (pt T k .un) pre ds) (hb : Args (pt T k .un) post es) (hn : pre.length = n) (e' : cf'.enc v' = D.fn g caps') (hc : Con P fn (ds ++ .fn g caps :: es) [(n, .fn g caps')] res) (hl : capsLike caps caps') (hs : D.solids res = true) (h : seqW P ms (keepA T (pt (pt T k (.d (cf'.enc v'))) d (resSV res)) k d) K) : seqW P (⟨some d, .callP fn pre k post, none⟩ :: ms) T K := by
  obtain ⟨d1, h1, rfl⟩ := ha
  obtain ⟨d2, h2, rfl⟩ := hb
  show opW P T ⟨some d, .callP fn pre k post, none⟩ (fun T' => seqW P ms T' K)
  simp only [opW, l, e, put_pt, h1, h2]
  refine ⟨res, caps', by rw [Args.len h1, hn]; exact hc, hl, hs, by rw [← e']; exact h⟩
theorem keepM_kM {r d : Nat} {s v : SV} : keepM T (pt (pt T r s) d v) r d = kM T r s d v := by
  funext t
  simp only [keepM, kM, pt, beq_if]
  by_cases h1 : t = d
  · simp [h1]
  · simp only [h1, ne_eq, not_false_eq_true, true_and, if_false]
    by_cases h2 : t = r
    · subst h2
      simp only [h1, not_false_eq_true, true_and, if_true]
      cases isMad (T t) t <;> rfl
    · simp only [h2, if_false]
      cases hT : T t with
      | mad r' q =>
        cases q with
        | nil =>
          simp only [isMad, kK, nbeq_dec]
          by_cases h3 : r = d <;> by_cases h4 : r' = r <;> simp [h3, h4, kE, nbeq_dec]
        | cons => simp [isMad, kK]
      | _ => simp [isMad, kK, kE]
theorem x_clo {d fn n : Nat} {args : List Opd} {c c' : Cd α} {a a' : α} {ds res : List D} (so : Sol c') (l : T n = .d (c.enc a)) (ha : Args (pt T n .un) args ds) (hc : Con P fn (c.enc a :: ds) [(0, c'.enc a')] res) (e1 : c'.sz = c.sz) (e2 : c'.ag = c.ag) (hs : D.solids res = true) (h : seqW P ms (kM T n (.d (c'.enc a')) d (resSV res)) K) : seqW P (⟨some d, .callO fn (.t n :: args), none⟩ :: ms) T K := by
  obtain ⟨d1, h1, rfl⟩ := ha
  show opW P T ⟨some d, .callO fn (.t n :: args), none⟩ (fun T' => seqW P ms T' K)
  simp only [opW, put_pt, l, h1]
  refine ⟨res, _, hc, ⟨by rw [c'.h_sz, c.h_sz, e1], by rw [c'.h_ag, c.h_ag, e2], so.h a', hs⟩, ?_⟩
  rw [keepM_kM]; exact h
theorem x_clr {d fn n r : Nat} {p : List Step} {args : List Opd} {c c' : Cd α} {a a' : α} {x : D} (x' : D) {ds res : List D} (so : Sol c') (l : T n = .ref r p) (ha : Args (pt T r .un) args ds) (g : rootD T r = some x) (w : Ln p x (c.enc a) (c'.enc a') x') (hc : Con P fn (c.enc a :: ds) [(0, c'.enc a')] res) (e1 : c'.sz = c.sz) (e2 : c'.ag = c.ag) (hs : D.solids res = true) (h : seqW P ms (kM T r (reS (T r) x') d (resSV res)) K) : seqW P (⟨some d, .callO fn (.t n :: args), none⟩ :: ms) T K := by
  obtain ⟨d1, h1, rfl⟩ := ha
  show opW P T ⟨some d, .callO fn (.t n :: args), none⟩ (fun T' => seqW P ms T' K)
  simp only [opW, put_pt, l, h1, wayD, g, Option.bind_some, w.g]
  refine ⟨res, _, hc, ⟨by rw [c'.h_sz, c.h_sz, e1], by rw [c'.h_ag, c.h_ag, e2], so.h a', hs⟩, ?_⟩
  have : (T r).setR p (c'.enc a') = reS (T r) x' := by
    unfold rootD at g
    cases hT : T r <;> simp only [hT] at g <;> cases g <;> simp only [SV.setR, reS, w.s]
  rw [this, keepM_kM]; exact h
end

/-! ### Code -/
section
variable {P : Program} {T : Nat → SV} {R : Type} {r : R} {Q Q' : MX → (Nat → SV) → Prop} {a b : MC} {σ : Type}
/-- The end of a region: the state, told anew. -/
theorem seqN {ks : List Nat} (L : TL) (e : kG T ks ks = L) (h : Q .nrm (gl L)) : seqW P [] T fun T' => Q .nrm (ofL (keepL T' ks ks)) := by
  show Q .nrm (ofL (keepL T ks ks))
  rw [keepL_kG, e, ofL_gl]; exact h
theorem preN {K : (Nat → SV) → Prop} (h : K T) : preW P [] T K := h
theorem kpN {ks : List Nat} (L : TL) (e : kG T ks ks = L) (h : Q .nrm (gl L)) : thenX (fun L' => Q .nrm (ofL (keepL L' ks ks))) Q' .nrm T := by
  show Q .nrm (ofL (keepL T ks ks))
  rw [keepL_kG, e, ofL_gl]; exact h
theorem cnd {c : Opd} {p : Bool} {f g : Option R} (hc : rd T c = some (cB.enc p)) (h : (if p = true then f else g) = some r) (ht : p = true → f = some r → wpC P a T Q) (hf : p = false → g = some r → wpC P b T Q) : wpC P (.cond c a b) T Q :=
  wpC_cond hc (fun e => ht e (by subst e; simpa using h)) (fun e => hf e (by subst e; simpa using h))
theorem cnd1 {c : Opd} {p : Bool} (hc : rd T c = some (cB.enc p)) (e : p = true) (ht : wpC P a T Q) : wpC P (.cond c a b) T Q :=
  wpC_cond hc (fun _ => ht) (fun e' => by rw [e] at e'; cases e')
theorem cnd0 {c : Opd} {p : Bool} (hc : rd T c = some (cB.enc p)) (e : p = false) (hf : wpC P b T Q) : wpC P (.cond c a b) T Q :=
  wpC_cond hc (fun e' => by rw [e] at e'; cases e') (fun _ => hf)
/-- A slot's data, from here on only read. -/
theorem fz_s {α : Type} {n : Nat} {c c' : Cd α} {v : α} (t : ToI c c') (l : T n = .d (c.enc v)) (h : wpC P a (pt (pt T n .un) n (.d (c'.enc v))) Q) : wpC P (.fz n a) T Q :=
  ⟨c.enc v, l, by rw [t.h, put_pt, put_pt]; exact h⟩
/-- Ways that meet again behind code. -/
theorem fzb_s {α : Type} {n : Nat} {c c' : Cd α} {v : α} (t : ToI c c') (l : T n = .box (c.enc v)) (h : wpC P a (pt T n (.ima (c'.enc v))) Q) : wpC P (.fzb n a) T Q :=
  ⟨_, l, by rw [t.h]; simpa only [put_pt] using h⟩
theorem fg_s {α : Type} {n : Nat} {c : Cd α} {v : Option (List α)} (l : T n = .d ((cNo c).enc v)) (h : wpC P a (pt (pt T n .un) n (.d ((cLo c).enc (v.getD [])))) Q) : wpC P (.fg n a) T Q :=
  ⟨_, l, by
    have e : fgD ((cNo c).enc v) = (cLo c).enc (v.getD []) := by cases v <;> simp [cNo, cLo, fgD]
    rw [e]; simpa only [put_pt] using h⟩
theorem sqj {f : σ → Option R} {k : (σ → Option R) → Option R} (S : σ → TL) (h : jn f k = some r) (mid : ∀ s, f s = some r → wpC P b (gl (S s)) Q)
    (main : (∀ s, f s = some r → thenX (fun T' => wpC P b T' Q) Q .nrm (gl (S s))) → k f = some r → wpC P a T (thenX (fun T' => wpC P b T' Q) Q)) : wpC P (.seq a b) T Q := main mid h
theorem lpF {body : (σ → Option R) → σ → Option R} {n : Nat} {L : TL} (S : σ → TL) (s0 : σ) (e : L = S s0) (h : loopF body n s0 = some r)
    (step : ∀ (G : (Nat → SV) → Prop) next s, (∀ s', next s' = some r → G (gl (S s'))) → body next s = some r → wpC P a (gl (S s)) (thenX G Q)) : wpC P (.loop a) (gl L) Q := by
  subst e
  refine ⟨fun m T' => ∃ s, T' = gl (S s) ∧ loopF body m s = some r, n, ⟨s0, rfl, h⟩, ?_⟩
  rintro m T' ⟨s, rfl, hs⟩
  cases m with
  | zero => cases hs
  | succ m => exact step _ _ s (fun s' h' => ⟨m, Nat.lt_succ_self m, s', rfl, h'⟩) hs
theorem lpR {α : Type} {body : Nat → α → σ → (σ → Option R) → Option R} {fin : σ → Option R} {l : List α} {L : TL} (S : Nat → σ → TL) (s0 : σ) (e : L = S 0 s0) (h : rangeF body fin l 0 s0 = some r)
    (done : ∀ (G : (Nat → SV) → Prop) s, fin s = some r → wpC P a (gl (S l.length s)) (thenX G Q))
    (step : ∀ (G : (Nat → SV) → Prop) next k s x, k < l.length → l[k]? = some x → (∀ s', next s' = some r → G (gl (S (k + 1) s'))) → body k x s next = some r → wpC P a (gl (S k s)) (thenX G Q)) : wpC P (.loop a) (gl L) Q := by
  subst e
  refine ⟨fun m T' => ∃ s k, T' = gl (S k s) ∧ k ≤ l.length ∧ m = l.length - k ∧ rangeF body fin (l.drop k) k s = some r, l.length, ⟨s0, 0, rfl, Nat.zero_le _, rfl, h⟩, ?_⟩
  rintro m T' ⟨s, k, rfl, hk, rfl, hs⟩
  by_cases hl : k = l.length
  · subst hl
    rw [List.drop_length] at hs
    exact done _ s hs
  · have hlt : k < l.length := by omega
    rw [List.drop_eq_getElem_cons hlt] at hs
    refine step _ _ k s l[k] hlt (List.getElem?_eq_getElem hlt) (fun s' h' => ⟨l.length - (k + 1), by omega, s', k + 1, rfl, hlt, rfl, h'⟩) hs
/-- Ways through a region, or through assignments, that meet again. -/
theorem jw {o : Option σ} {g : σ → Option R} (S : σ → TL) (h : o.bind g = some r) (k : ∀ s, g s = some r → Q .nrm (gl (S s))) (main : ∀ s, Q .nrm (gl (S s)) → o = some s → wpC P a T Q) : wpC P a T Q := by
  cases o with
  | none => cases h
  | some s => exact main s (k s h) rfl
theorem lf {ks : List Nat} {v s : σ} {S : σ → TL} (h : some v = some s) (hk : Q .nrm (gl (S s))) (e : kG T ks ks = S v) : seqW P [] T fun T' => Q .nrm (ofL (keepL T' ks ks)) := by
  cases h
  show Q .nrm (ofL (keepL T ks ks))
  rw [keepL_kG, e, ofL_gl]; exact hk
theorem lfn {v s : σ} {S : σ → TL} (h : some v = some s) (hk : Q .nrm (gl (S s))) {L : TL} (e : L = S v) : Q .nrm (gl L) := by
  cases h
  rw [e]; exact hk
/-! The shapes of what comes behind. -/
theorem xn {K : (Nat → SV) → Prop} (h : K T) : thenX K Q .nrm T := h
theorem xt {K : (Nat → SV) → Prop} {id : Nat} (h : Q (.ext id) T) : thenX K Q (.ext id) T := h
theorem rt {K : (Nat → SV) → Prop} (h : Q .ret T) : thenX K Q .ret T := h
theorem xbb {id : Nat} (h : Q .nrm T) : blkX id Q .nrm T := h
theorem xb {id : Nat} (h : Q .nrm T) : blkX id Q (.ext id) T := by simp only [blkX, if_true]; exact h
theorem xbn {id id' : Nat} (e : (id' == id) = false) (h : Q (.ext id') T) : blkX id Q (.ext id') T := by simp only [blkX]; rw [if_neg (by simpa using e)]; exact h
theorem rb {id : Nat} (h : Q .ret T) : blkX id Q .ret T := h
theorem re {K : (Nat → SV) → Prop} (h : K T) : endX K .ret T := h
theorem ren {K : (Nat → SV) → Prop} (h : K T) : endX K .nrm T := h
/-! ### The end -/
def Rts (T : Nat → SV) (rs : List MR) (ds : List D) (T1 : Nat → SV) : Prop := resTakes T rs = some (ds, T1)
theorem r0 : Rts T [] [] T := rfl
theorem r1 {t : Nat} {rs : List MR} {α : Type} {c : Cd α} {a : α} {ds : List D} {T1 T2 : Nat → SV} (s : Src T (.t t) c a T1) (h : Rts T1 rs ds T2) : Rts T (.t t :: rs) (c.enc a :: ds) T2 := by
  simp only [Rts, resTakes, resTake, show srcTake T _ = _ from s, Option.bind_some, show resTakes T1 rs = _ from h, Option.map_some]
theorem r2 {t sz : Nat} {ag : Bool} {rs : List MR} {α : Type} {c : Cd α} {a : α} {ds : List D} {T2 : Nat → SV} (l : T t = .box (c.enc a)) (hs : c.sz = sz) (ha : c.ag = ag) (h : Rts (pt T t .un) rs ds T2) : Rts T (.c t sz ag :: rs) (c.enc a :: ds) T2 := by
  simp only [Rts, resTakes, resTake, put_pt, l, c.h_sz, c.h_ag, hs, ha, and_self, if_true, Option.bind_some, show resTakes _ rs = _ from h, Option.map_some]
theorem fin {rs : List MR} {ds : List D} {T1 : Nat → SV} {v : R} {res : R → List D} (h : some v = some r) (x : Rts T rs ds T1) (e : ds = res v) : resW rs none (res r) T := by
  cases h
  simp only [resW, show resTakes T rs = _ from x]; exact ⟨e, trivial⟩
theorem ini {m : MC} {L : TL} (L' : TL) (e : L = L') (h : wpC P m (gl L') Q) : wpC P m (ofL L) Q := by subst e; rw [ofL_gl]; exact h
theorem finO {rs : List MR} {ds : List D} {T1 : Nat → SV} {v : R} {res : R → List D} {q : Nat} {out : R → D} (h : some v = some r) (x : Rts T rs ds T1) (e : ds = res v) (o : T1 q = entSV (out v)) : resW rs (some (q, out r)) (res r) T := by
  cases h
  simp only [resW, show resTakes T rs = _ from x]; exact ⟨e, o⟩
theorem b_inc {F : SV → Prop} {x y : Opd} {k n : Nat} (hx : rd T x = some (cI.enc (k : Int))) (hy : rd T y = some (cI.enc 1)) (b : n ≤ 9223372036854775807) (b' : k < n) (h : F (.d (cI.enc ((k + 1 : Nat) : Int)))) : evP P T (.bin .add x y) F :=
  b_add (k := .i64) hx hy (by simp only [InR]; omega) h
end
end AS
namespace AS
open Go

/-- The same words, as closed boxes: what is elaborated is not looked into. -/
structure SQ (P : Program) (ms : List MOp) (T : Nat → SV) (K : (Nat → SV) → Prop) : Prop where
  h : seqW P ms T K
structure EV (P : Program) (T : Nat → SV) (k : MK) (F : SV → Prop) : Prop where
  h : evP P T k F
structure EW (P : Program) (T : Nat → SV) (k : MK) (F : SV → Prop) : Prop where
  h : evW P T k F
structure PW (P : Program) (ps : List PO) (T : Nat → SV) (K : (Nat → SV) → Prop) : Prop where
  h : preW P ps T K
structure WP (P : Program) (m : MC) (T : Nat → SV) (Q : MX → (Nat → SV) → Prop) : Prop where
  h : wpC P m T Q
structure RW (rs : List MR) (out : Option (Nat × D)) (res : List D) (T : Nat → SV) : Prop where
  h : resW rs out res T
theorem SQ_eq : @SQ = @seqW := by funext P ms T K; exact propext ⟨fun h => h.h, fun h => ⟨h⟩⟩
theorem EV_eq : @EV = @evP := by funext P ms T K; exact propext ⟨fun h => h.h, fun h => ⟨h⟩⟩
theorem EW_eq : @EW = @evW := by funext P ms T K; exact propext ⟨fun h => h.h, fun h => ⟨h⟩⟩
theorem PW_eq : @PW = @preW := by funext P ms T K; exact propext ⟨fun h => h.h, fun h => ⟨h⟩⟩
theorem WP_eq : @WP = @wpC := by funext P ms T K; exact propext ⟨fun h => h.h, fun h => ⟨h⟩⟩
theorem RW_eq : @RW = @resW := by funext P ms T K; exact propext ⟨fun h => h.h, fun h => ⟨h⟩⟩
/-- A graph of states: the parts that change, by what has been done. -/
def eqB : List Bool → List Bool → Bool
  | [], [] => true
  | true :: a, true :: b => eqB a b
  | false :: a, false :: b => eqB a b
  | true :: _, false :: _ => false
  | false :: _, true :: _ => false
  | [], true :: _ => false
  | [], false :: _ => false
  | true :: _, [] => false
  | false :: _, [] => false
def lkB : List (List Bool × TL) → List Bool → Option TL
  | [], _ => none
  | (b, c) :: l, x => bif eqB b x then some c else lkB l x
theorem eqB_iff : ∀ {a b : List Bool}, eqB a b = true → a = b
  | [], [], _ => rfl
  | true :: a, true :: b, h => by rw [eqB_iff (a := a) (b := b) h]
  | false :: a, false :: b, h => by rw [eqB_iff (a := a) (b := b) h]
  | true :: _, false :: _, h => by cases h
  | false :: _, true :: _, h => by cases h
  | [], true :: _, h => by cases h
  | [], false :: _, h => by cases h
  | true :: _, [], h => by cases h
  | false :: _, [], h => by cases h
structure GR (P : Program) (pre : List PO) (rest : List (Nat × MOp)) (ka : List Nat) (gr : List (List Bool × Nat)) (T : Nat → SV) (K : (Nat → SV) → Prop) : Prop where
  h : grW P pre rest ka gr T K
structure OB (P : Program) (rest : List (Nat × MOp)) (ka : List Nat) (B : TL) (N : List (List Bool × TL)) (gr : List (List Bool × Nat)) : Prop where
  h : ∀ g ∈ gr, ∀ t, rest[g.2]? = some t → ∀ c, lkB N g.1 = some c → opG P t.2 (ofL (c ++ B)) fun T' => ∃ c', lkB N (g.1.set g.2 true) = some c' ∧ keepL T' ka ka = c' ++ B
namespace W
section
variable {P : Program} {T T1 T2 : Nat → SV} {R : Type} {r : R} {ms : List MOp} {K : (Nat → SV) → Prop} {F : SV → Prop} {α β σ : Type} {f : Option R}
theorem st {k : MK} {d : Nat} (hk : pureK k = true) (h : EV P T k fun s => SQ P ms (pt T d (kE d s)) K) : SQ P (⟨some d, k, none⟩ :: ms) T K := by
  simp only [SQ_eq, EV_eq, EW_eq, PW_eq, WP_eq, RW_eq] at *
  exact AS.st hk h
theorem stw {k : MK} {d : Nat} (hk : pureK k = true) (h : EW P T k fun s => SQ P ms (pt T d (kE d s)) K) : SQ P (⟨some d, k, none⟩ :: ms) T K := by
  simp only [SQ_eq, EV_eq, EW_eq, PW_eq, WP_eq, RW_eq] at *
  exact AS.stw hk h
theorem gt {m : MK} {d : Option Nat} {s : Nat} {b : Bool} (l : T s = .d (cB.enc b)) (h : SQ P (⟨d, m, none⟩ :: ms) T K) : SQ P (⟨d, m, some (s, b)⟩ :: ms) T K := by
  simp only [SQ_eq, EV_eq, EW_eq, PW_eq, WP_eq, RW_eq] at *
  exact AS.gt l h
theorem gt' {m : MK} {d : Option Nat} {s : Nat} {b x : Bool} (l : T s = .d (cB.enc x)) (e : x = b) (h : SQ P (⟨d, m, none⟩ :: ms) T K) : SQ P (⟨d, m, some (s, b)⟩ :: ms) T K := by
  simp only [SQ_eq, EV_eq, EW_eq, PW_eq, WP_eq, RW_eq] at *
  exact AS.gt' l e h
theorem gf {m : MK} {d : Nat} {s : Nat} {b x : Bool} (l : T s = .d (cB.enc x)) (e : x = !b) (h : SQ P ms (pt T d (.tup [])) K) : SQ P (⟨some d, m, some (s, b)⟩ :: ms) T K := by
  simp only [SQ_eq, EV_eq, EW_eq, PW_eq, WP_eq, RW_eq] at *
  exact AS.gf l e h
theorem gf0 {m : MK} {s : Nat} {b x : Bool} (l : T s = .d (cB.enc x)) (e : x = !b) (h : SQ P ms T K) : SQ P (⟨none, m, some (s, b)⟩ :: ms) T K := by
  simp only [SQ_eq, EV_eq, EW_eq, PW_eq, WP_eq, RW_eq] at *
  exact AS.gf0 l e h
theorem gu {m : MK} {d : Nat} {s : Nat} {b : Bool} (l : T s = .tup []) (h : SQ P ms (pt T d (.tup [])) K) : SQ P (⟨some d, m, some (s, b)⟩ :: ms) T K := by
  simp only [SQ_eq, EV_eq, EW_eq, PW_eq, WP_eq, RW_eq] at *
  exact AS.gu l h
theorem gu0 {m : MK} {s : Nat} {b : Bool} (l : T s = .tup []) (h : SQ P ms T K) : SQ P (⟨none, m, some (s, b)⟩ :: ms) T K := by
  simp only [SQ_eq, EV_eq, EW_eq, PW_eq, WP_eq, RW_eq] at *
  exact AS.gu0 l h
theorem pst {ps : List PO} {j d : Nat} {k : MK} {hid : List Nat} (u : T d = .un) (h : EV P (hT T hid) k fun s => safeR s hid d = true ∧ PW P ps (eT T d s) K) : PW P (⟨j, ⟨some d, k, none⟩, hid⟩ :: ps) T K := by
  simp only [SQ_eq, EV_eq, EW_eq, PW_eq, WP_eq, RW_eq] at *
  exact AS.pst u h
theorem pgt {ps : List PO} {j d s : Nat} {k : MK} {hid : List Nat} {b x : Bool} (l : hT T hid s = .d (cB.enc x)) (e : x = b) (h : PW P (⟨j, ⟨some d, k, none⟩, hid⟩ :: ps) T K) : PW P (⟨j, ⟨some d, k, some (s, b)⟩, hid⟩ :: ps) T K := by
  simp only [SQ_eq, EV_eq, EW_eq, PW_eq, WP_eq, RW_eq] at *
  exact AS.pgt l e h
theorem pgf {ps : List PO} {j d s : Nat} {k : MK} {hid : List Nat} {b x : Bool} (u : T d = .un) (l : hT T hid s = .d (cB.enc x)) (e : x = !b) (h : PW P ps (eT T d (.tup [])) K) : PW P (⟨j, ⟨some d, k, some (s, b)⟩, hid⟩ :: ps) T K := by
  simp only [SQ_eq, EV_eq, EW_eq, PW_eq, WP_eq, RW_eq] at *
  exact AS.pgf u l e h
theorem pgu {ps : List PO} {j d s : Nat} {k : MK} {hid : List Nat} {b : Bool} (u : T d = .un) (l : hT T hid s = .tup []) (h : PW P ps (eT T d (.tup [])) K) : PW P (⟨j, ⟨some d, k, some (s, b)⟩, hid⟩ :: ps) T K := by
  simp only [SQ_eq, EV_eq, EW_eq, PW_eq, WP_eq, RW_eq] at *
  exact AS.pgu u l h
theorem mvc {x : D} (c : Cd α) (a : α) (e : x = c.enc a) (h : F (.d (c.enc a))) : EV P T (.mv (.c x)) F := by
  simp only [SQ_eq, EV_eq, EW_eq, PW_eq, WP_eq, RW_eq] at *
  exact AS.mvc c a e h
theorem mvd {n : Nat} {c : Cd α} {a : α} (l : T n = .d (c.enc a)) (i : c.im = true) (h : F (.d (c.enc a))) : EV P T (.mv (.t n)) F := by
  simp only [SQ_eq, EV_eq, EW_eq, PW_eq, WP_eq, RW_eq] at *
  exact AS.mvd l i h
theorem mvo {n : Nat} {c : Cd α} {a : α} (l : T n = .d (c.enc a)) (i : c.im = false) (h : F (.ref n [])) : EV P T (.mv (.t n)) F := by
  simp only [SQ_eq, EV_eq, EW_eq, PW_eq, WP_eq, RW_eq] at *
  exact AS.mvo l i h
theorem mvr {n r : Nat} {p : List Step} (l : T n = .ref r p) (h : F (.ref r p)) : EV P T (.mv (.t n)) F := by
  simp only [SQ_eq, EV_eq, EW_eq, PW_eq, WP_eq, RW_eq] at *
  exact AS.mvr l h
theorem fab {n i off : Nat} {x : D} {ds : List D} (l : T n = .box x) (e : x = .agg ds) (lt : Nat.ble (i + 1) ds.length = true) (o : D.sizes (ds.take i) = off) (h : F (.adr n [.fld i])) : EV P T (.fa n i off) F := by
  simp only [SQ_eq, EV_eq, EW_eq, PW_eq, WP_eq, RW_eq] at *
  exact AS.fab l e lt o h
theorem faa {n i off r : Nat} {p : List Step} {x y : D} {ds : List D} (l : T n = .adr r p) (g : rootD T r = some x) (w : Gt p x y) (e : y = .agg ds) (lt : Nat.ble (i + 1) ds.length = true) (o : D.sizes (ds.take i) = off) (h : F (.adr r (p ++ [.fld i]))) : EV P T (.fa n i off) F := by
  simp only [SQ_eq, EV_eq, EW_eq, PW_eq, WP_eq, RW_eq] at *
  exact AS.faa l g w e lt o h
theorem fam {n i off r : Nat} {p : List Step} {x y : D} {ds : List D} (l : T n = .mad r p) (g : rootD T r = some x) (w : Gt p x y) (e : y = .agg ds) (lt : Nat.ble (i + 1) ds.length = true) (o : D.sizes (ds.take i) = off) (h : F (.mad r (p ++ [.fld i]))) : EV P T (.fa n i off) F := by
  simp only [SQ_eq, EV_eq, EW_eq, PW_eq, WP_eq, RW_eq] at *
  exact AS.fam l g w e lt o h
theorem fai {n i off : Nat} {x z : D} {ds : List D} (l : T n = .ima x) (e : x = .agg ds) (g : ds[i]? = some z) (o : D.sizes (ds.take i) = off) (h : F (.ima z)) : EV P T (.fa n i off) F := by
  simp only [SQ_eq, EV_eq, EW_eq, PW_eq, WP_eq, RW_eq] at *
  exact AS.fai l e g o h
theorem ias {n sz : Nat} {i : Opd} {k : IntKind} {iv : Int} {c : Cd α} {hc : c.im = true} {l : List α} {a : α} (ri : rd T i = some ((cK k).enc iv)) (lk : T n = .d ((cLs c hc).enc l)) (h0 : 0 ≤ iv) (hx : l[iv.toNat]? = some a) (hs : c.sz = sz) (h : F (.ima (c.enc a))) : EV P T (.ia n i sz) F := by
  simp only [SQ_eq, EV_eq, EW_eq, PW_eq, WP_eq, RW_eq] at *
  exact AS.ias ri lk h0 hx hs h
theorem iao {n sz : Nat} {i : Opd} {k : IntKind} {iv : Int} {c : Cd α} {l : List α} {a : α} (ri : rd T i = some ((cK k).enc iv)) (lk : T n = .d ((cLo c).enc l)) (h0 : 0 ≤ iv) (hx : l[iv.toNat]? = some a) (hs : c.sz = sz) (h : F (.adr n [.idx iv.toNat])) : EV P T (.ia n i sz) F := by
  simp only [SQ_eq, EV_eq, EW_eq, PW_eq, WP_eq, RW_eq] at *
  exact AS.iao ri lk h0 hx hs h
theorem iar {n sz r : Nat} {p : List Step} {i : Opd} {k : IntKind} {iv : Int} {c : Cd α} {l : List α} {a : α} {x : D} (ri : rd T i = some ((cK k).enc iv)) (lk : T n = .ref r p) (g : rootD T r = some x) (w : Gt p x ((cLo c).enc l)) (h0 : 0 ≤ iv) (hx : l[iv.toNat]? = some a) (hs : c.sz = sz) (h : F (.adr r (p ++ [.idx iv.toNat]))) : EV P T (.ia n i sz) F := by
  simp only [SQ_eq, EV_eq, EW_eq, PW_eq, WP_eq, RW_eq] at *
  exact AS.iar ri lk g w h0 hx hs h
theorem ldb {n sz : Nat} {ag : Bool} {c : Cd α} {a : α} (l : T n = .box (c.enc a)) (hs : c.sz = sz) (ha : c.ag = ag) (i : c.im = true) (h : F (.d (c.enc a))) : EV P T (.ld n sz ag) F := by
  simp only [SQ_eq, EV_eq, EW_eq, PW_eq, WP_eq, RW_eq] at *
  exact AS.ldb l hs ha i h
theorem ldbo {n sz : Nat} {ag : Bool} {c : Cd α} {a : α} (l : T n = .box (c.enc a)) (hs : c.sz = sz) (ha : c.ag = ag) (i : c.im = false) (h : F (.ref n [])) : EV P T (.ld n sz ag) F := by
  simp only [SQ_eq, EV_eq, EW_eq, PW_eq, WP_eq, RW_eq] at *
  exact AS.ldbo l hs ha i h
theorem lda {n sz r : Nat} {p : List Step} {ag : Bool} {c : Cd α} {a : α} {x : D} (l : T n = .adr r p) (g : rootD T r = some x) (w : Gt p x (c.enc a)) (hs : c.sz = sz) (ha : c.ag = ag) (i : c.im = true) (h : F (.d (c.enc a))) : EV P T (.ld n sz ag) F := by
  simp only [SQ_eq, EV_eq, EW_eq, PW_eq, WP_eq, RW_eq] at *
  exact AS.lda l g w hs ha i h
theorem ldao {n sz r : Nat} {p : List Step} {ag : Bool} {c : Cd α} {a : α} {x : D} (l : T n = .adr r p) (g : rootD T r = some x) (w : Gt p x (c.enc a)) (hs : c.sz = sz) (ha : c.ag = ag) (i : c.im = false) (h : F (.ref r p)) : EV P T (.ld n sz ag) F := by
  simp only [SQ_eq, EV_eq, EW_eq, PW_eq, WP_eq, RW_eq] at *
  exact AS.ldao l g w hs ha i h
theorem ldm {n sz r : Nat} {p : List Step} {ag : Bool} {c : Cd α} {a : α} {x : D} (l : T n = .mad r p) (g : rootD T r = some x) (w : Gt p x (c.enc a)) (hs : c.sz = sz) (ha : c.ag = ag) (i : c.im = true) (h : F (.d (c.enc a))) : EV P T (.ld n sz ag) F := by
  simp only [SQ_eq, EV_eq, EW_eq, PW_eq, WP_eq, RW_eq] at *
  exact AS.ldm l g w hs ha i h
theorem ldmo {n sz r : Nat} {p : List Step} {ag : Bool} {c : Cd α} {a : α} {x : D} (l : T n = .mad r p) (g : rootD T r = some x) (w : Gt p x (c.enc a)) (hs : c.sz = sz) (ha : c.ag = ag) (i : c.im = false) (h : F (.ref r p)) : EV P T (.ld n sz ag) F := by
  simp only [SQ_eq, EV_eq, EW_eq, PW_eq, WP_eq, RW_eq] at *
  exact AS.ldmo l g w hs ha i h
theorem ldi {n sz : Nat} {ag : Bool} {c : Cd α} {a : α} (l : T n = .ima (c.enc a)) (hs : c.sz = sz) (ha : c.ag = ag) (i : c.im = true) (h : F (.d (c.enc a))) : EV P T (.ld n sz ag) F := by
  simp only [SQ_eq, EV_eq, EW_eq, PW_eq, WP_eq, RW_eq] at *
  exact AS.ldi l hs ha i h
end
section
variable {P : Program} {T T1 T2 : Nat → SV} {R : Type} {r : R} {ms : List MOp} {K : (Nat → SV) → Prop} {F : SV → Prop} {α β σ : Type} {f : Option R}
variable {x y : Opd} {k : IntKind} {a b : Int}
theorem b_add (hx : rd T x = some ((cK k).enc a)) (hy : rd T y = some ((cK k).enc b)) (i : InR k (a + b)) (h : F (.d ((cK k).enc (a + b)))) : EV P T (.bin .add x y) F := by
  simp only [SQ_eq, EV_eq, EW_eq, PW_eq, WP_eq, RW_eq] at *
  exact AS.b_add hx hy i h
theorem b_sub (hx : rd T x = some ((cK k).enc a)) (hy : rd T y = some ((cK k).enc b)) (i : InR k (a - b)) (h : F (.d ((cK k).enc (a - b)))) : EV P T (.bin .sub x y) F := by
  simp only [SQ_eq, EV_eq, EW_eq, PW_eq, WP_eq, RW_eq] at *
  exact AS.b_sub hx hy i h
theorem b_mul (hx : rd T x = some ((cK k).enc a)) (hy : rd T y = some ((cK k).enc b)) (i : InR k (a * b)) (h : F (.d ((cK k).enc (a * b)))) : EV P T (.bin .mul x y) F := by
  simp only [SQ_eq, EV_eq, EW_eq, PW_eq, WP_eq, RW_eq] at *
  exact AS.b_mul hx hy i h
theorem b_quo (hx : rd T x = some ((cK k).enc a)) (hy : rd T y = some ((cK k).enc b)) (n : b ≠ 0) (i : InR k (a.tdiv b)) (h : F (.d ((cK k).enc (a.tdiv b)))) : EV P T (.bin .quo x y) F := by
  simp only [SQ_eq, EV_eq, EW_eq, PW_eq, WP_eq, RW_eq] at *
  exact AS.b_quo hx hy n i h
theorem b_rem (hx : rd T x = some ((cK k).enc a)) (hy : rd T y = some ((cK k).enc b)) (n : b ≠ 0) (h : F (.d ((cK k).enc (a.tmod b)))) : EV P T (.bin .rem x y) F := by
  simp only [SQ_eq, EV_eq, EW_eq, PW_eq, WP_eq, RW_eq] at *
  exact AS.b_rem hx hy n h
theorem b_and (hx : rd T x = some ((cK k).enc a)) (hy : rd T y = some ((cK k).enc b)) (i : 0 ≤ a ∧ InR k a) (j : 0 ≤ b ∧ InR k b) (h : F (.d ((cK k).enc ((a.toNat &&& b.toNat : Nat) : Int)))) : EV P T (.bin .and x y) F := by
  simp only [SQ_eq, EV_eq, EW_eq, PW_eq, WP_eq, RW_eq] at *
  exact AS.b_and hx hy i j h
theorem b_or (hx : rd T x = some ((cK k).enc a)) (hy : rd T y = some ((cK k).enc b)) (i : 0 ≤ a ∧ InR k a) (j : 0 ≤ b ∧ InR k b) (h : F (.d ((cK k).enc ((a.toNat ||| b.toNat : Nat) : Int)))) : EV P T (.bin .or x y) F := by
  simp only [SQ_eq, EV_eq, EW_eq, PW_eq, WP_eq, RW_eq] at *
  exact AS.b_or hx hy i j h
theorem b_andNot (hx : rd T x = some ((cK k).enc a)) (hy : rd T y = some ((cK k).enc b)) (i : 0 ≤ a ∧ InR k a) (j : 0 ≤ b ∧ InR k b) (h : F (.d ((cK k).enc (((a.toNat &&& b.toNat) ^^^ a.toNat : Nat) : Int)))) : EV P T (.bin .andNot x y) F := by
  simp only [SQ_eq, EV_eq, EW_eq, PW_eq, WP_eq, RW_eq] at *
  exact AS.b_andNot hx hy i j h
theorem b_shl {k' : IntKind} (hx : rd T x = some ((cK k).enc a)) (hy : rd T y = some ((cK k').enc b)) (n : 0 ≤ b ∧ b < 64) (k6 : k.bits = 64) (i : InR k (a * 2 ^ b.toNat)) (h : F (.d ((cK k).enc (a * 2 ^ b.toNat)))) : EV P T (.bin .shl x y) F := by
  simp only [SQ_eq, EV_eq, EW_eq, PW_eq, WP_eq, RW_eq] at *
  exact AS.b_shl hx hy n k6 i h
theorem b_shr {k' : IntKind} (hx : rd T x = some ((cK k).enc a)) (hy : rd T y = some ((cK k').enc b)) (n : 0 ≤ b ∧ b < 64) (k6 : k.bits = 64) (h : F (.d ((cK k).enc (a / 2 ^ b.toNat)))) : EV P T (.bin .shr x y) F := by
  simp only [SQ_eq, EV_eq, EW_eq, PW_eq, WP_eq, RW_eq] at *
  exact AS.b_shr hx hy n k6 h
theorem b_eql (hx : rd T x = some ((cK k).enc a)) (hy : rd T y = some ((cK k).enc b)) (h : F (.d (cB.enc (decide (a = b))))) : EV P T (.bin .eql x y) F := by
  simp only [SQ_eq, EV_eq, EW_eq, PW_eq, WP_eq, RW_eq] at *
  exact AS.b_eql hx hy h
theorem b_neq (hx : rd T x = some ((cK k).enc a)) (hy : rd T y = some ((cK k).enc b)) (h : F (.d (cB.enc (decide (a ≠ b))))) : EV P T (.bin .neq x y) F := by
  simp only [SQ_eq, EV_eq, EW_eq, PW_eq, WP_eq, RW_eq] at *
  exact AS.b_neq hx hy h
theorem b_lss (hx : rd T x = some ((cK k).enc a)) (hy : rd T y = some ((cK k).enc b)) (h : F (.d (cB.enc (decide (a < b))))) : EV P T (.bin .lss x y) F := by
  simp only [SQ_eq, EV_eq, EW_eq, PW_eq, WP_eq, RW_eq] at *
  exact AS.b_lss hx hy h
theorem b_leq (hx : rd T x = some ((cK k).enc a)) (hy : rd T y = some ((cK k).enc b)) (h : F (.d (cB.enc (decide (a ≤ b))))) : EV P T (.bin .leq x y) F := by
  simp only [SQ_eq, EV_eq, EW_eq, PW_eq, WP_eq, RW_eq] at *
  exact AS.b_leq hx hy h
theorem b_gtr (hx : rd T x = some ((cK k).enc a)) (hy : rd T y = some ((cK k).enc b)) (h : F (.d (cB.enc (decide (b < a))))) : EV P T (.bin .gtr x y) F := by
  simp only [SQ_eq, EV_eq, EW_eq, PW_eq, WP_eq, RW_eq] at *
  exact AS.b_gtr hx hy h
theorem b_geq (hx : rd T x = some ((cK k).enc a)) (hy : rd T y = some ((cK k).enc b)) (h : F (.d (cB.enc (decide (b ≤ a))))) : EV P T (.bin .geq x y) F := by
  simp only [SQ_eq, EV_eq, EW_eq, PW_eq, WP_eq, RW_eq] at *
  exact AS.b_geq hx hy h
theorem b_cat {s t : List UInt8} (hx : rd T x = some (cS.enc s)) (hy : rd T y = some (cS.enc t)) (i : s.length + t.length ≤ 1099511627776) (h : F (.d (cS.enc (s ++ t)))) : EV P T (.bin .add x y) F := by
  simp only [SQ_eq, EV_eq, EW_eq, PW_eq, WP_eq, RW_eq] at *
  exact AS.b_cat hx hy i h
theorem b_seq {s t : List UInt8} (hx : rd T x = some (cS.enc s)) (hy : rd T y = some (cS.enc t)) (h : F (.d (cB.enc (decide (s = t))))) : EV P T (.bin .eql x y) F := by
  simp only [SQ_eq, EV_eq, EW_eq, PW_eq, WP_eq, RW_eq] at *
  exact AS.b_seq hx hy h
theorem b_sne {s t : List UInt8} (hx : rd T x = some (cS.enc s)) (hy : rd T y = some (cS.enc t)) (h : F (.d (cB.enc (decide (s ≠ t))))) : EV P T (.bin .neq x y) F := by
  simp only [SQ_eq, EV_eq, EW_eq, PW_eq, WP_eq, RW_eq] at *
  exact AS.b_sne hx hy h
theorem eqb0 {p q : Bool} (hx : rd T x = some (cB.enc p)) (hy : rd T y = some (cB.enc q)) (h : F (.d (cB.enc (p == q)))) : EV P T (.eqb false x y) F := by
  simp only [SQ_eq, EV_eq, EW_eq, PW_eq, WP_eq, RW_eq] at *
  exact AS.eqb0 hx hy h
theorem eqb1 {p q : Bool} (hx : rd T x = some (cB.enc p)) (hy : rd T y = some (cB.enc q)) (h : F (.d (cB.enc (p != q)))) : EV P T (.eqb true x y) F := by
  simp only [SQ_eq, EV_eq, EW_eq, PW_eq, WP_eq, RW_eq] at *
  exact AS.eqb1 hx hy h
theorem o_nt {p : Bool} (hx : rd T x = some (cB.enc p)) (h : F (.d (cB.enc (!p)))) : EV P T (.nt x) F := by
  simp only [SQ_eq, EV_eq, EW_eq, PW_eq, WP_eq, RW_eq] at *
  exact AS.o_nt hx h
theorem o_neg (hx : rd T x = some ((cK k).enc a)) (i : InR k (-a)) (h : F (.d ((cK k).enc (-a)))) : EV P T (.neg x) F := by
  simp only [SQ_eq, EV_eq, EW_eq, PW_eq, WP_eq, RW_eq] at *
  exact AS.o_neg hx i h
theorem o_cvi {k' : IntKind} (hx : rd T x = some ((cK k).enc a)) (i : InR k' a) (h : F (.d ((cK k').enc a))) : EV P T (.cvi k' x) F := by
  simp only [SQ_eq, EV_eq, EW_eq, PW_eq, WP_eq, RW_eq] at *
  exact AS.o_cvi hx i h
theorem o_max (hx : rd T x = some ((cK k).enc a)) (hy : rd T y = some ((cK k).enc b)) (h : F (.d ((cK k).enc (max a b)))) : EV P T (.mmx true x y) F := by
  simp only [SQ_eq, EV_eq, EW_eq, PW_eq, WP_eq, RW_eq] at *
  exact AS.o_max hx hy h
theorem o_min (hx : rd T x = some ((cK k).enc a)) (hy : rd T y = some ((cK k).enc b)) (h : F (.d ((cK k).enc (min a b)))) : EV P T (.mmx false x y) F := by
  simp only [SQ_eq, EV_eq, EW_eq, PW_eq, WP_eq, RW_eq] at *
  exact AS.o_min hx hy h
theorem leno {c : Cd α} {l : List α} (hx : rd T x = some ((cLo c).enc l)) (h : l.length ≤ 9223372036854775807 → F (.d (cI.enc (l.length : Int)))) : EW P T (.len false x) F := by
  simp only [SQ_eq, EV_eq, EW_eq, PW_eq, WP_eq, RW_eq] at *
  exact AS.leno hx h
theorem lens {c : Cd α} {hc : c.im = true} {l : List α} (hx : rd T x = some ((cLs c hc).enc l)) (h : l.length ≤ 9223372036854775807 → F (.d (cI.enc (l.length : Int)))) : EW P T (.len false x) F := by
  simp only [SQ_eq, EV_eq, EW_eq, PW_eq, WP_eq, RW_eq] at *
  exact AS.lens hx h
theorem lent {s : List UInt8} (hx : rd T x = some (cS.enc s)) (h : s.length ≤ 9223372036854775807 → F (.d (cI.enc (s.length : Int)))) : EW P T (.len true x) F := by
  simp only [SQ_eq, EV_eq, EW_eq, PW_eq, WP_eq, RW_eq] at *
  exact AS.lent hx h
theorem plno {c : Cd α} {l : List α} (hx : rd T x = some ((cLo c).enc l)) (b : l.length ≤ 9223372036854775807) (h : F (.d (cI.enc (l.length : Int)))) : EV P T (.len false x) F := by
  simp only [SQ_eq, EV_eq, EW_eq, PW_eq, WP_eq, RW_eq] at *
  exact AS.plno hx b h
theorem plns {c : Cd α} {hc : c.im = true} {l : List α} (hx : rd T x = some ((cLs c hc).enc l)) (b : l.length ≤ 9223372036854775807) (h : F (.d (cI.enc (l.length : Int)))) : EV P T (.len false x) F := by
  simp only [SQ_eq, EV_eq, EW_eq, PW_eq, WP_eq, RW_eq] at *
  exact AS.plns hx b h
theorem plnt {s : List UInt8} (hx : rd T x = some (cS.enc s)) (b : s.length ≤ 9223372036854775807) (h : F (.d (cI.enc (s.length : Int)))) : EV P T (.len true x) F := by
  simp only [SQ_eq, EV_eq, EW_eq, PW_eq, WP_eq, RW_eq] at *
  exact AS.plnt hx b h
theorem eqs {c : Cd α} {hc : c.im = true} {l : List α} {ne : Bool} {g : Bool → Option R} (hx : rd T x = some ((cLs c hc).enc l)) (p : l ≠ [] → g ne = some r) (q : l = [] → g true = some r ∧ g false = some r) (k : ∀ b, g b = some r → F (.d (cB.enc b))) : EW P T (.eqn ne x) F := by
  simp only [SQ_eq, EV_eq, EW_eq, PW_eq, WP_eq, RW_eq] at *
  exact AS.eqs hx p q k
theorem eqo {c : Cd α} {l : List α} {ne : Bool} {g : Bool → Option R} (hx : rd T x = some ((cLo c).enc l)) (p : l ≠ [] → g ne = some r) (q : l = [] → g true = some r ∧ g false = some r) (k : ∀ b, g b = some r → F (.d (cB.enc b))) : EW P T (.eqn ne x) F := by
  simp only [SQ_eq, EV_eq, EW_eq, PW_eq, WP_eq, RW_eq] at *
  exact AS.eqo hx p q k
theorem o_mk {z : D} {c : Cd α} {a0 : α} (e : z = c.enc a0) (hx : rd T x = some ((cK k).enc a)) (h0 : 0 ≤ a) (b : a.toNat ≤ 1099511627776) (h : F (.d ((cLo c).enc (List.replicate a.toNat a0)))) : EV P T (.mk z x) F := by
  simp only [SQ_eq, EV_eq, EW_eq, PW_eq, WP_eq, RW_eq] at *
  exact AS.o_mk e hx h0 b h
theorem o_sls {s : List UInt8} {lo hi : Option Opd} {i j : Nat} (hx : rd T x = some (cS.enc s)) (l : LoR T lo i) (m : HiR T hi s.length j) (b : i ≤ j ∧ j ≤ s.length) (h : F (.d (cS.enc ((s.take j).drop i)))) : EV P T (.sls x lo hi) F := by
  simp only [SQ_eq, EV_eq, EW_eq, PW_eq, WP_eq, RW_eq] at *
  exact AS.o_sls hx l m b h
theorem o_sl {n sz : Nat} {c : Cd α} {hc : c.im = true} {l : List α} {lo hi : Option Opd} {i j : Nat} (hx : T n = .d ((cLs c hc).enc l)) (hs : c.sz = sz) (u : LoR T lo i) (m : HiR T hi l.length j) (b : i ≤ j ∧ j ≤ l.length) (h : F (.d ((cLs c hc).enc ((l.take j).drop i)))) : EV P T (.sl (.t n) lo hi sz) F := by
  simp only [SQ_eq, EV_eq, EW_eq, PW_eq, WP_eq, RW_eq] at *
  exact AS.o_sl hx hs u m b h
theorem o_ix {s : List UInt8} {c : UInt8} {i : Opd} (hx : rd T x = some (cS.enc s)) (hi : rd T i = some ((cK k).enc a)) (h0 : 0 ≤ a) (g : s[a.toNat]? = some c) (h : F (.d (cU.enc (c.toNat : Int)))) : EV P T (.ix x i) F := by
  simp only [SQ_eq, EV_eq, EW_eq, PW_eq, WP_eq, RW_eq] at *
  exact AS.o_ix hx hi h0 g h
theorem pick1 {c : Opd} {p : Bool} {cd : Cd α} {v : α} {b : Opd} (hc : rd T c = some (cB.enc p)) (e : p = true) (hx : rd T x = some (cd.enc v)) (i : cd.im = true) (h : F (.d (cd.enc v))) : EV P T (.pick c x b) F := by
  simp only [SQ_eq, EV_eq, EW_eq, PW_eq, WP_eq, RW_eq] at *
  exact AS.pick1 hc e hx i h
theorem pick0 {c : Opd} {p : Bool} {cd : Cd α} {v : α} {b : Opd} (hc : rd T c = some (cB.enc p)) (e : p = false) (hx : rd T x = some (cd.enc v)) (i : cd.im = true) (h : F (.d (cd.enc v))) : EV P T (.pick c b x) F := by
  simp only [SQ_eq, EV_eq, EW_eq, PW_eq, WP_eq, RW_eq] at *
  exact AS.pick0 hc e hx i h
theorem o_b2s {l : List Int} {bs : List UInt8} {ds : List D} {o : Bool} (hx : rd T x = some (.slice o ds)) (hl : ds = l.map cU.enc) (e : l = bs.map fun b => ((b.toNat : Nat) : Int)) (h : F (.d (cS.enc bs))) : EV P T (.b2s x) F := by
  simp only [SQ_eq, EV_eq, EW_eq, PW_eq, WP_eq, RW_eq] at *
  exact AS.o_b2s hx hl e h
theorem o_i2s (hx : rd T x = some ((cK k).enc a)) (b : 0 ≤ a ∧ a < 128) (h : F (.d (cS.enc [UInt8.ofNat a.toNat]))) : EV P T (.i2s x) F := by
  simp only [SQ_eq, EV_eq, EW_eq, PW_eq, WP_eq, RW_eq] at *
  exact AS.o_i2s hx b h
end
section
variable {P : Program} {T T1 T2 : Nat → SV} {R : Type} {r : R} {ms : List MOp} {K : (Nat → SV) → Prop} {F : SV → Prop} {α β σ : Type} {f : Option R}
theorem p_bsl {sz : Nat} {parts : List Opd} {ys : List D} (c : Cd α) (l : List α) (hs : Rds T parts sz ys) (e : ys = l.map c.enc) (b : Nat.ble ys.length 1024 = true) (h : F (.d ((cLo c).enc l))) : EV P T (.bsl parts sz) F := by
  simp only [SQ_eq, EV_eq, EW_eq, PW_eq, WP_eq, RW_eq] at *
  exact AS.p_bsl c l hs e b h
theorem p_all {z : D} (c : Cd α) (a : α) (e : z = c.enc a) (h : F (.box (c.enc a))) : EV P T (.alloc z) F := by
  simp only [SQ_eq, EV_eq, EW_eq, PW_eq, WP_eq, RW_eq] at *
  exact AS.p_all c a e h
theorem o_call {fn : Nat} {args : List Opd} {ds res : List D} (ha : Args T args ds) (hc : Con P fn ds [] res) (hs : D.solids res = true ∨ heres T args = true) (h : F (resSV res)) : EV P T (.call fn args) F := by
  simp only [SQ_eq, EV_eq, EW_eq, PW_eq, WP_eq, RW_eq] at *
  exact AS.o_call ha hc hs h
theorem eqN {x : Opd} {c : Cd α} {v : Option (List α)} (ne : Bool) (hx : rd T x = some ((cNo c).enc v)) (hn : v ≠ some []) (h : F (.d (cB.enc (if ne then v.isSome else v.isNone)))) : EV P T (.eqn ne x) F := by
  simp only [SQ_eq, EV_eq, EW_eq, PW_eq, WP_eq, RW_eq] at *
  exact AS.eqN ne hx hn h
theorem x_asg {d : Nat} {x : Opd} {c : Cd α} {a : α} (s : Src T x c a T1) (h : SQ P ms (pt T1 d (.d (c.enc a))) K) : SQ P (⟨some d, .asg x, none⟩ :: ms) T K := by
  simp only [SQ_eq, EV_eq, EW_eq, PW_eq, WP_eq, RW_eq] at *
  exact AS.x_asg s h
theorem x_box {d : Nat} {x : Opd} {c : Cd α} {a : α} (s : Src T x c a T1) (h : SQ P ms (pt T1 d (.box (c.enc a))) K) : SQ P (⟨some d, .box x, none⟩ :: ms) T K := by
  simp only [SQ_eq, EV_eq, EW_eq, PW_eq, WP_eq, RW_eq] at *
  exact AS.x_box s h
theorem x_mvt {d n : Nat} {L : List (Option D)} (l : T n = .tup L) (h : SQ P ms (pt (pt T n .un) d (.tup L)) K) : SQ P (⟨some d, .mvt n, none⟩ :: ms) T K := by
  simp only [SQ_eq, EV_eq, EW_eq, PW_eq, WP_eq, RW_eq] at *
  exact AS.x_mvt l h
theorem x_boxm {d n : Nat} {x : D} (l : T n = .d x) (ne : (n == d) = false) (h : SQ P ms (pt T d (.mad n [])) K) : SQ P (⟨some d, .boxm n, none⟩ :: ms) T K := by
  simp only [SQ_eq, EV_eq, EW_eq, PW_eq, WP_eq, RW_eq] at *
  exact AS.x_boxm l ne h
theorem x_all {d : Nat} {z : D} (c : Cd α) (a : α) (e : z = c.enc a) (h : SQ P ms (pt T d (.box (c.enc a))) K) : SQ P (⟨some d, .alloc z, none⟩ :: ms) T K := by
  simp only [SQ_eq, EV_eq, EW_eq, PW_eq, WP_eq, RW_eq] at *
  exact AS.x_all c a e h
theorem x_stb {n sz : Nat} {v : Opd} {c : Cd α} {a : α} {x : D} (s : Src T v c a T1) (l : T1 n = .box x) (h0 : x.size = sz) (h1 : c.sz = sz) (h : SQ P ms (sV T1 n [] (.box (c.enc a))) K) : SQ P (⟨none, .st n v sz, none⟩ :: ms) T K := by
  simp only [SQ_eq, EV_eq, EW_eq, PW_eq, WP_eq, RW_eq] at *
  exact AS.x_stb s l h0 h1 h
theorem x_sta {n sz r : Nat} {p : List Step} {v : Opd} {c : Cd α} {a : α} {x y : D} (x' : D) (s : Src T v c a T1) (l : T1 n = .adr r p) (g : rootD T1 r = some x) (w : Ln p x y (c.enc a) x') (h0 : y.size = sz) (h1 : c.sz = sz) (h : SQ P ms (sV T1 r p (reS (T1 r) x')) K) : SQ P (⟨none, .st n v sz, none⟩ :: ms) T K := by
  simp only [SQ_eq, EV_eq, EW_eq, PW_eq, WP_eq, RW_eq] at *
  exact AS.x_sta x' s l g w h0 h1 h
theorem x_stm {n v sz r : Nat} {p : List Step} {x y z : D} (l : T n = .box x) (l2 : T v = .ref r p) (ne : (n == r) = false) (h0 : x.size = sz) (g : rootD T r = some y) (w : Gt p y z) (h1 : z.size = sz) (h : SQ P ms (pt T n (.mad r p)) K) : SQ P (⟨none, .stm n v sz, none⟩ :: ms) T K := by
  simp only [SQ_eq, EV_eq, EW_eq, PW_eq, WP_eq, RW_eq] at *
  exact AS.x_stm l l2 ne h0 g w h1 h
theorem x_app {d sz : Nat} {s x : Opd} {c : Cd α} {l es : List α} (hs : Src T s (cLo c) l T1) (ht : Tl T1 x c es T2) (b : l.length + es.length ≤ 1099511627776) (h1 : c.sz = sz) (h : SQ P ms (pt T2 d (.d ((cLo c).enc (l ++ es)))) K) : SQ P (⟨some d, .app s x sz, none⟩ :: ms) T K := by
  simp only [SQ_eq, EV_eq, EW_eq, PW_eq, WP_eq, RW_eq] at *
  exact AS.x_app hs ht b h1 h
theorem x_bsl {d sz : Nat} {parts : List Opd} {ys : List D} (c : Cd α) (l : List α) (hs : Tks T parts sz ys T1) (e : ys = l.map c.enc) (b : Nat.ble ys.length 1024 = true) (h : SQ P ms (pt T1 d (.d ((cLo c).enc l))) K) : SQ P (⟨some d, .bsl parts sz, none⟩ :: ms) T K := by
  simp only [SQ_eq, EV_eq, EW_eq, PW_eq, WP_eq, RW_eq] at *
  exact AS.x_bsl c l hs e b h
theorem x_bld {d : Nat} {z ys : List D} {parts : List (Nat × Opd)} (x' : D) (hs : Tks T (parts.map (·.2)) 1 ys T1) (hz : (z.all fun x => x.size == 1) = true) (e : D.agg (((parts.map (·.1)).zip ys).foldl (fun l p => l.set p.1 p.2) z) = x') (h : SQ P ms (pt T1 d (.d x')) K) : SQ P (⟨some d, .bld z parts, none⟩ :: ms) T K := by
  simp only [SQ_eq, EV_eq, EW_eq, PW_eq, WP_eq, RW_eq] at *
  exact AS.x_bld x' hs hz e h
theorem x_bldw {d i k m : Nat} {z ys l : List D} {rest : List (Nat × Opd)} (x' : D) (hs : Tks T (.t k :: rest.map (·.2)) 1 ys T1) (hz : (z.all fun x => x.size == 1) = true) (lk : T k = .ref m []) (lm : T m = .d (.slice true l)) (lu : T1 m = .un) (ne : Nat.beq m d = false) (nr : (rest.all fun p => !Nat.beq p.1 i) = true) (e : D.agg (((i :: rest.map (·.1)).zip ys).foldl (fun l p => l.set p.1 p.2) z) = x') (h : SQ P ms (setW (pt T1 d (.d x')) m (.ref d [.fld i])) K) : SQ P (⟨some d, .bldw z i k rest m, none⟩ :: ms) T K := by
  simp only [SQ_eq, EV_eq, EW_eq, PW_eq, WP_eq, RW_eq] at *
  exact AS.x_bldw x' hs hz lk lm lu ne nr e h
theorem x_stw {n v sz m i : Nat} {x y : D} (l : T n = .box x) (l2 : T v = .d y) (h0 : x.size = sz) (h1 : y.size = sz) (im : y.imm = false) (lm : T m = .ref v [.fld i]) (ne : Nat.beq n v = false) (nm : Nat.beq m n = false) (h : SQ P ms (setW (sV (pt T v .un) n [] (.box y)) m (.ref n [.fld i])) K) : SQ P (⟨none, .stw n v sz m i, none⟩ :: ms) T K := by
  simp only [SQ_eq, EV_eq, EW_eq, PW_eq, WP_eq, RW_eq] at *
  exact AS.x_stw l l2 h0 h1 im lm ne nm h
theorem x_ext {d n i : Nat} {L : List (Option D)} {y : D} (l : T n = .tup L) (g : L[i]? = some (some y)) (h : SQ P ms (pt (pt T n (.tup (L.set i none))) d (.d y)) K) : SQ P (⟨some d, .ext n i, none⟩ :: ms) T K := by
  simp only [SQ_eq, EV_eq, EW_eq, PW_eq, WP_eq, RW_eq] at *
  exact AS.x_ext l g h
theorem x_clt {d fn : Nat} {args : List (Bool × Opd)} {ys ds res : List D} (hk : Tkn T (takenOf args) ys T1) (hm : Mrg T1 args ys ds) (hc : Con P fn ds [] res) (hs : D.solids res = true) (h : SQ P ms (pt T1 d (resSV res)) K) : SQ P (⟨some d, .callT fn args, none⟩ :: ms) T K := by
  simp only [SQ_eq, EV_eq, EW_eq, PW_eq, WP_eq, RW_eq] at *
  exact AS.x_clt hk hm hc hs h
theorem x_mkf {d g : Nat} {caps : List (Bool × Nat)} {ds : List D} (cf : Cd α) (v : α) (hs : Cps T caps ds T1) (ne : (caps.all fun c => c.2 != d) = true) (e : D.fn g ds = cf.enc v) (h : SQ P ms (wayB (pt T1 d (.d (cf.enc v))) d caps) K) : SQ P (⟨some d, .mkf g caps, none⟩ :: ms) T K := by
  simp only [SQ_eq, EV_eq, EW_eq, PW_eq, WP_eq, RW_eq] at *
  exact AS.x_mkf cf v hs ne e h
theorem x_cf {d k r0 g : Nat} {args : List (Bool × Opd)} {caps caps' ys ds res : List D} (cf : Cd α) (v : α) (hf : Fat T k r0 g caps) (hk : Tkn (pt T r0 .un) (takenOf args) ys T1) (hm : Mrg T1 args ys ds) (e : cf.enc v = D.fn g caps') (hc : Con P g (ds ++ caps) (capOuts ds.length caps') res) (hl : capsLike caps caps') (hs : D.solids res = true) (h : SQ P ms (pt (pt T1 r0 (.d (cf.enc v))) d (resSV res)) K) : SQ P (⟨some d, .callf k args, none⟩ :: ms) T K := by
  simp only [SQ_eq, EV_eq, EW_eq, PW_eq, WP_eq, RW_eq] at *
  exact AS.x_cf cf v hf hk hm e hc hl hs h
theorem x_cp {d fn k g n : Nat} {pre post : List Opd} {caps caps' ds es res : List D} {β : Type} {cf : Cd β} {v : β} (cf' : Cd α) (v' : α) (l : T k = .d (cf.enc v)) (e : cf.enc v = .fn g caps) (ha : Args (pt T k .un) pre ds) (hb : Args (pt T k .un) post es) (hn : pre.length = n) (e' : cf'.enc v' = D.fn g caps') (hc : Con P fn (ds ++ .fn g caps :: es) [(n, .fn g caps')] res) (hl : capsLike caps caps') (hs : D.solids res = true) (h : SQ P ms (keepA T (pt (pt T k (.d (cf'.enc v'))) d (resSV res)) k d) K) : SQ P (⟨some d, .callP fn pre k post, none⟩ :: ms) T K := by
  simp only [SQ_eq, EV_eq, EW_eq, PW_eq, WP_eq, RW_eq] at *
  exact AS.x_cp cf' v' l e ha hb hn e' hc hl hs h
theorem x_clo {d fn n : Nat} {args : List Opd} {c c' : Cd α} {a a' : α} {ds res : List D} (so : Sol c') (l : T n = .d (c.enc a)) (ha : Args (pt T n .un) args ds) (hc : Con P fn (c.enc a :: ds) [(0, c'.enc a')] res) (e1 : c'.sz = c.sz) (e2 : c'.ag = c.ag) (hs : D.solids res = true) (h : SQ P ms (kM T n (.d (c'.enc a')) d (resSV res)) K) : SQ P (⟨some d, .callO fn (.t n :: args), none⟩ :: ms) T K := by
  simp only [SQ_eq, EV_eq, EW_eq, PW_eq, WP_eq, RW_eq] at *
  exact AS.x_clo so l ha hc e1 e2 hs h
theorem x_clr {d fn n r : Nat} {p : List Step} {args : List Opd} {c c' : Cd α} {a a' : α} {x : D} (x' : D) {ds res : List D} (so : Sol c') (l : T n = .ref r p) (ha : Args (pt T r .un) args ds) (g : rootD T r = some x) (w : Ln p x (c.enc a) (c'.enc a') x') (hc : Con P fn (c.enc a :: ds) [(0, c'.enc a')] res) (e1 : c'.sz = c.sz) (e2 : c'.ag = c.ag) (hs : D.solids res = true) (h : SQ P ms (kM T r (reS (T r) x') d (resSV res)) K) : SQ P (⟨some d, .callO fn (.t n :: args), none⟩ :: ms) T K := by
  simp only [SQ_eq, EV_eq, EW_eq, PW_eq, WP_eq, RW_eq] at *
  exact AS.x_clr x' so l ha g w hc e1 e2 hs h
end
section
variable {P : Program} {T : Nat → SV} {R : Type} {r : R} {Q Q' : MX → (Nat → SV) → Prop} {a b : MC} {σ : Type}
theorem seqN {ks : List Nat} (L : TL) (e : kG T ks ks = L) (h : Q .nrm (gl L)) : SQ P [] T fun T' => Q .nrm (ofL (keepL T' ks ks)) := by
  simp only [SQ_eq, EV_eq, EW_eq, PW_eq, WP_eq, RW_eq] at *
  exact AS.seqN L e h
theorem preN {K : (Nat → SV) → Prop} (h : K T) : PW P [] T K := by
  simp only [SQ_eq, EV_eq, EW_eq, PW_eq, WP_eq, RW_eq] at *
  exact AS.preN h
theorem cnd {c : Opd} {p : Bool} {f g : Option R} (hc : rd T c = some (cB.enc p)) (h : (if p = true then f else g) = some r) (ht : p = true → f = some r → WP P a T Q) (hf : p = false → g = some r → WP P b T Q) : WP P (.cond c a b) T Q := by
  simp only [SQ_eq, EV_eq, EW_eq, PW_eq, WP_eq, RW_eq] at *
  exact AS.cnd hc h ht hf
theorem cnd1 {c : Opd} {p : Bool} (hc : rd T c = some (cB.enc p)) (e : p = true) (ht : WP P a T Q) : WP P (.cond c a b) T Q := by
  simp only [SQ_eq, EV_eq, EW_eq, PW_eq, WP_eq, RW_eq] at *
  exact AS.cnd1 hc e ht
theorem cnd0 {c : Opd} {p : Bool} (hc : rd T c = some (cB.enc p)) (e : p = false) (hf : WP P b T Q) : WP P (.cond c a b) T Q := by
  simp only [SQ_eq, EV_eq, EW_eq, PW_eq, WP_eq, RW_eq] at *
  exact AS.cnd0 hc e hf
theorem fz_s {α : Type} {n : Nat} {c c' : Cd α} {v : α} (t : ToI c c') (l : T n = .d (c.enc v)) (h : WP P a (pt (pt T n .un) n (.d (c'.enc v))) Q) : WP P (.fz n a) T Q := by
  simp only [SQ_eq, EV_eq, EW_eq, PW_eq, WP_eq, RW_eq] at *
  exact AS.fz_s t l h
theorem fzb_s {α : Type} {n : Nat} {c c' : Cd α} {v : α} (t : ToI c c') (l : T n = .box (c.enc v)) (h : WP P a (pt T n (.ima (c'.enc v))) Q) : WP P (.fzb n a) T Q := by
  simp only [SQ_eq, EV_eq, EW_eq, PW_eq, WP_eq, RW_eq] at *
  exact AS.fzb_s t l h
theorem fg_s {α : Type} {n : Nat} {c : Cd α} {v : Option (List α)} (l : T n = .d ((cNo c).enc v)) (h : WP P a (pt (pt T n .un) n (.d ((cLo c).enc (v.getD [])))) Q) : WP P (.fg n a) T Q := by
  simp only [SQ_eq, EV_eq, EW_eq, PW_eq, WP_eq, RW_eq] at *
  exact AS.fg_s l h
theorem sqj {f : σ → Option R} {k : (σ → Option R) → Option R} (S : σ → TL) (h : jn f k = some r) (mid : ∀ s, f s = some r → WP P b (gl (S s)) Q) (main : (∀ s, f s = some r → thenX (fun T' => WP P b T' Q) Q .nrm (gl (S s))) → k f = some r → WP P a T (thenX (fun T' => WP P b T' Q) Q)) : WP P (.seq a b) T Q := by
  simp only [SQ_eq, EV_eq, EW_eq, PW_eq, WP_eq, RW_eq] at *
  exact AS.sqj S h mid main
theorem lpF {body : (σ → Option R) → σ → Option R} {n : Nat} {L : TL} (S : σ → TL) (s0 : σ) (e : L = S s0) (h : loopF body n s0 = some r) (step : ∀ (G : (Nat → SV) → Prop) next s, (∀ s', next s' = some r → G (gl (S s'))) → body next s = some r → WP P a (gl (S s)) (thenX G Q)) : WP P (.loop a) (gl L) Q := by
  simp only [SQ_eq, EV_eq, EW_eq, PW_eq, WP_eq, RW_eq] at *
  exact AS.lpF S s0 e h step
theorem lpR {α : Type} {body : Nat → α → σ → (σ → Option R) → Option R} {fin : σ → Option R} {l : List α} {L : TL} (S : Nat → σ → TL) (s0 : σ) (e : L = S 0 s0) (h : rangeF body fin l 0 s0 = some r) (done : ∀ (G : (Nat → SV) → Prop) s, fin s = some r → WP P a (gl (S l.length s)) (thenX G Q)) (step : ∀ (G : (Nat → SV) → Prop) next k s x, k < l.length → l[k]? = some x → (∀ s', next s' = some r → G (gl (S (k + 1) s'))) → body k x s next = some r → WP P a (gl (S k s)) (thenX G Q)) : WP P (.loop a) (gl L) Q := by
  simp only [SQ_eq, EV_eq, EW_eq, PW_eq, WP_eq, RW_eq] at *
  exact AS.lpR S s0 e h done step
theorem jw {o : Option σ} {g : σ → Option R} (S : σ → TL) (h : o.bind g = some r) (k : ∀ s, g s = some r → Q .nrm (gl (S s))) (main : ∀ s, Q .nrm (gl (S s)) → o = some s → WP P a T Q) : WP P a T Q := by
  simp only [SQ_eq, EV_eq, EW_eq, PW_eq, WP_eq, RW_eq] at *
  exact AS.jw S h k main
theorem lf {ks : List Nat} {v s : σ} {S : σ → TL} (h : some v = some s) (hk : Q .nrm (gl (S s))) (e : kG T ks ks = S v) : SQ P [] T fun T' => Q .nrm (ofL (keepL T' ks ks)) := by
  simp only [SQ_eq, EV_eq, EW_eq, PW_eq, WP_eq, RW_eq] at *
  exact AS.lf h hk e
theorem fin {rs : List MR} {ds : List D} {T1 : Nat → SV} {v : R} {res : R → List D} (h : some v = some r) (x : Rts T rs ds T1) (e : ds = res v) : RW rs none (res r) T := by
  simp only [SQ_eq, EV_eq, EW_eq, PW_eq, WP_eq, RW_eq] at *
  exact AS.fin h x e
theorem ini {m : MC} {L : TL} (L' : TL) (e : L = L') (h : WP P m (gl L') Q) : WP P m (ofL L) Q := by
  simp only [SQ_eq, EV_eq, EW_eq, PW_eq, WP_eq, RW_eq] at *
  exact AS.ini L' e h
theorem finO {rs : List MR} {ds : List D} {T1 : Nat → SV} {v : R} {res : R → List D} {q : Nat} {out : R → D} (h : some v = some r) (x : Rts T rs ds T1) (e : ds = res v) (o : T1 q = entSV (out v)) : RW rs (some (q, out r)) (res r) T := by
  simp only [SQ_eq, EV_eq, EW_eq, PW_eq, WP_eq, RW_eq] at *
  exact AS.finO h x e o
theorem b_inc {F : SV → Prop} {x y : Opd} {k n : Nat} (hx : rd T x = some (cI.enc (k : Int))) (hy : rd T y = some (cI.enc 1)) (b : n ≤ 9223372036854775807) (b' : k < n) (h : F (.d (cI.enc ((k + 1 : Nat) : Int)))) : EV P T (.bin .add x y) F := by
  simp only [SQ_eq, EV_eq, EW_eq, PW_eq, WP_eq, RW_eq] at *
  exact AS.b_inc hx hy b b' h
end
section
variable {P : Program} {T : Nat → SV} {R : Type} {r : R} {ms : List MOp} {ps : List PO} {K : (Nat → SV) → Prop} {α : Type} {f : Option R}
theorem bnd {o : Option α} {g : α → Option R} (h : o.bind g = some r) (k : ∀ x, o = some x → g x = some r → SQ P ms T K) : SQ P ms T K := AS.bnd h k
theorem bndp {o : Option α} {g : α → Option R} (h : o.bind g = some r) (k : ∀ x, o = some x → g x = some r → PW P ps T K) : PW P ps T K := AS.bnd h k
theorem ite_k {b : Bool} {f g : Option R} (h : (if b = true then f else g) = some r) (t : b = true → f = some r → SQ P ms T K) (e : b = false → g = some r → SQ P ms T K) : SQ P ms T K := AS.ite_k h t e
theorem ite_kp {b : Bool} {f g : Option R} (h : (if b = true then f else g) = some r) (t : b = true → f = some r → PW P ps T K) (e : b = false → g = some r → PW P ps T K) : PW P ps T K := AS.ite_k h t e
theorem ckI_k {n : Int} (h : ckI n f = some r) (k : InR .i64 n → f = some r → SQ P ms T K) : SQ P ms T K := AS.ckI_k h k
theorem ckI_kp {n : Int} (h : ckI n f = some r) (k : InR .i64 n → f = some r → PW P ps T K) : PW P ps T K := AS.ckI_k h k
theorem ckU_k {n : Int} (h : ckU n f = some r) (k : InR .u8 n → f = some r → SQ P ms T K) : SQ P ms T K := AS.ckU_k h k
theorem ckU_kp {n : Int} (h : ckU n f = some r) (k : InR .u8 n → f = some r → PW P ps T K) : PW P ps T K := AS.ckU_k h k
theorem ckK_k {kd : IntKind} {n : Int} (h : ckK kd n f = some r) (k : InR kd n → f = some r → SQ P ms T K) : SQ P ms T K := AS.ckK_k h k
theorem ckK_kp {kd : IntKind} {n : Int} (h : ckK kd n f = some r) (k : InR kd n → f = some r → PW P ps T K) : PW P ps T K := AS.ckK_k h k
theorem ck_k {p : Prop} [Decidable p] (h : ck p f = some r) (k : p → f = some r → SQ P ms T K) : SQ P ms T K := AS.ck_k h k
theorem ck_kp {p : Prop} [Decidable p] (h : ck p f = some r) (k : p → f = some r → PW P ps T K) : PW P ps T K := AS.ck_k h k
theorem getO_k {l : List α} {i : Int} {g : α → Option R} (h : getO l i g = some r) (k : ∀ x, 0 ≤ i → l[i.toNat]? = some x → g x = some r → SQ P ms T K) : SQ P ms T K := AS.getO_k h k
theorem getO_kp {l : List α} {i : Int} {g : α → Option R} (h : getO l i g = some r) (k : ∀ x, 0 ≤ i → l[i.toNat]? = some x → g x = some r → PW P ps T K) : PW P ps T K := AS.getO_k h k
theorem nilO_k [DecidableEq R] {l : List α} {ne : Bool} {g : Bool → Option R} (h : nilO l ne g = some r) (k : (l ≠ [] → g ne = some r) → (l = [] → g true = some r ∧ g false = some r) → SQ P ms T K) : SQ P ms T K := AS.nilO_k h k
theorem nilO_kp [DecidableEq R] {l : List α} {ne : Bool} {g : Bool → Option R} (h : nilO l ne g = some r) (k : (l ≠ [] → g ne = some r) → (l = [] → g true = some r ∧ g false = some r) → PW P ps T K) : PW P ps T K := AS.nilO_k h k
theorem mkO_k {n : Int} (h : mkO n f = some r) (k : 0 ≤ n → n.toNat ≤ 1099511627776 → f = some r → SQ P ms T K) : SQ P ms T K := AS.mkO_k h k
theorem mkO_kp {n : Int} (h : mkO n f = some r) (k : 0 ≤ n → n.toNat ≤ 1099511627776 → f = some r → PW P ps T K) : PW P ps T K := AS.mkO_k h k
theorem lnO_k {n : Nat} (h : lnO n f = some r) (k : n ≤ 1099511627776 → f = some r → SQ P ms T K) : SQ P ms T K := AS.lnO_k h k
theorem lnO_kp {n : Nat} (h : lnO n f = some r) (k : n ≤ 1099511627776 → f = some r → PW P ps T K) : PW P ps T K := AS.lnO_k h k
theorem lmO_k {n : Nat} (h : lmO n f = some r) (k : n ≤ 9223372036854775807 → f = some r → SQ P ms T K) : SQ P ms T K := AS.lmO_k h k
theorem lmO_kp {n : Nat} (h : lmO n f = some r) (k : n ≤ 9223372036854775807 → f = some r → PW P ps T K) : PW P ps T K := AS.lmO_k h k
end
section
variable {P : Program} {a b : MC} {T : Nat → SV} {Q : MX → (Nat → SV) → Prop}
theorem wpC_seq (h : WP P a T (thenX (fun T' => WP P b T' Q) Q)) : WP P (.seq a b) T Q := by simp only [WP_eq] at *; exact AS.wpC_seq h
theorem reg_s {ms : List MOp} {ks : List Nat} (h : SQ P ms T fun T' => Q .nrm (ofL (keepL T' ks ks))) : WP P (.reg ms ks) T Q := by simp only [WP_eq, SQ_eq] at *; exact AS.reg_s h
theorem drw_s {pre : List PO} {tail : List (Nat × MOp)} {ks : List Nat} (h : PW P pre T fun L1 => SQ P (tail.map (·.2)) L1 fun T' => Q .nrm (ofL (keepL T' ks ks))) : WP P (.drw pre tail ks) T Q := by simp only [WP_eq, SQ_eq, PW_eq] at *; exact AS.drw_s h
theorem drg_s {pre : List PO} {rest : List (Nat × MOp)} {ks ka : List Nat} {gr : List (List Bool × Nat)} (h : PW P pre T fun L1 => GR P pre rest ka gr L1 fun T' => Q .nrm (ofL (keepL T' ks ks))) : WP P (.drg pre rest ks ka gr) T Q := by
  simp only [WP_eq, PW_eq] at *
  have e : (fun L1 => GR P pre rest ka gr L1 fun T' => Q .nrm (ofL (keepL T' ks ks))) = fun L1 => grW P pre rest ka gr L1 fun T' => Q .nrm (ofL (keepL T' ks ks)) := by funext L1; exact propext ⟨fun h => h.h, fun h => ⟨h⟩⟩
  rw [e] at h
  exact h
theorem ob0 {rest : List (Nat × MOp)} {ka : List Nat} {B : TL} {N : List (List Bool × TL)} : OB P rest ka B N [] := ⟨fun g h => by cases h⟩
theorem obN {ka : List Nat} {L : TL} (e : kG T ka ka = L) : SQ P [] T (fun T' => keepL T' ka ka = L) := ⟨by show keepL T ka ka = L; rw [keepL_kG, e]⟩
theorem ob1 {rest : List (Nat × MOp)} {ka : List Nat} {B : TL} {N : List (List Bool × TL)} {gr : List (List Bool × Nat)} {b : List Bool} {i j : Nat} {m : MOp} {c c' : TL} (hm : rest[i]? = some (j, m)) (hb : lkB N b = some c) (hb' : lkB N (b.set i true) = some c')
    (h : SQ P [m] (gl (c ++ B)) (fun T' => keepL T' ka ka = c' ++ B)) (t : OB P rest ka B N gr) : OB P rest ka B N ((b, i) :: gr) := by
  refine ⟨fun g hg u hu d hd => ?_⟩
  rcases List.mem_cons.1 hg with rfl | hg
  · simp only at hu hd ⊢
    rw [hm] at hu; cases hu
    rw [hb] at hd; cases hd
    have := h.h
    rw [← ofL_gl] at this
    have e : (fun T' => ∃ c'', lkB N (b.set i true) = some c'' ∧ keepL T' ka ka = c'' ++ B) = fun T' => keepL T' ka ka = c' ++ B := by
      funext T'; apply propext
      constructor
      · rintro ⟨c'', h1, h2⟩; rw [hb'] at h1; cases h1; exact h2
      · intro h; exact ⟨c', hb', h⟩
    rw [e]
    exact this
  · exact t.h g hg u hu d hd
/-- The first states of a graph. -/
structure SA (T : Nat → SV) (ka : List Nat) (B : TL) (N : List (List Bool × TL)) (st : List (List Bool × List Nat)) : Prop where
  h : ∀ s ∈ st, ∃ c, lkB N s.1 = some c ∧ keepL (hideT T s.2) ka ka = c ++ B
theorem sa0 {ka : List Nat} {B : TL} {N : List (List Bool × TL)} : SA T ka B N [] := ⟨fun g h => by cases h⟩
theorem sa1 {ka : List Nat} {B : TL} {N : List (List Bool × TL)} {b : List Bool} {hid : List Nat} {st : List (List Bool × List Nat)} {c : TL} (h0 : lkB N b = some c) (e0 : kG (hT T hid) ka ka = c ++ B) (t : SA T ka B N st) : SA T ka B N ((b, hid) :: st) := by
  refine ⟨fun s hs => ?_⟩
  rcases List.mem_cons.1 hs with rfl | hs
  · exact ⟨c, h0, by simp only; rw [hideT_hT, keepL_kG, e0]⟩
  · exact t.h s hs
theorem gr_s {pre : List PO} {rest : List (Nat × MOp)} {ks ka : List Nat} {gr : List (List Bool × Nat)} (B : TL) (N : List (List Bool × TL)) {c1 : TL} (L : TL) (st : List (List Bool × List Nat)) (hst : startsOf pre rest = st) (sa : SA T ka B N st) (h1 : lkB N (rest.map fun _ => true) = some c1)
    (ob : OB P rest ka B N gr) (e : kG (gl (c1 ++ B)) ks ks = L) (h : Q .nrm (gl L)) : GR P pre rest ka gr T (fun T' => Q .nrm (ofL (keepL T' ks ks))) := by
  subst hst
  refine ⟨fun b L => ∃ c, lkB N b = some c ∧ L = c ++ B, fun s hs => sa.h s hs, ?_, ?_⟩
  · rintro g hg t ht L ⟨c, hc, rfl⟩
    exact ob.h g hg t ht c hc
  · rintro L' ⟨c, hc, rfl⟩
    rw [h1] at hc; cases hc
    show Q .nrm (ofL (keepL (ofL (c1 ++ B)) ks ks))
    rw [ofL_gl (c1 ++ B), keepL_kG, e, ofL_gl]; exact h
theorem bad_s {R : Type} {r : R} (h : (none : Option R) = some r) : WP P .bad T Q := nomatch h
theorem wpC_skip (h : Q .nrm T) : WP P .skip T Q := ⟨h⟩
theorem wpC_exit {id : Nat} (h : Q (.ext id) T) : WP P (.exit id) T Q := ⟨h⟩
theorem wpC_ret (h : Q .ret T) : WP P .ret T Q := ⟨h⟩
theorem wpC_kp {ks : List Nat} (h : WP P a T (thenX (fun L' => Q .nrm (ofL (keepL L' ks ks))) Q)) : WP P (.kp ks a) T Q := ⟨h.h⟩
theorem wpC_blk {id : Nat} (h : WP P a T (blkX id Q)) : WP P (.blk id a) T Q := ⟨h.h⟩
theorem top {fn : Nat} {f : Func} {c : Code} {m : MC} {rs : List MR} {ds res : List D} {out : Option (Nat × D)} (hf : P.funcs[fn]? = some f) (hb : f.body = some c) (hname : (f.name == "runtime.NumGoroutine") = false)
    (hn : Nat.ble ds.length f.ntmps = true) (hout : (match out with | none => true | some (q, _) => Nat.ble (q + 1) ds.length) = true) (hok : okC P f.ntmps (outQ out) c m = true) (hrs : okRs P f.results.toList rs = true) (hw : WP P m (ofL (initL 0 ds)) (endX (RW rs out res))) :
    Con P fn ds (outsOf out) res := by
  simp only [WP_eq, RW_eq] at hw
  exact con_of hf hb hname (Nat.le_of_ble_eq_true hn) (fun q y h => by subst h; exact Nat.le_of_ble_eq_true hout) hok hrs hw
end
end W
end AS
namespace AS
open Go Go.ChangeShapes Go.WideShapes Go.ChangeAt Go.RowKit

def OpnP (P : Program) (t : TypeId) (pr : D → Prop) : Prop := ∀ {H : Type} {enc : TypeId × Value → H} {W : World} {sp : Nat → Bool} {fuel : Nat} {cs : List Value} {x : DataW H × List MemPlace},
  DataW.trod enc P W 0 sp true fuel t cs = some x → ∃ d, pr d ∧ d.size = P.cellsOf t ∧ RepX W (fun b => b < W.heap.size) d cs (fun _ => 0)
/-- That a list may be nil is forgotten. -/
theorem con_fg {P : Program} {f : Nat} {args : List D} {outs : List (Nat × D)} {α : Type} {c : Cd α} {v : Option (List α)} (h : Con P f args outs [(cNo c).enc v]) : Con P f args outs [(cLo c).enc (v.getD [])] := by
  refine ⟨h.1, fun w Z vs F h1 h2 h3 h4 h5 => (h.2 w Z vs F h1 h2 h3 h4 h5).mono ?_⟩
  rintro e w' ⟨v', Z', G, H, rfl, r⟩
  refine ⟨v', Z', G, H, rfl, ⟨?_, r.outs, r.one, r.own, r.z1, r.z2, r.z3, r.fr⟩⟩
  have hr := r.res
  simp only [ResRep] at hr ⊢
  cases v with
  | none => exact RepV.niloSlice true hr
  | some l => exact hr
/-- That a result is owned is forgotten. -/
theorem con_fz {P : Program} {f : Nat} {args : List D} {α : Type} {c c' : Cd α} (t : ToI c c') {r : α} (h : Con P f args [] [c.enc r]) : Con P f args [] [c'.enc r] := by
  refine ⟨h.1, fun w Z vs F h1 h2 h3 h4 h5 => (h.2 w Z vs F h1 h2 h3 h4 h5).mono ?_⟩
  rintro e w' ⟨v', Z', G, H, rfl, q⟩
  have hH : ∀ b, H b = 0 := q.outs
  have hr : RepV w' Z' (c.enc r) v' G := q.res
  refine ⟨v', fun b => Z' b ∨ 0 < G b, fun _ => 0, fun _ => 0, rfl, ⟨?_, fun _ => rfl, fun b => by simp, fun b hb => by simp at hb, fun b hb => .inl (q.z1 b hb), ?_, fun b _ => rfl, q.fr⟩⟩
  · show RepV w' _ (c'.enc r) v' _
    rw [← t.h]
    exact hr.toImm (fun b hb => .inl hb) (fun b hb => .inr hb)
  · rintro b (hb | hb)
    · exact q.z2 b hb
    · exact .inr (q.own b (by omega))
/-- What is known of every value that came in. -/
class Bd (α : Type) where
  bd : α → Prop
instance : Bd Int := ⟨fun n => -9223372036854775808 ≤ n ∧ n ≤ 9223372036854775807⟩
instance : Bd Bool := ⟨fun _ => True⟩
instance : Bd UInt8 := ⟨fun _ => True⟩
instance {α : Type} [Bd α] : Bd (List α) := ⟨fun l => l.length ≤ 9223372036854775807 ∧ ∀ x ∈ l, Bd.bd x⟩
def Opn (P : Program) (t : TypeId) {α : Type} [Bd α] (c : Cd α) : Prop := OpnP P t fun d => ∃ a, Bd.bd a ∧ d = c.enc a

theorem opn_int {P : Program} {t : TypeId} {k : IntKind} (h : P.underlying t = some (.int k)) (hk : (decide (-9223372036854775808 ≤ k.min) && decide (k.max ≤ 9223372036854775807)) = true) (hc : P.cellsOf t = 1) : Opn P t (cK k) := by
  intro H enc W sp fuel cs x hx
  obtain ⟨n, rfl, _, hw⟩ := DataW.trod_int h hx
  simp only [Lit.wf, Bool.and_eq_true, decide_eq_true_eq] at hw hk
  exact ⟨_, ⟨n, ⟨Int.le_trans hk.1 hw.1, Int.le_trans hw.2 hk.2⟩, rfl⟩, by rw [hc, (cK k).h_sz]; rfl, by simp [cK, RepX]⟩
theorem opn_bool {P : Program} {t : TypeId} (h : P.underlying t = some .bool) (hc : P.cellsOf t = 1) : Opn P t cB := by
  intro H enc W sp fuel cs x hx
  obtain ⟨n, rfl, _⟩ := DataW.trod_bool h hx
  exact ⟨_, ⟨n, trivial, rfl⟩, by rw [hc, cB.h_sz]; rfl, by simp [cB, RepX]⟩
theorem opn_str {P : Program} {t : TypeId} (h : P.underlying t = some .string) (hc : P.cellsOf t = 1) : Opn P t cS := by
  intro H enc W sp fuel cs x hx
  obtain ⟨s, rfl, _, hs⟩ := DataW.trod_string h hx
  refine ⟨_, ⟨s.data.toList, ⟨by simpa [maxLen] using hs, fun _ _ => trivial⟩, rfl⟩, by rw [hc, cS.h_sz]; rfl, ?_⟩
  simp only [cS, RepX]
  exact ⟨by simp, by simpa using hs, by simp⟩

theorem cells?_get {w : World} {a : Addr} {n : Nat} {cs : List Value} (h : w.cells? 0 a n = some cs) : cs.length = n ∧ ∀ i, i < n → w.cell? (a.add i) = cs[i]? := by
  simp only [World.cells?, Nat.zero_le, if_true] at h
  refine ⟨by simpa using mapM_some_length h, fun i hi => ?_⟩
  exact mapM_some_get h i i (by simp [hi])

theorem addr_add_add (a : Addr) (i j : Nat) : a.add (i + j) = (a.add i).add j := by
  by_cases hi : i = 0
  · subst hi; simp [Addr.add]
  · by_cases hj : j = 0
    · subst hj; simp [Addr.add]
    · have : i + j ≠ 0 := by omega
      simp [Addr.add, hi, hj, Nat.add_assoc]
theorem opn_slice {P : Program} {t e : TypeId} {α : Type} [Bd α] {c : Cd α} (ht : P.underlying t = some (.slice e)) (he : Opn P e c) (hi : c.im = true) (hs : P.cellsOf e = c.sz) (h0 : 0 < c.sz) (hc : P.cellsOf t = 1) : Opn P t (cLs c hi) := by
  intro H enc W sp fuel cs x hx
  rcases DataW.trod_slice ht hx with ⟨rfl, _⟩ | ⟨a, len, cap, elems, rest, n, _, rfl, rfl, hb, hl, hm, hlen, hel, _, _⟩
  · refine ⟨_, ⟨[], ⟨Nat.zero_le _, fun _ h => nomatch h⟩, rfl⟩, by rw [hc, (cLs c hi).h_sz]; rfl, ?_⟩
    simp only [cLs, RepX]
    exact .inl ⟨rfl, by simp, none, 0, rfl, Nat.zero_le _, by simp, by simp⟩
  -- each element
  have each : ∀ i, i < len → ∃ (v : α) (ce : List Value), Bd.bd v ∧ W.cells? 0 (a.add (i * c.sz)) c.sz = some ce ∧ RepX W (fun b => b < W.heap.size) (c.enc v) ce (fun _ => 0) := by
    intro i hi
    have := hel i hi
    rw [List.getElem?_eq_getElem (by omega), hs, Option.bind_eq_some_iff] at this
    obtain ⟨ce, h1, h2⟩ := this
    obtain ⟨d, ⟨v, hbd, rfl⟩, _, hr⟩ := he h2
    exact ⟨v, ce, hbd, h1, hr⟩
  have all : ∀ k, k ≤ len → ∃ (l : List α) (xs : List Value), (∀ x ∈ l, Bd.bd x) ∧ l.length = k ∧ xs.length = k * c.sz ∧ RepXs W (fun b => b < W.heap.size) (l.map c.enc) xs (fun _ => 0) ∧ ∀ j u, xs[j]? = some u → W.cell? (a.add j) = some u := by
    intro k
    induction k with
    | zero => exact fun _ => ⟨[], [], (fun _ h => nomatch h), rfl, by simp, by simp [RepXs], fun j u hu => by simp at hu⟩
    | succ k ih =>
      intro hk
      obtain ⟨l, xs, hbl, h1, h2, h3, h4⟩ := ih (by omega)
      obtain ⟨v, ce, hbv, h5, h6⟩ := each k (by omega)
      obtain ⟨h7, h8⟩ := cells?_get h5
      refine ⟨l ++ [v], xs ++ ce, (fun x hx => by rcases List.mem_append.1 hx with hx | hx; exact hbl x hx; rw [List.mem_singleton] at hx; subst hx; exact hbv), by simp [h1], by simp [h2, h7, Nat.succ_mul], ?_, ?_⟩
      · rw [List.map_append]
        have app : ∀ (ds1 ds2 : List D) (c1 c2 : List Value), RepXs W (fun b => b < W.heap.size) ds1 c1 (fun _ => 0) → RepXs W (fun b => b < W.heap.size) ds2 c2 (fun _ => 0) → RepXs W (fun b => b < W.heap.size) (ds1 ++ ds2) (c1 ++ c2) (fun _ => 0) := by
          intro ds1
          induction ds1 with
          | nil => intro ds2 c1 c2 q1 q2; simp only [RepXs] at q1; simpa [q1.1] using q2
          | cons d ds1 ihd =>
            intro ds2 c1 c2 q1 q2
            simp only [RepXs, List.cons_append] at q1 ⊢
            obtain ⟨e1, e2, f1, f2, rfl, q3, q4, q5⟩ := q1
            have z1 : f1 = fun _ => 0 := by funext b; have := q3 b; omega
            have z2 : f2 = fun _ => 0 := by funext b; have := q3 b; omega
            subst z1; subst z2
            exact ⟨e1, e2 ++ c2, fun _ => 0, fun _ => 0, by simp, fun _ => rfl, q4, ihd ds2 e2 c2 q5 q2⟩
        refine app _ _ _ _ h3 ?_
        simp only [List.map_cons, List.map_nil, RepXs]
        exact ⟨ce, [], fun _ => 0, fun _ => 0, by simp, fun _ => rfl, h6, rfl, fun _ => rfl⟩
      · intro j u hu
        by_cases hj : j < xs.length
        · rw [List.getElem?_append_left hj] at hu; exact h4 j u hu
        · rw [List.getElem?_append_right (by omega)] at hu
          have hlt := (List.getElem?_eq_some_iff.1 hu).1
          have := h8 (j - xs.length) (by omega)
          rw [hu] at this
          rw [← this]
          rw [← addr_add_add, show k * c.sz + (j - xs.length) = j by omega]
  obtain ⟨l, xs, hbl, h1, h2, h3, h4⟩ := all len (Nat.le_refl _)
  refine ⟨_, ⟨l, ⟨by rw [h1]; exact Nat.le_trans hl hm, hbl⟩, rfl⟩, by rw [hc, (cLs c hi).h_sz]; rfl, ?_⟩
  simp only [cLs, RepX]
  by_cases hl0 : l = []
  · subst hl0
    simp only [List.length_nil] at h1
    subst h1
    exact .inl ⟨rfl, by simp, some a, cap, rfl, hm, by simp, by simp⟩
  · have hpos : 0 < len := by rw [← h1]; exact List.length_pos_iff.2 hl0
    -- the address is a plain one
    have hx0 : ∃ u, xs[0]? = some u := by
      have : 0 < xs.length := by rw [h2]; exact Nat.mul_pos hpos h0
      exact ⟨xs[0], List.getElem?_eq_getElem this⟩
    obtain ⟨u, hu⟩ := hx0
    have hcell := h4 0 u hu
    have hspot : a.spot = none := by
      simp only [World.cell?] at hcell
      split at hcell
      · split at hcell
        · cases hcell
        · rename_i hs; simpa [Addr.add] using hs
      · cases hcell
    have hblk : a.block < W.heap.size := by
      simp only [World.cell?] at hcell
      split at hcell
      · rename_i hh; simp only [Addr.add] at hh; exact (Array.getElem?_eq_some_iff.1 hh).1
      · cases hcell
    have ha : a = ⟨a.block, a.off, none⟩ := by cases a; simp only at hspot; subst hspot; rfl
    refine .inr ⟨by simpa using hl0, a.block, a.off, cap, xs, c.sz, fun _ => 0, by rw [← ha]; simp [h1], hm, by simp [h1]; exact hl, by simp [h1, h2], ?_, h3, .inl ⟨by simp, hblk, by simp, by simp, fun j u hu => ?_⟩⟩
    · intro d hd; obtain ⟨v, _, rfl⟩ := List.mem_map.1 hd; exact c.h_sz v
    · have := h4 j u hu
      rw [ha] at this
      rw [← addr_add]; exact this

/-- The fields of a struct, one by one. -/
inductive OpnF (P : Program) : List Field → Nat → Nat → List (D → Prop) → Prop
  | nil (n : Nat) : OpnF P [] n n []
  | cons {f : Field} {fs : List Field} {off n sz : Nat} {pr : D → Prop} {prs : List (D → Prop)} (ho : f.offset = off) (hs : P.cellsOf f.type = sz) (h : OpnP P f.type pr) (t : OpnF P fs (off + sz) n prs) : OpnF P (f :: fs) off n (pr :: prs)
inductive AllP : List (D → Prop) → List D → Prop
  | nil : AllP [] []
  | cons {pr : D → Prop} {prs : List (D → Prop)} {d : D} {ds : List D} (h : pr d) (t : AllP prs ds) : AllP (pr :: prs) (d :: ds)
theorem opn_flds {P : Program} {H : Type} {enc : TypeId × Value → H} {W : World} {sp : Nat → Bool} {n : Nat} {cs : List Value} : ∀ {fs : List Field} {off tot : Nat} {prs : List (D → Prop)}, OpnF P fs off tot prs → cs.length = tot →
    (∀ f ∈ fs, ∃ x, DataW.trod enc P W 0 sp true n f.type ((cs.drop f.offset).take (P.cellsOf f.type)) = some x) → off ≤ tot →
    ∃ ds, AllP prs ds ∧ D.sizes ds = tot - off ∧ RepXs W (fun b => b < W.heap.size) ds (cs.drop off) (fun _ => 0) := by
  intro fs off tot prs h
  induction h with
  | nil n => exact fun hl _ _ => ⟨[], .nil, by simp [D.sizes], by simp only [RepXs]; exact ⟨List.drop_of_length_le (by omega), fun _ => trivial⟩⟩
  | @cons f fs off tot sz pr prs ho hs hp ht ih =>
    intro hl hf hle
    obtain ⟨x, hx⟩ := hf f (by simp)
    rw [ho, hs] at hx
    obtain ⟨d, h1, h2, h3⟩ := hp hx
    have hlen := RepX.len _ h3
    rw [h2, hs] at hlen
    have hle2 : off + sz ≤ tot := by
      simp only [List.length_take, List.length_drop] at hlen; omega
    obtain ⟨ds, h4, h5, h6⟩ := ih hl (fun g hg => hf g (by simp [hg])) hle2
    refine ⟨d :: ds, .cons h1 h4, by simp only [D.sizes, h2, hs, h5]; omega, ?_⟩
    simp only [RepXs]
    refine ⟨(cs.drop off).take sz, cs.drop (off + sz), fun _ => 0, fun _ => 0, ?_, fun _ => rfl, h3, h6⟩
    rw [← List.drop_drop, List.take_append_drop]
theorem opn_struct {P : Program} {t : TypeId} {fs : Array Field} {tot : Nat} {prs : List (D → Prop)} (ht : P.underlying t = some (.struct fs)) (hc : P.cellsOf t = tot) (h : OpnF P fs.toList 0 tot prs) : OpnP P t fun d => ∃ ds, d = .agg ds ∧ AllP prs ds := by
  intro H enc W sp fuel cs x hx
  obtain ⟨xs, n, rfl, rfl, hl, hxl, he⟩ := DataW.trod_struct ht hx
  obtain ⟨ds, h1, h2, h3⟩ := opn_flds h (hl.trans hc) (fun f hf => by
    obtain ⟨i, hi⟩ := List.getElem?_of_mem hf
    have := he i f (by simpa using hi)
    have hlt : i < xs.length := by
      have := (List.getElem?_eq_some_iff.1 hi).1; simp at this; omega
    exact ⟨xs[i], by rw [this, List.getElem?_eq_getElem hlt]⟩) (Nat.zero_le _)
  exact ⟨_, ⟨ds, rfl, h1⟩, by simp only [D.size, h2, hc, Nat.sub_zero], by simpa [RepX] using h3⟩
theorem OpnP.imp {P : Program} {t : TypeId} {p q : D → Prop} (h : OpnP P t p) (i : ∀ d, p d → q d) : OpnP P t q := by
  intro H enc W sp fuel cs x hx
  obtain ⟨d, h1, h2⟩ := h hx
  exact ⟨d, i d h1, h2⟩

/-! ### The frame of a law -/
/-- An argument that came in: what it is by the code. -/
theorem Opn.arg {P : Program} {t : TypeId} {α : Type} [Bd α] {c : Cd α} (h : Opn P t c) {H : Type} {enc : TypeId × Value → H} {W : World} {v : Value} {d : DataW H} {ps : List MemPlace}
    (hx : DataW.Trod enc P W 0 (fun _ => true) true t v d ps) (hv : vAgg v = c.ag) : ∃ a, Bd.bd a ∧ RepV W (fun b => b < W.heap.size) (c.enc a) v (fun _ => 0) := by
  obtain ⟨fuel, hf⟩ := hx
  obtain ⟨y, ⟨a, hb, rfl⟩, _, hr⟩ := h hf
  exact ⟨a, hb, by rw [c.h_ag]; exact hv, hr⟩
theorem vAgg_okWide {P : Program} {w : World} {r : Reach} {base : Nat} {t : TypeId} {v : Value} {e : TypeId} (ht : P.underlying t = some (.slice e)) (h : Value.okWide P w r base t v) : vAgg v = false := by
  obtain ⟨a, l, c, rfl⟩ := okWide_slice ht h; rfl
theorem vAgg_int {P : Program} {w : World} {r : Reach} {base : Nat} {t : TypeId} {v : Value} {k : IntKind} (ht : P.underlying t = some (.int k)) (h : Value.okWide P w r base t v) : vAgg v = false := by
  obtain ⟨a, rfl⟩ := okWide_int ht h; rfl
theorem vAgg_bool {P : Program} {w : World} {r : Reach} {base : Nat} {t : TypeId} {v : Value} (ht : P.underlying t = some .bool) (h : Value.okWide P w r base t v) : vAgg v = false := by
  obtain ⟨a, rfl⟩ := okWide_bool ht h; rfl
theorem vAgg_str {P : Program} {w : World} {r : Reach} {base : Nat} {t : TypeId} {v : Value} (ht : P.underlying t = some .string) (h : Value.okWide P w r base t v) : vAgg v = false := by
  obtain ⟨a, rfl⟩ := okWide_string ht h; rfl
theorem vAgg_struct {P : Program} {w : World} {r : Reach} {base : Nat} {t : TypeId} {v : Value} {fs : Array Field} (ht : P.underlying t = some (.struct fs)) (h : Value.okWide P w r base t v) : vAgg v = true := by
  obtain ⟨a, rfl, _⟩ := okWide_struct ht h; rfl

theorem law_calls {P : Program} {f : Nat} {ds : List D} (h : Con P f ds [] [.bool true]) {w : World} {vs : List Value} (hr : RepVs w (fun b => b < w.heap.size) ds vs (fun _ => 0)) (htz : TZ w fun b => b < w.heap.size) :
    Calls P f vs.toArray w fun e w' => e = .returned (.bool true) ∧ Below w.heap.size w w' := by
  refine (h.2 w _ vs _ hr (fun _ => Nat.zero_le _) (fun b hb => absurd hb (Nat.lt_irrefl 0)) (fun b hb => ⟨hb, rfl⟩) htz).mono ?_
  rintro e w' ⟨v, Z', G, H, rfl, hret⟩
  have h1 := hret.res
  simp only [ResRep, RepV, RepX] at h1
  refine ⟨?_, hret.fr.os, hret.fr.tape, hret.fr.output, hret.fr.size, fun k hk => hret.fr.block k hk rfl⟩
  have h2 := h1.2.1
  have h3 := h1.1
  cases v <;> simp [Value.cells, vAgg, D.isAgg] at h2 h3 <;> simp_all
theorem RepVs.one {w : World} {Z : Nat → Prop} {d : D} {v : Value} {ds : List D} {vs : List Value} (h : RepV w Z d v (fun _ => 0)) (t : RepVs w Z ds vs (fun _ => 0)) : RepVs w Z (d :: ds) (v :: vs) (fun _ => 0) := ⟨v, vs, fun _ => 0, fun _ => 0, rfl, fun _ => rfl, h, t⟩
theorem RepVs.none {w : World} {Z : Nat → Prop} : RepVs w Z [] [] (fun _ => 0) := ⟨rfl, fun _ => rfl⟩
end AS
