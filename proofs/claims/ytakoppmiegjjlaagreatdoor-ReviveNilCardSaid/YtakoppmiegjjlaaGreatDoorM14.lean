/- Texts Ca Da Sa, merged: a claim has at most 60 files. -/
import Derived.Test.YtakoppmiegjjlaaGreatDoorM4
import Derived.Test.YtakoppmiegjjlaaGreatDoorM13
/- Check sums: plain laws. -/
namespace Go.Lx
set_option linter.unusedVariables false
set_option linter.unusedSimpArgs false

def cstep (x : Nat) : Nat := if x % 2 = 1 then x / 2 ^^^ 2197175160 else x / 2
def cit (x : Nat) : Nat → Nat
  | 0 => x
  | k + 1 => cstep (cit x k)
def cbyte (x : Nat) (b : UInt8) : Nat := cit (x ^^^ b.toNat) 8
def cmore (x : Nat) (l : Bs) : Nat := l.foldl cbyte x
def crc (l : Bs) : Nat := 4294967295 - cmore 4294967295 l
theorem byte_lt (b : UInt8) : b.toNat < 256 := b.toNat_lt
theorem cstep_lt {x : Nat} (h : x < 4294967296) : cstep x < 4294967296 := by
  unfold cstep
  split
  · exact Nat.xor_lt_two_pow (n := 32) (by omega) (by omega)
  · omega
theorem cit_lt {x : Nat} (h : x < 4294967296) : ∀ k, cit x k < 4294967296
  | 0 => h
  | k + 1 => cstep_lt (cit_lt h k)
theorem xorb_lt {x : Nat} (h : x < 4294967296) (b : UInt8) : x ^^^ b.toNat < 4294967296 := Nat.xor_lt_two_pow (n := 32) h (by have := byte_lt b; omega)
theorem cbyte_lt {x : Nat} (h : x < 4294967296) (b : UInt8) : cbyte x b < 4294967296 := cit_lt (xorb_lt h b) 8
theorem cmore_lt : ∀ (l : Bs) {x : Nat}, x < 4294967296 → cmore x l < 4294967296
  | [], x, h => h
  | b :: l, x, h => cmore_lt l (cbyte_lt h b)
theorem crc_lt (l : Bs) : crc l < 4294967296 := by unfold crc; omega
theorem cmore_append (x : Nat) (l m : Bs) : cmore x (l ++ m) = cmore (cmore x l) m := by unfold cmore; rw [List.foldl_append]
def four (x : Nat) : Bs := [UInt8.ofNat x, UInt8.ofNat (x / 256), UInt8.ofNat (x / 65536), UInt8.ofNat (x / 16777216)]
theorem four_len (x : Nat) : (four x).length = 4 := rfl
def sealS (l : Bs) : Bs := l ++ four (crc l)
theorem sealS_len (l : Bs) : (sealS l).length = l.length + 4 := by simp [sealS, four_len]
/-- What Open answers: what is sealed, and what is wrong. -/
def openS (l : Bs) : Bs × Int := if l.length < 4 then ([], 10) else if four (crc (l.take (l.length - 4))) ≠ l.drop (l.length - 4) then ([], 13) else (l.take (l.length - 4), 0)
end Go.Lx

/- Objects: what is read step by step, which bytes an object is, which object bytes are. Plain laws. -/
namespace Go.Lx
set_option linter.unusedVariables false
set_option linter.unusedSimpArgs false

/-! ### reading, step by step -/
/-- What is known of a part that was read: of what was left, what is left, whether all was well. -/
structure Stp {α : Type} (enc : α → Bs) (ok : α → Prop) (s : Bs) (o : Prop) (x : α) (s' : Bs) (o' : Prop) : Prop where
  back : o' → o ∧ ok x ∧ s = enc x ++ s'
  fwd : ∀ y q, o → ok y → s = enc y ++ q → x = y ∧ o' ∧ s' = q
section
variable {α β : Type} {eA : α → Bs} {kA : α → Prop} {eB : β → Bs} {kB : β → Prop} {s s1 s2 : Bs} {o o1 o2 : Prop}
theorem Stp.seq {x : α} {y : β} (h : Stp eA kA s o x s1 o1) (k : Stp eB kB s1 o1 y s2 o2) : Stp (fun z : α × β => eA z.1 ++ eB z.2) (fun z => kA z.1 ∧ kB z.2) s o (x, y) s2 o2 := by
  refine ⟨fun he => ?_, fun z q ho hz hq => ?_⟩
  · obtain ⟨a1, a2, a3⟩ := k.back he
    obtain ⟨b1, b2, b3⟩ := h.back a1
    exact ⟨b1, ⟨b2, a2⟩, by rw [b3, a3, List.append_assoc]⟩
  · rw [List.append_assoc] at hq
    obtain ⟨a1, a2, a3⟩ := h.fwd z.1 _ ho hz.1 hq
    obtain ⟨b1, b2, b3⟩ := k.fwd z.2 _ a2 hz.2 a3
    exact ⟨by rw [a1, b1], b2, b3⟩
theorem Stp.map {x : α} (h : Stp eA kA s o x s1 o1) (f : α → β) (g : β → α) (h1 : ∀ a, kA a → kB (f a) ∧ eB (f a) = eA a) (h2 : ∀ b, kB b → kA (g b) ∧ eA (g b) = eB b ∧ f (g b) = b) : Stp eB kB s o (f x) s1 o1 := by
  refine ⟨fun he => ?_, fun z q ho hz hq => ?_⟩
  · obtain ⟨a1, a2, a3⟩ := h.back he
    obtain ⟨b1, b2⟩ := h1 _ a2
    exact ⟨a1, b1, by rw [b2]; exact a3⟩
  · obtain ⟨b1, b2, b3⟩ := h2 _ hz
    rw [← b2] at hq
    obtain ⟨a1, a2, a3⟩ := h.fwd _ _ ho b1 hq
    exact ⟨by rw [a1, b3], a2, a3⟩
/-- Of a row of things that was read. -/
structure Rws (eA : α → Bs) (kA : α → Prop) (s : Bs) (o : Prop) (l : List α) (s' : Bs) (o' : Prop) : Prop where
  back : o' → o ∧ (∀ x ∈ l, kA x) ∧ s = l.flatMap eA ++ s'
  fwd : ∀ (L : List α) (q : Bs), o → (∀ x ∈ L, kA x) → s = L.flatMap eA ++ q → l.length ≤ L.length → o' ∧ l = L.take l.length ∧ s' = (L.drop l.length).flatMap eA ++ q
theorem Rws.nil : Rws eA kA s o [] s o := ⟨fun h => ⟨h, fun _ h => (by cases h), by simp⟩, fun L q ho _ hq _ => ⟨ho, by simp, by simpa using hq⟩⟩
theorem Rws.snoc {l : List α} {x : α} (h : Rws eA kA s o l s1 o1) (k : Stp eA kA s1 o1 x s2 o2) : Rws eA kA s o (l ++ [x]) s2 o2 := by
  refine ⟨fun he => ?_, fun L q hE hL hq hlen => ?_⟩
  · obtain ⟨a1, a2, a3⟩ := k.back he
    obtain ⟨b1, b2, b3⟩ := h.back a1
    refine ⟨b1, fun y hy => ?_, ?_⟩
    · rcases List.mem_append.1 hy with q | q
      · exact b2 y q
      · obtain rfl : y = x := by simpa using q
        exact a2
    · rw [b3, a3]
      simp
  · rw [List.length_append, List.length_singleton] at hlen
    obtain ⟨a1, a2, a3⟩ := h.fwd L q hE hL hq (by omega)
    have hi : l.length < L.length := by omega
    have hd : L.drop l.length = L[l.length] :: L.drop (l.length + 1) := List.drop_eq_getElem_cons hi
    rw [hd, List.flatMap_cons, List.append_assoc] at a3
    obtain ⟨b1, b2, b3⟩ := k.fwd _ _ a1 (hL _ (List.getElem_mem hi)) a3
    refine ⟨b2, ?_, by rw [List.length_append, List.length_singleton]; exact b3⟩
    rw [List.length_append, List.length_singleton, List.take_succ_eq_append_getElem hi, ← a2, b1]
/-- A row with its number ahead. -/
def cntB (eA : α → Bs) (l : List α) : Bs := varB l.length ++ l.flatMap eA
/-- Things are told apart by their bytes. -/
structure Inj (eA : α → Bs) (kA : α → Prop) : Prop where
  inj : ∀ {x y : α} {r q : Bs}, kA x → kA y → eA x ++ r = eA y ++ q → x = y ∧ r = q
theorem Inj.seq (h : Inj eA kA) (k : Inj eB kB) : Inj (fun z : α × β => eA z.1 ++ eB z.2) (fun z => kA z.1 ∧ kB z.2) := ⟨fun {x y r q} hx hy hq => by
  rw [List.append_assoc, List.append_assoc] at hq
  obtain ⟨a1, a2⟩ := h.inj hx.1 hy.1 hq
  obtain ⟨b1, b2⟩ := k.inj hx.2 hy.2 a2
  exact ⟨by cases x; cases y; simp only at a1 b1; rw [a1, b1], b2⟩⟩
theorem Inj.map (h : Inj eA kA) (f : α → β) (g : β → α) (h2 : ∀ b, kB b → kA (g b) ∧ eA (g b) = eB b ∧ f (g b) = b) : Inj eB kB := ⟨fun {x y r q} hx hy hq => by
  obtain ⟨a1, a2, a3⟩ := h2 x hx
  obtain ⟨b1, b2, b3⟩ := h2 y hy
  rw [← a2, ← b2] at hq
  obtain ⟨c1, c2⟩ := h.inj a1 b1 hq
  exact ⟨by rw [← a3, ← b3, c1], c2⟩⟩
end
theorem flatMap_len {α : Type} (f : α → Bs) (b : Nat) (l : List α) (h : ∀ x, (f x).length ≤ b) : (l.flatMap f).length ≤ b * l.length := by
  induction l with
  | nil => simp
  | cons x l ih =>
    have := h x
    rw [List.flatMap_cons, List.length_append, List.length_cons, Nat.mul_add, Nat.mul_one]
    omega

/-! ### objects -/
structure Dob where
  k : Nat
  ep : Int
  sq : Int
  up : Int
  ps : List Ext
  cs : List Sp
  d : Bs
def zD : Dob := ⟨0, 0, 0, 0, [], [], []⟩
def PutE (x : Ext) : Prop := x.q = 0 ∧ x.p = 0
instance (x : Ext) : Decidable (PutE x) := by unfold PutE; infer_instance
def MayP (sq : Int) (x : Ext) : Prop := mayS (x.a, x.n) ∧ (PutE x ∨ 1 ≤ x.q ∧ x.q < sq ∧ 0 ≤ x.p ∧ x.p < 65536)
instance (sq : Int) (x : Ext) : Decidable (MayP sq x) := by unfold MayP; infer_instance
def OrdP (sq : Int) (l : List Ext) (n : Nat) : Prop := ∀ i x, i < n → l[i]? = some x → MayP sq x ∧ ∀ y, 0 < i → l[i - 1]? = some y → y.a + y.n ≤ x.a
theorem OrdP.step {sq : Int} {l : List Ext} {k : Nat} {x : Ext} (h : OrdP sq l k) (hx : l[k]? = some x) (hm : MayP sq x) (hy : ∀ y, 0 < k → l[k - 1]? = some y → y.a + y.n ≤ x.a) : OrdP sq l (k + 1) := by
  intro j z hj hz
  by_cases e : j = k
  · subst e; rw [hx] at hz; cases hz; exact ⟨hm, hy⟩
  · exact h j z (by omega) hz
/-- Where the one ahead ends. -/
def endP (l : List Ext) : Nat → Int
  | 0 => 0
  | i + 1 => match l[i]? with
    | some x => x.a + x.n
    | none => 0
theorem endP_at {l : List Ext} {i : Nat} {y : Ext} (hi : 0 < i) (hy : l[i - 1]? = some y) : endP l i = y.a + y.n := by
  obtain ⟨j, rfl⟩ : ∃ j, i = j + 1 := ⟨i - 1, by omega⟩
  rw [Nat.add_sub_cancel] at hy
  simp only [endP, hy]
theorem endP_succ {l : List Ext} {i : Nat} {y : Ext} (hy : l[i]? = some y) : endP l (i + 1) = y.a + y.n := endP_at (Nat.succ_pos i) hy
theorem OrdP.endE {sq : Int} {l : List Ext} {n k : Nat} {x : Ext} (h : OrdP sq l n) (hk : k < n) (hx : l[k]? = some x) : endP l k ≤ x.a := by
  obtain ⟨h1, h2⟩ := h k x hk hx
  rcases Nat.eq_zero_or_pos k with h0 | h0
  · subst h0
    have := h1.1.1
    simpa [endP] using this
  · obtain ⟨y, hy⟩ := get_lt (l := l) (k := k - 1) (by have := lt_of_get hx; omega)
    rw [endP_at h0 hy]
    exact h2 y h0 hy
def spansOf (l : List Ext) : List Sp := l.map fun x => (x.a, x.n)
def NumsD (o : Dob) : Prop := (1 ≤ o.ep ∧ o.ep < 1099511627776) ∧ (1 ≤ o.sq ∧ o.sq < 1099511627776) ∧ 0 ≤ o.up ∧ o.up < 1099511627776
def LaidP (o : Dob) : Prop := o.ps.length ≤ 1024 ∧ o.cs.length ≤ 1024 ∧ OrdP o.sq o.ps o.ps.length ∧ SetOK o.cs o.cs.length ∧ ∀ t, inS (spansOf o.ps) t → ¬ inS o.cs t
def secs (l : List Ext) : Int := (l.map (·.n)).sum
theorem secs_nil : secs [] = 0 := rfl
theorem secs_snoc (l : List Ext) (x : Ext) : secs (l ++ [x]) = secs l + x.n := by simp [secs]
theorem take_snocE {α : Type} {l : List α} {k : Nat} {x : α} (hx : l[k]? = some x) : l.take (k + 1) = l.take k ++ [x] := by
  rw [List.take_add_one, hx]; rfl
theorem OrdP.secs {sq : Int} {l : List Ext} (h : OrdP sq l l.length) : ∀ i, i ≤ l.length → 0 ≤ secs (l.take i) ∧ secs (l.take i) ≤ endP l i ∧ endP l i ≤ 65536
  | 0, _ => by simp [secs_nil, endP]
  | i + 1, hi => by
    obtain ⟨x, hx⟩ := get_lt (l := l) (k := i) (by omega)
    obtain ⟨h1, h2, h3⟩ := OrdP.secs h i (by omega)
    have h4 := (h i x (by omega) hx).1.1
    have h5 := h.endE (by omega) hx
    unfold mayS at h4
    rw [take_snocE hx, secs_snoc, endP_succ hx]
    simp only at h4
    omega

/-! ### bytes -/
def kdD : Bs := [68, 79, 66, 49]
def ptB (x : Ext) : Bs := ((varB x.a.toNat ++ varB x.n.toNat) ++ varB x.q.toNat) ++ varB x.p.toNat
def csB (x : Sp) : Bs := varB x.1.toNat ++ varB x.2.toNat
def OkP (x : Ext) : Prop := (0 ≤ x.a ∧ x.a ≤ 1099511627776) ∧ (0 ≤ x.n ∧ x.n ≤ 1099511627776) ∧ (0 ≤ x.q ∧ x.q ≤ 1099511627776) ∧ 0 ≤ x.p ∧ x.p ≤ 1099511627776
def OkC (x : Sp) : Prop := (0 ≤ x.1 ∧ x.1 ≤ 1099511627776) ∧ 0 ≤ x.2 ∧ x.2 ≤ 1099511627776
theorem Ext.eq' {x y : Ext} (h1 : x.a = y.a) (h2 : x.n = y.n) (h3 : x.q = y.q) (h4 : x.p = y.p) : x = y := by
  cases x; cases y; simp only at *; subst h1 h2 h3 h4; rfl
abbrev Zh := ((((((Nat × Nat) × Nat) × Nat) × List Ext) × List Sp) × Nat)
def hdE (z : Zh) : Bs := (((((fixB z.1.1.1.1.1.1 8 ++ varB z.1.1.1.1.1.2) ++ varB z.1.1.1.1.2) ++ varB z.1.1.1.2) ++ cntB ptB z.1.1.2) ++ cntB csB z.1.2) ++ fixB z.2 4
def okZ (z : Zh) : Prop := (((((z.1.1.1.1.1.1 < 256 ^ 8 ∧ z.1.1.1.1.1.2 ≤ 1099511627776) ∧ z.1.1.1.1.2 ≤ 1099511627776) ∧ z.1.1.1.2 ≤ 1099511627776) ∧ (z.1.1.2.length ≤ 1024 ∧ ∀ x ∈ z.1.1.2, OkP x)) ∧ (z.1.2.length ≤ 1024 ∧ ∀ x ∈ z.1.2, OkC x)) ∧ z.2 < 256 ^ 4
def zO (o : Dob) : Zh := ((((((o.k, o.ep.toNat), o.sq.toNat), o.up.toNat), o.ps), o.cs), crc o.d)
def obO (z : Zh) (d : Bs) : Dob := ⟨z.1.1.1.1.1.1, z.1.1.1.1.1.2, z.1.1.1.1.2, z.1.1.1.2, z.1.1.2, z.1.2, d⟩
def headD (o : Dob) : Bs := kdD ++ hdE (zO o)
def dobB (o : Dob) : Bs := o.d ++ (sealS (headD o) ++ fixB (sealS (headD o)).length 4)
open Classical in
noncomputable def chkD (o : Dob) : Int := if NumsD o ∧ LaidP o then if (o.d.length : Int) = 64 * secs o.ps then if (dobB o).length ≤ 65536 then 0 else 31 else 30 else 1
theorem chkD_ok {o : Dob} (h : chkD o = 0) : NumsD o ∧ LaidP o ∧ (o.d.length : Int) = 64 * secs o.ps ∧ (dobB o).length ≤ 65536 := by
  unfold chkD at h
  split at h
  · rename_i h1
    split at h
    · rename_i h2
      split at h
      · rename_i h3; exact ⟨h1.1, h1.2, h2, h3⟩
      · cases h
    · cases h
  · cases h
theorem ptB_len (x : Ext) : (ptB x).length ≤ 36 := by
  have h1 := varB_le x.a.toNat
  have h2 := varB_le x.n.toNat
  have h3 := varB_le x.q.toNat
  have h4 := varB_le x.p.toNat
  simp only [ptB, List.length_append]
  omega
/-! ### which object bytes are -/
def DecH (d : Bs) (h : Bs × Int) (o : Dob) (e : Int) : Prop :=
  (h.2 ≠ 0 ∧ e = h.2 ∧ o = zD) ∨ (h.2 = 0 ∧ (∀ r, h.1 ≠ kdD ++ r) ∧ e = 14 ∧ o = zD) ∨
  (∃ r, h.2 = 0 ∧ h.1 = kdD ++ r ∧ (((∀ z, okZ z → chkD (obO z d) = 0 → r ≠ hdE z) ∧ e = 12 ∧ o = zD) ∨ ∃ z, okZ z ∧ chkD (obO z d) = 0 ∧ r = hdE z ∧ ((z.2 ≠ crc d ∧ e = 13 ∧ o = zD) ∨ (z.2 = crc d ∧ e = 0 ∧ o = obO z d))))
def DecD (s : Bs) (o : Dob) (e : Int) : Prop :=
  (s.length < 4 ∧ e = 10 ∧ o = zD) ∨ (4 ≤ s.length ∧ s.length - 4 < num (s.drop (s.length - 4)) ∧ e = 10 ∧ o = zD) ∨
  (∃ from_, 4 ≤ s.length ∧ from_ + num (s.drop (s.length - 4)) = s.length - 4 ∧ DecH (s.take from_) (openS ((s.drop from_).take (s.length - 4 - from_))) o e)
theorem DecD.few {s : Bs} {o : Dob} {e : Int} (h : DecD s o e) (he : e ≠ 0) : o = zD := by
  rcases h with ⟨_, _, h⟩ | ⟨_, _, _, h⟩ | ⟨fr, h1, h2, ⟨_, _, h⟩ | ⟨_, _, _, h⟩ | ⟨r, _, _, ⟨_, _, h⟩ | ⟨z, _, _, _, ⟨_, _, h⟩ | ⟨_, h, _⟩⟩⟩⟩
  · exact h
  · exact h
  · exact h
  · exact h
  · exact h
  · exact h
  · exact absurd h he
end Go.Lx

/- Package span's walks, part a. -/
namespace Go.Lx
open Go.Proofs
set_option linter.unusedVariables false
set_option linter.unusedSimpArgs false

def encS1 (x : Sp) : List Value := [.int .i64 x.1, .int .i64 x.2]
def encS (xs : List Sp) : List Value := xs.flatMap encS1
theorem Rd.sp {w : World} {a : Option Addr} {n c m : Nat} {xs : List Sp} {x : Sp} (h : Rd w 2 a n c (encS xs)) (hx : xs[m]? = some x) : ∀ j u, [Value.int .i64 x.1, .int .i64 x.2][j]? = some u → w.cell? ((el a (m * 2)).add j) = some u := Rd.elem (f := encS1) h (fun _ => rfl) hx
theorem Rd.bd {w : World} {sz : Nat} {a : Option Addr} {n c : Nat} {cs : List Value} (h : Rd w sz a n c cs) : n ≤ 9223372036854775807 := by
  have h1 := h.le
  have h2 := h.mx
  unfold maxLen at h2
  omega

theorem End_spec (a n : Int) (w : World) : Spec Tryz.prog 140 #[.agg #[.int .i64 a, .int .i64 n]] w (fun _ => False) (fun v A => v = .int .i64 (IntKind.i64.wrap (a + n)) ∧ A = []) := by
  refine Spec.enter (args := [.agg #[.int .i64 a, .int .i64 n]]) (A := []) Tryz.func140 rfl Tryz.ntmps140 rfl (fun _ h => h) ?_
  ((refine X.st (by kernel_rfl) ?_<;>repeat' first|refine Z.p rfl ?_|refine XL.boxN rfl rfl rfl rfl (by intro g; infer_instance) (fun g => ?_)|refine XL.box1 rfl rfl rfl rfl rfl (by intro g; infer_instance) (fun g => ?_)|refine XL.nn ?_)<;>(refine X.st (by kernel_rfl) ?_<;>repeat' first|refine Z.p rfl ?_|refine Z.fa rfl rfl rfl ?_|refine Z.l1 rfl rfl rfl ?_|refine Z.lN rfl rfl rfl ?_|refine Z.lP rfl rfl rfl ?_|refine Z.g rfl (by omega) ?_|refine Z.w rfl ?_|refine XL.nn ?_)<;>(apply X.r1 Tryz.results140 (RV.tmp rfl);(focus (exact ⟨rfl, rfl⟩));exact fun _=>Conf.takes))

theorem May_spec (a n : Int) (w : World) : Spec Tryz.prog 206 #[.agg #[.int .i64 a, .int .i64 n]] w (fun _ => False) (fun v A => v = .int .i64 (if mayS (a, n) then 0 else 1) ∧ A = []) := by
  refine Spec.enter (args := [.agg #[.int .i64 a, .int .i64 n]]) (A := []) Tryz.func206 rfl Tryz.ntmps206 rfl (fun _ h => h) ?_
  ((refine X.st (by kernel_rfl) ?_<;>repeat' first|refine Z.p rfl ?_|refine XL.boxN rfl rfl rfl rfl (by intro g; infer_instance) (fun g => ?_)|refine XL.box1 rfl rfl rfl rfl rfl (by intro g; infer_instance) (fun g => ?_)|refine XL.nn ?_)<;>refine X.seq ?_<;>((refine X.st (by kernel_rfl) ?_<;>repeat' first|refine Z.p rfl ?_|refine Z.fa rfl rfl rfl ?_|refine Z.l1 rfl rfl rfl ?_|refine Z.lN rfl rfl rfl ?_|refine Z.lP rfl rfl rfl ?_|refine Z.ct rfl (by omega) ?_|refine Z.cf rfl (by omega) ?_|refine Z.cs rfl (fun _=>?_) (fun _=>?_)|refine Z.pk rfl rfl rfl rfl ?_|refine Z.g rfl (by omega) ?_|refine Z.w rfl ?_|refine XL.nn ?_)<;>(refine X.cond rfl ?_ ?_;rotate_left;(focus (intro hc;first|exact no_ hc rfl|(refine X.skip ?_)));rotate_right;(focus (intro hc;first|exact no_ hc rfl|((refine X.st (by kernel_rfl) ?_<;>repeat' first|refine Z.p rfl ?_|refine XL.nn ?_)<;>(apply X.r1 Tryz.results206 (RV.tmp rfl);(focus (refine ⟨?_, rfl⟩; first | (rw [if_pos (by dsimp only [mayS]; omega)]) | (rw [if_neg (by dsimp only [mayS]; omega)])));exact fun _=>Conf.takes))))))<;>(first|refine Ex.then ?_|refine N.next ?_<;>((refine X.st (by kernel_rfl) ?_<;>repeat' first|refine Z.p rfl ?_|refine XL.nn ?_)<;>(apply X.r1 Tryz.results206 (RV.tmp rfl);(focus (refine ⟨?_, rfl⟩; first | (rw [if_pos (by dsimp only [mayS]; omega)]) | (rw [if_neg (by dsimp only [mayS]; omega)])));exact fun _=>Conf.takes))))

end Go.Lx
