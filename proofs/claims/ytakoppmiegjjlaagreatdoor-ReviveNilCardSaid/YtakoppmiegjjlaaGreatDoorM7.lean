/- Texts Sy Xv Xw, merged: a claim has at most 60 files. -/
import Derived.Test.YtakoppmiegjjlaaGreatDoorM6
import Derived.Test.YtakoppmiegjjlaaGreatDoorProg
import Derived.Test.YtakoppmiegjjlaaGreatDoorM3
import Derived.Shelf.SlMaps.Clone
import Derived.Lib.Builder
import Derived.Lib.UnsafeStr
/- The shelf's contracts, laid at this seat's program. -/
namespace Go.Proofs
open Go.Shelf
def Tryz.keysT_ren : Go.Shelf.Ren := ⟨fun | 7 => 63 | 10 => 126 | n => n, fun | 23 => 107 | 26 => 9 | 3 => 9 | 28 => 146 | 0 => 0 | 27 => 145 | 33 => 64 | 4 => 4 | n => n, fun | n => n⟩
theorem Tryz.keysT : Go.Proofs.SlLaysZ.n7 Tryz.prog Tryz.keysT_ren := {
  mixed := by kernel_rfl
  f7 := ⟨Tryz.f63.name, by decide, Tryz.func63.trans (congrArg some (by kernel_rfl))⟩
  f10 := ⟨Tryz.f126.name, by decide, Tryz.func126.trans (congrArg some (by kernel_rfl))⟩
  t0 := Tryz.underlying0
  a0 := Tryz.isAgg0
  z0 := Tryz.sizeOf0
  v0 := Tryz.zeroValue0
  t4 := Tryz.underlying4
  a4 := Tryz.isAgg4
  z4 := Tryz.sizeOf4
  v4 := Tryz.zeroValue4
  t23 := Tryz.underlying107
  a23 := Tryz.isAgg107
  z23 := Tryz.sizeOf107
  v23 := Tryz.zeroValue107
  t26 := Tryz.underlying9
  a26 := Tryz.isAgg9
  z26 := Tryz.sizeOf9
  v26 := Tryz.zeroValue9
  t27 := Tryz.underlying145
  a27 := Tryz.isAgg145
  z27 := Tryz.sizeOf145
  v27 := Tryz.zeroValue145
  t28 := Tryz.underlying146
  a28 := Tryz.isAgg146
  z28 := Tryz.sizeOf146
  v28 := Tryz.zeroValue146
  t33 := Tryz.underlying64
  a33 := Tryz.isAgg64
  z33 := Tryz.sizeOf64
  v33 := Tryz.zeroValue64 }
def Tryz.sortedT_ren : Go.Shelf.Ren := ⟨fun | 6 => 62 | 8 => 124 | 9 => 125 | 11 => 198 | 13 => 200 | 12 => 199 | 23 => 251 | 24 => 252 | 14 => 242 | 15 => 243 | 16 => 244 | 17 => 245 | 18 => 246 | 19 => 247 | 20 => 248 | 21 => 249 | 22 => 250 | 25 => 294 | 26 => 295 | 27 => 296 | 28 => 297 | 29 => 298 | 30 => 159 | 31 => 325 | n => n, fun | 26 => 9 | 28 => 146 | 24 => 76 | 0 => 0 | 3 => 3 | 37 => 284 | 48 => 186 | 50 => 27 | 4 => 4 | 40 => 326 | 39 => 325 | 45 => 306 | 5 => 5 | 9 => 9 | 51 => 367 | 55 => 370 | 57 => 388 | 58 => 389 | 33 => 64 | n => n, fun | n => n⟩
theorem Tryz.sortedT : Go.Proofs.SlLaysZ.n6 Tryz.prog Tryz.sortedT_ren := {
  mixed := by kernel_rfl
  f6 := ⟨Tryz.f62.name, by decide, Tryz.func62.trans (congrArg some (by kernel_rfl))⟩
  f8 := ⟨Tryz.f124.name, by decide, Tryz.func124.trans (congrArg some (by kernel_rfl))⟩
  f11 := ⟨Tryz.f198.name, by decide, Tryz.func198.trans (congrArg some (by kernel_rfl))⟩
  t0 := Tryz.underlying0
  a0 := Tryz.isAgg0
  z0 := Tryz.sizeOf0
  v0 := Tryz.zeroValue0
  t24 := Tryz.underlying76
  a24 := Tryz.isAgg76
  z24 := Tryz.sizeOf76
  v24 := Tryz.zeroValue76
  t26 := Tryz.underlying9
  a26 := Tryz.isAgg9
  z26 := Tryz.sizeOf9
  v26 := Tryz.zeroValue9
  t28 := Tryz.underlying146
  a28 := Tryz.isAgg146
  z28 := Tryz.sizeOf146
  v28 := Tryz.zeroValue146
  i26 := by kernel_rfl }
def Tryz.sortT_ren : Go.Shelf.Ren := ⟨fun | 6 => 125 | 8 => 200 | 9 => 199 | 19 => 251 | 20 => 252 | 21 => 242 | 22 => 243 | 23 => 244 | 24 => 245 | 25 => 246 | 26 => 247 | 27 => 248 | 28 => 249 | 29 => 250 | 36 => 294 | 31 => 295 | 32 => 296 | 37 => 297 | 38 => 298 | 39 => 159 | 41 => 325 | n => n, fun | 27 => 76 | 29 => 9 | 3 => 3 | 32 => 284 | 26 => 76 | 0 => 0 | 44 => 186 | 46 => 27 | 4 => 4 | 36 => 326 | 35 => 325 | 41 => 306 | 5 => 5 | 9 => 9 | 53 => 367 | 57 => 370 | 63 => 388 | 64 => 389 | n => n, fun | n => n⟩
theorem Tryz.sortT : Go.Proofs.SlLaysM.n6 Tryz.prog Tryz.sortT_ren := {
  mixed := by kernel_rfl
  f6 := ⟨Tryz.f125.name, by decide, Tryz.func125.trans (congrArg some (by kernel_rfl))⟩
  f8 := Tryz.func200.trans (congrArg some (by kernel_rfl))
  f9 := ⟨Tryz.f199.name, by decide, Tryz.func199.trans (congrArg some (by kernel_rfl))⟩
  f19 := Tryz.func251.trans (congrArg some (by kernel_rfl))
  f20 := Tryz.func252.trans (congrArg some (by kernel_rfl))
  f21 := ⟨Tryz.f242.name, by decide, Tryz.func242.trans (congrArg some (by kernel_rfl))⟩
  f22 := ⟨Tryz.f243.name, by decide, Tryz.func243.trans (congrArg some (by kernel_rfl))⟩
  f23 := ⟨Tryz.f244.name, by decide, Tryz.func244.trans (congrArg some (by kernel_rfl))⟩
  f24 := ⟨Tryz.f245.name, by decide, Tryz.func245.trans (congrArg some (by kernel_rfl))⟩
  f25 := ⟨Tryz.f246.name, by decide, Tryz.func246.trans (congrArg some (by kernel_rfl))⟩
  f26 := ⟨Tryz.f247.name, by decide, Tryz.func247.trans (congrArg some (by kernel_rfl))⟩
  f27 := ⟨Tryz.f248.name, by decide, Tryz.func248.trans (congrArg some (by kernel_rfl))⟩
  f28 := ⟨Tryz.f249.name, by decide, Tryz.func249.trans (congrArg some (by kernel_rfl))⟩
  f29 := ⟨Tryz.f250.name, by decide, Tryz.func250.trans (congrArg some (by kernel_rfl))⟩
  f31 := Tryz.func295.trans (congrArg some (by kernel_rfl))
  f32 := Tryz.func296.trans (congrArg some (by kernel_rfl))
  f36 := ⟨Tryz.f294.name, by decide, Tryz.func294.trans (congrArg some (by kernel_rfl))⟩
  f37 := ⟨Tryz.f297.name, by decide, Tryz.func297.trans (congrArg some (by kernel_rfl))⟩
  f38 := ⟨Tryz.f298.name, by decide, Tryz.func298.trans (congrArg some (by kernel_rfl))⟩
  f39 := ⟨Tryz.f159.name, by decide, Tryz.func159.trans (congrArg some (by kernel_rfl))⟩
  f41 := ⟨Tryz.f325.name, by decide, Tryz.func325.trans (congrArg some (by kernel_rfl))⟩
  t0 := Tryz.underlying0
  a0 := Tryz.isAgg0
  z0 := Tryz.sizeOf0
  v0 := Tryz.zeroValue0
  t3 := Tryz.underlying3
  a3 := Tryz.isAgg3
  z3 := Tryz.sizeOf3
  v3 := Tryz.zeroValue3
  t4 := Tryz.underlying4
  a4 := Tryz.isAgg4
  z4 := Tryz.sizeOf4
  v4 := Tryz.zeroValue4
  t5 := Tryz.underlying5
  a5 := Tryz.isAgg5
  z5 := Tryz.sizeOf5
  v5 := Tryz.zeroValue5
  t9 := Tryz.underlying9
  a9 := Tryz.isAgg9
  z9 := Tryz.sizeOf9
  v9 := Tryz.zeroValue9
  t26 := Tryz.underlying76
  a26 := Tryz.isAgg76
  z26 := Tryz.sizeOf76
  v26 := Tryz.zeroValue76
  t27 := Tryz.underlying76
  a27 := Tryz.isAgg76
  z27 := Tryz.sizeOf76
  v27 := Tryz.zeroValue76
  t29 := Tryz.underlying9
  a29 := Tryz.isAgg9
  z29 := Tryz.sizeOf9
  v29 := Tryz.zeroValue9
  t32 := Tryz.underlying284
  a32 := Tryz.isAgg284
  z32 := Tryz.sizeOf284
  v32 := Tryz.zeroValue284
  t35 := Tryz.underlying325
  a35 := Tryz.isAgg325
  z35 := Tryz.sizeOf325
  v35 := Tryz.zeroValue325
  t36 := Tryz.underlying326
  a36 := Tryz.isAgg326
  z36 := Tryz.sizeOf326
  v36 := Tryz.zeroValue326
  t41 := Tryz.underlying306
  a41 := Tryz.isAgg306
  z41 := Tryz.sizeOf306
  v41 := Tryz.zeroValue306
  t44 := Tryz.underlying186
  a44 := Tryz.isAgg186
  z44 := Tryz.sizeOf186
  v44 := Tryz.zeroValue186
  t46 := Tryz.underlying27
  a46 := Tryz.isAgg27
  z46 := Tryz.sizeOf27
  v46 := Tryz.zeroValue27
  t53 := Tryz.underlying367
  a53 := Tryz.isAgg367
  z53 := Tryz.sizeOf367
  v53 := Tryz.zeroValue367
  t57 := Tryz.underlying370
  a57 := Tryz.isAgg370
  z57 := Tryz.sizeOf370
  v57 := Tryz.zeroValue370
  t63 := Tryz.underlying388
  a63 := Tryz.isAgg388
  z63 := Tryz.sizeOf388
  v63 := Tryz.zeroValue388
  t64 := Tryz.underlying389
  a64 := Tryz.isAgg389
  z64 := Tryz.sizeOf389
  v64 := Tryz.zeroValue389 }
def Tryz.sortI_ren : Go.Shelf.Ren := ⟨fun | 5 => 166 | 8 => 200 | 7 => 227 | 19 => 251 | 20 => 252 | 10 => 268 | 11 => 269 | 12 => 270 | 13 => 271 | 14 => 272 | 15 => 273 | 16 => 274 | 17 => 275 | 18 => 276 | 30 => 310 | 31 => 295 | 32 => 296 | 33 => 311 | 34 => 312 | 35 => 313 | 40 => 327 | n => n, fun | 23 => 32 | 25 => 3 | 3 => 3 | 32 => 284 | 22 => 32 | 0 => 0 | 44 => 186 | 46 => 27 | 4 => 4 | 36 => 326 | 35 => 325 | 41 => 306 | 5 => 5 | 9 => 9 | 53 => 367 | 57 => 370 | 63 => 388 | 64 => 389 | n => n, fun | n => n⟩
theorem Tryz.sortI : Go.Proofs.SlLaysM.n5 Tryz.prog Tryz.sortI_ren := {
  mixed := by kernel_rfl
  f5 := ⟨Tryz.f166.name, by decide, Tryz.func166.trans (congrArg some (by kernel_rfl))⟩
  f7 := ⟨Tryz.f227.name, by decide, Tryz.func227.trans (congrArg some (by kernel_rfl))⟩
  f8 := Tryz.func200.trans (congrArg some (by kernel_rfl))
  f10 := ⟨Tryz.f268.name, by decide, Tryz.func268.trans (congrArg some (by kernel_rfl))⟩
  f11 := ⟨Tryz.f269.name, by decide, Tryz.func269.trans (congrArg some (by kernel_rfl))⟩
  f12 := ⟨Tryz.f270.name, by decide, Tryz.func270.trans (congrArg some (by kernel_rfl))⟩
  f13 := ⟨Tryz.f271.name, by decide, Tryz.func271.trans (congrArg some (by kernel_rfl))⟩
  f14 := ⟨Tryz.f272.name, by decide, Tryz.func272.trans (congrArg some (by kernel_rfl))⟩
  f15 := ⟨Tryz.f273.name, by decide, Tryz.func273.trans (congrArg some (by kernel_rfl))⟩
  f16 := ⟨Tryz.f274.name, by decide, Tryz.func274.trans (congrArg some (by kernel_rfl))⟩
  f17 := ⟨Tryz.f275.name, by decide, Tryz.func275.trans (congrArg some (by kernel_rfl))⟩
  f18 := ⟨Tryz.f276.name, by decide, Tryz.func276.trans (congrArg some (by kernel_rfl))⟩
  f19 := Tryz.func251.trans (congrArg some (by kernel_rfl))
  f20 := Tryz.func252.trans (congrArg some (by kernel_rfl))
  f30 := ⟨Tryz.f310.name, by decide, Tryz.func310.trans (congrArg some (by kernel_rfl))⟩
  f31 := Tryz.func295.trans (congrArg some (by kernel_rfl))
  f32 := Tryz.func296.trans (congrArg some (by kernel_rfl))
  f33 := ⟨Tryz.f311.name, by decide, Tryz.func311.trans (congrArg some (by kernel_rfl))⟩
  f34 := ⟨Tryz.f312.name, by decide, Tryz.func312.trans (congrArg some (by kernel_rfl))⟩
  f35 := ⟨Tryz.f313.name, by decide, Tryz.func313.trans (congrArg some (by kernel_rfl))⟩
  f40 := ⟨Tryz.f327.name, by decide, Tryz.func327.trans (congrArg some (by kernel_rfl))⟩
  t0 := Tryz.underlying0
  a0 := Tryz.isAgg0
  z0 := Tryz.sizeOf0
  v0 := Tryz.zeroValue0
  t3 := Tryz.underlying3
  a3 := Tryz.isAgg3
  z3 := Tryz.sizeOf3
  v3 := Tryz.zeroValue3
  t4 := Tryz.underlying4
  a4 := Tryz.isAgg4
  z4 := Tryz.sizeOf4
  v4 := Tryz.zeroValue4
  t5 := Tryz.underlying5
  a5 := Tryz.isAgg5
  z5 := Tryz.sizeOf5
  v5 := Tryz.zeroValue5
  t9 := Tryz.underlying9
  a9 := Tryz.isAgg9
  z9 := Tryz.sizeOf9
  v9 := Tryz.zeroValue9
  t22 := Tryz.underlying32
  a22 := Tryz.isAgg32
  z22 := Tryz.sizeOf32
  v22 := Tryz.zeroValue32
  t23 := Tryz.underlying32
  a23 := Tryz.isAgg32
  z23 := Tryz.sizeOf32
  v23 := Tryz.zeroValue32
  t25 := Tryz.underlying3
  a25 := Tryz.isAgg3
  z25 := Tryz.sizeOf3
  v25 := Tryz.zeroValue3
  t32 := Tryz.underlying284
  a32 := Tryz.isAgg284
  z32 := Tryz.sizeOf284
  v32 := Tryz.zeroValue284
  t35 := Tryz.underlying325
  a35 := Tryz.isAgg325
  z35 := Tryz.sizeOf325
  v35 := Tryz.zeroValue325
  t36 := Tryz.underlying326
  a36 := Tryz.isAgg326
  z36 := Tryz.sizeOf326
  v36 := Tryz.zeroValue326
  t41 := Tryz.underlying306
  a41 := Tryz.isAgg306
  z41 := Tryz.sizeOf306
  v41 := Tryz.zeroValue306
  t44 := Tryz.underlying186
  a44 := Tryz.isAgg186
  z44 := Tryz.sizeOf186
  v44 := Tryz.zeroValue186
  t46 := Tryz.underlying27
  a46 := Tryz.isAgg27
  z46 := Tryz.sizeOf27
  v46 := Tryz.zeroValue27
  t53 := Tryz.underlying367
  a53 := Tryz.isAgg367
  z53 := Tryz.sizeOf367
  v53 := Tryz.zeroValue367
  t57 := Tryz.underlying370
  a57 := Tryz.isAgg370
  z57 := Tryz.sizeOf370
  v57 := Tryz.zeroValue370
  t63 := Tryz.underlying388
  a63 := Tryz.isAgg388
  z63 := Tryz.sizeOf388
  v63 := Tryz.zeroValue388
  t64 := Tryz.underlying389
  a64 := Tryz.isAgg389
  z64 := Tryz.sizeOf389
  v64 := Tryz.zeroValue389 }
end Go.Proofs

/- Own layer, part v: more of maps (nil, clear, an entry that is written behind its stamp), functions that the model stands in for, strings.Builder's pointers and its String, arrays that are values. Plain theorems. -/
namespace Go.Lx
open Go.Proofs
set_option linter.unusedVariables false
set_option linter.unusedSimpArgs false

/-- A map, of which the entry of the key k has the stamp st. -/
def mapE {β : Type} (f : β → Value) (g : Nat) (l : List (Int × β)) (k : Int) (st : Int) : Assn where
  holds w F := (∃ es clock, w.heap[g]? = some (.map es clock) ∧ es.toList.map kvE = l.map (kvM f) ∧ MapKept.Stamped es clock ∧ ∃ j, es.findIdx? (fun e => (e.born : Int) == st) = some j ∧ ∀ v, (es.toList.modify j (fun e => { e with val := f v })).map kvE = (setM l k v).map (kvM f)) ∧ ∀ b, F b ↔ b = g
  loc := fun ⟨⟨es, c, h, h2⟩, hF⟩ hk => ⟨⟨es, c, (hk g ((hF g).2 rfl)).trans h, h2⟩, hF⟩
  dom := fun ⟨⟨es, c, h, _⟩, hF⟩ hb => by rw [(hF _).1 hb]; exact (Array.getElem?_eq_some_iff.1 h).1
class MapEAt (A : List Assn) (g : Nat) (β : outParam Type) (f : outParam (β → Value)) (l : outParam (List (Int × β))) (k st : outParam Int) (i : outParam Nat) : Prop where at_ : A[i]? = some (mapE f g l k st)
instance {β : Type} {f : β → Value} {g : Nat} {l : List (Int × β)} {k st : Int} {A : List Assn} : MapEAt (mapE f g l k st :: A) g β f l k st 0 := ⟨rfl⟩
instance (priority := low) {β : Type} {f : β → Value} {g i : Nat} {l : List (Int × β)} {k st : Int} {A : List Assn} {q : Assn} [h : MapEAt A g β f l k st i] : MapEAt (q :: A) g β f l k st (i + 1) := ⟨by simpa using h.at_⟩

section
variable {β : Type} {C : Cx} {A A' As : List Assn} {Q : Exit → Act → World → Prop} {S : World → Prop} {env : Env} {ops : Array Oper} {r : Sd} {i d g j : Nat} {v : Value} {cl : Cl} {x y z : Operand} {t u kt e : TypeId} {op : Op} {f : β → Value} {l : List (Int × β)}
variable {ty : TypeId} {pos : String} {af : Array Edge} {gd : Option (Nat × Bool)}

/-! ### functions that the model stands in for -/
class ExtF (P : Program) (f : FuncId) (e : outParam (Array Value → Sem Value)) : Prop where
  run : ∀ args w, (callFunc f args).run P w = ((e args).run P w).andThen fun v w' => .ok (.value v) w'
theorem ExtF.mk' {P : Program} {f : FuncId} {fn : Func} {e : Array Value → Sem Value} (hf : P.funcs[f]? = some fn) (hname : (fn.name == "runtime.NumGoroutine") = false)
    (hb : fn.body.isNone = true) (hn : Extern.findNext fn = none) (he : Extern.find fn = some e) : ExtF P f e := ⟨run_callFunc_extern hf hname hb hn he⟩

/-- What a map's block holds. -/
def MapOf (f : β → Value) (w : World) (g : Nat) (l : List (Int × β)) : Prop := ∃ es clock, w.heap[g]? = some (.map es clock) ∧ es.toList.map kvE = l.map (kvM f) ∧ MapKept.Stamped es clock
theorem MapOf.conf {w : World} (h : MapOf f C.w0 g l) (hH : ¬ C.H g) (hw : Conf C A w) : MapOf f w g l := by
  obtain ⟨es, clock, h1, h2⟩ := h
  exact ⟨es, clock, (hw.keep g (Array.getElem?_eq_some_iff.1 h1).1 hH).trans h1, h2⟩
theorem MapOf.conf0 {P : Program} {m : Kd} {w0 w : World} (h : MapOf f w0 g l) (hw : Conf ⟨P, m, w0, fun _ => False⟩ A w) : MapOf f w g l := MapOf.conf (C := ⟨P, m, w0, fun _ => False⟩) h (fun h => h) hw
namespace Z
class UnsT (P : Program) (t : TypeId) : Prop where und : P.underlying t = some .unsafePointer
class InfT (P : Program) (t : TypeId) (n : outParam Nat) : Prop where info : ∃ j, P.info? t = some j ∧ j.size = n
theorem InfT.mk' {P : Program} {t n : Nat} (h : ((P.info? t).map (·.size)) = some n) : InfT P t n := ⟨by
  cases hi : P.info? t with
  | none => simp [hi] at h
  | some i => simp [hi] at h; exact ⟨i, rfl, h⟩⟩
theorem seq [Nc cl] {l m : Bs} (hn : nx C.n.n ops env i = some (d, .binOp .eql t x y u)) (hx : ev env x = some (.string ⟨l.toArray⟩)) (hy : ev env y = some (.string ⟨m.toArray⟩)) (k : l = m → XL C ops Q S r ((d, .bool true) :: env) A) (k' : l ≠ m → XL C ops Q S r ((d, .bool false) :: env) A) : XL C ops Q S (.op cl i r) env A := by
  by_cases h : l = m
  · exact XL.dt hn (fun ty pos af gd => by have := D.strEq (C := C) (W := fun _ => True) (env := env) (ty := ty) (pos := pos) (af := af) (gd := gd) (ds := some d) (t := t) (u := u) hx hy; rwa [decide_eq_true h] at this) (k h)
  · exact XL.dt hn (fun ty pos af gd => by have := D.strEq (C := C) (W := fun _ => True) (env := env) (ty := ty) (pos := pos) (af := af) (gd := gd) (ds := some d) (t := t) (u := u) hx hy; rwa [decide_eq_false h] at this) (k' h)
theorem nt [Nc cl] {b : Bool} (hn : nx C.n.n ops env i = some (d, .unOp .not t x)) (hx : ev env x = some (.bool b)) (k : XL C ops Q S r ((d, .bool (!b)) :: env) A) : XL C ops Q S (.op cl i r) env A := XL.dt hn (fun ty pos af gd => D.not hx) k
end Z
end
end Go.Lx

/- Own layer, part w: maps whose keys are texts (Xq's, turned). Plain theorems. -/
namespace Go.Lx
set_option linter.unusedVariables false
set_option linter.unusedSimpArgs false
/-- A text as a key. -/
def tk (s : Bs) : Value := .string ⟨s.toArray⟩
section
variable {β : Type}
def kvT (f : β → Value) (p : Bs × β) : Value × Value := (tk p.1, f p.2)
def mapT (f : β → Value) (g : Nat) (l : List (Bs × β)) : Assn where
  holds w F := (∃ es clock, w.heap[g]? = some (.map es clock) ∧ es.toList.map kvE = l.map (kvT f) ∧ MapKept.Stamped es clock) ∧ ∀ b, F b ↔ b = g
  loc := fun ⟨⟨es, c, h, h2⟩, hF⟩ hk => ⟨⟨es, c, (hk g ((hF g).2 rfl)).trans h, h2⟩, hF⟩
  dom := fun ⟨⟨es, c, h, _⟩, hF⟩ hb => by rw [(hF _).1 hb]; exact (Array.getElem?_eq_some_iff.1 h).1
class MapTAt (A : List Assn) (g : Nat) (β : outParam Type) (f : outParam (β → Value)) (l : outParam (List (Bs × β))) (i : outParam Nat) : Prop where at_ : A[i]? = some (mapT f g l)
instance {f : β → Value} {g : Nat} {l : List (Bs × β)} {A : List Assn} : MapTAt (mapT f g l :: A) g β f l 0 := ⟨rfl⟩
instance (priority := low) {f : β → Value} {g i : Nat} {l : List (Bs × β)} {A : List Assn} {q : Assn} [h : MapTAt A g β f l i] : MapTAt (q :: A) g β f l (i + 1) := ⟨by simpa using h.at_⟩

section
variable {C : Cx} {A A' : List Assn} {w : World} {g i : Nat} {f : β → Value} {l : List (Bs × β)}
theorem Conf.mapTAt [h : MapTAt A g β f l i] (hc : Conf C A w) : ∃ es clock, w.heap[g]? = some (.map es clock) ∧ es.toList.map kvE = l.map (kvT f) ∧ MapKept.Stamped es clock := by
  obtain ⟨F, hF, _⟩ := hc.get h.at_
  exact hF.1
end
end

section
variable {β : Type} {C : Cx} {A A' As : List Assn} {Q : Exit → Act → World → Prop} {S : World → Prop} {env : Env} {ops : Array Oper} {r : Sd} {i d g j : Nat} {v : Value} {cl : Cl} {x y z : Operand} {t u kt e : TypeId} {op : Op} {f : β → Value} {l : List (Bs × β)}
variable {ty : TypeId} {pos : String} {af : Array Edge} {gd : Option (Nat × Bool)}

/-- A new map. -/
theorem XL.makeMapT (f : β → Value) (ho : ops[i]? = some ⟨some d, .makeMap t none, ty, pos, af, gd⟩) (hg : gok ops env ⟨some d, .makeMap t none, ty, pos, af, gd⟩ = some true) (hdn : Nat.blt d C.n.n = true) (haf : ∀ g, After cl S C (mapT f g [] :: A))
    (k : ∀ g, XL C ops Q S r ((d, .map (some g)) :: env) (mapT f g [] :: A)) : XL C ops Q S (.op cl i r) env A := by
  refine XL.chg ho hg rfl hdn fun a w he hc => ?_
  refine ⟨_, _, w.alloc (.map #[] 0), ?_, hc.new (q := mapT f w.heap.size []) rfl rfl rfl (by simp) (Nat.le_refl _) (fun b hb => RowKit.Below.heap_alloc w _ b hb) ⟨fun b => b = w.heap.size, ⟨⟨#[], 0, heap_alloc_new w _, rfl, MapKept.stamped_empty 0⟩, fun b => Iff.rfl⟩, fun b hb => by rw [hb]; exact Nat.le_refl _⟩, haf _, k _⟩
  have hm : (Instr.makeMap t none).run C.P w = .ok (.map (some w.heap.size)) (w.alloc (.map #[] 0)) := rfl
  simp [execOp, hm]

namespace Z
end Z
end
end Go.Lx
