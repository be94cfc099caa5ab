import Derived.Test.YtakoppmiegjjlaaGreatDoorF16
import Derived.Test.YtakoppmiegjjlaaGreatDoorF4
import Derived.Test.YtakoppmiegjjlaaGreatDoorF18
import Derived.Test.YtakoppmiegjjlaaGreatDoorF1
import Derived.Shelf.SlicesG.Cmp
import Derived.Shelf.SlSortCmp.SmallK
set_option linter.unusedVariables false
set_option linter.unusedSimpArgs false
set_option maxRecDepth 20000
namespace Go.Lx
theorem snoc_of{α:Type}(o:List α)(h:0<o.length):∃ o' y,o=o'++[y]:=by
  rcases List.eq_nil_or_concat o with h1|⟨o',y,h1⟩
  · subst h1;simp at h
  · exact⟨o',y,by simpa using h1⟩
structure JoI (l:List Sp) (i:Nat) (o:List Sp):Prop where
  hi:i≤l.length
  len:o.length≤i
  set:SetOK o o.length
  mem:∀ t,inS o t↔inTo l i t
  lo:∀ x∈o,∀ j y,i≤j→l[j]?=some y→x.1≤y.1
variable {l o:List Sp} {i:Nat} {s y:Sp}
theorem JoI.start:JoI l 0 []:=⟨Nat.zero_le _,Nat.le_refl _,SetOK.nil _,fun t=>⟨fun h=>absurd h (inS_nil t),fun⟨j,_,hj,_⟩=>absurd hj (Nat.not_lt_zero j)⟩,fun _ h=>(by cases h)⟩
theorem SetOK.lastEnds{o:List Sp}{y:Sp}{b:Int}(h:SetOK o o.length)(hy:o[o.length-1]?=some y)(hb:y.1+y.2<b):∀ x∈o,x.1+x.2<b:=by
  intro x hx
  obtain⟨j,hj⟩:=List.mem_iff_getElem?.1 hx
  have hjl:=Qv hj
  by_cases e:j=o.length-1
  · subst e;rw [hj] at hy;cases hy;exact hb
  · have h1:=h.lt (o.length-1) j x y (by omega) (by omega) hj hy
    have h2:=h.may (by omega:o.length-1<o.length) hy
    unfold mayS at h2
    omega
theorem JoI.push(h:JoI l i o)(hsort:∀ (i j:Nat) (x y:Sp),i<j→l[i]?=some x→l[j]?=some y→ ¬y.1<x.1)(hm:∀ x∈l,mayS x)(hs:l[i]?=some s)(hend:∀ y,o[o.length-1]?=some y→y.1+y.2<s.1):JoI l (i+1) (o++[s]):=by
  refine⟨Qv hs,by have:=h.len;simp;omega,h.set.snoc ?_ (hm s (List.mem_of_getElem? hs)),fun t=>?_,fun x hx j y hj hy=>?_⟩
  · intro x hx
    have hl:0<o.length:=List.length_pos_of_mem hx
    obtain⟨z,hz⟩:=Qt (l:=o) (k:=o.length-1) (by omega)
    exact h.set.lastEnds hz (hend z hz) x hx
  · rw [inS_append,h.mem t,inS_one,inTo_succ hs]
  · rcases List.mem_append.1 hx with hx|hx
    · exact h.lo x hx j y (by omega) hy
    · simp at hx
      subst hx
      have:=hsort i j x y (by omega) hs hy
      omega
theorem JoI.merge(h:JoI l i o)(hsort:∀ (i j:Nat) (x y:Sp),i<j→l[i]?=some x→l[j]?=some y→ ¬y.1<x.1)(hm:∀ x∈l,mayS x)(hs:l[i]?=some s)(hy:o[o.length-1]?=some y)(hend:s.1≤y.1+y.2):JoI l (i+1) (o.set (o.length-1) (y.1,max (y.1+y.2) (s.1+s.2)-y.1)):=by
  have hl:=Qv hy
  obtain⟨o',z,rfl⟩:=snoc_of o (by omega)
  have e1:(o'++[z]).length-1=o'.length:=by simp
  rw [e1] at hy ⊢
  simp at hy
  subst hy
  have e2:(o'++[z]).set o'.length (z.1,max (z.1+z.2) (s.1+s.2)-z.1)=o'++[(z.1,max (z.1+z.2) (s.1+s.2)-z.1)]:=by simp
  rw [e2]
  have hsm:=hm s (List.mem_of_getElem? hs)
  have hzm:=h.set.may (k:=o'.length) (by simp) (x:=z) (by simp)
  have hzs:=h.lo z (by simp) i s (Nat.le_refl _) hs
  have hset:SetOK o' o'.length:=by
    intro k x hk hx
    obtain⟨h1,h2⟩:=h.set k x (by simp;omega) (by rw [List.getElem?_append_left hk];exact hx)
    exact⟨h1,fun y h0 hy=>h2 y h0 (by rw [List.getElem?_append_left (by omega)];exact hy)⟩
  refine⟨Qv hs, ?_,hset.snoc ?_ ?_,fun t=>?_,fun x hx j y hj hy=>?_⟩
  · have:=h.len
    simp at this ⊢
    omega
  · intro x hx
    obtain⟨j,hj⟩:=List.mem_iff_getElem?.1 hx
    have hjl:=Qv hj
    exact h.set.lt o'.length j x z hjl (by simp) (by rw [List.getElem?_append_left hjl];exact hj) (by simp)
  · unfold mayS at *
    dsimp only
    omega
  · rw [inTo_succ hs,←h.mem t,inS_append,inS_append,inS_one,inS_one]
    dsimp only
    unfold mayS at *
    constructor
    · rintro(h1|h1)
      · exact .inl (.inl h1)
      · by_cases q:t<z.1+z.2
        · exact .inl (.inr (by omega))
        · exact .inr (by omega)
    · rintro((h1|h1)|h1)
      · exact .inl h1
      · exact .inr (by omega)
      · exact .inr (by omega)
  · rcases List.mem_append.1 hx with hx|hx
    · exact h.lo x (by simp [hx]) j y (by omega) hy
    · simp at hx
      subst hx
      exact h.lo z (by simp) j y (by omega) hy
end Go.Lx
namespace Go.Lx
open Go.Proofs
theorem encS_one(l:List Sp):∀ u∈encS l,u.oneCell'=true:=by
  intro u hu
  simp only [encS,List.mem_flatMap] at hu
  obtain⟨x,_,hx⟩:=hu
  simp [encS1] at hx
  rcases hx with rfl|rfl<;>rfl
theorem encS_set(o:List Sp)(k:Nat)(x:Sp)(h:k<o.length):putAt (encS o) (k*2) [.int .i64 x.1,.int .i64 x.2]=encS (o.set k x):=putAt_flat encS1 2 (fun _=>rfl) x o k h
def cmpI (a b:Int):Int:=if a<b then-1 else if a>b then 1 else 0
open Go.Shelf Go.Sort in
set_option maxHeartbeats 1000000 in
theorem joined1_run(x y:Sp)(W:World):Calls Tryz.prog 303 #[.agg #[.int .i64 x.1,.int .i64 x.2],.agg #[.int .i64 y.1,.int .i64 y.2]] W fun e w'=>e= .returned (.int .i64 (cmpI x.1 y.1))∧∃ q os',w'=Sort.grow (W.drewN q) os':=by
  have hcon:=fun W'=>AnyG.cmp_Compare_int Tryz.cmpS x.1 y.1 W'
  change∀ W',Calls Tryz.prog 304 _ _ _ at hcon
  rw [show cmpI x.1 y.1=Lib.compareInt x.1 y.1 from rfl]
  generalize Lib.compareInt x.1 y.1=r at hcon ⊢
  go_enter Tryz.func303,Tryz.ntmps303
  go_wp2_with (go_at_call 304;refine(hcon _).mono ?_;rintro e w' ⟨rfl,rfl⟩)
  go_ret
  exact⟨rfl,0,_,by rw [alloc_eq_grow,alloc_eq_grow,grow_grow];rfl⟩
theorem Len64_spec(w:World):Spec Tryz.prog 252 #[.int .u64 0] w (fun _=>False) (fun v A=>∃ r,v=Zj r∧A=[]):=by
  refine Zn Tryz.func252 Tryz.ntmps252 ?_
  ((refine Zt ?_<;>repeat' first|refine Z.p rfl ?_|refine Qf ?_)<;>refine X.seq ?_<;>((refine Zt ?_<;>repeat' first|refine Z.p rfl ?_|refine Z.ct rfl (by omega) ?_|refine Z.cf rfl (by omega) ?_|refine Z.cs rfl (fun _=>?_) (fun _=>?_)|refine Qf ?_)<;>(first|(refine Zu ?_;(refine Zt ?_<;>repeat' first|refine Z.p rfl ?_|refine Z.w rfl ?_|refine Qf ?_)<;>refine Zx ?_<;>repeat' first|refine Z.p rfl ?_|refine XL.nil ?_)|refine Zm ?_))<;>(first|refine Ex.then ?_|refine N.next ?_<;>(refine X.seq ?_<;>((refine Zt ?_<;>repeat' first|refine Z.p rfl ?_|refine Z.ct rfl (by omega) ?_|refine Z.cf rfl (by omega) ?_|refine Z.cs rfl (fun _=>?_) (fun _=>?_)|refine Qf ?_)<;>(first|(refine Zu ?_;(refine Zt ?_<;>repeat' first|refine Z.p rfl ?_|refine Z.w rfl ?_|refine Qf ?_)<;>refine Zx ?_<;>repeat' first|refine Z.p rfl ?_|refine Z.g rfl (by omega) ?_|refine Z.w rfl ?_|refine XL.nil ?_)|refine Zm ?_))<;>(first|refine Ex.then ?_|refine N.next ?_<;>(refine X.seq ?_<;>((refine Zt ?_<;>repeat' first|refine Z.p rfl ?_|refine Z.ct rfl (by omega) ?_|refine Z.cf rfl (by omega) ?_|refine Z.cs rfl (fun _=>?_) (fun _=>?_)|refine Qf ?_)<;>(first|(refine Zu ?_;(refine Zt ?_<;>repeat' first|refine Z.p rfl ?_|refine Z.w rfl ?_|refine Qf ?_)<;>refine Zx ?_<;>repeat' first|refine Z.p rfl ?_|refine Z.g rfl (by omega) ?_|refine Z.w rfl ?_|refine XL.nil ?_)|refine Zm ?_))<;>(first|refine Ex.then ?_|refine N.next ?_<;>((refine Zt ?_<;>repeat' first|refine Z.p rfl ?_|(refine Za 3 ?_;((apply Qm rfl rfl rfl rfl;exact D.indexStr 0 rfl rfl rfl (by decide))))|(refine Za 5 ?_;((apply Qm rfl rfl rfl rfl;exact D.int rfl rfl rfl)))|refine Z.cv rfl rfl ?_|refine Qf ?_)<;>(apply X.r1 Tryz.results252 (Qh rfl);(focus(exact⟨_,rfl,rfl⟩));exact Zd))))))))
theorem Len_spec(w:World):Spec Tryz.prog 200 #[.int .u64 0] w (fun _=>False) (fun v A=>∃ r,v=Zj r∧A=[]):=by
  refine Zn Tryz.func200 Tryz.ntmps200 ?_
  ((refine Zt ?_<;>repeat' first|refine Z.p rfl ?_|refine Qf ?_)<;>refine X.seq ?_<;>((first|(refine Zu ?_;(refine Zt ?_<;>repeat' first|refine Z.p rfl ?_|refine Z.cv rfl rfl ?_|fail "op call"|refine Qf ?_)<;>(apply X.r1 Tryz.results200 (Qh rfl);(focus(exact⟨_,rfl,rfl⟩));exact Zd))|refine Zm ?_))<;>(first|refine Ex.then ?_|refine N.next ?_<;>((refine Zt ?_<;>repeat' first|refine Z.p rfl ?_|(refine Za 1 ?_;((refine XL.call rfl rfl rfl rfl (fun w hw=>Len64_spec w) ?_;rintro v B' ⟨r,rfl,rfl⟩;refine Qg ?_)))|refine Qf ?_)<;>(apply X.r1 Tryz.results200 (Qh rfl);(focus(exact⟨_,rfl,rfl⟩));exact Zd))))
theorem insertion_nil(w:World)(a:Option Addr)(c:Nat)(f:Value):Spec Tryz.prog 332 #[.slice a 0 c,Zj 0,Zj 0,f] w (fun _=>False) (fun v A=>v= .tuple #[]∧A=[]):=by
  refine Zn Tryz.func332 Tryz.ntmps332 ?_
  ((refine Zt ?_<;>repeat' first|refine Z.p rfl ?_|refine Z.g rfl (by omega) ?_|refine Z.w rfl ?_|refine Qf ?_)<;>refine X.block ?_<;>((refine Qs (ι:=Unit) (fun _=>[(2,Zj 0),(8,Zj 1)]) (fun _=>[]) (fun _=>True) (fun _=>0) (()) ?_ Zb Zd ?_;(focus(trivial));rintro _ _)<;>(refine X.seq ?_<;>((refine Zt ?_<;>repeat' first|refine Z.p rfl ?_|refine Z.ct rfl (by omega) ?_|refine Z.cf rfl (by omega) ?_|refine Z.cs rfl (fun _=>?_) (fun _=>?_)|refine Qf ?_)<;>(first|refine Zp ?_|refine Zq ?_))<;>(first|refine Ex.then ?_|refine N.next ?_<;>(refine X.seq ?_<;>(refine X.block ?_<;>((refine Zt ?_<;>repeat' first|refine Z.p rfl ?_|refine Qf ?_)<;>refine X.block ?_<;>(fail "loop 1")<;>(first|refine N.block ?_|refine Ql ?_|refine Ex.out rfl ?_))<;>(first|refine N.block ?_|refine Ql ?_|refine Ex.out rfl ?_))<;>(first|refine Ex.then ?_|refine N.next ?_<;>(refine Zx ?_<;>repeat' first|refine Z.p rfl ?_|refine Z.g rfl (by omega) ?_|refine Z.w rfl ?_|refine XL.nil ?_)))))<;>(first|refine Ex.then ?_|((refine Qp (()) ?_ ?_ Zb Zd;(focus(trivial));(focus(first|omega|(dsimp only;omega)))))))<;>(first|refine N.block ?_|refine Ql ?_|refine Ex.out rfl ?_))<;>((repeat(first|refine Rt.then ?_|refine Rt.block ?_|refine Rt.scope ?_));(first|apply N.done (Res.r0 Tryz.results332)|apply N.doneM (Res.r0 Tryz.results332));(focus(exact⟨rfl,rfl⟩));exact fun w h=>h.takes)
theorem pdq_nil(w:World)(a:Option Addr)(c:Nat)(f:Value)(r:Int):Spec Tryz.prog 326 #[.slice a 0 c,Zj 0,Zj 0,Zj r,f] w (fun _=>False) (fun v A=>v= .tuple #[]∧A=[]):=by
  refine Zn Tryz.func326 Tryz.ntmps326 ?_
  ((refine Zt ?_<;>repeat' first|refine Z.p rfl ?_|refine Qf ?_)<;>(refine Zt ?_<;>repeat' first|refine Z.p rfl ?_|refine Qf ?_)<;>refine X.block ?_<;>((refine Qs (ι:=Unit) (fun _=>[(0,.slice a 0 c),(1,Zj 0),(2,Zj 0),(4,f)]) (fun _=>[]) (fun _=>True) (fun _=>0) (()) ?_ Zb Zd ?_;(focus(trivial));rintro _ _)<;>(refine X.block ?_<;>((refine Zt ?_<;>repeat' first|refine Z.p rfl ?_|refine Z.g rfl (by omega) ?_|refine Z.w rfl ?_|refine Qf ?_)<;>refine X.seq ?_<;>((refine Zt ?_<;>repeat' first|refine Z.p rfl ?_|refine Z.ct rfl (by omega) ?_|refine Z.cf rfl (by omega) ?_|refine Z.cs rfl (fun _=>?_) (fun _=>?_)|refine Qf ?_)<;>(first|(refine Zu ?_;(refine Zt ?_<;>repeat' first|refine Z.p rfl ?_|(refine Za 4 ?_;((refine XL.call rfl rfl rfl rfl (fun w hw=>insertion_nil w a c f) (Zs ?_))))|refine Qf ?_)<;>(apply X.r0 Tryz.results326;(focus(exact⟨rfl,rfl⟩));exact Zd))|refine Zm ?_))<;>(first|refine Ex.then ?_|refine N.next ?_<;>(refine X.seq ?_<;>((refine Zt ?_<;>repeat' first|refine Z.p rfl ?_|refine Z.ct rfl (by omega) ?_|refine Z.cf rfl (by omega) ?_|refine Z.cs rfl (fun _=>?_) (fun _=>?_)|refine Qf ?_)<;>(first|(refine Zu ?_;(refine Zt ?_<;>repeat' first|refine Z.p rfl ?_|fail "op call"|refine Qf ?_)<;>(apply X.r0 Tryz.results326;(focus(exact⟨rfl,rfl⟩));exact Zd))|refine Zm ?_))<;>(first|refine Ex.then ?_|refine N.next ?_<;>(refine X.seq ?_<;>((refine Zt ?_<;>repeat' first|refine Z.p rfl ?_|refine Qf ?_)<;>(first|(refine Zu ?_;(refine Zt ?_<;>repeat' first|refine Z.p rfl ?_|fail "op call"|refine Qf ?_)<;>refine Zx ?_<;>repeat' first|refine Z.p rfl ?_|refine Z.g rfl (by omega) ?_|refine Z.w rfl ?_|refine XL.nil ?_)|refine Zm ?_))<;>(first|refine Ex.then ?_|refine N.next ?_<;>((refine Zt ?_<;>repeat' first|refine Z.p rfl ?_|fail "op call"|refine Qf ?_)<;>refine X.seq ?_<;>((refine Zt ?_<;>repeat' first|refine Z.p rfl ?_|refine Z.ct rfl (by omega) ?_|refine Z.cf rfl (by omega) ?_|refine Z.cs rfl (fun _=>?_) (fun _=>?_)|refine Qf ?_)<;>(first|(refine Zu ?_;(refine Zt ?_<;>repeat' first|refine Z.p rfl ?_|fail "op call"|refine Qf ?_)<;>(refine Zt ?_<;>repeat' first|refine Z.p rfl ?_|refine Z.g rfl (by omega) ?_|refine Z.w rfl ?_|refine Qf ?_)<;>refine Zx ?_<;>repeat' first|refine Z.p rfl ?_|refine XL.nil ?_)|refine Zm ?_))<;>(first|refine Ex.then ?_|refine N.next ?_<;>(refine X.seq ?_<;>((refine Zt ?_<;>repeat' first|refine Z.p rfl ?_|refine Z.pk rfl rfl rfl rfl ?_|refine Z.ct rfl (by omega) ?_|refine Z.cf rfl (by omega) ?_|refine Z.cs rfl (fun _=>?_) (fun _=>?_)|refine Qf ?_)<;>(first|(refine Zu ?_;(refine Zt ?_<;>repeat' first|refine Z.p rfl ?_|fail "op call"|refine Qf ?_)<;>(first|(refine Zu ?_;(apply X.r0 Tryz.results326;(focus(exact⟨rfl,rfl⟩));exact Zd))|refine Zm ?_))|refine Zm ?_))<;>(first|refine Ex.then ?_|refine N.next ?_<;>(refine X.seq ?_<;>((refine X.sd (.a 0 (.a 1 (.a 2 (.a 3 (.a 4 (.a 5 (.a 6 (.a 7 (.b 8 (.a 9 (.a 10 (.a 11 (.b 12 (.c 13 (.a 14 (.a 15 (.a 16 .n))))))))))))))))) mixed (by kernel_rfl) ?_<;>repeat' first|refine XL.skipC rfl rfl rfl rfl ?_|refine Z.p rfl ?_|refine Z.ct rfl (by omega) ?_|refine Z.cf rfl (by omega) ?_|refine Z.cs rfl (fun _=>?_) (fun _=>?_)|refine Z.g rfl (by omega) ?_|refine Z.w rfl ?_|fail "op indexAddr"|refine Z.l1 rfl rfl rfl ?_|refine Z.lN rfl rfl rfl ?_|refine Z.lP rfl rfl rfl ?_|fail "op call"|refine Z.pk rfl rfl rfl rfl ?_|refine Qf ?_)<;>(first|(refine Zu ?_;(refine Zt ?_<;>repeat' first|refine Z.p rfl ?_|fail "op call"|refine Qf ?_)<;>(refine Zt ?_<;>repeat' first|refine Z.p rfl ?_|refine Qf ?_)<;>refine Qq ?_)|refine Zm ?_))<;>(first|refine Ex.then ?_|refine N.next ?_<;>((refine Zt ?_<;>repeat' first|refine Z.p rfl ?_|fail "op call"|refine Qf ?_)<;>(refine Zt ?_<;>repeat' first|refine Z.p rfl ?_|refine Qf ?_)<;>(refine Zt ?_<;>repeat' first|refine Z.p rfl ?_|refine Z.g rfl (by omega) ?_|refine Z.w rfl ?_|refine Qf ?_)<;>(refine Zt ?_<;>repeat' first|refine Z.p rfl ?_|refine Z.quo rfl rfl rfl (by omega) ?_|refine Qf ?_)<;>(refine Zt ?_<;>repeat' first|refine Z.p rfl ?_|refine Z.ct rfl (by omega) ?_|refine Z.cf rfl (by omega) ?_|refine Z.cs rfl (fun _=>?_) (fun _=>?_)|refine Qf ?_)<;>(first|(refine Zu ?_;(refine Zt ?_<;>repeat' first|refine Z.p rfl ?_|refine Z.ct rfl (by omega) ?_|refine Z.cf rfl (by omega) ?_|refine Z.cs rfl (fun _=>?_) (fun _=>?_)|refine Qf ?_)<;>(refine Zt ?_<;>repeat' first|refine Z.p rfl ?_|fail "op call"|refine Qf ?_)<;>refine Zx ?_<;>repeat' first|refine Z.p rfl ?_|refine Z.g rfl (by omega) ?_|refine Z.w rfl ?_|refine XL.nil ?_)|(refine Zf ?_;(refine Zt ?_<;>repeat' first|refine Z.p rfl ?_|refine Z.ct rfl (by omega) ?_|refine Z.cf rfl (by omega) ?_|refine Z.cs rfl (fun _=>?_) (fun _=>?_)|refine Qf ?_)<;>(refine Zt ?_<;>repeat' first|refine Z.p rfl ?_|refine Z.g rfl (by omega) ?_|refine Z.w rfl ?_|fail "op call"|refine Qf ?_)<;>refine Zx ?_<;>repeat' first|refine Z.p rfl ?_|refine XL.nil ?_)))))))))))))))<;>(first|refine N.block ?_|refine Ql ?_|refine Ex.out rfl ?_))<;>(first|refine Ex.then ?_|((refine Qp (()) ?_ ?_ Zb Zd;(focus(trivial));(focus(first|omega|(dsimp only;omega)))))))<;>(first|refine N.block ?_|refine Ql ?_|refine Ex.out rfl ?_))<;>((repeat(first|refine Rt.then ?_|refine Rt.block ?_|refine Rt.scope ?_));(first|apply N.done (Res.r0 Tryz.results326)|apply N.doneM (Res.r0 Tryz.results326));(focus(exact⟨rfl,rfl⟩));exact fun w h=>h.takes)
theorem Sort_nil(w:World)(a:Option Addr)(c:Nat)(f:Value):Spec Tryz.prog 302 #[.slice a 0 c,f] w (fun _=>False) (fun v A=>v= .tuple #[]∧A=[]):=by
  refine Zn Tryz.func302 Tryz.ntmps302 ?_
  ((refine Zt ?_<;>repeat' first|refine Z.p rfl ?_|refine Z.ln rfl rfl ?_|refine Z.lnL rfl rfl ?_|refine Z.lnS rfl rfl ?_|refine Qf ?_)<;>refine Zx ?_<;>repeat' first|refine Z.p rfl ?_|(refine Za 4 ?_;((refine XL.call rfl rfl rfl rfl (fun w hw=>Len_spec w) ?_;rintro v B' ⟨r,rfl,rfl⟩;refine Qg ?_)))|(refine Za 6 ?_;((refine XL.call rfl rfl rfl rfl (fun w hw=>pdq_nil w a c f r) (Zs ?_))))|refine Z.cv rfl rfl ?_|refine XL.nil ?_)<;>((repeat(first|refine Rt.then ?_|refine Rt.block ?_|refine Rt.scope ?_));(first|apply N.done (Res.r0 Tryz.results302)|apply N.doneM (Res.r0 Tryz.results302));(focus(exact⟨rfl,rfl⟩));exact fun w h=>h.takes)
open Go.Sort Go.Shelf in
theorem swoI:SWO (ltOf (α:=Sp) fun x y=>cmpI x.1 y.1):=by
  have h:∀ a b:Int,decide (cmpI a b<0)=decide (a<b):=fun a b=>by
    unfold cmpI
    congr 1
    apply propext
    split
    · omega
    · split<;>omega
  refine⟨fun a=>?_,fun a b c h1 h2=>?_,fun a b c h1 h2=>?_⟩<;>simp only [ltOf,h,decide_eq_true_eq,decide_eq_false_iff_not] at * <;>omega
theorem Clone_spec(w:World)(a:Option Addr)(n c:Nat)(l:List Sp)(hl:Rd w 2 a n c (encS l))(hbd:n≤1000000):Spec Tryz.prog 301 #[.slice a n c] w (fun _=>False) (fun v A=>∃ a' c',v= .slice a' n c'∧A=[own 103 2 (.slice a' n c') n (encS l)]):=by
  have hn:a.isNone=true→n=0∧l=[]:=fun h=>by
    have h0:n=0:=by
      rcases Nat.eq_zero_or_pos n with h0|h0
      · exact h0
      · have:=hl.sm h0;cases a<;>simp at h this
    have:=hl.spLen
    exact⟨h0,List.length_eq_zero_iff.1 (by omega)⟩
  refine Zn Tryz.func301 Tryz.ntmps301 ?_
  refine X.mem (B:=[own 103 2 (Zl) 0 []]) (fun w h=>h.nilOwn 103 2) ?_
  ((refine Zt ?_<;>repeat' first|refine Z.p rfl ?_|refine Qf ?_)<;>refine X.seq ?_<;>((refine Zt ?_<;>repeat' first|refine Z.p rfl ?_|refine Z.eqN rfl rfl rfl ?_|refine Qf ?_)<;>(refine Qi rfl ?_ ?_;rotate_left;(focus(intro hc;first|exact no_ hc rfl|(refine X.skip ?_)));rotate_right;(focus(intro hc;first|exact no_ hc rfl|((refine Zt ?_<;>repeat' first|refine Z.p rfl ?_|refine Qf ?_)<;>(apply X.r1 Tryz.results301 (Qh rfl);(focus(first|(have h:=hn (by assumption);obtain⟨rfl,rfl⟩:=h;exact⟨none,0,rfl,(rfl:[own 103 2 (Zl) 0 []]=_)⟩)|exact⟨_,_,rfl,rfl⟩));exact fun _=>Conf.takes))))))<;>(first|refine Ex.then ?_|refine N.next ?_<;>((refine Zt ?_<;>repeat' first|refine Z.p rfl ?_|(refine Za 2 ?_;((refine XL.appendR (news:=encS l) rfl rfl rfl rfl rfl (fun w hw=>hl.conf0 hw) (encS_one l) (by unfold maxLen;omega) (fun _ _=>by infer_instance) (fun a' c'=>?_));rw [Nat.zero_add,List.nil_append]))|refine XL.slice0 rfl rfl rfl (by intro g;infer_instance) (fun g=>?_)|refine Qf ?_)<;>(apply X.r1 Tryz.results301 (Qh rfl);(focus(first|(have h:=hn (by assumption);obtain⟨rfl,rfl⟩:=h;exact⟨none,0,rfl,(rfl:[own 103 2 (Zl) 0 []]=_)⟩)|exact⟨_,_,rfl,rfl⟩));exact fun _=>Conf.takes))))
open Go.Sort Go.Shelf in
theorem Sort_spec(w:World)(H:Nat→Prop)(a:Option Addr)(n c:Nat)(l:List Sp)(hn:l.length=n)(hown:Sep [own 103 2 (.slice a n c) n (encS l)] w H)(hlt:n≤1000000):Spec Tryz.prog 302 #[.slice a n c,.func (.func 303) #[] #[]] w H (fun v A=>∃ l':List Sp,v= .tuple #[]∧l'.Perm l∧(∀ (i j:Nat) (x y:Sp),i<j→l'[i]?=some x→l'[j]?=some y→ ¬cmpI y.1 x.1<0)∧A=[own 103 2 (.slice a n c) n (encS l')]):=
  sort_row (ρ:=Tryz.sortS_ren) (ag:=inferInstanceAs (Ag Tryz.prog 103)) (hs:=inferInstanceAs (Sz Tryz.prog 103 2)) Tryz.sortS encS1 2 (fun _=>rfl) (by omega) (fun x=>by simp [encS1,Value.oneCell']) (fun x y=>cmpI x.1 y.1) swoI 303 [] (fun x y W=>joined1_run x y W) w H a n c 103 l hn hown (by omega) (Sort_nil w none 0 _)
theorem joined_spec(w:World)(a:Option Addr)(c:Nat)(l:List Sp)(hl:Rd w 2 a l.length c (encS l))(hm:∀ x∈l,mayS x)(hbd:l.length≤1000000):
    Spec Tryz.prog 263 #[.slice a l.length c] w (fun _=>False) (fun v A=>∃ a' c' o,v= .slice a' (List.length o) c'∧SetOK o o.length∧(∀ t,inS o t↔inS l t)∧o.length≤l.length∧A=[own 103 2 (.slice a' o.length c') o.length (encS o)]):=by
  refine Zn Tryz.func263 Tryz.ntmps263 ?_
  ((refine Zt ?_<;>repeat' first|refine Z.p rfl ?_|refine Qf ?_)<;>(refine Zt ?_<;>repeat' first|refine Z.p rfl ?_|(refine Za 1 ?_;((refine XL.call rfl rfl rfl rfl (fun w hw=>Clone_spec w a l.length c l (hl.conf0 hw) hbd) ?_;rintro v B' ⟨a1,c1,rfl,rfl⟩;refine Qg ?_)))|refine Qf ?_)<;>(refine Zt ?_<;>repeat' first|refine Z.p rfl ?_|(refine Za 1 ?_;((refine XL.callH [own 103 2 (.slice a1 l.length c1) l.length (encS l)] rfl rfl rfl rfl (fun w F hF hw=>Sort_spec w F a1 l.length c1 l rfl hF hbd) ?_;rintro v B' ⟨l',rfl,hp,hs0,rfl⟩;refine Qg ?_);have hll:=hp.length_eq;have hm':∀ x∈l',mayS x:=(fun x hx=>hm x (hp.mem_iff.1 hx));have hsort:(∀ (i j:Nat) (x y:Sp),i<j→l'[i]?=some x→l'[j]?=some y→ ¬y.1<x.1):=(fun i j x y hij hx hy hlt=>hs0 i j x y hij hx hy (by unfold cmpI;rw [if_pos hlt];omega));refine XL.mem (B:=[own 103 2 (.slice none ([]:List Sp).length 0) ([]:List Sp).length (encS []),own 103 2 (.slice a1 l.length c1) l.length (encS l')]) (fun w h=>h.nilOwn 103 2) ?_))|refine Qf ?_)<;>(refine Zt ?_<;>repeat' first|refine Z.p rfl ?_|refine Qf ?_)<;>refine X.seq ?_<;>((refine Zt ?_<;>repeat' first|refine Z.p rfl ?_|refine Z.ln rfl rfl ?_|refine Z.lnL rfl rfl ?_|refine Z.lnS rfl rfl ?_|refine Qf ?_)<;>refine X.block ?_<;>((refine Qs (ι:=Nat×List Sp×Option Addr×Nat) (fun x=>[(3,.slice x.2.2.1 x.2.1.length x.2.2.2),(11,.slice a1 l.length c1),(12,Zj l.length),(13,Zj x.1)]) (fun x=>[own 103 2 (.slice x.2.2.1 x.2.1.length x.2.2.2) x.2.1.length (encS x.2.1),own 103 2 (.slice a1 l.length c1) l.length (encS l')]) (fun x=>JoI l' x.1 x.2.1) (fun x=>l.length-x.1) ((0,[],none,0)) ?_ Zb Zd ?_;(focus(exact JoI.start));rintro⟨i,o,a',c'⟩ hJ;(dsimp only at *;have hi:=hJ.hi;have hol:=hJ.len))<;>((refine Zt ?_<;>repeat' first|(refine Za 0 ?_;(first|refine Qn rfl rfl rfl rfl (D.int rfl rfl rfl) (fun h0=>?_) (fun h0=>?_)))|refine Qf ?_)<;>refine X.seq ?_<;>((first|refine Zp ?_|refine Zq ?_))<;>(first|refine Ex.then ?_|refine N.next ?_<;>(refine X.seq ?_<;>(refine X.block ?_<;>((refine Zt ?_<;>repeat' first|(refine Za 0 ?_;(have hil:i<l.length:=(by omega);obtain⟨s,hs⟩:=Qt (l:=l') (k:=i) (by omega);have hsm:=hm' s (List.mem_of_getElem? hs);refine XL.fact (fun w h=>(h.ownRd (i:=1) rfl).sm (by omega)) (fun hsome=>?_);(apply Qu rfl rfl rfl rfl;exact D.indexAddr i rfl rfl rfl hil hsome)))|(refine Za 1 ?_;((apply Qu rfl rfl rfl rfl;exact D.loadN rfl rfl (fun w hw j u hu=>Rd.sp (hw.ownRd (i:=1) rfl) hs j u hu))))|refine XL.alloc rfl rfl rfl (k:=fun g=>?_)|refine Qj rfl rfl rfl rfl rfl ?_|refine Qk rfl rfl rfl rfl rfl rfl ?_|refine XL.storeP rfl rfl rfl rfl rfl rfl ?_|refine Qf ?_)<;>(refine Zt ?_<;>repeat' first|refine Z.p rfl ?_|(refine Za 2 ?_;((apply Qm rfl rfl rfl rfl;exact D.sub64 rfl rfl (by omega))))|refine Z.ln rfl rfl ?_|refine Z.lnL rfl rfl ?_|refine Z.lnS rfl rfl ?_|refine Qf ?_)<;>refine X.seq ?_<;>((refine X.sd (.a 0 (.a 1 (.a 2 (.a 3 (.a 4 (.a 5 (.b 6 (.a 8 (.b 9 (.c 7 (.a 10 (.a 11 .n)))))))))))) mixed (by kernel_rfl) ?_<;>repeat' first|refine XL.skipC rfl rfl rfl rfl ?_|refine Z.p rfl ?_|(refine Za 1 ?_;(first|refine XL.split0 rfl rfl rfl rfl (D.int rfl rfl rfl) (fun h1=>?_) (fun h1=>?_)))|(refine Za 5 ?_;(have hy0:o.length-1<o.length:=(by omega);obtain⟨y,hy⟩:=Qt hy0;have hym:=hJ.set.may hy0 hy;refine XL.fact (fun w h=>(h.ownRd (i:=1) rfl).sm (by omega)) (fun hsome=>?_);(apply XL.det0 rfl rfl rfl rfl;exact D.indexAddr (o.length-1) rfl rfl (by omega) hy0 hsome)))|(refine Za 6 ?_;((apply XL.det1 rfl rfl rfl rfl;exact D.loadN rfl rfl (fun w hw j u hu=>Rd.sp (hw.ownRd (i:=1) rfl) hy j u hu))))|(refine Za 7 ?_;((refine XL.call rfl rfl rfl rfl (fun w hw=>End_spec _ _ w) ?_;rintro v B' ⟨rfl,rfl⟩;refine Qg ?_);rw [may_end hym]))|(refine Za 10 ?_;(first|refine XL.split0 rfl rfl rfl rfl (D.int rfl rfl rfl) (fun h2=>?_) (fun h2=>?_)))|refine Z.fa rfl rfl rfl ?_|refine Z.l1 rfl rfl rfl ?_|refine Z.lN rfl rfl rfl ?_|refine Z.lP rfl rfl rfl ?_|refine Z.pk rfl rfl rfl rfl ?_|refine Qf ?_)<;>(first|(refine Zu ?_;(refine Zt ?_<;>repeat' first|refine Z.p rfl ?_|(refine Za 3 ?_;((refine XL.append rfl rfl rfl rfl rfl rfl ?_ ?_ (fun a' c'=>?_);(focus(skip;unfold maxLen;omega));(focus(intro _ _;infer_instance)));rw [encS_snoc o (s.1,s.2),len_snoc o (s.1,s.2)]))|refine Z.l1 rfl rfl rfl ?_|refine Z.lN rfl rfl rfl ?_|refine Z.lP rfl rfl rfl ?_|refine XL.slice1 rfl rfl rfl rfl rfl rfl (by intro g;infer_instance) (fun g_=>?_)|refine Qf ?_)<;>refine Qq ?_)|refine Zm ?_))<;>(first|refine Ex.then ?_|refine N.next ?_<;>(refine X.draw (.a 0 (.a 1 (.a 2 (.a 3 (.a 4 (.a 5 (.b 6 (.a 7 (.a 8 (.a 9 (.b 10 (.b 12 (.c 11 (.c 13 (.a 14 (.c 15 (.a 16 (.f 17 .n)))))))))))))))))) mixed (by kernel_rfl) ?_<;>repeat' first|refine Z.p rfl ?_|(refine Za 4 ?_;((apply XL.det0 rfl rfl rfl rfl;exact D.indexAddr (o.length-1) rfl rfl (by omega) hy0 hsome)))|(refine Za 6 ?_;((apply XL.det1 rfl rfl rfl rfl;exact D.load1 rfl (fun w hw=>by have:=Rd.sp (hw.ownRd (i:=1) rfl) hy 0 _ rfl;simpa [el_add] using this))))|(refine Za 9 ?_;((apply XL.det0 rfl rfl rfl rfl;exact D.indexAddr (o.length-1) rfl rfl (by omega) hy0 hsome)))|(refine Za 10 ?_;((apply XL.det1 rfl rfl rfl rfl;exact D.loadN rfl rfl (fun w hw j u hu=>Rd.sp (hw.ownRd (i:=1) rfl) hy j u hu))))|(refine Za 11 ?_;((refine XL.call rfl rfl rfl rfl (fun w hw=>End_spec _ _ w) ?_;rintro v B' ⟨rfl,rfl⟩;refine Qg ?_);rw [may_end hym]))|(refine Za 13 ?_;((refine XL.call rfl rfl rfl rfl (fun w hw=>End_spec _ _ w) ?_;rintro v B' ⟨rfl,rfl⟩;refine Qg ?_);rw [may_end hsm]))|(refine Za 15 ?_;((refine XL.call rfl rfl rfl rfl (fun w hw=>between_spec _ _ w) ?_;rintro v B' ⟨rfl,rfl⟩;refine Qg ?_);rw [D.wrap64_fit (by unfold mayS at hym hsm;omega)]))|(refine Za 16 ?_;((apply XL.det0 rfl rfl rfl rfl;exact D.indexAddr (o.length-1) rfl rfl (by omega) hy0 hsome)))|(refine Za 17 ?_;(have hJ2:=hJ.merge hsort hm' hs hy (by omega);obtain⟨o2,ho2,hl2⟩:∃ o2,o.set (o.length-1) (y.1,max (y.1+y.2) (s.1+s.2)-y.1)=o2∧o.length=o2.length:=(⟨_,rfl,by simp⟩);rw [ho2] at hJ2;(refine XL.storeE (encS o2) rfl rfl rfl rfl rfl (by omega) (by rw [←ho2];exact encS_set o (o.length-1) (y.1,max (y.1+y.2) (s.1+s.2)-y.1) hy0) ?_);rw [hl2]))|refine Z.fa rfl rfl rfl ?_|refine Z.l1 rfl rfl rfl ?_|refine Z.lN rfl rfl rfl ?_|refine Z.lP rfl rfl rfl ?_|refine Z.mx rfl rfl rfl ?_|refine XL.nil ?_)))<;>(first|refine N.block ?_|refine Ql ?_|refine Ex.out rfl ?_))<;>(first|refine Ex.then ?_|refine N.next ?_<;>(refine Zx ?_<;>repeat' first|refine Z.p rfl ?_|refine Z.g rfl (by omega) ?_|refine Z.w rfl ?_|refine XL.nil ?_)))))<;>(first|refine Ex.then ?_|(first|(refine Qp ((i+1,o++[s],a',c')) ?_ ?_ Zb Zd;(focus(exact hJ.push hsort hm' hs (fun z hz=>by first|(have:=Qv hz;omega)|(rw [hy] at hz;cases hz;omega))));(focus(first|omega|(dsimp only;omega))))|(refine Qp ((i+1,o2,a',c')) ?_ ?_ Zb Zd;(focus(exact hJ2));(focus(first|omega|(dsimp only;omega)))))))<;>(first|refine N.block ?_|refine Ql ?_|refine Ex.out rfl ?_))<;>(first|refine Ex.then ?_|refine N.next ?_<;>((refine Zt ?_<;>repeat' first|refine Z.p rfl ?_|refine Qf ?_)<;>(apply X.r1 Tryz.results263 (Qh rfl);(focus((obtain rfl:i=l.length:=by omega);exact⟨a',c',o,rfl,hJ.set,fun t=>by rw [hJ.mem t,←hll,inTo_all];unfold inS;simp [hp.mem_iff],hol,rfl⟩));exact Zd))))
end Go.Lx
namespace Go.Lx
open Go.Proofs
theorem any_false{l:List Sp}(h:(l.any fun x=>decide (¬mayS x))=false):∀ x∈l,mayS x:=fun x hx=>by
  have:=List.any_eq_false.1 h x hx
  simpa using this
theorem any_true{l:List Sp}(h:(l.any fun x=>decide (¬mayS x))=true): ¬∀ x∈l,mayS x:=fun hall=>by
  obtain⟨x,hx,hn⟩:=List.any_eq_true.1 h
  exact absurd (hall x hx) (by simpa using hn)
theorem Join_spec(w:World)(a:Option Addr)(c:Nat)(l:List Sp)(hl:Rd w 2 a l.length c (encS l))(hbd:l.length≤1000000):
    Spec Tryz.prog 220 #[.slice a l.length c] w (fun _=>False) (fun v A=>∃ a' c' o e,v= .tuple #[.slice a' (List.length o) c',Zj e]∧((e=0∧(∀ x∈l,mayS x)∧SetOK o o.length∧(∀ t,inS o t↔inS l t)∧o.length≤l.length)∨(e=1∧ ¬(∀ x∈l,mayS x)∧o=[]))∧A=[own 103 2 (.slice a' o.length c') o.length (encS o)]):=by
  refine Zn Tryz.func220 Tryz.ntmps220 ?_
  refine X.mem (B:=[own 103 2 (.slice none ([]:List Sp).length 0) ([]:List Sp).length (encS [])]) (fun w h=>h.nilOwn 103 2) ?_
  ((refine Zt ?_<;>repeat' first|refine Z.p rfl ?_|refine Qf ?_)<;>refine X.seq ?_<;>((refine Zt ?_<;>repeat' first|refine Z.p rfl ?_|(refine Za 1 ?_;((refine XL.call rfl rfl rfl rfl (fun w hw=>wrong_spec w a l.length c l (hl.conf0 hw)) (Zs ?_))))|refine Qf ?_)<;>(refine Qi rfl ?_ ?_;rotate_left;(focus(intro hc;first|exact no_ hc rfl|(refine X.skip ?_)));rotate_right;(focus(intro hc;first|exact no_ hc rfl|((refine Zt ?_<;>repeat' first|refine Z.p rfl ?_|refine Qf ?_)<;>(apply X.r2 Tryz.results220 (Qh rfl) (Qh rfl);(focus(first|(exact⟨none,0,[],1,rfl,.inr ⟨rfl,any_true (by assumption),rfl⟩,rfl⟩)|(exact⟨a',c',o,0,rfl,.inl ⟨rfl,hm,h1,h2,h3⟩,rfl⟩)));exact fun _=>Conf.takes))))))<;>(first|refine Ex.then ?_|refine N.next ?_<;>((refine Zt ?_<;>repeat' first|refine Z.p rfl ?_|(refine Za 1 ?_;(have hm:=any_false (by assumption);(refine XL.call rfl rfl rfl rfl (fun w hw=>joined_spec w a c l (hl.conf0 hw) hm hbd) ?_;rintro v B' ⟨a',c',o,rfl,h1,h2,h3,rfl⟩;refine Qg ?_)))|refine Qf ?_)<;>(apply X.r2 Tryz.results220 (Qh rfl) (Qh rfl);(focus(first|(exact⟨none,0,[],1,rfl,.inr ⟨rfl,any_true (by assumption),rfl⟩,rfl⟩)|(exact⟨a',c',o,0,rfl,.inl ⟨rfl,hm,h1,h2,h3⟩,rfl⟩)));exact fun _=>Conf.takes))))
theorem Meet_spec(w:World)(a b:Option Addr)(c d:Nat)(l off:List Sp)(hl:Rd w 2 a l.length c (encS l))(ho:Rd w 2 b off.length d (encS off))(hbd:l.length+l.length+off.length≤1000000):
    Spec Tryz.prog 222 #[.slice a l.length c,.slice b off.length d] w (fun _=>False) (fun v A=>∃ a' c' o e,v= .tuple #[.slice a' (List.length o) c',Zj e]∧((e=0∧(SetOK l l.length∧SetOK off off.length)∧SetOK o o.length∧(∀ t,inS o t↔inS l t∧inS off t)∧o.length≤l.length+l.length+off.length)∨(e=1∧ ¬(SetOK l l.length∧SetOK off off.length)∧o=[]))∧A=[own 103 2 (.slice a' o.length c') o.length (encS o)]):=by
  refine Zn Tryz.func222 Tryz.ntmps222 ?_
  refine X.mem (B:=[own 103 2 (.slice none ([]:List Sp).length 0) ([]:List Sp).length (encS [])]) (fun w h=>h.nilOwn 103 2) ?_
  ((refine Zt ?_<;>repeat' first|refine Z.p rfl ?_|refine Qf ?_)<;>refine X.seq ?_<;>((refine Zt ?_<;>repeat' first|refine Z.p rfl ?_|(refine Za 1 ?_;((refine XL.call rfl rfl rfl rfl (fun w hw=>Check_spec w a l.length c l (hl.conf0 hw)) ?_;rintro v B' ⟨e,rfl,he,rfl⟩;refine Qg ?_);rcases he with⟨rfl,hset⟩|⟨rfl,hset⟩))|(refine Za 5 ?_;((refine XL.call rfl rfl rfl rfl (fun w hw=>Check_spec w b off.length d off (ho.conf0 hw)) ?_;rintro v B' ⟨e,rfl,he,rfl⟩;refine Qg ?_);rcases he with⟨rfl,hset2⟩|⟨rfl,hset2⟩))|refine Z.ct rfl (by omega) ?_|refine Z.cf rfl (by omega) ?_|refine Z.cs rfl (fun _=>?_) (fun _=>?_)|refine Z.pk rfl rfl rfl rfl ?_|refine Qf ?_)<;>(first|(refine Zu ?_;(refine Zt ?_<;>repeat' first|refine Z.p rfl ?_|refine Qf ?_)<;>(apply X.r2 Tryz.results222 (Qh rfl) (Qh rfl);(focus(first|(exact⟨none,0,[],1,rfl,.inr ⟨rfl,fun h=>hset h.1,rfl⟩,rfl⟩)|(exact⟨none,0,[],1,rfl,.inr ⟨rfl,fun h=>hset2 h.2,rfl⟩,rfl⟩)|(exact⟨a',c',o,0,rfl,.inl ⟨rfl,⟨hset,hset2⟩,h1,fun t=>by rw [h2 t,g2 t];constructor<;>(intro⟨q1,q2⟩;exact⟨q1,by by_cases q:inS off t<;>simp_all⟩),by omega⟩,rfl⟩)));exact Zd))|refine Zm ?_))<;>(first|refine Ex.then ?_|refine N.next ?_<;>((refine Zt ?_<;>repeat' first|refine Z.p rfl ?_|(refine Za 3 ?_;((refine XL.call rfl rfl rfl rfl (fun w hw=>less_spec w a b c d l off (hl.conf0 hw) (ho.conf0 hw) hset hset2 (by omega)) ?_;rintro v B' ⟨a1,c1,o1,rfl,g1,g2,g3,rfl⟩;refine Qg ?_)))|(refine Za 4 ?_;((refine XL.call rfl rfl rfl rfl (fun w hw=>less_spec w a a1 c c1 l o1 (hl.conf0 hw) (hw.ownRd (i:=0) rfl) hset g1 (by omega)) ?_;rintro v B' ⟨a',c',o,rfl,h1,h2,h3,rfl⟩;refine Qg ?_)))|refine Qf ?_)<;>(apply X.r2 Tryz.results222 (Qh rfl) (Qh rfl);(focus(first|(exact⟨none,0,[],1,rfl,.inr ⟨rfl,fun h=>hset h.1,rfl⟩,rfl⟩)|(exact⟨none,0,[],1,rfl,.inr ⟨rfl,fun h=>hset2 h.2,rfl⟩,rfl⟩)|(exact⟨a',c',o,0,rfl,.inl ⟨rfl,⟨hset,hset2⟩,h1,fun t=>by rw [h2 t,g2 t];constructor<;>(intro⟨q1,q2⟩;exact⟨q1,by by_cases q:inS off t<;>simp_all⟩),by omega⟩,rfl⟩)));exact Zd))))
end Go.Lx
