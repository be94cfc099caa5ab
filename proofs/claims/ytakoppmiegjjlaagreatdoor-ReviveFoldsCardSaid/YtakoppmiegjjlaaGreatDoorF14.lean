import Derived.Test.YtakoppmiegjjlaaGreatDoorF4
import Derived.Test.YtakoppmiegjjlaaGreatDoorF13
set_option linter.unusedVariables false
set_option linter.unusedSimpArgs false
set_option maxRecDepth 20000
set_option maxHeartbeats 4000000
namespace Go.Lx
open Go.Proofs
theorem intR1{s:Bs}{p x p' most:Nat}{e e':Int}(h:RdR fewF 0 s p e x p' e')(hx:e'=0→x≤most):RdR (intF most) 0 s p e x p' e':=by
  obtain⟨h0,h⟩:=h
  refine⟨h0, ?_⟩
  rcases h with⟨h1,n,h2,h3,h4⟩|⟨h1,h2,h3⟩
  · exact .inl ⟨h1,n,by unfold intF;rw [h2];simp only;rw [if_pos (hx h3)],h3,h4⟩
  · refine .inr ⟨?_,h2,h3⟩
    rcases h1 with h1|h1
    · exact .inl h1
    · exact .inr (by unfold intF;rw [h1])
theorem intR2{s:Bs}{p x p' most:Nat}{e e':Int}(h:RdR fewF 0 s p e x p' e')(hp:p≤s.length)(he:e'=0)(hx: ¬x≤most):RdR (intF most) 0 s p e 0 p 12:=by
  obtain⟨h0,h⟩:=h
  refine⟨hp, ?_⟩
  rcases h with⟨h1,n,h2,h3,h4⟩|⟨h1,h2,h3⟩
  · exact .inr ⟨.inr (by unfold intF;rw [h2];simp only;rw [if_neg hx]),rfl,by decide⟩
  · exact absurd he h3
theorem RdR.zero{α:Type}{f:Bs→Option (α×Nat)}{d:α}{s:Bs}{p:Nat}{e:Int}{x:α}{p':Nat}{e':Int}(h:RdR f d s p e x p' e')(he: ¬e'=0):x=d:=by
  rcases h.2 with⟨_,_,_,h,_⟩|⟨_,h,_⟩
  · exact absurd h he
  · exact h
theorem IInt_spec(w:World)(H:Nat→Prop)(g p most:Nat)(e:Int)(s:Bs)(hown:Sep [cells g [Zj p,Zj e,Zi s] 257] w H)(hp:p≤s.length)(hs:s.length≤1000000000)(hmo:most<9223372036854775808):Spec Tryz.prog 174 #[.pointer (some ⟨g,0,none⟩),Zj most] w H (fun v A=>∃ x p' e',v=Zj ((x:Nat):Int)∧x≤most∧RdR (intF most) 0 s p e x p' e'∧A=[cells g [Zj p',Zj e',Zi s] 257]):=by
  refine Spec.enter Tryz.func174 rfl Tryz.ntmps174 rfl hown ?_
  ((refine Zt ?_<;>repeat' first|refine Z.p rfl ?_|refine Qf ?_)<;>(refine Zt ?_<;>repeat' first|refine Z.p rfl ?_|(refine Za 1 ?_;((refine XL.call rfl rfl rfl rfl (fun w hw=>At_spec w g p (hw.cellAt (Loc.at_) rfl)) (Zs ?_))))|refine Qf ?_)<;>(refine Zt ?_<;>repeat' first|refine Z.p rfl ?_|(refine Za 1 ?_;((refine Qo [cells g [Zj p,Zj e,Zi s] 257] rfl rfl rfl rfl (fun w F hF hm hw=>IVar_spec w F g p e s hF hp hs) ?_;rintro v B' ⟨x,p',e',rfl,hR,rfl⟩;refine Qg ?_)))|refine Qf ?_)<;>refine X.seq ?_<;>((refine Zt ?_<;>repeat' first|refine Z.p rfl ?_|(refine Za 1 ?_;((refine XL.call rfl rfl rfl rfl (fun w hw=>ready_spec w g e' (hw.cellAt (Loc.at_) rfl)) (Zs ?_));(by_cases he:e'=0<;>first|rw [decide_eq_true he]|rw [decide_eq_false he])))|(refine Za 8 ?_;(first|refine XL.skipF rfl rfl rfl rfl ?_|((apply Qm rfl rfl rfl rfl;exact D.convN rfl rfl);rw [Nat.mod_eq_of_lt (show most<2^IntKind.u64.bits from Nat.lt_trans hmo (by decide))])))|(refine Za 9 ?_;(first|refine XL.skipF rfl rfl rfl rfl ?_|refine Qn rfl rfl rfl rfl (D.int rfl rfl rfl) (fun h1=>?_) (fun h1=>?_)))|refine Z.ct rfl (by omega) ?_|refine Z.cf rfl (by omega) ?_|refine Z.cs rfl (fun _=>?_) (fun _=>?_)|refine Z.pk rfl rfl rfl rfl ?_|refine Qf ?_)<;>(first|(refine Zu ?_;(refine Zt ?_<;>repeat' first|refine Z.p rfl ?_|(refine Za 4 ?_;((refine Qo [cells g [Zj p',Zj e',Zi s] 257] rfl rfl rfl rfl (fun w F hF hm hw=>stand_spec w F g p' p e' 12 s hF) (Zs ?_))))|refine Z.fa rfl rfl rfl ?_|refine Qf ?_)<;>(refine Zt ?_<;>repeat' first|refine Z.p rfl ?_|refine Qf ?_)<;>(apply X.r1 Tryz.results174 (Qh rfl);(focus(first|(exact⟨x,p',e',rfl,hxm,intR1 hR (fun _=>hxm),rfl⟩)|(exact⟨0,p,12,rfl,Nat.zero_le _,intR2 hR hp he (by omega),rfl⟩)));exact Zd))|refine Zm ?_))<;>(first|refine Ex.then ?_|refine N.next ?_<;>((refine Zt ?_<;>repeat' first|refine Z.p rfl ?_|(refine Za 1 ?_;(have hxm:x≤most:=(by first|omega|(have:=hR.zero he;omega));(apply Qm rfl rfl rfl rfl;exact D.conv64 rfl (by omega))))|refine Qf ?_)<;>(apply X.r1 Tryz.results174 (Qh rfl);(focus(first|(exact⟨x,p',e',rfl,hxm,intR1 hR (fun _=>hxm),rfl⟩)|(exact⟨0,p,12,rfl,Nat.zero_le _,intR2 hR hp he (by omega),rfl⟩)));exact Zd))))
theorem textR{s:Bs}{p n p1 p2 most:Nat}{e e1 e2:Int}{x:Bs}(h:RdR (intF most) 0 s p e n p1 e1)(ht:TakeR s p1 e1 n x p2 e2)(p3:Nat)(h3:(e2=0∧p3=p2)∨(e2≠0∧p3≤s.length)):RdR (textF most) [] s p e x p3 e2:=by
  obtain⟨h0,h⟩:=h
  have hle:=ht.le h0
  refine⟨by omega, ?_⟩
  rcases h with⟨a1,m,a2,rfl,rfl⟩|⟨a1,rfl,a3⟩
  · rcases ht with⟨_,b1,rfl,rfl,rfl⟩|⟨_,b1,rfl,rfl,rfl⟩|⟨b,_⟩
    · refine .inl ⟨a1,m+n, ?_,rfl,by omega⟩
      unfold textF
      rw [a2]
      simp only
      rw [if_pos (by rw [List.length_drop];omega),List.drop_drop]
    · refine .inr ⟨.inr ?_,rfl,by decide⟩
      unfold textF
      rw [a2]
      simp only
      rw [if_neg (by rw [List.length_drop];omega)]
    · exact absurd rfl b
  · rcases ht with⟨b,_⟩|⟨b,_⟩|⟨_,rfl,rfl,rfl⟩
    · exact absurd b a3
    · exact absurd b a3
    · refine .inr ⟨?_,rfl,a3⟩
      rcases a1 with a1|a1
      · exact .inl a1
      · exact .inr (by unfold textF;rw [a1])
theorem IText_spec(w:World)(H:Nat→Prop)(g p most:Nat)(e:Int)(s:Bs)(hown:Sep [cells g [Zj p,Zj e,Zi s] 257] w H)(hp:p≤s.length)(hs:s.length≤1000000000)(hmo:most<9223372036854775808):Spec Tryz.prog 180 #[.pointer (some ⟨g,0,none⟩),Zj most] w H (fun v A=>∃ x p' e',v=Zi x∧RdR (textF most) [] s p e x p' e'∧A=[cells g [Zj p',Zj e',Zi s] 257]):=by
  refine Spec.enter Tryz.func180 rfl Tryz.ntmps180 rfl hown ?_
  ((refine Zt ?_<;>repeat' first|refine Z.p rfl ?_|refine Qf ?_)<;>(refine Zt ?_<;>repeat' first|refine Z.p rfl ?_|(refine Za 1 ?_;((refine XL.call rfl rfl rfl rfl (fun w hw=>At_spec w g p (hw.cellAt (Loc.at_) rfl)) (Zs ?_))))|refine Qf ?_)<;>(refine Zt ?_<;>repeat' first|refine Z.p rfl ?_|(refine Za 3 ?_;((refine Qo [cells g [Zj p,Zj e,Zi s] 257] rfl rfl rfl rfl (fun w F hF hm hw=>IInt_spec w F g p most e s hF hp hs hmo) ?_;rintro v B' ⟨n,p1,e1,rfl,hnm,hR,rfl⟩;refine Qg ?_)))|(refine Za 4 ?_;((refine Qo [cells g [Zj p1,Zj e1,Zi s] 257] rfl rfl rfl rfl (fun w F hF hm hw=>take_spec w F g p1 n e1 s hF hR.1 hs (by omega)) ?_;rintro v B' ⟨x,p2,e2,rfl,ht,rfl⟩;refine Qg ?_);have hle:=ht.le hR.1))|refine Qf ?_)<;>refine X.seq ?_<;>((refine Zt ?_<;>repeat' first|refine Z.p rfl ?_|(refine Za 8 ?_;(refine Qn rfl rfl rfl rfl (D.int rfl rfl rfl) (fun h1=>?_) (fun h1=>?_)))|(refine Za 17 ?_;(first|refine XL.skipF rfl rfl rfl rfl ?_|refine Qn rfl rfl rfl rfl (D.int rfl rfl rfl) (fun h2=>?_) (fun h2=>?_)))|refine Z.neP rfl rfl rfl ?_|refine Z.fa rfl rfl rfl ?_|refine Z.l1 rfl rfl rfl ?_|refine Z.lN rfl rfl rfl ?_|refine Z.lP rfl rfl rfl ?_|refine Z.pk rfl rfl rfl rfl ?_|refine Qf ?_)<;>(first|(refine Zu ?_;refine X.draw (.a 0 (.a 1 (.a 2 (.a 3 (.a 4 (.a 5 (.a 6 (.a 7 (.b 8 (.f 9 .n)))))))))) mixed (by kernel_rfl) ?_<;>repeat' first|refine Z.p rfl ?_|(refine Za 9 ?_;((refine Qo [cells g [Zj p2,Zj e2,Zi s] 257] rfl rfl rfl rfl (fun w F hF hm hw=>stand_spec w F g p2 p e2 e2 s hF) (Zs ?_))))|refine Z.fa rfl rfl rfl ?_|refine Z.l1 rfl rfl rfl ?_|refine Z.lN rfl rfl rfl ?_|refine Z.lP rfl rfl rfl ?_|refine XL.nil ?_)|refine Zm ?_))<;>(first|refine Ex.then ?_|refine N.next ?_<;>((refine Zt ?_<;>repeat' first|refine Z.p rfl ?_|refine Qf ?_)<;>(apply X.r1 Tryz.results180 (Qh rfl);(focus(first|(exact⟨x,p,e2,rfl,textR hR ht p (.inr ⟨h1,(fun(_:(p:Int)<(p2:Int))=>hp) h2⟩),rfl⟩)|(exact⟨x,p2,e2,rfl,textR hR ht p2 (by by_cases h:e2=0;exact .inl ⟨h,rfl⟩;exact .inr ⟨h,hle⟩),rfl⟩)));exact Zd))))
end Go.Lx
namespace Go.Lx
open Go.Proofs
end Go.Lx
namespace Go.Lx
open Go.Proofs
end Go.Lx
