import Derived.Test.YtakoppmiegjjlaaGreatDoorF24
import Derived.Test.YtakoppmiegjjlaaGreatDoorF4
import Derived.Test.YtakoppmiegjjlaaGreatDoorF30
set_option linter.unusedVariables false
set_option linter.unusedSimpArgs false
set_option maxRecDepth 20000
set_option maxHeartbeats 8000000
namespace Go.Lx
def ExtOK (l:List Ext) (n:Nat):Prop:=∀ k x,k<n→l[k]?=some x→mayE x∧∀ y,0<k→l[k-1]?=some y→y.a+y.n≤x.a
theorem ExtOK.step{l:List Ext}{k:Nat}{x:Ext}(h:ExtOK l k)(hx:l[k]?=some x)(hm:mayE x)(hy:∀ y,0<k→l[k-1]?=some y→y.a+y.n≤x.a):ExtOK l (k+1):=by
  intro j z hj hz
  rcases Nat.lt_or_ge j k with h1|h1
  · exact h j z h1 hz
  · obtain rfl:j=k:=by omega
    rw [hx] at hz;cases hz
    exact⟨hm,hy⟩
theorem ExtOK.tail{x:Ext}{l:List Ext}(h:ExtOK (x::l) (l.length+1)):ExtOK l l.length:=fun k y hk hy=>by
  have h1:=h (k+1) y (by omega) (by simpa using hy)
  refine⟨h1.1,fun z hz0 hz=>h1.2 z (by omega) ?_⟩
  rw [show k+1-1=(k-1)+1 by omega]
  simpa using hz
theorem ExtOK.rise:∀ {l:List Ext} {lo:Int},ExtOK l l.length→(∀ x,l[0]?=some x→lo≤x.a)→Rise lo l
  |[],_,_,_=>trivial
  |x::l,lo,h,h0=>by
    have hx:=h 0 x (by simp) rfl
    refine⟨h0 x rfl,hx.1.inE,ExtOK.rise (ExtOK.tail h) (fun y hy=>?_)⟩
    exact(h 1 y (by have:=Qv hy;simp;omega) (by simpa using hy)).2 x (by omega) rfl
theorem ExtOK.rise0{l:List Ext}(h:ExtOK l l.length):Rise 0 l:=h.rise (fun x hx=>by
  have:=(h 0 x (Qv hx) hx).1
  unfold mayE mayS at this
  exact this.1.1)
theorem ExtOK.may{l:List Ext}(h:ExtOK l l.length):∀ x∈l,mayE x:=fun x hx=>by
  obtain⟨k,hk⟩:=List.mem_iff_getElem?.1 hx
  exact(h k x (Qv hk) hk).1
theorem fold_upd:∀ (l:List Ext) (lo:Int) (σ:Sig) (t:Int) (p:Int×Int),Rise lo l→((l.foldl updE σ) t=some p↔atE l t p∨(σ t=some p∧∀ q,¬atE l t q))
  |[],_,σ,t,p,_=>by simp [atE_nil]
  |x::l,lo,σ,t,p,⟨h1,h2,h3⟩=>by
    rw [List.foldl_cons,fold_upd l _ _ t p h3,atE_cons]
    unfold updE
    by_cases ht:x.a≤t∧t<x.a+x.n
    · have hn:∀ q,¬atE l t q:=fun q hq=>by have:=h3.at_ge hq;omega
      rw [if_pos ht]
      constructor
      · rintro(h|⟨h,_⟩)
        · exact absurd h (hn p)
        · cases h;exact .inl (.inl ⟨ht.1,ht.2,rfl⟩)
      · rintro((⟨_,_,h⟩|h)|⟨_,h⟩)
        · exact .inr ⟨by rw [h],hn⟩
        · exact absurd h (hn p)
        · exact absurd (atE_cons.2 (.inl ⟨ht.1,ht.2,rfl⟩)) (h _)
    · rw [if_neg ht]
      constructor
      · rintro(h|⟨h,hn⟩)
        · exact .inl (.inr h)
        · exact .inr ⟨h,fun q hq=>by rcases atE_cons.1 hq with⟨a,b,_⟩|hq;exact ht ⟨a,b⟩;exact hn q hq⟩
      · rintro((⟨a,b,_⟩|h)|⟨h,hn⟩)
        · exact absurd ⟨a,b⟩ ht
        · exact .inl h
        · exact .inr ⟨h,fun q hq=>hn q (atE_cons.2 (.inr hq))⟩
end Go.Lx
namespace Go.Lx
open Go.Proofs
theorem FewE_spec(w:World)(a:Option Addr)(c:Nat)(l:List Ext)(hl:Rd w 4 a l.length c (encE l))(hbd:l.length≤1000000):
    Spec Tryz.prog 161 #[.slice a l.length c] w (fun _=>False) (fun v A=>∃ a' c' o,v= .slice a' (List.length o) c'∧((ExtOK l l.length∧JnI 0 l l.length o)∨(¬ExtOK l l.length∧o=[]))∧A=[own 105 4 (.slice a' (List.length o) c') (List.length o) (encE o)]):=by
  refine Zn Tryz.func161 Tryz.ntmps161 ?_
  refine X.mem (B:=[own 105 4 (.slice none (List.length (([]:List Ext))) 0) (List.length (([]:List Ext))) (encE (([]:List Ext)))]) (fun w h=>h.nilOwn 105 4) ?_
  ((refine Zt ?_<;>repeat' first|refine Z.p rfl ?_|refine Qf ?_)<;>refine X.seq ?_<;>((refine Zt ?_<;>repeat' first|refine Z.p rfl ?_|refine Z.ln rfl rfl ?_|refine Z.lnL rfl rfl ?_|refine Z.lnS rfl rfl ?_|refine Qf ?_)<;>refine X.block ?_<;>((refine Qs (ι:=Nat) (fun i=>[(0,.slice a l.length c),(5,.slice a l.length c),(6,Zj l.length),(7,Zj i)]) (fun _=>[own 105 4 (.slice none (List.length (([]:List Ext))) 0) (List.length (([]:List Ext))) (encE (([]:List Ext)))]) (fun i=>i≤l.length∧ExtOK l i) (fun i=>l.length-i) (0) ?_ Zb Zd ?_;(focus(exact⟨Nat.zero_le _,fun k x hk=>by omega⟩));rintro i ⟨hi,hok⟩)<;>((refine Zt ?_<;>repeat' first|(refine Za 0 ?_;(first|refine Qn rfl rfl rfl rfl (D.int rfl rfl rfl) (fun h0=>?_) (fun h0=>?_)))|refine Qf ?_)<;>refine X.seq ?_<;>((first|refine Zp ?_|refine Zq ?_))<;>(first|refine Ex.then ?_|refine N.next ?_<;>(refine X.seq ?_<;>(refine X.block ?_<;>((refine Zt ?_<;>repeat' first|refine Z.p rfl ?_|(refine Za 1 ?_;(have hil:i<l.length:=(by omega);obtain⟨x,hx⟩:=Qt hil;(apply Qu rfl rfl rfl rfl;exact D.indexAddr i rfl rfl rfl hil (hl.sm (by omega)))))|(refine Za 2 ?_;((apply Qu rfl rfl rfl rfl;exact D.loadN rfl rfl (fun w hw j u hu=>Rd.extE (hl.conf0 hw) hx j u hu))))|refine XL.alloc rfl rfl rfl (k:=fun g=>?_)|refine Qj rfl rfl rfl rfl rfl ?_|refine Qk rfl rfl rfl rfl rfl rfl ?_|refine XL.storeP rfl rfl rfl rfl rfl rfl ?_|refine Qf ?_)<;>(refine X.sd (.b 0 (.c 1 (.a 2 (.a 3 (.a 4 (.a 5 (.a 6 (.a 7 (.a 8 (.a 9 (.a 10 (.a 11 (.b 12 (.a 14 (.a 15 (.b 16 (.c 13 (.a 17 (.a 18 (.a 19 .n)))))))))))))))))))) mixed (by kernel_rfl) ?_<;>repeat' first|refine XL.skipC rfl rfl rfl rfl ?_|refine Z.p rfl ?_|(refine Za 1 ?_;((refine XL.call rfl rfl rfl rfl (fun w hw=>mayE_spec x w) (Zs ?_));(by_cases hm:mayE x<;>first|rw [if_pos hm]|rw [if_neg hm])))|(refine Za 5 ?_;(first|refine XL.split0 rfl rfl rfl rfl (D.int rfl rfl rfl) (fun h1=>?_) (fun h1=>?_)))|(refine Za 10 ?_;(obtain⟨y,hy⟩:=Qt (l:=l) (k:=i-1) (by omega);have hym:=(hok (i-1) y (by omega) hy).1.inE;unfold inE at hym;(apply XL.det0 rfl rfl rfl rfl;exact D.indexAddr (i-1) rfl rfl (by omega) (by omega) (hl.sm (by omega)))))|(refine Za 12 ?_;((apply XL.det1 rfl rfl rfl rfl;exact D.loadN (cs:=[Zj y.a,Zj y.n]) rfl rfl (fun w hw j u hu=>by have:=Rd.extE (hl.conf0 hw) hy j u (by rcases j with _|_|j<;>simp at hu ⊢ <;>exact hu);exact this))))|(refine Za 13 ?_;((refine XL.call rfl rfl rfl rfl (fun w hw=>End_spec _ _ w) ?_;rintro v B' ⟨rfl,rfl⟩;refine Qg ?_);rw [D.wrap64_fit (by omega)]))|(refine Za 17 ?_;(first|refine XL.split0 rfl rfl rfl rfl (D.int rfl rfl rfl) (fun h2=>?_) (fun h2=>?_)))|refine Z.l1 rfl rfl rfl ?_|refine Z.lN rfl rfl rfl ?_|refine Z.lP rfl rfl rfl ?_|refine Z.ct rfl (by omega) ?_|refine Z.cf rfl (by omega) ?_|refine Z.cs rfl (fun _=>?_) (fun _=>?_)|refine Z.g rfl (by omega) ?_|refine Z.w rfl ?_|refine Z.fa rfl rfl rfl ?_|refine Z.pk rfl rfl rfl rfl ?_|refine Qf ?_)<;>(first|(refine Zu ?_;(refine Zt ?_<;>repeat' first|refine Z.p rfl ?_|refine Qf ?_)<;>(apply X.r1 Tryz.results161 (Qh rfl);(focus(first|(exact⟨a9,c9,o9,rfl,.inl ⟨hok,hJ⟩,rfl⟩)|(exact⟨none,0,[],rfl,.inr ⟨fun h=>by first|exact hm (h i x hil hx).1|(have:=(h i x hil hx).2 y (by omega) hy;omega),rfl⟩,rfl⟩)));exact Zd))|refine Zm ?_))<;>(first|refine N.block ?_|refine Ql ?_|refine Ex.out rfl ?_))<;>(first|refine Ex.then ?_|refine N.next ?_<;>(refine Zx ?_<;>repeat' first|refine Z.p rfl ?_|refine Z.g rfl (by omega) ?_|refine Z.w rfl ?_|refine XL.nil ?_)))))<;>(first|refine Ex.then ?_|((refine Qp ((i+1)) ?_ ?_ Zb Zd;(focus(exact⟨by omega,hok.step hx hm (by intro y' h3 h';first|omega|(rw [hy] at h';cases h';omega))⟩));(focus(first|omega|(dsimp only;omega)))))))<;>(first|refine N.block ?_|refine Ql ?_|refine Ex.out rfl ?_))<;>(first|refine Ex.then ?_|refine N.next ?_<;>((refine Zt ?_<;>repeat' first|refine Z.p rfl ?_|(refine Za 1 ?_;(obtain rfl:i=l.length:=(by omega);(refine XL.call rfl rfl rfl rfl (fun w hw=>joinedE_spec w a c l 0 (hl.conf0 hw) hok.rise0 hbd) ?_;rintro v B' ⟨a9,c9,o9,rfl,hJ,rfl⟩;refine Qg ?_)))|refine Qf ?_)<;>(apply X.r1 Tryz.results161 (Qh rfl);(focus(first|(exact⟨a9,c9,o9,rfl,.inl ⟨hok,hJ⟩,rfl⟩)|(exact⟨none,0,[],rfl,.inr ⟨fun h=>by first|exact hm (h i x hil hx).1|(have:=(h i x hil hx).2 y (by omega) hy;omega),rfl⟩,rfl⟩)));exact Zd))))
end Go.Lx
namespace Go.Lx
open Go.Proofs
def nearE (x:Ext):Prop:= ¬(mayS (x.a,x.n)∧x.a+x.n>300)
instance (x:Ext):Decidable (nearE x):=by unfold nearE;infer_instance
end Go.Lx
