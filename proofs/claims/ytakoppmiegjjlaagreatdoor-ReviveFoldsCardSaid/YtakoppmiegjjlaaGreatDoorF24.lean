import Derived.Test.YtakoppmiegjjlaaGreatDoorF23
import Derived.Test.YtakoppmiegjjlaaGreatDoorF21
import Derived.Test.YtakoppmiegjjlaaGreatDoorF4
set_option linter.unusedVariables false
set_option linter.unusedSimpArgs false
set_option maxRecDepth 20000
set_option maxHeartbeats 4000000
namespace Go.Lx
def cntI (f:Int→Bool) (a:Int):Nat→Int
  |0=>0
  |n+1=>cntI f a n+if f (a+n) then 1 else 0
theorem cntI_congr{f g:Int→Bool}{a:Int}:∀ {n:Nat},(∀ t,a≤t→t<a+n→f t=g t)→cntI f a n=cntI g a n
  |0,_=>rfl
  |n+1,h=>by simp only [cntI];rw [cntI_congr (fun t h1 h2=>h t h1 (by omega)),h (a+n) (by omega) (by omega)]
theorem cntI_add(f:Int→Bool)(a:Int)(m:Nat):∀ n:Nat,cntI f a (m+n)=cntI f a m+cntI f (a+m) n
  |0=>by simp [cntI]
  |n+1=>by
    rw [←Nat.add_assoc]
    simp only [cntI,cntI_add f a m n]
    rw [show a+((m+n:Nat):Int)=a+m+n by omega]
    omega
theorem cntI_none{f:Int→Bool}{a:Int}:∀ {n:Nat},(∀ t,a≤t→t<a+n→f t=false)→cntI f a n=0
  |0,_=>rfl
  |n+1,h=>by simp only [cntI];rw [cntI_none (fun t h1 h2=>h t h1 (by omega)),h (a+n) (by omega) (by omega)];rfl
theorem cntI_all{f:Int→Bool}{a:Int}:∀ {n:Nat},(∀ t,a≤t→t<a+n→f t=true)→cntI f a n=n
  |0,_=>rfl
  |n+1,h=>by simp only [cntI];rw [cntI_all (fun t h1 h2=>h t h1 (by omega)),h (a+n) (by omega) (by omega)];simp
def sumC (c:Ext→Bool):List Ext→Int
  |[]=>0
  |y::l=>(if c y then y.n else 0)+sumC c l
theorem sumC_cnt(c:Ext→Bool)(f:Int→Bool):∀ (l:List Ext) (lo:Int) (n:Nat),Rise lo l→endE lo l≤lo+n→(∀ t,lo≤t→t<lo+n→(f t=true↔∃ y∈l,y.a≤t∧t<y.a+y.n∧c y=true))→sumC c l=cntI f lo n
  |[],lo,n,_,_,h=>by
    rw [cntI_none]
    · rfl
    · intro t h1 h2
      have:=h t h1 h2
      cases hf:f t with
      |false=>rfl
      |true=>obtain⟨y,hy,_⟩:=this.1 hf;cases hy
  |x::l,lo,n,⟨r1,r2,r3⟩,he,h=>by
    have r2':=r2
    unfold inE at r2'
    have hle:=r3.le_end
    simp only [endE] at he
    obtain⟨m1,hm1⟩:∃ m:Nat,x.a-lo=m:=⟨(x.a-lo).toNat,by omega⟩
    obtain⟨m2,hm2⟩:∃ m:Nat,x.n=m:=⟨x.n.toNat,by omega⟩
    obtain⟨m3,hm3⟩:∃ m:Nat,n=m1+(m2+m):=⟨n-m1-m2,by omega⟩
    subst hm3
    have ih:=sumC_cnt c f l (x.a+x.n) m3 r3 (by omega) (fun t h1 h2=>by
      rw [h t (by omega) (by omega)]
      constructor
      · rintro⟨y,hy,h3,h4,h5⟩
        rcases List.mem_cons.1 hy with rfl|hy
        · omega
        · exact⟨y,hy,h3,h4,h5⟩
      · rintro⟨y,hy,h3⟩
        exact⟨y,List.mem_cons_of_mem _ hy,h3⟩)
    rw [cntI_add,cntI_add]
    have e0:cntI f lo m1=0:=cntI_none (fun t h1 h2=>by
      cases hf:f t with
      |false=>rfl
      |true=>
        obtain⟨y,hy,h3,h4,_⟩:=(h t h1 (by omega)).1 hf
        rcases List.mem_cons.1 hy with rfl|hy
        · omega
        · have:=(r3.mem hy).2;omega)
    have e1:∀ t,x.a≤t→t<x.a+x.n→(f t=true↔c x=true):=fun t h1 h2=>by
      rw [h t (by omega) (by omega)]
      constructor
      · rintro⟨y,hy,h3,h4,h5⟩
        rcases List.mem_cons.1 hy with rfl|hy
        · exact h5
        · have:=(r3.mem hy).2;omega
      · intro h5
        exact⟨x,List.mem_cons_self ..,h1,h2,h5⟩
    simp only [sumC,ih,e0]
    rw [show lo+(m1:Int)=x.a by omega,show x.a+(m2:Int)=x.a+x.n by omega]
    cases hc:c x with
    |true=>
      rw [cntI_all (a:=x.a) (n:=m2) (fun t h1 h2=>(e1 t h1 (by omega)).2 hc),if_pos rfl]
      omega
    |false=>
      rw [cntI_none (a:=x.a) (n:=m2) (fun t h1 h2=>by cases hf:f t with|false=>rfl|true=>rw [(e1 t h1 (by omega)).1 hf] at hc;cases hc)]
      simp
end Go.Lx
namespace Go.Lx
def stepS (sq:Int) (σ:Sig) (p:Int) (x:Ext):Sig:=if PutE x then updE σ ⟨x.a,x.n,sq,p⟩ else movS σ ⟨x.a,x.n,x.q,x.p⟩ sq p
def partsN (σ:Sig) (sq:Int) (l:List Ext):Nat→Sig
  |0=>σ
  |i+1=>match l[i]? with
    |some x=>stepS sq (partsN σ sq l i) (secs (l.take i)) x
    |none=>partsN σ sq l i
theorem partsN_succ{σ:Sig}{sq:Int}{l:List Ext}{i:Nat}{x:Ext}(hx:l[i]?=some x):partsN σ sq l (i+1)=stepS sq (partsN σ sq l i) (secs (l.take i)) x:=by
  simp only [partsN,hx]
def applyS (σ:Sig) (o:Dob):Sig:=partsN (o.cs.foldl cutE σ) o.sq o.ps o.ps.length
open Classical in
noncomputable def dS (P:Int→Prop) (σ τ:Sig):Sig:=fun t=>if P t∧σ t=τ t then none else σ t
def covT (l:List Ext) (t:Int):Prop:=∃ x∈l,x.a≤t∧t<x.a+x.n
theorem dS_at{P Q:Int→Prop}{σ τ:Sig}{t:Int}(h:P t↔Q t):dS P σ τ t=dS Q σ τ t:=by
  unfold dS
  by_cases hP:P t∧σ t=τ t
  · rw [if_pos hP,if_pos ⟨h.1 hP.1,hP.2⟩]
  · rw [if_neg hP,if_neg (fun g=>hP ⟨h.2 g.1,g.2⟩)]
theorem dS_off{P Q:Int→Prop}{σ τ:Sig}{t:Int}(h:σ t=none):dS P σ τ t=dS Q σ τ t:=by
  unfold dS
  rw [h]
  split<;>split<;>rfl
noncomputable def difS (σ τ:Sig):Sig:=dS (fun _=>True) σ τ
theorem dS_all{l:List Ext}{σ τ:Sig}(h:IsMap l τ):dS (covT l) σ τ=difS σ τ:=by
  funext t
  unfold difS dS
  by_cases hc:covT l t
  · by_cases he:σ t=τ t
    · rw [if_pos ⟨hc,he⟩,if_pos ⟨trivial,he⟩]
    · rw [if_neg (fun h=>he h.2),if_neg (fun h=>he h.2)]
  · have hn:τ t=none:=by
      cases ht:τ t with
      |none=>rfl
      |some s=>
        obtain⟨x,hx,h1,h2,_⟩:=(h.at_ t s).2 ht
        exact absurd ⟨x,hx,h1,h2⟩ hc
    rw [if_neg (fun h=>hc h.1)]
    by_cases he:σ t=τ t
    · rw [if_pos ⟨trivial,he⟩,he,hn]
    · rw [if_neg (fun h=>he h.2)]
theorem dS_step{P:Int→Prop}{σ τ:Sig}{x y:Ext}{I:List Ext}{k:Nat}(hI:IsFind (dS P σ τ) (x.a,x.n) I)(hy:I[k]?=some y)(hx:∀ t,x.a≤t→t<x.a+x.n→τ t=some (x.q,x.p+(t-x.a))):
    (y.q=x.q∧y.p-y.a=x.p-x.a→cutE (dS (fun t=>P t∨covT (I.take k) t) σ τ) (y.a,y.n)=dS (fun t=>P t∨covT (I.take (k+1)) t) σ τ)∧
    (¬(y.q=x.q∧y.p-y.a=x.p-x.a)→dS (fun t=>P t∨covT (I.take k) t) σ τ=dS (fun t=>P t∨covT (I.take (k+1)) t) σ τ):=by
  have hym:=List.mem_of_getElem? hy
  have hcov:∀ t,covT (I.take (k+1)) t↔covT (I.take k) t∨(y.a≤t∧t<y.a+y.n):=fun t=>by
    rw [Qw hy]
    unfold covT
    constructor
    · rintro⟨z,hz,h1⟩
      rcases List.mem_append.1 hz with q|q
      · exact .inl ⟨z,q,h1⟩
      · obtain rfl:z=y:=by simpa using q
        exact .inr h1
    · rintro(⟨z,hz,h1⟩|h1)
      · exact⟨z,List.mem_append_left _ hz,h1⟩
      · exact⟨y,by simp,h1⟩
  have hval:∀ t,y.a≤t→t<y.a+y.n→σ t=some (y.q,y.p+(t-y.a))∧τ t=some (x.q,x.p+(t-x.a)):=fun t h1 h2=>by
    obtain⟨h3,h4,h5⟩:=(hI.at_ t (y.q,y.p+(t-y.a))).1 ⟨y,hym,h1,h2,rfl⟩
    refine⟨?_,hx t h4 h5⟩
    unfold dS at h3
    split at h3
    · cases h3
    · exact h3
  constructor
  · intro hq
    funext t
    unfold cutE
    by_cases ht:y.a≤t∧t<y.a+y.n
    · rw [if_pos ht]
      obtain⟨h1,h2⟩:=hval t ht.1 ht.2
      unfold dS
      rw [if_pos]
      refine⟨.inr ((hcov t).2 (.inr ht)), ?_⟩
      rw [h1,h2]
      congr 2
      · exact hq.1
      · omega
    · rw [if_neg ht]
      have hiff:covT (I.take (k+1)) t↔covT (I.take k) t:=by
        rw [hcov t]
        exact⟨fun h=>h.resolve_right ht,.inl⟩
      exact dS_at (or_congr Iff.rfl hiff.symm)
  · intro hq
    funext t
    by_cases ht:y.a≤t∧t<y.a+y.n
    · obtain⟨h1,h2⟩:=hval t ht.1 ht.2
      have hne:σ t≠τ t:=fun h=>hq (by
        rw [h1,h2] at h
        have h3:=Option.some.inj h
        have h4:=congrArg Prod.fst h3
        have h5:=congrArg Prod.snd h3
        simp only at h4 h5
        exact⟨h4,by omega⟩)
      unfold dS
      rw [if_neg (fun h=>hne h.2),if_neg (fun h=>hne h.2)]
    · have hiff:covT (I.take (k+1)) t↔covT (I.take k) t:=by
        rw [hcov t]
        exact⟨fun h=>h.resolve_right ht,.inl⟩
      exact dS_at (or_congr Iff.rfl hiff.symm)
theorem dS_span{P:Int→Prop}{σ τ:Sig}{x:Ext}{I:List Ext}{l:List Ext}{i:Nat}(hI:IsFind (dS P σ τ) (x.a,x.n) I)(hP:∀ t,P t↔covT (l.take i) t)(hx:l[i]?=some x):dS (fun t=>P t∨covT I t) σ τ=dS (covT (l.take (i+1))) σ τ:=by
  have hcov:∀ t,covT (l.take (i+1)) t↔covT (l.take i) t∨(x.a≤t∧t<x.a+x.n):=fun t=>by
    rw [Qw hx]
    unfold covT
    constructor
    · rintro⟨z,hz,h1⟩
      rcases List.mem_append.1 hz with q|q
      · exact .inl ⟨z,q,h1⟩
      · obtain rfl:z=x:=by simpa using q
        exact .inr h1
    · rintro(⟨z,hz,h1⟩|h1)
      · exact⟨z,List.mem_append_left _ hz,h1⟩
      · exact⟨x,by simp,h1⟩
  have hin:∀ t,covT I t→x.a≤t∧t<x.a+x.n:=fun t ⟨y,hy,h1,h2⟩=>((hI.at_ t (y.q,y.p+(t-y.a))).1 ⟨y,hy,h1,h2,rfl⟩).2
  funext t
  by_cases hp:P t
  · exact dS_at ⟨fun _=>(hcov t).2 (.inl ((hP t).1 hp)),fun _=> .inl hp⟩
  · by_cases hs:x.a≤t∧t<x.a+x.n
    · by_cases hc:covT I t
      · exact dS_at ⟨fun _=>(hcov t).2 (.inr hs),fun _=> .inr hc⟩
      · refine dS_off ?_
        cases hσ:σ t with
        |none=>rfl
        |some s=>
          have h3:dS P σ τ t=some s:=by
            unfold dS
            rw [if_neg (fun h=>hp h.1),hσ]
          obtain⟨y,hy,h4,h5,_⟩:=(hI.at_ t s).2 ⟨h3,hs⟩
          exact absurd ⟨y,hy,h4,h5⟩ hc
    · refine dS_at ?_
      rw [hcov t]
      constructor
      · rintro(h|h)
        · exact absurd h hp
        · exact absurd (hin t h) hs
      · rintro(h|h)
        · exact .inl ((hP t).2 h)
        · exact absurd h hs
theorem dS_zero{l:List Ext}{σ τ:Sig}:dS (covT (l.take 0)) σ τ=σ:=by
  funext t
  unfold dS
  rw [if_neg]
  rintro⟨⟨x,hx,_⟩,_⟩
  simp at hx
theorem dS_in{P:Int→Prop}{I:List Ext}{σ τ:Sig}:dS (fun t=>P t∨covT (I.take 0) t) σ τ=dS P σ τ:=by
  funext t
  refine dS_at ⟨fun h=>h.resolve_right ?_,.inl⟩
  rintro⟨x,hx,_⟩
  simp at hx
theorem extsF_get(sq:Int):∀ (l:List Ext) (p:Int) (i:Nat) (x:Ext),l[i]?=some x→(extsF sq p l)[i]?=some ⟨x.a,x.n,sq,p+secs (l.take i)⟩
  |[],_,_,_,h=>by simp at h
  |y::l,p,0,x,h=>by
    simp at h
    subst h
    simp [extsF,secs]
  |y::l,p,i+1,x,h=>by
    have h':l[i]?=some x:=by simpa using h
    have:=extsF_get sq l (p+y.n) i x h'
    simp only [extsF,List.getElem?_cons_succ,this,List.take_succ_cons]
    rw [show secs (y::l.take i)=y.n+secs (l.take i) by simp [secs],Int.add_assoc]
theorem find_may{σ:Sig}{s:Sp}{I:List Ext}{y:Ext}(h:IsFind σ s I)(hy:y∈I):mayS (y.a,y.n):=by
  have h1:=(h.rise.mem hy).1
  unfold inE at h1
  unfold mayS
  dsimp only
  omega
end Go.Lx
namespace Go.Lx
open Go.Proofs
theorem OrdP.spans{sq:Int}{l:List Ext}(h:OrdP sq l l.length):∀ x∈spansOf l,mayS x:=fun x hx=>by
  unfold spansOf at hx
  obtain⟨y,hy,rfl⟩:=List.mem_map.1 hx
  obtain⟨i,hi⟩:=List.mem_iff_getElem?.1 hy
  exact(h i y (Qv hi) hi).1.1
theorem spansOf_len(l:List Ext):(spansOf l).length=l.length:=by unfold spansOf;rw [List.length_map]
theorem meet_none{o:List Sp}(h:SetOK o o.length):o.length=0↔∀ t,¬inS o t:=by
  constructor
  · intro h0 t ⟨x,hx,_⟩
    rw [List.length_eq_zero_iff.1 h0] at hx
    cases hx
  · intro hn
    cases o with
    |nil=>rfl
    |cons x l=>
      have hm:=h.may (x:=x) (k:=0) (by simp) rfl
      unfold mayS at hm
      exact absurd ⟨x,List.mem_cons_self,by omega,by omega⟩ (hn x.1)
theorem dLaid_spec(w:World)(o:Dob)(a b:Option Addr)(c d:Nat)(hl:Rd w 4 a o.ps.length c (encE o.ps))(hcs:Rd w 2 b o.cs.length d (encS o.cs)):Spec Tryz.prog 157 #[.agg #[.int .u64 ((o.k:Nat):Int),Zj o.ep,Zj o.sq,Zj o.up,.slice a o.ps.length c,.slice b o.cs.length d,Zi o.d]] w (fun _=>False) (fun v A=>∃ f:Bool,v= .bool f∧(f=true↔LaidP o)∧A=[]):=by
  have hbd:=hl.bd'
  refine Zn Tryz.func157 Tryz.ntmps157 ?_
  ((refine Zt ?_<;>repeat' first|refine Z.p rfl ?_|(refine Za 0 ?_;(refine Qr rfl rfl rfl rfl (k:=fun g1=>?_)))|refine Qf ?_)<;>refine X.seq ?_<;>((refine Zt ?_<;>repeat' first|refine Z.p rfl ?_|(refine Za 3 ?_;(refine Qn rfl rfl rfl rfl (D.int rfl rfl rfl) (fun h1=>?_) (fun h1=>?_)))|(refine Za 8 ?_;(first|refine XL.skipF rfl rfl rfl rfl ?_|refine Qn rfl rfl rfl rfl (D.int rfl rfl rfl) (fun h2=>?_) (fun h2=>?_)))|refine Z.fa rfl rfl rfl ?_|refine Z.l1 rfl rfl rfl ?_|refine Z.lN rfl rfl rfl ?_|refine Z.lP rfl rfl rfl ?_|refine Z.ln rfl rfl ?_|refine Z.lnL rfl rfl ?_|refine Z.lnS rfl rfl ?_|refine Z.pk rfl rfl rfl rfl ?_|refine Qf ?_)<;>(first|(refine Zu ?_;(refine Zt ?_<;>repeat' first|refine Z.p rfl ?_|refine Qf ?_)<;>(apply X.r1 Tryz.results157 (Qh rfl);(focus(first|exact⟨false,rfl,iff_of_false bF (fun h=>absurd h.1 (by omega)),rfl⟩|exact⟨false,rfl,iff_of_false bF (fun h=>absurd h.2.1 (by omega)),rfl⟩|exact⟨false,rfl,iff_of_false bF (fun h=>hm (h.2.2.1 i x hil hx).1),rfl⟩|exact⟨false,rfl,iff_of_false bF (fun h=>absurd (h.2.2.1.endE hil hx) (by omega)),rfl⟩|exact⟨false,rfl,iff_of_false bF (fun h=>(hJ.elim (fun g=>h5 g.1) (fun g=>g.2.1 (by rw [hq];exact hOe.spans)))),rfl⟩|exact⟨true,rfl,iff_of_true rfl ⟨by omega,by omega,hOe,(hM.elim (fun g=>g.2.1.2) (fun g=>by omega)),fun t t1 t2=>(hM.elim (fun g=>(meet_none g.2.2.1).1 (by omega) t ((g.2.2.2.1 t).2 ⟨(hin t).2 (by rw [hq];exact t1),t2⟩)) (fun g=>by omega))⟩,rfl⟩|exact⟨false,rfl,iff_of_false bF (fun h=>(hM.elim (fun g=>h6 g.1) (fun g=>g.2.1 ⟨hal,h.2.2.2.1⟩))),rfl⟩|exact⟨false,rfl,iff_of_false bF (fun h=>(hM.elim (fun g=>absurd ((meet_none g.2.2.1).2 (fun t ht=>(h.2.2.2.2 t (by rw [←hq];exact(hin t).1 ((g.2.2.2.1 t).1 ht).1) ((g.2.2.2.1 t).1 ht).2))) (by omega)) (fun g=>by omega))),rfl⟩));exact Zd))|refine Zm ?_))<;>(first|refine Ex.then ?_|refine N.next ?_<;>((refine Zt ?_<;>repeat' first|refine Z.p rfl ?_|refine Qf ?_)<;>refine X.seq ?_<;>((refine Zt ?_<;>repeat' first|refine Z.p rfl ?_|refine Z.fa rfl rfl rfl ?_|refine Z.l1 rfl rfl rfl ?_|refine Z.lN rfl rfl rfl ?_|refine Z.lP rfl rfl rfl ?_|refine Z.ln rfl rfl ?_|refine Z.lnL rfl rfl ?_|refine Z.lnS rfl rfl ?_|refine Qf ?_)<;>refine X.block ?_<;>((refine Qs (ι:=Nat) (fun i=>[(1,.pointer (some ⟨g1,0,none⟩)),(2,.bool false),(3,Zj (endP o.ps i)),(20,.slice a o.ps.length c),(21,Zj o.ps.length),(22,Zj ((i:Nat):Int))]) (fun i=>[cells g1 [.int .u64 ((o.k:Nat):Int),Zj o.ep,Zj o.sq,Zj o.up,.slice a o.ps.length c,.slice b o.cs.length d,Zi o.d] 41]) (fun i=>i≤o.ps.length∧OrdP o.sq o.ps i) (fun i=>o.ps.length-i) (0) ?_ Zb Zd ?_;(focus(exact⟨Nat.zero_le _,fun _ _ h=>by omega⟩));rintro i ⟨hi,hO⟩;(dsimp only at *))<;>((refine Zt ?_<;>repeat' first|(refine Za 0 ?_;(refine Qn rfl rfl rfl rfl (D.int rfl rfl rfl) (fun h3=>?_) (fun h3=>?_)))|refine Qf ?_)<;>refine X.seq ?_<;>((first|refine Zp ?_|refine Zq ?_))<;>(first|refine Ex.then ?_|refine N.next ?_<;>(refine X.seq ?_<;>(refine X.block ?_<;>((refine Zt ?_<;>repeat' first|(refine Za 0 ?_;(have hil:i<o.ps.length:=(by omega);(obtain⟨x,hx⟩:=Qt hil);(apply Qm rfl rfl rfl rfl;exact D.indexAddr i rfl rfl rfl hil (hl.sm (by omega)))))|(refine Za 1 ?_;((apply Qu rfl rfl rfl rfl;exact D.loadN rfl rfl (fun w hw j u hu=>Rd.ext (hl.conf0 hw) hx j u hu))))|refine XL.alloc rfl rfl rfl (k:=fun g=>?_)|refine Qj rfl rfl rfl rfl rfl ?_|refine Qk rfl rfl rfl rfl rfl rfl ?_|refine XL.storeP rfl rfl rfl rfl rfl rfl ?_|refine Qf ?_)<;>refine X.seq ?_<;>((refine Zt ?_<;>repeat' first|refine Z.p rfl ?_|(refine Za 3 ?_;((refine XL.call rfl rfl rfl rfl (fun w hw=>dMay_spec x o.sq w) (Zs ?_));(by_cases hm:MayP o.sq x<;>first|rw [decide_eq_true hm]|rw [decide_eq_false hm])))|(refine Za 10 ?_;(first|refine XL.skipF rfl rfl rfl rfl ?_|refine Qn rfl rfl rfl rfl (D.int rfl rfl rfl) (fun h4=>?_) (fun h4=>?_)))|refine Z.l1 rfl rfl rfl ?_|refine Z.lN rfl rfl rfl ?_|refine Z.lP rfl rfl rfl ?_|refine Z.fa rfl rfl rfl ?_|refine Z.pk rfl rfl rfl rfl ?_|refine Qf ?_)<;>(first|(refine Zu ?_;(refine Zt ?_<;>repeat' first|refine Z.p rfl ?_|refine Qf ?_)<;>(apply X.r1 Tryz.results157 (Qh rfl);(focus(first|exact⟨false,rfl,iff_of_false bF (fun h=>absurd h.1 (by omega)),rfl⟩|exact⟨false,rfl,iff_of_false bF (fun h=>absurd h.2.1 (by omega)),rfl⟩|exact⟨false,rfl,iff_of_false bF (fun h=>hm (h.2.2.1 i x hil hx).1),rfl⟩|exact⟨false,rfl,iff_of_false bF (fun h=>absurd (h.2.2.1.endE hil hx) (by omega)),rfl⟩|exact⟨false,rfl,iff_of_false bF (fun h=>(hJ.elim (fun g=>h5 g.1) (fun g=>g.2.1 (by rw [hq];exact hOe.spans)))),rfl⟩|exact⟨true,rfl,iff_of_true rfl ⟨by omega,by omega,hOe,(hM.elim (fun g=>g.2.1.2) (fun g=>by omega)),fun t t1 t2=>(hM.elim (fun g=>(meet_none g.2.2.1).1 (by omega) t ((g.2.2.2.1 t).2 ⟨(hin t).2 (by rw [hq];exact t1),t2⟩)) (fun g=>by omega))⟩,rfl⟩|exact⟨false,rfl,iff_of_false bF (fun h=>(hM.elim (fun g=>h6 g.1) (fun g=>g.2.1 ⟨hal,h.2.2.2.1⟩))),rfl⟩|exact⟨false,rfl,iff_of_false bF (fun h=>(hM.elim (fun g=>absurd ((meet_none g.2.2.1).2 (fun t ht=>(h.2.2.2.2 t (by rw [←hq];exact(hin t).1 ((g.2.2.2.1 t).1 ht).1) ((g.2.2.2.1 t).1 ht).2))) (by omega)) (fun g=>by omega))),rfl⟩));exact Zd))|refine Zm ?_))<;>(first|refine Ex.then ?_|refine N.next ?_<;>(refine Zx ?_<;>repeat' first|refine Z.p rfl ?_|(refine Za 2 ?_;(have hms:=hm.1;unfold mayS at hms;(refine XL.call rfl rfl rfl rfl (fun w hw=>dEnd_spec (x.a,x.n) (by dsimp only at *;omega) w) (Zs ?_));rw [show(x.a,x.n).1+(x.a,x.n).2=endP o.ps (i+1) from(endP_succ hx).symm]))|refine Z.fa rfl rfl rfl ?_|refine Z.l1 rfl rfl rfl ?_|refine Z.lN rfl rfl rfl ?_|refine Z.lP rfl rfl rfl ?_|refine XL.nil ?_)))<;>(first|refine N.block ?_|refine Ql ?_|refine Ex.out rfl ?_))<;>(first|refine Ex.then ?_|refine N.next ?_<;>(refine Zx ?_<;>repeat' first|refine Z.p rfl ?_|refine Z.g rfl (by omega) ?_|refine Z.w rfl ?_|refine XL.nil ?_)))))<;>(first|refine Ex.then ?_|((refine Qp ((i+1)) ?_ ?_ Zb Zd;(focus(exact⟨hil,hO.stepE hx hm (by omega)⟩));(focus(first|omega|(dsimp only;omega)))))))<;>(first|refine N.block ?_|refine Ql ?_|refine Ex.out rfl ?_))<;>(first|refine Ex.then ?_|refine N.next ?_<;>((refine Zt ?_<;>repeat' first|refine Z.p rfl ?_|(refine Za 1 ?_;(have hOe:OrdP o.sq o.ps o.ps.length:=(by have e:i=o.ps.length:=(by omega);rw [e] at hO;exact hO);(refine XL.call rfl rfl rfl rfl (fun w hw=>spans_spec w o a b c d (hl.conf0 hw) (by omega)) ?_;rintro v B' ⟨a1,c1,q,rfl,hq,rfl⟩;refine Qg ?_);have hql:q.length=o.ps.length:=(by rw [hq,spansOf_len])))|(refine Za 2 ?_;((refine XL.call rfl rfl rfl rfl (fun w hw=>Join_spec w a1 c1 q (hw.rd (a:=a1)) (by omega)) ?_;rintro v B' ⟨a2,c2,al,e2,rfl,hJ,rfl⟩;refine Qg ?_)))|refine Z.l1 rfl rfl rfl ?_|refine Z.lN rfl rfl rfl ?_|refine Z.lP rfl rfl rfl ?_|refine Qf ?_)<;>refine X.seq ?_<;>((refine Zt ?_<;>repeat' first|refine Z.p rfl ?_|(refine Za 1 ?_;(refine Qn rfl rfl rfl rfl (D.int rfl rfl rfl) (fun h5=>?_) (fun h5=>?_)))|refine Qf ?_)<;>(first|(refine Zu ?_;(refine Zt ?_<;>repeat' first|refine Z.p rfl ?_|refine Qf ?_)<;>(apply X.r1 Tryz.results157 (Qh rfl);(focus(first|exact⟨false,rfl,iff_of_false bF (fun h=>absurd h.1 (by omega)),rfl⟩|exact⟨false,rfl,iff_of_false bF (fun h=>absurd h.2.1 (by omega)),rfl⟩|exact⟨false,rfl,iff_of_false bF (fun h=>hm (h.2.2.1 i x hil hx).1),rfl⟩|exact⟨false,rfl,iff_of_false bF (fun h=>absurd (h.2.2.1.endE hil hx) (by omega)),rfl⟩|exact⟨false,rfl,iff_of_false bF (fun h=>(hJ.elim (fun g=>h5 g.1) (fun g=>g.2.1 (by rw [hq];exact hOe.spans)))),rfl⟩|exact⟨true,rfl,iff_of_true rfl ⟨by omega,by omega,hOe,(hM.elim (fun g=>g.2.1.2) (fun g=>by omega)),fun t t1 t2=>(hM.elim (fun g=>(meet_none g.2.2.1).1 (by omega) t ((g.2.2.2.1 t).2 ⟨(hin t).2 (by rw [hq];exact t1),t2⟩)) (fun g=>by omega))⟩,rfl⟩|exact⟨false,rfl,iff_of_false bF (fun h=>(hM.elim (fun g=>h6 g.1) (fun g=>g.2.1 ⟨hal,h.2.2.2.1⟩))),rfl⟩|exact⟨false,rfl,iff_of_false bF (fun h=>(hM.elim (fun g=>absurd ((meet_none g.2.2.1).2 (fun t ht=>(h.2.2.2.2 t (by rw [←hq];exact(hin t).1 ((g.2.2.2.1 t).1 ht).1) ((g.2.2.2.1 t).1 ht).2))) (by omega)) (fun g=>by omega))),rfl⟩));exact Zd))|refine Zm ?_))<;>(first|refine Ex.then ?_|refine N.next ?_<;>((refine Zt ?_<;>repeat' first|refine Z.p rfl ?_|(refine Za 3 ?_;((obtain⟨hal,hin,hlal⟩:SetOK al al.length∧(∀ t,inS al t↔inS q t)∧al.length≤q.length:=(by rcases hJ with⟨_,_,g1,g2,g3⟩|⟨g,_⟩;exact⟨g1,g2,g3⟩;omega));(refine XL.call rfl rfl rfl rfl (fun w hw=>Meet_spec w a2 b c2 d al o.cs (hw.rd (a:=a2)) (hcs.conf0 hw) (by omega)) ?_;rintro v B' ⟨a3,c3,bo,e3,rfl,hM,rfl⟩;refine Qg ?_)))|refine Z.fa rfl rfl rfl ?_|refine Z.l1 rfl rfl rfl ?_|refine Z.lN rfl rfl rfl ?_|refine Z.lP rfl rfl rfl ?_|refine Qf ?_)<;>(refine Zt ?_<;>repeat' first|refine Z.p rfl ?_|(refine Za 1 ?_;(refine Qn rfl rfl rfl rfl (D.int rfl rfl rfl) (fun h6=>?_) (fun h6=>?_)))|(refine Za 5 ?_;(first|refine XL.skipF rfl rfl rfl rfl ?_|refine Qn rfl rfl rfl rfl (D.int rfl rfl rfl) (fun h7=>?_) (fun h7=>?_)))|refine Z.ln rfl rfl ?_|refine Z.lnL rfl rfl ?_|refine Z.lnS rfl rfl ?_|refine Z.pk rfl rfl rfl rfl ?_|refine Qf ?_)<;>(apply X.r1 Tryz.results157 (Qh rfl);(focus(first|exact⟨false,rfl,iff_of_false bF (fun h=>absurd h.1 (by omega)),rfl⟩|exact⟨false,rfl,iff_of_false bF (fun h=>absurd h.2.1 (by omega)),rfl⟩|exact⟨false,rfl,iff_of_false bF (fun h=>hm (h.2.2.1 i x hil hx).1),rfl⟩|exact⟨false,rfl,iff_of_false bF (fun h=>absurd (h.2.2.1.endE hil hx) (by omega)),rfl⟩|exact⟨false,rfl,iff_of_false bF (fun h=>(hJ.elim (fun g=>h5 g.1) (fun g=>g.2.1 (by rw [hq];exact hOe.spans)))),rfl⟩|exact⟨true,rfl,iff_of_true rfl ⟨by omega,by omega,hOe,(hM.elim (fun g=>g.2.1.2) (fun g=>by omega)),fun t t1 t2=>(hM.elim (fun g=>(meet_none g.2.2.1).1 (by omega) t ((g.2.2.2.1 t).2 ⟨(hin t).2 (by rw [hq];exact t1),t2⟩)) (fun g=>by omega))⟩,rfl⟩|exact⟨false,rfl,iff_of_false bF (fun h=>(hM.elim (fun g=>h6 g.1) (fun g=>g.2.1 ⟨hal,h.2.2.2.1⟩))),rfl⟩|exact⟨false,rfl,iff_of_false bF (fun h=>(hM.elim (fun g=>absurd ((meet_none g.2.2.1).2 (fun t ht=>(h.2.2.2.2 t (by rw [←hq];exact(hin t).1 ((g.2.2.2.1 t).1 ht).1) ((g.2.2.2.1 t).1 ht).2))) (by omega)) (fun g=>by omega))),rfl⟩));exact Zd))))))))
theorem numbers_spec(w:World)(H:Nat→Prop)(g:Nat)(a al:Option Addr)(c cl:Nat)(l:Bs)(xs:List Int)(hown:Sep [cells g [.slice a (List.length l) c] 244,own 5 1 (.slice a (List.length l) c) (List.length l) (encY l)] w H)(hl:RdX w H 1 al xs.length cl (encN xs))(hx:∀ x∈xs,0≤x∧x<9223372036854775808)(hbd:l.length+9*xs.length≤1000000000):Spec Tryz.prog 223 #[.pointer (some ⟨g,0,none⟩),.slice al xs.length cl] w H (fun v A=>∃ a' c' o,v= .tuple #[]∧o=l++xs.flatMap (fun x=>varB x.toNat)∧A=[cells g [.slice a' (List.length o) c'] 244,own 5 1 (.slice a' (List.length o) c') (List.length o) (encY o)]):=by
  refine Spec.enter Tryz.func223 rfl Tryz.ntmps223 rfl hown ?_
  ((refine Zt ?_<;>repeat' first|refine Z.p rfl ?_|refine Z.ln rfl rfl ?_|refine Z.lnL rfl rfl ?_|refine Z.lnS rfl rfl ?_|refine Qf ?_)<;>refine X.block ?_<;>((refine Qs (ι:=Nat×Option Addr×Nat×Bs) (fun y=>[(0,.pointer (some ⟨g,0,none⟩)),(6,.slice al xs.length cl),(7,Zj xs.length),(8,Zj y.1)]) (fun y=>[cells g [.slice y.2.1 (List.length y.2.2.2) y.2.2.1] 244,own 5 1 (.slice y.2.1 (List.length y.2.2.2) y.2.2.1) (List.length y.2.2.2) (encY y.2.2.2)]) (fun y=>y.1≤xs.length∧y.2.2.2=l++(xs.take y.1).flatMap (fun x=>varB x.toNat)∧y.2.2.2.length≤l.length+9*y.1) (fun y=>xs.length-y.1) ((0,a,c,l)) ?_ Zb Zd ?_;(focus(exact⟨Nat.zero_le _,by simp,by simp⟩));rintro⟨i,a1,c1,o⟩ ⟨hi,ho,hol⟩;(dsimp only at *))<;>((refine Zt ?_<;>repeat' first|(refine Za 0 ?_;(refine Qn rfl rfl rfl rfl (D.int rfl rfl rfl) (fun h1=>?_) (fun h1=>?_)))|refine Qf ?_)<;>refine X.seq ?_<;>((first|refine Zp ?_|refine Zq ?_))<;>(first|refine Ex.then ?_|refine N.next ?_<;>(refine X.seq ?_<;>(refine X.block ?_<;>((refine Zt ?_<;>repeat' first|refine Z.p rfl ?_|(refine Za 0 ?_;(have hil:i<xs.length:=(by omega);(obtain⟨x,hxi⟩:=Qt hil);have hxl:=hx x (List.mem_of_getElem? hxi);have hvl:=varB_le x.toNat;(apply Qm rfl rfl rfl rfl;exact D.indexAddr i rfl rfl rfl hil (hl.rd.sm (by omega)))))|(refine Za 1 ?_;((apply Qu rfl rfl rfl rfl;exact D.load1 rfl (fun w hw=>Rd.intAt (hl.now hw) hxi))))|refine Qf ?_)<;>refine Zx ?_<;>repeat' first|refine Z.p rfl ?_|(refine Za 2 ?_;((apply Qm rfl rfl rfl rfl;exact D.convI rfl hxl)))|(refine Za 3 ?_;((refine XL.sliceL (fun n:Nat=> .int .u64 (n:Int)) encW1 [x.toNat] (fun _=>rfl) (fun _=>rfl) rfl rfl rfl rfl rfl rfl (fun _=>by infer_instance) (fun gy=>?_))))|(refine Za 4 ?_;((refine Qo [cells g [.slice a1 (List.length o) c1] 244,own 5 1 (.slice a1 (List.length o) c1) (List.length o) (encY o)] rfl rfl rfl rfl (fun w F hF hm hw=>OVar_spec w F g a1 (some ⟨gy,0,none⟩) c1 1 o [x.toNat] hF (hm.own (a:=some ⟨gy,0,none⟩)) (fun z hz=>by rw [List.mem_singleton] at hz;omega) (by simp only [List.length_cons,List.length_nil];omega)) ?_;rintro v B' ⟨a2,c2,o2,rfl,ho2,rfl⟩;refine Qg ?_);have ho2':o2=o++varB x.toNat:=(by rw [ho2];simp)))|refine XL.nil ?_)<;>(first|refine N.block ?_|refine Ql ?_|refine Ex.out rfl ?_))<;>(first|refine Ex.then ?_|refine N.next ?_<;>(refine Zx ?_<;>repeat' first|refine Z.p rfl ?_|refine Z.g rfl (by omega) ?_|refine Z.w rfl ?_|refine XL.nil ?_)))))<;>(first|refine Ex.then ?_|((refine Qp ((i+1,a2,c2,o2)) ?_ ?_ Zb Zd;(focus(exact⟨by dsimp only;omega,by dsimp only;rw [ho2',ho,Qw hxi];simp,by dsimp only;rw [ho2',List.length_append];omega⟩));(focus(first|omega|(dsimp only;omega)))))))<;>(first|refine N.block ?_|refine Ql ?_|refine Ex.out rfl ?_))<;>((repeat(first|refine Rt.then ?_|refine Rt.block ?_|refine Rt.scope ?_));(first|apply N.done (Res.r0 Tryz.results223)|apply N.doneM (Res.r0 Tryz.results223));(focus(exact⟨a1,c1,o,rfl,by rw [ho,List.take_of_length_le (by omega)],rfl⟩));exact fun w h=>h.takes)
theorem dHead_spec(w:World)(o:Dob)(a b:Option Addr)(c d:Nat)(hl:Rd w 4 a o.ps.length c (encE o.ps))(hcs:Rd w 2 b o.cs.length d (encS o.cs))(h1:NumsD o)(h2:LaidP o)(hk:o.k<18446744073709551616)(hd:o.d.length≤1000000):Spec Tryz.prog 158 #[.agg #[.int .u64 ((o.k:Nat):Int),Zj o.ep,Zj o.sq,Zj o.up,.slice a o.ps.length c,.slice b o.cs.length d,Zi o.d]] w (fun _=>False) (fun v A=>v= .string ⟨List.toArray (headD o)⟩∧A=[]):=by
  have hz:=okZ_of h1 h2 hk
  have hzp:∀ x∈o.ps,OkP x:=hz.1.1.2.2
  have hzc:∀ x∈o.cs,OkC x:=hz.1.2.2
  have hn1:=h2.1
  have hn2:=h2.2.1
  obtain⟨⟨n1,n2⟩,⟨n3,n4⟩,n5,n6⟩:=h1
  refine Zn Tryz.func158 Tryz.ntmps158 ?_
  refine X.mem (B:=[own 5 1 (Zl) 0 []]) (fun w h=>h.nilOwn 5 1) ?_
  ((refine Zt ?_<;>repeat' first|refine Z.p rfl ?_|(refine Za 0 ?_;(refine Qr rfl rfl rfl rfl (k:=fun g1=>?_)))|refine Qf ?_)<;>(refine Zt ?_<;>repeat' first|(refine Za 0 ?_;(refine XL.alloc rfl rfl rfl (k:=fun g3=>?_)))|refine Qf ?_)<;>(refine Zt ?_<;>repeat' first|(refine Za 0 ?_;(obtain⟨l0,hl0⟩:∃ l0:Bs,l0=[]:=(⟨_,rfl⟩);refine XL.mem (B:=[cells g3 [.slice none (List.length l0) 0] 244,own 5 1 (.slice none (List.length l0) 0) (List.length l0) (encY l0),cells g1 [.int .u64 ((o.k:Nat):Int),Zj o.ep,Zj o.sq,Zj o.up,.slice a o.ps.length c,.slice b o.cs.length d,Zi o.d] 41]) (fun w h=>by subst hl0;exact(h.takes:Conf _ [cells g3 [Zl] 244,own 5 1 (Zl) 0 [],cells g1 [.int .u64 ((o.k:Nat):Int),Zj o.ep,Zj o.sq,Zj o.up,.slice a o.ps.length c,.slice b o.cs.length d,Zi o.d] 41] w)) ?_;(refine XL.sliceL (fun s:Bs=>Zi s) encT1 [kdD] (fun _=>rfl) (fun _=>rfl) rfl rfl rfl rfl rfl rfl (fun _=>by infer_instance) (fun ga=>?_))))|(refine Za 1 ?_;((refine Qo [cells g3 [.slice none (List.length l0) 0] 244,own 5 1 (.slice none (List.length l0) 0) (List.length l0) (encY l0)] rfl rfl rfl rfl (fun w F hF hm hw=>ORaw_spec w F g3 none (some ⟨ga,0,none⟩) 0 1 l0 [kdD] hF (hm.own (a:=some ⟨ga,0,none⟩)) ⟨by rw [hl0];decide,by decide⟩) ?_;rintro v B' ⟨a1,c1,o1,rfl,ho1,rfl⟩;refine Qg ?_);have hk1:o1=kdD:=(by rw [ho1,hl0];rfl);have hb1:o1.length=4:=(by rw [hk1];rfl)))|refine Qf ?_)<;>(refine Zt ?_<;>repeat' first|(refine Za 2 ?_;((refine Qo [cells g3 [.slice a1 (List.length o1) c1] 244,own 5 1 (.slice a1 (List.length o1) c1) (List.length o1) (encY o1)] rfl rfl rfl rfl (fun w F hF hm hw=>OFixed_spec w F g3 a1 c1 o1 o.k 8 hF (by decide) (by omega)) ?_;rintro v B' ⟨a2,c2,o2,rfl,ho2,rfl⟩;refine Qg ?_);have hb2:o2.length=o1.length+8:=(by rw [ho2,List.length_append,fixB_len])))|refine Z.fa rfl rfl rfl ?_|refine Z.l1 rfl rfl rfl ?_|refine Z.lN rfl rfl rfl ?_|refine Z.lP rfl rfl rfl ?_|refine Qf ?_)<;>(refine Zt ?_<;>repeat' first|(refine Za 9 ?_;((refine XL.sliceL (fun n:Int=>Zj n) encN1 [o.ep,o.sq,o.up,((o.ps.length:Nat):Int)] (fun _=>rfl) (fun _=>rfl) rfl rfl rfl rfl rfl rfl (fun _=>by infer_instance) (fun gb=>?_))))|(refine Za 10 ?_;((refine Qo [cells g3 [.slice a2 (List.length o2) c2] 244,own 5 1 (.slice a2 (List.length o2) c2) (List.length o2) (encY o2)] rfl rfl rfl rfl (fun w F hF hm hw=>numbers_spec w F g3 a2 (some ⟨gb,0,none⟩) c2 4 o2 [o.ep,o.sq,o.up,((o.ps.length:Nat):Int)] hF (hm.own (a:=some ⟨gb,0,none⟩)) (fun z hz=>by simp only [List.mem_cons,List.not_mem_nil,or_false] at hz;omega) (by simp only [List.length_cons,List.length_nil];omega)) ?_;rintro v B' ⟨a3,c3,o3,rfl,ho3,rfl⟩;refine Qg ?_);have hk3:o3=kdD++(((((fixB o.k 8++varB o.ep.toNat)++varB o.sq.toNat)++varB o.up.toNat)++varB o.ps.length)):=(by rw [ho3,ho2,hk1];simp);have hb3:o3.length≤60:=(by have q1:=varB_le o.ep.toNat;have q2:=varB_le o.sq.toNat;have q3:=varB_le o.up.toNat;have q4:=varB_le o.ps.length;have q5:=fixB_len o.k 8;have q6:kdD.length=4:=rfl;rw [hk3];simp only [List.length_append];omega)))|refine Z.fa rfl rfl rfl ?_|refine Z.l1 rfl rfl rfl ?_|refine Z.lN rfl rfl rfl ?_|refine Z.lP rfl rfl rfl ?_|refine Z.ln rfl rfl ?_|refine Z.lnL rfl rfl ?_|refine Z.lnS rfl rfl ?_|refine Qf ?_)<;>refine X.seq ?_<;>((refine Zt ?_<;>repeat' first|refine Z.p rfl ?_|refine Z.fa rfl rfl rfl ?_|refine Z.l1 rfl rfl rfl ?_|refine Z.lN rfl rfl rfl ?_|refine Z.lP rfl rfl rfl ?_|refine Z.ln rfl rfl ?_|refine Z.lnL rfl rfl ?_|refine Z.lnS rfl rfl ?_|refine Qf ?_)<;>refine X.block ?_<;>((refine Qs (ι:=Nat×Option Addr×Nat×Bs) (fun y=>[(1,.pointer (some ⟨g1,0,none⟩)),(3,.pointer (some ⟨g3,0,none⟩)),(25,.slice a o.ps.length c),(26,Zj o.ps.length),(27,Zj y.1)]) (fun y=>[cells g3 [.slice y.2.1 (List.length y.2.2.2) y.2.2.1] 244,own 5 1 (.slice y.2.1 (List.length y.2.2.2) y.2.2.1) (List.length y.2.2.2) (encY y.2.2.2),cells g1 [.int .u64 ((o.k:Nat):Int),Zj o.ep,Zj o.sq,Zj o.up,.slice a o.ps.length c,.slice b o.cs.length d,Zi o.d] 41]) (fun y=>y.1≤o.ps.length∧y.2.2.2=o3++(o.ps.take y.1).flatMap ptB∧y.2.2.2.length≤60+36*y.1) (fun y=>o.ps.length-y.1) ((0,a3,c3,o3)) ?_ Zb Zd ?_;(focus(exact⟨Nat.zero_le _,by simp,by dsimp only;omega⟩));rintro⟨i,a4,c4,o4⟩ ⟨hi,ho4,hb4⟩;(dsimp only at *))<;>((refine Zt ?_<;>repeat' first|(refine Za 0 ?_;(refine Qn rfl rfl rfl rfl (D.int rfl rfl rfl) (fun h3=>?_) (fun h3=>?_)))|refine Qf ?_)<;>refine X.seq ?_<;>((first|refine Zp ?_|refine Zq ?_))<;>(first|refine Ex.then ?_|refine N.next ?_<;>(refine X.seq ?_<;>(refine X.block ?_<;>((refine Zt ?_<;>repeat' first|(refine Za 0 ?_;(have hil:i<o.ps.length:=(by omega);(obtain⟨x,hx⟩:=Qt hil);(obtain⟨z1,z2,z3,z4⟩:=hzp x (List.mem_of_getElem? hx));(apply Qm rfl rfl rfl rfl;exact D.indexAddr i rfl rfl rfl hil (hl.sm (by omega)))))|(refine Za 1 ?_;((apply Qu rfl rfl rfl rfl;exact D.loadN rfl rfl (fun w hw j u hu=>Rd.ext (hl.conf0 hw) hx j u hu))))|refine XL.alloc rfl rfl rfl (k:=fun g=>?_)|refine Qj rfl rfl rfl rfl rfl ?_|refine Qk rfl rfl rfl rfl rfl rfl ?_|refine XL.storeP rfl rfl rfl rfl rfl rfl ?_|refine Qf ?_)<;>refine Zx ?_<;>repeat' first|(refine Za 12 ?_;((refine XL.sliceL (fun n:Int=>Zj n) encN1 [x.a,x.n,x.q,x.p] (fun _=>rfl) (fun _=>rfl) rfl rfl rfl rfl rfl rfl (fun _=>by infer_instance) (fun gb=>?_))))|(refine Za 13 ?_;((refine Qo [cells g3 [.slice a4 (List.length o4) c4] 244,own 5 1 (.slice a4 (List.length o4) c4) (List.length o4) (encY o4)] rfl rfl rfl rfl (fun w F hF hm hw=>numbers_spec w F g3 a4 (some ⟨gb,0,none⟩) c4 4 o4 [x.a,x.n,x.q,x.p] hF (hm.own (a:=some ⟨gb,0,none⟩)) (fun z hz=>by simp only [List.mem_cons,List.not_mem_nil,or_false] at hz;omega) (by simp only [List.length_cons,List.length_nil];omega)) ?_;rintro v B' ⟨a5,c5,o5,rfl,ho5,rfl⟩;refine Qg ?_);have hk5:o5=o4++ptB x:=(by rw [ho5];simp [ptB]);have hb5:=ptB_len x))|refine Z.fa rfl rfl rfl ?_|refine Z.l1 rfl rfl rfl ?_|refine Z.lN rfl rfl rfl ?_|refine Z.lP rfl rfl rfl ?_|refine XL.nil ?_)<;>(first|refine N.block ?_|refine Ql ?_|refine Ex.out rfl ?_))<;>(first|refine Ex.then ?_|refine N.next ?_<;>(refine Zx ?_<;>repeat' first|refine Z.p rfl ?_|refine Z.g rfl (by omega) ?_|refine Z.w rfl ?_|refine XL.nil ?_)))))<;>(first|refine Ex.then ?_|((refine Qp ((i+1,a5,c5,o5)) ?_ ?_ Zb Zd;(focus(exact⟨by dsimp only;omega,by dsimp only;rw [hk5,ho4,Qw hx];simp,by dsimp only;rw [hk5,List.length_append];omega⟩));(focus(first|omega|(dsimp only;omega)))))))<;>(first|refine N.block ?_|refine Ql ?_|refine Ex.out rfl ?_))<;>(first|refine Ex.then ?_|refine N.next ?_<;>((refine Zt ?_<;>repeat' first|(refine Za 3 ?_;((obtain rfl:i=o.ps.length:=(by omega));rw [List.take_length] at ho4;(refine XL.sliceL (fun n:Int=>Zj n) encN1 [((o.cs.length:Nat):Int)] (fun _=>rfl) (fun _=>rfl) rfl rfl rfl rfl rfl rfl (fun _=>by infer_instance) (fun gb=>?_))))|(refine Za 4 ?_;((refine Qo [cells g3 [.slice a4 (List.length o4) c4] 244,own 5 1 (.slice a4 (List.length o4) c4) (List.length o4) (encY o4)] rfl rfl rfl rfl (fun w F hF hm hw=>numbers_spec w F g3 a4 (some ⟨gb,0,none⟩) c4 1 o4 [((o.cs.length:Nat):Int)] hF (hm.own (a:=some ⟨gb,0,none⟩)) (fun z hz=>by rw [List.mem_singleton] at hz;omega) (by simp only [List.length_cons,List.length_nil];omega)) ?_;rintro v B' ⟨a6,c6,o6,rfl,ho6,rfl⟩;refine Qg ?_);have hk6:o6=o4++varB o.cs.length:=(by rw [ho6];simp);have hb6:=varB_le o.cs.length;have hb6':o6.length≤70+36*o.ps.length:=(by rw [hk6,List.length_append];omega)))|refine Z.fa rfl rfl rfl ?_|refine Z.l1 rfl rfl rfl ?_|refine Z.lN rfl rfl rfl ?_|refine Z.lP rfl rfl rfl ?_|refine Z.ln rfl rfl ?_|refine Z.lnL rfl rfl ?_|refine Z.lnS rfl rfl ?_|refine Qf ?_)<;>refine X.seq ?_<;>((refine Zt ?_<;>repeat' first|refine Z.p rfl ?_|refine Z.fa rfl rfl rfl ?_|refine Z.l1 rfl rfl rfl ?_|refine Z.lN rfl rfl rfl ?_|refine Z.lP rfl rfl rfl ?_|refine Z.ln rfl rfl ?_|refine Z.lnL rfl rfl ?_|refine Z.lnS rfl rfl ?_|refine Qf ?_)<;>refine X.block ?_<;>((refine Qs (ι:=Nat×Option Addr×Nat×Bs) (fun y=>[(1,.pointer (some ⟨g1,0,none⟩)),(3,.pointer (some ⟨g3,0,none⟩)),(52,.slice b o.cs.length d),(53,Zj o.cs.length),(54,Zj y.1)]) (fun y=>[cells g3 [.slice y.2.1 (List.length y.2.2.2) y.2.2.1] 244,own 5 1 (.slice y.2.1 (List.length y.2.2.2) y.2.2.1) (List.length y.2.2.2) (encY y.2.2.2),cells g1 [.int .u64 ((o.k:Nat):Int),Zj o.ep,Zj o.sq,Zj o.up,.slice a o.ps.length c,.slice b o.cs.length d,Zi o.d] 41]) (fun y=>y.1≤o.cs.length∧y.2.2.2=o6++(o.cs.take y.1).flatMap csB∧y.2.2.2.length≤70+36*o.ps.length+18*y.1) (fun y=>o.cs.length-y.1) ((0,a6,c6,o6)) ?_ Zb Zd ?_;(focus(exact⟨Nat.zero_le _,by simp,by dsimp only;omega⟩));rintro⟨k,a7,c7,o7⟩ ⟨hi7,ho7,hb7⟩;(dsimp only at *))<;>((refine Zt ?_<;>repeat' first|(refine Za 0 ?_;(refine Qn rfl rfl rfl rfl (D.int rfl rfl rfl) (fun h3=>?_) (fun h3=>?_)))|refine Qf ?_)<;>refine X.seq ?_<;>((first|refine Zp ?_|refine Zq ?_))<;>(first|refine Ex.then ?_|refine N.next ?_<;>(refine X.seq ?_<;>(refine X.block ?_<;>((refine Zt ?_<;>repeat' first|(refine Za 0 ?_;(have hil:k<o.cs.length:=(by omega);(obtain⟨x,hx⟩:=Qt hil);(obtain⟨z1,z2⟩:=hzc x (List.mem_of_getElem? hx));(apply Qm rfl rfl rfl rfl;exact D.indexAddr k rfl rfl rfl hil (hcs.sm (by omega)))))|(refine Za 1 ?_;((apply Qu rfl rfl rfl rfl;exact D.loadN rfl rfl (fun w hw j u hu=>Rd.sp (hcs.conf0 hw) hx j u hu))))|refine XL.alloc rfl rfl rfl (k:=fun g=>?_)|refine Qj rfl rfl rfl rfl rfl ?_|refine Qk rfl rfl rfl rfl rfl rfl ?_|refine XL.storeP rfl rfl rfl rfl rfl rfl ?_|refine Qf ?_)<;>refine Zx ?_<;>repeat' first|(refine Za 4 ?_;((refine XL.sliceL (fun n:Int=>Zj n) encN1 [x.1,x.2] (fun _=>rfl) (fun _=>rfl) rfl rfl rfl rfl rfl rfl (fun _=>by infer_instance) (fun gb=>?_))))|(refine Za 5 ?_;((refine Qo [cells g3 [.slice a7 (List.length o7) c7] 244,own 5 1 (.slice a7 (List.length o7) c7) (List.length o7) (encY o7)] rfl rfl rfl rfl (fun w F hF hm hw=>numbers_spec w F g3 a7 (some ⟨gb,0,none⟩) c7 2 o7 [x.1,x.2] hF (hm.own (a:=some ⟨gb,0,none⟩)) (fun z hz=>by simp only [List.mem_cons,List.not_mem_nil,or_false] at hz;omega) (by simp only [List.length_cons,List.length_nil];omega)) ?_;rintro v B' ⟨a8,c8,o8,rfl,ho8,rfl⟩;refine Qg ?_);have hk8:o8=o7++csB x:=(by rw [ho8];simp [csB]);have hb8:=csB_len x))|refine Z.fa rfl rfl rfl ?_|refine Z.l1 rfl rfl rfl ?_|refine Z.lN rfl rfl rfl ?_|refine Z.lP rfl rfl rfl ?_|refine XL.nil ?_)<;>(first|refine N.block ?_|refine Ql ?_|refine Ex.out rfl ?_))<;>(first|refine Ex.then ?_|refine N.next ?_<;>(refine Zx ?_<;>repeat' first|refine Z.p rfl ?_|refine Z.g rfl (by omega) ?_|refine Z.w rfl ?_|refine XL.nil ?_)))))<;>(first|refine Ex.then ?_|((refine Qp ((k+1,a8,c8,o8)) ?_ ?_ Zb Zd;(focus(exact⟨by dsimp only;omega,by dsimp only;rw [hk8,ho7,Qw hx];simp,by dsimp only;rw [hk8,List.length_append];omega⟩));(focus(first|omega|(dsimp only;omega)))))))<;>(first|refine N.block ?_|refine Ql ?_|refine Ex.out rfl ?_))<;>(first|refine Ex.then ?_|refine N.next ?_<;>((refine Zt ?_<;>repeat' first|(refine Za 2 ?_;((obtain rfl:k=o.cs.length:=(by omega));rw [List.take_length] at ho7;(refine XL.sliceL (fun s:Bs=>Zi s) encT1 [o.d] (fun _=>rfl) (fun _=>rfl) rfl rfl rfl rfl rfl rfl (fun _=>by infer_instance) (fun gd=>?_))))|(refine Za 3 ?_;((refine XL.call rfl rfl rfl rfl (fun w hw=>Sum_spec w (some ⟨gd,0,none⟩) 1 [o.d] (hw.rd (a:=some ⟨gd,0,none⟩)) (fun t ht=>by rw [List.mem_singleton] at ht;subst ht;omega)) (Zs ?_));rw [show [o.d].flatten=o.d from(by simp)];have hcr:=crc_lt o.d))|(refine Za 4 ?_;((apply Qm rfl rfl rfl rfl;exact D.convN rfl rfl);rw [Nat.mod_eq_of_lt (show crc o.d<2^IntKind.u64.bits from Nat.lt_trans hcr (by decide))]))|(refine Za 5 ?_;((refine Qo [cells g3 [.slice a7 (List.length o7) c7] 244,own 5 1 (.slice a7 (List.length o7) c7) (List.length o7) (encY o7)] rfl rfl rfl rfl (fun w F hF hm hw=>OFixed_spec w F g3 a7 c7 o7 (crc o.d) 4 hF (by decide) (by omega)) ?_;rintro v B' ⟨a9,c9,o9,rfl,ho9,rfl⟩;refine Qg ?_);have hk9:o9=headD o:=(by rw [ho9,ho7,hk6,ho4,hk3];simp [headD,hdE,zO,cntB])))|refine Z.fa rfl rfl rfl ?_|refine Z.l1 rfl rfl rfl ?_|refine Z.lN rfl rfl rfl ?_|refine Z.lP rfl rfl rfl ?_|refine Qf ?_)<;>(refine Zt ?_<;>repeat' first|refine Z.p rfl ?_|(refine Za 0 ?_;((refine XL.call rfl rfl rfl rfl (fun w hw=>OString_spec w g3 a9 c9 o9 (hw.cellAt (Loc.at_) rfl) (hw.rd (a:=a9))) (Zs ?_));rw [hk9]))|refine Qf ?_)<;>(apply X.r1 Tryz.results158 (Qh rfl);(focus(exact⟨rfl,rfl⟩));exact Zd))))))
theorem dBytes_spec(w:World)(o:Dob)(a b:Option Addr)(c d:Nat)(hl:Rd w 4 a o.ps.length c (encE o.ps))(hcs:Rd w 2 b o.cs.length d (encS o.cs))(h1:NumsD o)(h2:LaidP o)(hk:o.k<18446744073709551616)(hd:o.d.length≤1000000):Spec Tryz.prog 77 #[.agg #[.int .u64 ((o.k:Nat):Int),Zj o.ep,Zj o.sq,Zj o.up,.slice a o.ps.length c,.slice b o.cs.length d,Zi o.d]] w (fun _=>False) (fun v A=>v= .string ⟨List.toArray (dobB o)⟩∧A=[]):=by
  have hhl:=headD_len o
  have hn1:=h2.1
  have hn2:=h2.2.1
  have hsl:(sealS (headD o)).length=(headD o).length+4:=by rw [sealS_len]
  refine Zn Tryz.func77 Tryz.ntmps77 ?_
  refine X.mem (B:=[own 5 1 (Zl) 0 []]) (fun w h=>h.nilOwn 5 1) ?_
  ((refine Zt ?_<;>repeat' first|refine Z.p rfl ?_|(refine Za 0 ?_;(refine Qr rfl rfl rfl rfl (k:=fun g1=>?_)))|refine Qf ?_)<;>(refine Zt ?_<;>repeat' first|refine Z.p rfl ?_|(refine Za 1 ?_;((refine XL.call rfl rfl rfl rfl (fun w hw=>dHead_spec w o a b c d (hl.conf0 hw) (hcs.conf0 hw) h1 h2 hk hd) (Zs ?_))))|(refine Za 2 ?_;((refine XL.call rfl rfl rfl rfl (fun w hw=>Seal_spec w (headD o) (by omega)) (Zs ?_))))|refine Z.l1 rfl rfl rfl ?_|refine Z.lN rfl rfl rfl ?_|refine Z.lP rfl rfl rfl ?_|refine Qf ?_)<;>(refine Zt ?_<;>repeat' first|(refine Za 0 ?_;(refine XL.alloc rfl rfl rfl (k:=fun g3=>?_)))|refine Qf ?_)<;>(refine Zt ?_<;>repeat' first|refine Z.p rfl ?_|(refine Za 3 ?_;(obtain⟨l0,hl0⟩:∃ l0:Bs,l0=[]:=(⟨_,rfl⟩);refine XL.mem (B:=[cells g3 [.slice none (List.length l0) 0] 244,own 5 1 (.slice none (List.length l0) 0) (List.length l0) (encY l0),cells g1 [.int .u64 ((o.k:Nat):Int),Zj o.ep,Zj o.sq,Zj o.up,.slice a o.ps.length c,.slice b o.cs.length d,Zi o.d] 41]) (fun w h=>by subst hl0;exact(h.takes:Conf _ [cells g3 [Zl] 244,own 5 1 (Zl) 0 [],cells g1 [.int .u64 ((o.k:Nat):Int),Zj o.ep,Zj o.sq,Zj o.up,.slice a o.ps.length c,.slice b o.cs.length d,Zi o.d] 41] w)) ?_;(refine XL.sliceL (fun s:Bs=>Zi s) encT1 [o.d,sealS (headD o)] (fun _=>rfl) (fun _=>rfl) rfl rfl rfl rfl rfl rfl (fun _=>by infer_instance) (fun ga=>?_))))|(refine Za 4 ?_;((refine Qo [cells g3 [.slice none (List.length l0) 0] 244,own 5 1 (.slice none (List.length l0) 0) (List.length l0) (encY l0)] rfl rfl rfl rfl (fun w F hF hm hw=>ORaw_spec w F g3 none (some ⟨ga,0,none⟩) 0 2 l0 [o.d,sealS (headD o)] hF (hm.own (a:=some ⟨ga,0,none⟩)) ⟨by rw [hl0];simp only [List.flatten_cons,List.flatten_nil,List.append_nil,List.length_append,List.length_nil];omega,by simp only [List.length_cons,List.length_nil];omega⟩) ?_;rintro v B' ⟨a1,c1,o1,rfl,ho1,rfl⟩;refine Qg ?_);have hk1:o1=o.d++sealS (headD o):=(by rw [ho1,hl0];simp);have hb1:o1.length≤1100000:=(by rw [hk1,List.length_append];omega)))|refine Z.fa rfl rfl rfl ?_|refine Z.l1 rfl rfl rfl ?_|refine Z.lN rfl rfl rfl ?_|refine Z.lP rfl rfl rfl ?_|refine Qf ?_)<;>(refine Zt ?_<;>repeat' first|refine Z.p rfl ?_|(refine Za 2 ?_;((apply Qm rfl rfl rfl rfl;exact D.convI rfl (by omega));rw [show(((sealS (headD o)).length:Nat):Int).toNat=(sealS (headD o)).length from Int.toNat_natCast _]))|(refine Za 3 ?_;((refine Qo [cells g3 [.slice a1 (List.length o1) c1] 244,own 5 1 (.slice a1 (List.length o1) c1) (List.length o1) (encY o1)] rfl rfl rfl rfl (fun w F hF hm hw=>OFixed_spec w F g3 a1 c1 o1 (sealS (headD o)).length 4 hF (by decide) (by omega)) ?_;rintro v B' ⟨a2,c2,o2,rfl,ho2,rfl⟩;refine Qg ?_);have hk2:o2=dobB o:=(by rw [ho2,hk1,List.append_assoc];rfl)))|refine Z.ln rfl rfl ?_|refine Z.lnL rfl rfl ?_|refine Z.lnS rfl rfl ?_|refine Qf ?_)<;>(refine Zt ?_<;>repeat' first|refine Z.p rfl ?_|(refine Za 0 ?_;((refine XL.call rfl rfl rfl rfl (fun w hw=>OString_spec w g3 a2 c2 o2 (hw.cellAt (Loc.at_) rfl) (hw.rd (a:=a2))) (Zs ?_));rw [hk2]))|refine Qf ?_)<;>(apply X.r1 Tryz.results77 (Qh rfl);(focus(exact⟨rfl,rfl⟩));exact Zd))
theorem dChk_spec(w:World)(o:Dob)(a b:Option Addr)(c d:Nat)(hl:Rd w 4 a o.ps.length c (encE o.ps))(hcs:Rd w 2 b o.cs.length d (encS o.cs))(hk:o.k<18446744073709551616)(hd:o.d.length≤1000000):Spec Tryz.prog 76 #[.agg #[.int .u64 ((o.k:Nat):Int),Zj o.ep,Zj o.sq,Zj o.up,.slice a o.ps.length c,.slice b o.cs.length d,Zi o.d]] w (fun _=>False) (fun v A=>v=Zj (chkD o)∧A=[]):=by
  refine Zn Tryz.func76 Tryz.ntmps76 ?_
  ((refine Zt ?_<;>repeat' first|refine Z.p rfl ?_|(refine Za 0 ?_;(refine Qr rfl rfl rfl rfl (k:=fun g1=>?_)))|refine Qf ?_)<;>refine X.seq ?_<;>(refine X.block ?_<;>((refine Zt ?_<;>repeat' first|refine Z.p rfl ?_|(refine Za 2 ?_;((refine XL.call rfl rfl rfl rfl (fun w hw=>dNumber_spec o.ep 1 w) (Zs ?_));(by_cases n1:1≤o.ep∧o.ep<1099511627776<;>first|rw [decide_eq_true n1]|rw [decide_eq_false n1])))|(refine Za 7 ?_;(first|refine XL.skipF rfl rfl rfl rfl ?_|((refine XL.call rfl rfl rfl rfl (fun w hw=>dNumber_spec o.sq 1 w) (Zs ?_));(by_cases n2:1≤o.sq∧o.sq<1099511627776<;>first|rw [decide_eq_true n2]|rw [decide_eq_false n2]))))|(refine Za 13 ?_;(first|refine XL.skipF rfl rfl rfl rfl ?_|((refine XL.call rfl rfl rfl rfl (fun w hw=>dNumber_spec o.up 0 w) (Zs ?_));(by_cases n3:0≤o.up∧o.up<1099511627776<;>first|rw [decide_eq_true n3]|rw [decide_eq_false n3]))))|(refine Za 18 ?_;(first|refine XL.skipF rfl rfl rfl rfl ?_|((refine XL.call rfl rfl rfl rfl (fun w hw=>dLaid_spec w o a b c d (hl.conf0 hw) (hcs.conf0 hw)) ?_;rintro v B' ⟨f,rfl,hf,rfl⟩;refine Qg ?_);cases f)))|refine Z.fa rfl rfl rfl ?_|refine Z.l1 rfl rfl rfl ?_|refine Z.lN rfl rfl rfl ?_|refine Z.lP rfl rfl rfl ?_|refine Z.pk rfl rfl rfl rfl ?_|refine Qf ?_)<;>(first|(refine Zu ?_;(refine Zt ?_<;>repeat' first|refine Z.p rfl ?_|refine Qf ?_)<;>(apply X.r1 Tryz.results76 (Qh rfl);(focus(refine⟨?_,rfl⟩;unfold chkD;first|(rw [if_pos ⟨⟨n1,n2,n3⟩,hL⟩,if_neg h1];done)|(rw [if_pos ⟨⟨n1,n2,n3⟩,hL⟩,if_pos (by omega),if_neg (by omega)];done)|(rw [if_pos ⟨⟨n1,n2,n3⟩,hL⟩,if_pos (by omega),if_pos (by omega)];done)|(rw [if_neg (fun h=>n1 h.1.1)];done)|(rw [if_neg (fun h=>n2 h.1.2.1)];done)|(rw [if_neg (fun h=>n3 h.1.2.2)];done)|(rw [if_neg (fun h=>bF (hf.2 h.2))];done)));exact Zd))|(refine Zf ?_;(refine X.sd (.a 0 (.b 1 (.a 2 (.b 3 (.c 4 (.a 5 (.a 6 (.a 7 .n)))))))) mixed (by kernel_rfl) ?_<;>repeat' first|refine Z.p rfl ?_|(refine Za 4 ?_;(have hL:LaidP o:=hf.1 rfl;(refine XL.call rfl rfl rfl rfl (fun w hw=>Sectors_spec w o a b c d (hl.conf0 hw) hL.2.2.1) (Zs ?_));have hsb:=hL.2.2.1.secs o.ps.length (Nat.le_refl _);rw [List.take_length] at hsb))|(refine Za 6 ?_;(refine XL.split0 rfl rfl rfl rfl (D.int rfl rfl rfl) (fun h1=>?_) (fun h1=>?_)))|refine Z.fa rfl rfl rfl ?_|refine Z.l1 rfl rfl rfl ?_|refine Z.lN rfl rfl rfl ?_|refine Z.lP rfl rfl rfl ?_|refine Z.ln rfl rfl ?_|refine Z.lnL rfl rfl ?_|refine Z.lnS rfl rfl ?_|refine Z.g rfl (by omega) ?_|refine Z.w rfl ?_|refine Qf ?_)<;>(first|(refine Zu ?_;(refine Zt ?_<;>repeat' first|refine Z.p rfl ?_|refine Qf ?_)<;>(apply X.r1 Tryz.results76 (Qh rfl);(focus(refine⟨?_,rfl⟩;unfold chkD;first|(rw [if_pos ⟨⟨n1,n2,n3⟩,hL⟩,if_neg h1];done)|(rw [if_pos ⟨⟨n1,n2,n3⟩,hL⟩,if_pos (by omega),if_neg (by omega)];done)|(rw [if_pos ⟨⟨n1,n2,n3⟩,hL⟩,if_pos (by omega),if_pos (by omega)];done)|(rw [if_neg (fun h=>n1 h.1.1)];done)|(rw [if_neg (fun h=>n2 h.1.2.1)];done)|(rw [if_neg (fun h=>n3 h.1.2.2)];done)|(rw [if_neg (fun h=>bF (hf.2 h.2))];done)));exact Zd))|(refine Zf ?_;(refine Zt ?_<;>repeat' first|refine Z.p rfl ?_|(refine Za 1 ?_;((refine XL.call rfl rfl rfl rfl (fun w hw=>dBytes_spec w o a b c d (hl.conf0 hw) (hcs.conf0 hw) ⟨n1,n2,n3⟩ hL hk hd) (Zs ?_))))|(refine Za 3 ?_;(refine Qn rfl rfl rfl rfl (D.int rfl rfl rfl) (fun h2=>?_) (fun h2=>?_)))|refine Z.l1 rfl rfl rfl ?_|refine Z.lN rfl rfl rfl ?_|refine Z.lP rfl rfl rfl ?_|refine Z.ln rfl rfl ?_|refine Z.lnL rfl rfl ?_|refine Z.lnS rfl rfl ?_|refine Qf ?_)<;>(first|(refine Zu ?_;(refine Zt ?_<;>repeat' first|refine Z.p rfl ?_|refine Qf ?_)<;>(apply X.r1 Tryz.results76 (Qh rfl);(focus(refine⟨?_,rfl⟩;unfold chkD;first|(rw [if_pos ⟨⟨n1,n2,n3⟩,hL⟩,if_neg h1];done)|(rw [if_pos ⟨⟨n1,n2,n3⟩,hL⟩,if_pos (by omega),if_neg (by omega)];done)|(rw [if_pos ⟨⟨n1,n2,n3⟩,hL⟩,if_pos (by omega),if_pos (by omega)];done)|(rw [if_neg (fun h=>n1 h.1.1)];done)|(rw [if_neg (fun h=>n2 h.1.2.1)];done)|(rw [if_neg (fun h=>n3 h.1.2.2)];done)|(rw [if_neg (fun h=>bF (hf.2 h.2))];done)));exact Zd))|refine Zm ?_))))))<;>(first|refine N.block ?_|refine Ql ?_|refine Ex.out rfl ?_))<;>(first|refine Ex.then ?_|refine N.next ?_<;>((refine Zt ?_<;>repeat' first|refine Z.p rfl ?_|refine Qf ?_)<;>(apply X.r1 Tryz.results76 (Qh rfl);(focus(refine⟨?_,rfl⟩;unfold chkD;first|(rw [if_pos ⟨⟨n1,n2,n3⟩,hL⟩,if_neg h1];done)|(rw [if_pos ⟨⟨n1,n2,n3⟩,hL⟩,if_pos (by omega),if_neg (by omega)];done)|(rw [if_pos ⟨⟨n1,n2,n3⟩,hL⟩,if_pos (by omega),if_pos (by omega)];done)|(rw [if_neg (fun h=>n1 h.1.1)];done)|(rw [if_neg (fun h=>n2 h.1.2.1)];done)|(rw [if_neg (fun h=>n3 h.1.2.2)];done)|(rw [if_neg (fun h=>bF (hf.2 h.2))];done)));exact Zd))))
theorem dEncode_spec(w:World)(o:Dob)(a b:Option Addr)(c d:Nat)(hl:Rd w 4 a o.ps.length c (encE o.ps))(hcs:Rd w 2 b o.cs.length d (encS o.cs))(hk:o.k<18446744073709551616)(hd:o.d.length≤1000000):Spec Tryz.prog 33 #[.agg #[.int .u64 ((o.k:Nat):Int),Zj o.ep,Zj o.sq,Zj o.up,.slice a o.ps.length c,.slice b o.cs.length d,Zi o.d]] w (fun _=>False) (fun v A=>∃ r:Bs,v= .tuple #[Zi r,Zj (chkD o)]∧(chkD o≠0→r=[])∧(chkD o=0→r=dobB o)∧A=[]):=by
  refine Zn Tryz.func33 Tryz.ntmps33 ?_
  ((refine Zt ?_<;>repeat' first|refine Z.p rfl ?_|(refine Za 0 ?_;(refine Qr rfl rfl rfl rfl (k:=fun g1=>?_)))|refine Qf ?_)<;>refine X.seq ?_<;>((refine Zt ?_<;>repeat' first|refine Z.p rfl ?_|(refine Za 1 ?_;((refine XL.call rfl rfl rfl rfl (fun w hw=>dChk_spec w o a b c d (hl.conf0 hw) (hcs.conf0 hw) hk hd) (Zs ?_))))|refine Z.l1 rfl rfl rfl ?_|refine Z.lN rfl rfl rfl ?_|refine Z.lP rfl rfl rfl ?_|refine Qf ?_)<;>(refine Zt ?_<;>repeat' first|refine Z.p rfl ?_|(refine Za 1 ?_;(refine Qn rfl rfl rfl rfl (D.int rfl rfl rfl) (fun h1=>?_) (fun h1=>?_)))|refine Qf ?_)<;>(first|(refine Zu ?_;(refine Zt ?_<;>repeat' first|refine Z.p rfl ?_|refine Qf ?_)<;>(apply X.r2 Tryz.results33 (Qh rfl) (Qh rfl);(focus(first|exact⟨[],rfl,fun _=>rfl,fun h=>absurd h h1,rfl⟩|exact⟨dobB o,by rw [nN h1],fun h=>absurd h h1,fun _=>rfl,rfl⟩));exact Zd))|refine Zm ?_))<;>(first|refine Ex.then ?_|refine N.next ?_<;>((refine Zt ?_<;>repeat' first|refine Z.p rfl ?_|(refine Za 1 ?_;(have hok:=chkD_ok (nN h1);(refine XL.call rfl rfl rfl rfl (fun w hw=>dBytes_spec w o a b c d (hl.conf0 hw) (hcs.conf0 hw) hok.1 hok.2.1 hk hd) (Zs ?_))))|refine Z.l1 rfl rfl rfl ?_|refine Z.lN rfl rfl rfl ?_|refine Z.lP rfl rfl rfl ?_|refine Qf ?_)<;>(apply X.r2 Tryz.results33 (Qh rfl) (Qh rfl);(focus(first|exact⟨[],rfl,fun _=>rfl,fun h=>absurd h h1,rfl⟩|exact⟨dobB o,by rw [nN h1],fun h=>absurd h h1,fun _=>rfl,rfl⟩));exact Zd))))
end Go.Lx
