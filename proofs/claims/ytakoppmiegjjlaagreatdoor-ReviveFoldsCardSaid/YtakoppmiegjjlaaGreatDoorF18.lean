import Derived.Test.YtakoppmiegjjlaaGreatDoorF4
import Derived.Test.YtakoppmiegjjlaaGreatDoorF17
import Derived.Test.YtakoppmiegjjlaaGreatDoorF1
import Derived.Shelf.SlSortCmp.WholeK
import Derived.Shelf.SlicesG.Cmp
import Derived.Test.YtakoppmiegjjlaaGreatDoorProg
set_option linter.unusedVariables false
set_option linter.unusedSimpArgs false
set_option maxRecDepth 20000
namespace Go.Lx
open Go.Proofs
theorem encS_snoc(o:List Sp)(x:Sp):encS o++[.int .i64 x.1,.int .i64 x.2]=encS (o++[x]):=by simp [encS,encS1]
theorem len_snoc{α:Type}(o:List α)(x:α):o.length+1=(o++[x]).length:=by simp
theorem less_spec(w:World)(a b:Option Addr)(c d:Nat)(l off:List Sp)(hl:Rd w 2 a l.length c (encS l))(ho:Rd w 2 b off.length d (encS off))(hsl:SetOK l l.length)(hso:SetOK off off.length)(hbd:l.length+off.length≤1000000):
    Spec Tryz.prog 265 #[.slice a l.length c,.slice b off.length d] w (fun _=>False) (fun v A=>∃ a' c' o,v= .slice a' (List.length o) c'∧SetOK o o.length∧(∀ t,inS o t↔inS l t∧ ¬inS off t)∧o.length≤l.length+off.length∧A=[own 103 2 (.slice a' o.length c') o.length (encS o)]):=by
  refine Zn Tryz.func265 Tryz.ntmps265 ?_
  refine X.mem (B:=[own 103 2 (.slice none ([]:List Sp).length 0) ([]:List Sp).length (encS [])]) (fun w h=>h.nilOwn 103 2) ?_
  ((refine Zt ?_<;>repeat' first|refine Z.p rfl ?_|refine Qf ?_)<;>(refine Zt ?_<;>repeat' first|refine Z.p rfl ?_|refine Qf ?_)<;>(refine Zt ?_<;>repeat' first|refine Z.p rfl ?_|refine Qf ?_)<;>refine X.seq ?_<;>((refine Zt ?_<;>repeat' first|refine Z.p rfl ?_|refine Z.ln rfl rfl ?_|refine Z.lnL rfl rfl ?_|refine Z.lnS rfl rfl ?_|refine Qf ?_)<;>refine X.block ?_<;>((refine Qs (ι:=Nat×Nat×List Sp×Option Addr×Nat) (fun x=>[(0,.slice a l.length c),(1,.slice b off.length d),(5,.slice x.2.2.2.1 x.2.2.1.length x.2.2.2.2),(6,Zj x.2.1),(11,.slice a l.length c),(12,Zj l.length),(13,Zj x.1)]) (fun x=>[own 103 2 (.slice x.2.2.2.1 x.2.2.1.length x.2.2.2.2) x.2.2.1.length (encS x.2.2.1)]) (fun x=>OutI l off x.1 x.2.1 x.2.2.1) (fun x=>l.length-x.1) ((0,0,[],none,0)) ?_ Zb Zd ?_;(focus(exact OutI.start));rintro⟨i,k,o,a',c'⟩ hO;(dsimp only at *;have hi:=hO.hi))<;>((refine Zt ?_<;>repeat' first|(refine Za 0 ?_;(first|refine Qn rfl rfl rfl rfl (D.int rfl rfl rfl) (fun h0=>?_) (fun h0=>?_)))|refine Qf ?_)<;>refine X.seq ?_<;>((refine Qi rfl ?_ ?_;rotate_left;(focus(intro hc;first|exact no_ hc rfl|(refine Qq ?_)));rotate_right;(focus(intro hc;first|exact no_ hc rfl|(refine X.skip ?_)))))<;>(first|refine Ex.then ?_|refine N.next ?_<;>(refine X.seq ?_<;>(refine X.block ?_<;>((refine Zt ?_<;>repeat' first|(refine Za 0 ?_;(have hil:i<l.length:=(by omega);obtain⟨s,hs⟩:=Qt hil;have hI:=hO.enter hsl hs;have hsm:=hsl.may hil hs;(apply Qu rfl rfl rfl rfl;exact D.indexAddr i rfl rfl rfl hil (hl.sm (by omega)))))|(refine Za 1 ?_;((apply Qu rfl rfl rfl rfl;exact D.loadN rfl rfl (fun w hw j u hu=>Rd.sp (Rd.conf0 hl hw) hs j u hu))))|refine XL.alloc rfl rfl rfl (k:=fun g=>?_)|refine Qj rfl rfl rfl rfl rfl ?_|refine Qk rfl rfl rfl rfl rfl rfl ?_|refine XL.storeP rfl rfl rfl rfl rfl rfl ?_|refine Qf ?_)<;>refine X.scope ?_<;>((refine Zt ?_<;>repeat' first|refine Z.p rfl ?_|refine Z.fa rfl rfl rfl ?_|refine Z.l1 rfl rfl rfl ?_|refine Z.lN rfl rfl rfl ?_|refine Z.lP rfl rfl rfl ?_|refine Qf ?_)<;>refine X.seq ?_<;>(refine X.label ?_)<;>(first|refine Ex.then ?_|refine N.next ?_<;>(refine X.seq ?_<;>(refine X.block ?_<;>((refine Qs (ι:=Nat×Int×List Sp×Option Addr×Nat) (fun x=>[(0,.slice a l.length c),(1,.slice b off.length d),(5,.slice x.2.2.2.1 x.2.2.1.length x.2.2.2.2),(6,Zj x.1),(8,.pointer (some ⟨g,0,none⟩)),(9,Zj x.2.1),(11,.slice a l.length c),(12,Zj l.length),(13,Zj i)]) (fun x=>[own 103 2 (.slice x.2.2.2.1 x.2.2.1.length x.2.2.2.2) x.2.2.1.length (encS x.2.2.1),cells g [Zj s.1,Zj s.2] 103]) (fun x=>InI l off i x.1 x.2.2.1 s x.2.1 0) (fun x=>off.length-x.1) ((k,s.1,o,a',c')) ?_ Zb Zd ?_;(focus(exact hI));rintro⟨k,at_,o,a',c'⟩ hI;(dsimp only at *;have hk:=hI.hk))<;>(refine X.seq ?_<;>((refine Zt ?_<;>repeat' first|refine Z.p rfl ?_|(refine Za 3 ?_;(first|refine Qn rfl rfl rfl rfl (D.int rfl rfl rfl) (fun h1=>?_) (fun h1=>?_)))|refine Z.ln rfl rfl ?_|refine Z.lnL rfl rfl ?_|refine Z.lnS rfl rfl ?_|refine Qf ?_)<;>(refine Qi rfl ?_ ?_;rotate_left;(focus(intro hc;first|exact no_ hc rfl|(refine Qq ?_)));rotate_right;(focus(intro hc;first|exact no_ hc rfl|(refine X.skip ?_)))))<;>(first|refine Ex.then ?_|refine N.next ?_<;>(refine X.seq ?_<;>(refine X.block ?_<;>(refine X.seq ?_<;>((refine Zt ?_<;>repeat' first|refine Z.p rfl ?_|(refine Za 2 ?_;(have hkl:k<off.length:=(by omega);obtain⟨x,hx⟩:=Qt hkl;have hxm:=hso.may hkl hx;(apply Qu rfl rfl rfl rfl;exact D.indexAddr k rfl rfl rfl hkl (ho.sm (by omega)))))|(refine Za 3 ?_;((apply Qu rfl rfl rfl rfl;exact D.loadN rfl rfl (fun w hw j u hu=>Rd.sp (Rd.conf0 ho hw) hx j u hu))))|refine XL.alloc rfl rfl rfl (k:=fun g=>?_)|refine Qj rfl rfl rfl rfl rfl ?_|refine Qk rfl rfl rfl rfl rfl rfl ?_|refine XL.storeP rfl rfl rfl rfl rfl rfl ?_|refine Qf ?_)<;>refine X.block ?_<;>((refine X.sd (.a 0 (.b 1 (.b 2 (.c 3 (.a 4 (.a 5 .n)))))) mixed (by kernel_rfl) ?_<;>repeat' first|refine Z.p rfl ?_|(refine Za 3 ?_;((refine XL.call rfl rfl rfl rfl (fun w hw=>End_spec _ _ w) ?_;rintro v B' ⟨rfl,rfl⟩;refine Qg ?_);rw [may_end hsm]))|(refine Za 4 ?_;(first|refine XL.split0 rfl rfl rfl rfl (D.int rfl rfl rfl) (fun h2=>?_) (fun h2=>?_)))|refine Z.fa rfl rfl rfl ?_|refine Z.l1 rfl rfl rfl ?_|refine Z.lN rfl rfl rfl ?_|refine Z.lP rfl rfl rfl ?_|refine Qf ?_)<;>(refine Qi rfl ?_ ?_;rotate_left;(focus(intro hc;first|exact no_ hc rfl|((refine Zt ?_<;>repeat' first|refine Z.p rfl ?_|(refine Za 1 ?_;((refine XL.call rfl rfl rfl rfl (fun w hw=>End_spec _ _ w) ?_;rintro v B' ⟨rfl,rfl⟩;refine Qg ?_);rw [may_end hxm]))|(refine Za 3 ?_;(first|refine Qn rfl rfl rfl rfl (D.int rfl rfl rfl) (fun h3=>?_) (fun h3=>?_)))|refine Z.l1 rfl rfl rfl ?_|refine Z.lN rfl rfl rfl ?_|refine Z.lP rfl rfl rfl ?_|refine Qf ?_)<;>(refine Qi rfl ?_ ?_;rotate_left;(focus(intro hc;first|exact no_ hc rfl|((refine Zt ?_<;>repeat' first|refine Z.p rfl ?_|(refine Za 3 ?_;(first|refine Qn rfl rfl rfl rfl (D.int rfl rfl rfl) (fun h4=>?_) (fun h4=>?_)))|refine Z.fa rfl rfl rfl ?_|refine Z.l1 rfl rfl rfl ?_|refine Z.lN rfl rfl rfl ?_|refine Z.lP rfl rfl rfl ?_|refine Qf ?_)<;>(refine Qi rfl ?_ ?_;rotate_left;(focus(intro hc;first|exact no_ hc rfl|(refine X.skip ?_)));rotate_right;(focus(intro hc;first|exact no_ hc rfl|(refine Zx ?_<;>repeat' first|refine Z.p rfl ?_|(refine Za 4 ?_;((refine XL.call rfl rfl rfl rfl (fun w hw=>between_spec _ _ w) ?_;rintro v B' ⟨rfl,rfl⟩;refine Qg ?_);rw [D.wrap64_fit (by have:=hI.lo;unfold mayS at hxm hsm;omega)]))|(refine Za 6 ?_;((refine XL.append rfl rfl rfl rfl rfl rfl ?_ ?_ (fun a' c'=>?_);(focus(have:=hI.len;unfold maxLen;omega));(focus(intro _ _;infer_instance)));rw [encS_snoc o (at_,x.1-at_),len_snoc o (at_,x.1-at_)]))|refine Z.fa rfl rfl rfl ?_|refine Z.l1 rfl rfl rfl ?_|refine Z.lN rfl rfl rfl ?_|refine Z.lP rfl rfl rfl ?_|refine XL.slice1 rfl rfl rfl rfl rfl rfl (by intro g;infer_instance) (fun g_=>?_)|refine XL.nil ?_)))))));rotate_right;(focus(intro hc;first|exact no_ hc rfl|(refine Qq ?_)))))));rotate_right;(focus(intro hc;first|exact no_ hc rfl|(refine Qq ?_)))))<;>(first|refine N.block ?_|refine Ql ?_|refine Ex.out rfl ?_))<;>(first|refine Ex.then ?_|refine N.next ?_<;>((refine X.sd (.a 0 (.a 1 (.a 2 (.b 3 (.b 5 (.c 4 (.c 6 (.a 7 (.a 8 .n))))))))) mixed (by kernel_rfl) ?_<;>repeat' first|refine Z.p rfl ?_|(refine Za 2 ?_;((apply XL.det0 rfl rfl rfl rfl;exact D.indexAddr k rfl rfl rfl hkl (ho.sm (by omega)))))|(refine Za 3 ?_;((apply XL.det1 rfl rfl rfl rfl;exact D.loadN rfl rfl (fun w hw j u hu=>Rd.sp (Rd.conf0 ho hw) hx j u hu))))|(refine Za 4 ?_;((refine XL.call rfl rfl rfl rfl (fun w hw=>End_spec _ _ w) ?_;rintro v B' ⟨rfl,rfl⟩;refine Qg ?_);rw [may_end hxm]))|(refine Za 6 ?_;((refine XL.call rfl rfl rfl rfl (fun w hw=>End_spec _ _ w) ?_;rintro v B' ⟨rfl,rfl⟩;refine Qg ?_);rw [may_end hsm]))|(refine Za 7 ?_;((apply XL.det0 rfl rfl rfl rfl;exact D.min2 rfl rfl)))|refine Z.l1 rfl rfl rfl ?_|refine Z.lN rfl rfl rfl ?_|refine Z.lP rfl rfl rfl ?_|refine Qf ?_)<;>(refine X.sd (.a 0 (.a 1 (.a 2 (.b 3 (.b 5 (.c 4 (.c 6 (.a 7 .n)))))))) mixed (by kernel_rfl) ?_<;>repeat' first|refine Z.p rfl ?_|(refine Za 2 ?_;((apply XL.det0 rfl rfl rfl rfl;exact D.indexAddr k rfl rfl rfl hkl (ho.sm (by omega)))))|(refine Za 3 ?_;((apply XL.det1 rfl rfl rfl rfl;exact D.loadN rfl rfl (fun w hw j u hu=>Rd.sp (Rd.conf0 ho hw) hx j u hu))))|(refine Za 4 ?_;((refine XL.call rfl rfl rfl rfl (fun w hw=>End_spec _ _ w) ?_;rintro v B' ⟨rfl,rfl⟩;refine Qg ?_);rw [may_end hxm]))|(refine Za 6 ?_;((refine XL.call rfl rfl rfl rfl (fun w hw=>End_spec _ _ w) ?_;rintro v B' ⟨rfl,rfl⟩;refine Qg ?_);rw [may_end hsm]))|(refine Za 7 ?_;(first|refine XL.split0 rfl rfl rfl rfl (D.int rfl rfl rfl) (fun h5=>?_) (fun h5=>?_)))|refine Z.l1 rfl rfl rfl ?_|refine Z.lN rfl rfl rfl ?_|refine Z.lP rfl rfl rfl ?_|refine Qf ?_)<;>(refine Qi rfl ?_ ?_;rotate_left;(focus(intro hc;first|exact no_ hc rfl|(refine X.skip ?_)));rotate_right;(focus(intro hc;first|exact no_ hc rfl|(refine Qq ?_)))))))<;>(first|refine N.block ?_|refine Ql ?_|refine Ex.out rfl ?_))<;>(first|refine Ex.then ?_|refine N.next ?_<;>(refine Zx ?_<;>repeat' first|refine Z.p rfl ?_|refine Z.g rfl (by omega) ?_|refine Z.w rfl ?_|refine XL.nil ?_)))))<;>(first|refine Ex.then ?_|(first|(refine Qp ((k+1,at_,o,a',c')) ?_ ?_ Zb Zd;(focus(exact hI.skip hx (by omega)));(focus(first|omega|(dsimp only;omega))))|(refine Qp ((k+1,min (x.1+x.2) (s.1+s.2),o,a',c')) ?_ ?_ Zb Zd;(focus(exact(hI.cutIn hso hsm hx (by omega) (by omega) (by omega)).2 (by omega)));(focus(first|omega|(dsimp only;omega))))|(refine Qp ((k+1,min (x.1+x.2) (s.1+s.2),o++[(at_,x.1-at_)],a',c')) ?_ ?_ Zb Zd;(focus(exact(hI.cutAt hso hsm hx (by omega) (by omega) (by omega)).2 (by omega)));(focus(first|omega|(dsimp only;omega)))))))<;>(first|refine N.block ?_|refine Ql ?_|refine Ex.out rfl ?_))<;>(first|refine Ex.then ?_|refine N.next ?_<;>((refine Zt ?_<;>repeat' first|refine Z.p rfl ?_|(refine Za 2 ?_;((refine XL.call rfl rfl rfl rfl (fun w hw=>End_spec _ _ w) ?_;rintro v B' ⟨rfl,rfl⟩;refine Qg ?_);rw [may_end hsm]))|refine Z.l1 rfl rfl rfl ?_|refine Z.lN rfl rfl rfl ?_|refine Z.lP rfl rfl rfl ?_|refine Z.ct rfl (by omega) ?_|refine Z.cf rfl (by omega) ?_|refine Z.cs rfl (fun _=>?_) (fun _=>?_)|refine Qf ?_)<;>(refine Qi rfl ?_ ?_;rotate_left;(focus(intro hc;first|exact no_ hc rfl|(refine X.skip ?_)));rotate_right;(focus(intro hc;first|exact no_ hc rfl|(refine Zx ?_<;>repeat' first|refine Z.p rfl ?_|(refine Za 3 ?_;((refine XL.call rfl rfl rfl rfl (fun w hw=>End_spec _ _ w) ?_;rintro v B' ⟨rfl,rfl⟩;refine Qg ?_);rw [may_end hsm]))|(refine Za 4 ?_;((refine XL.call rfl rfl rfl rfl (fun w hw=>between_spec _ _ w) ?_;rintro v B' ⟨rfl,rfl⟩;refine Qg ?_);rw [D.wrap64_fit (by have:=hI.lo;unfold mayS at hsm;omega)]))|(refine Za 6 ?_;((refine XL.append rfl rfl rfl rfl rfl rfl ?_ ?_ (fun a' c'=>?_);(focus(have:=hI.len;unfold maxLen;omega));(focus(intro _ _;infer_instance)));rw [encS_snoc o (at_,s.1+s.2-at_),len_snoc o (at_,s.1+s.2-at_)]))|refine Z.l1 rfl rfl rfl ?_|refine Z.lN rfl rfl rfl ?_|refine Z.lP rfl rfl rfl ?_|refine XL.slice1 rfl rfl rfl rfl rfl rfl (by intro g;infer_instance) (fun g_=>?_)|refine XL.nil ?_)))))))))<;>(first|refine N.scope ?_|refine Ex.scope ?_))<;>(first|refine N.block ?_|refine Ql ?_|refine Ex.out rfl ?_))<;>(first|refine Ex.then ?_|refine N.next ?_<;>(refine Zx ?_<;>repeat' first|refine Z.p rfl ?_|refine Z.g rfl (by omega) ?_|refine Z.w rfl ?_|refine XL.nil ?_)))))<;>(first|refine Ex.then ?_|(first|(refine Qp ((i+1,k,o,a',c')) ?_ ?_ Zb Zd;(focus(first|exact hI.next0 (Nat.zero_le _) hsl (by omega)|exact(hI.cutIn hso hsm hx (by omega) (by omega) (by omega)).1.next0 (Nat.le_refl _) hsl (by omega)));(focus(first|omega|(dsimp only;omega))))|(refine Qp ((i+1,k,o++[(at_,s.1+s.2-at_)],a',c')) ?_ ?_ Zb Zd;(focus(exact hI.next1 hsl hso (by omega) (fun y hy=>by first|(rw [hx] at hy;cases hy;omega)|(have:=Qv hy;omega))));(focus(first|omega|(dsimp only;omega))))|(refine Qp ((i+1,k,o++[(at_,x.1-at_)],a',c')) ?_ ?_ Zb Zd;(focus(exact(hI.cutAt hso hsm hx (by omega) (by omega) (by omega)).1.next0 (Nat.le_refl _) hsl (by omega)));(focus(first|omega|(dsimp only;omega)))))))<;>(first|refine N.block ?_|refine Ql ?_|refine Ex.out rfl ?_))<;>(first|refine Ex.then ?_|refine N.next ?_<;>((refine Zt ?_<;>repeat' first|refine Z.p rfl ?_|refine Qf ?_)<;>(apply X.r1 Tryz.results265 (Qh rfl);(focus((obtain rfl:i=l.length:=by omega);exact⟨a',c',o,rfl,hO.set,fun t=>by rw [hO.mem t,inTo_all],by have:=hO.len;have:=hO.hk;omega,rfl⟩));exact Zd))))
end Go.Lx
namespace Go.Lx
open Go.Proofs Go.Shelf Go.Sort
theorem lt_of_getA{α:Type}{l:List α}{k:Nat}{x:α}(h:l[k]?=some x):k<l.length:=(List.getElem?_eq_some_iff.1 h).1
theorem flatK_eq{α:Type} [Inhabited α](f:α→List Value)(sz:Nat)(hf:∀ x,(f x).length=sz)(hsz:0<sz)(l:List α):(flatK f sz l.toArray).toList=l.flatMap f:=by
  have hlen:=flat_len f sz hf l
  apply List.ext_getElem?
  intro t
  by_cases ht:t<l.length*sz
  · have h1:t/sz<l.length:=by rw [Nat.div_lt_iff_lt_mul hsz];exact ht
    have h2:t%sz<sz:=Nat.mod_lt _ hsz
    have h3:=flat_get f sz hf l (t/sz) (t%sz) l[t/sz] (List.getElem?_eq_getElem h1) h2
    rw [Nat.mul_comm,Nat.div_add_mod] at h3
    rw [h3]
    have hq:t<(flatK f sz l.toArray).size:=by simp;exact ht
    have e:=get_flatK f sz l.toArray t (by simpa using ht)
    rw [Array.getElem?_toList,Array.getElem?_eq_getElem hq]
    rw [getElem!_pos (flatK f sz l.toArray) t hq] at e
    rw [e]
    have h4:(l.toArray[t/sz]!)=l[t/sz]:=by simp [h1]
    rw [h4]
    have h5:t%sz<(f l[t/sz]).length:=by rw [hf];exact h2
    rw [getElem!_pos (f l[t/sz]) (t%sz) h5,List.getElem?_eq_getElem h5]
  · rw [List.getElem?_eq_none (by simp;omega),List.getElem?_eq_none (by rw [hlen];omega)]
theorem sort_own{α:Type} [Inhabited α]{P:Program}{ρ:Ren}(L:SlLaysF0.n6 P ρ)(f:α→List Value)(sz:Nat)(hf:∀ x,(f x).length=sz)(hsz:0<sz)(h1:∀ x,∀ v∈f x,v.oneCell'=true)
    [ag:Ag P (ρ.t 24)] [hs:Sz P (ρ.t 24) sz] (cf:α→α→Int) (hO:SWO (ltOf cf)) (k:FuncId) (cps:List Value) [en:Enters P k]
    (hcmp:∀ x y W,Calls P k (.agg (f x).toArray:: .agg (f y).toArray::cps).toArray W fun e w'=>e= .returned (.int .i64 (cf x y))∧∃ q os',w'=Sort.grow (W.drewN q) os')
    (w:World) (H:Nat→Prop) (g n c T:Nat) (l:List α) (hn:l.length=n) (hown:Sep [own T sz (.slice (some ⟨g,0,none⟩) n c) n (l.flatMap f)] w H) (hlt:n<4611686018427387904):
    Spec P (ρ.f 6) #[.slice (some ⟨g,0,none⟩) n c,.func (.func k) #[] cps.toArray] w H (fun v A=>∃ l':List α,v= .tuple #[]∧l'.Perm l∧(∀ (i j:Nat) (x y:α),i<j→l'[i]?=some x→l'[j]?=some y→ ¬cf y x<0)∧A=[own T sz (.slice (some ⟨g,0,none⟩) n c) n (l'.flatMap f)]):=by
  subst hn
  obtain⟨F1,F2,⟨ho,hF1⟩,h2,_,hF⟩:=hown
  have hH:∀ b,H b↔b=g:=fun b=>by
    rw [hF b,hF1 b]
    have:=h2 b
    simp [this,Value.ownBlock,eq_comm]
  obtain⟨hlen,ho⟩:=ho
  rcases ho with⟨he,_⟩|⟨g',cap,cur,he,_,hg,hnc,hcm,hcs,htake⟩
  · cases he
  cases he
  have hfl:=flatK_eq f sz hf hsz l
  have hgw:g<w.heap.size:=(Array.getElem?_eq_some_iff.1 hg).1
  have hH2:HoldsK f sz w g 0 l.toArray:=by
    intro j hj
    simp only [size_flatK,List.size_toArray] at hj
    have hq:j<(flatK f sz l.toArray).size:=by simpa using hj
    have hle:l.length*sz≤cur.size:=by rw [hcs];exact Nat.mul_le_mul_right _ hnc
    constructor
    · have e:cur.toList[j]?=some ((flatK f sz l.toArray)[j]!):=by
        have h3:(cur.toList.take (l.length*sz))[j]?=(l.flatMap f)[j]?:=by rw [htake]
        rw [List.getElem?_take,if_pos hj] at h3
        rw [h3,←hfl,Array.getElem?_toList,getElem!_pos (flatK f sz l.toArray) j hq,Array.getElem?_eq_getElem hq]
      simp only [World.cell?,hg,Nat.zero_add]
      simpa using e
    · simp [World.frozen?,hg]
  have hcl:CmpLays P k cps.toArray f sz cf g 0 l.toArray.size w:=by
    intro m os dk hdk x y
    have e:(#[Value.agg (f x).toArray,.agg (f y).toArray]++cps.toArray)=(Value.agg (f x).toArray:: .agg (f y).toArray::cps).toArray:=by simp
    rw [e]
    exact hcmp x y _
  refine Calls.mono (AnyQ.slices_SortFunc L sz ag.agg hs.run f hf h1 cf hO k cps.toArray g 0 c l.toArray w en.run hcl hH2 hgw (by simpa using hlt)) ?_
  rintro e w' ⟨rfl,d',m,os,⟨hsz',_,hperm⟩,hsort,rfl⟩
  have hds:d'.size=l.length:=by simpa using hsz'
  have hp:d'.toList.Perm l:=by
    have e1:d'.extract 0 l.toArray.size=d':=by rw [←hsz'];simp
    have e2:l.toArray.extract 0 l.toArray.size=l.toArray:=by simp
    rw [e1,e2] at hperm
    simpa using hperm
  have hfl':=flatK_eq f sz hf hsz d'.toList
  rw [Array.toArray_toList] at hfl'
  have hcell:(sortWorldK f sz w g 0 m d' os).heap[g]?=some (.cells (putCells id 0 (flatK f sz d') cur) T (0,0)):=by
    have hm:(mapBlock (Sort.ahead w m) g (putCells id 0 (flatK f sz d'))).heap[g]?=some (.cells (putCells id 0 (flatK f sz d') cur) T (0,0)):=by
      simp only [mapBlock,Sort.ahead,Array.getElem?_modify,if_true,hg,Option.map_some,onCells]
    show((mapBlock (Sort.ahead w m) g (putCells id 0 (flatK f sz d'))).heap++os)[g]?=_
    rw [Array.getElem?_append_left (by simp only [mapBlock,Sort.ahead,Array.size_modify];exact hgw)]
    exact hm
  refine⟨_,_,rfl,⟨d'.toList,rfl,hp, ?_,rfl⟩,⟨rfl,rfl,rfl, ?_, ?_, ?_,⟨fun b=>b=g,⟨fun b=>b=g,fun _=>False,⟨⟨?_,.inr ⟨g,c,_,rfl,Nat.zero_le _,hcell,hnc,hcm, ?_, ?_⟩⟩, ?_⟩,fun _ h=>h,fun _ _ h=>h,fun b=>by simp⟩,fun b hb=> .inl ((hH b).2 hb)⟩⟩⟩
  · intro i j x y hij hx hy hlt'
    have hj:=lt_of_getA hy
    have:=hsort i j (Nat.zero_le _) hij (by simpa [hds] using hj)
    rw [Array.getElem?_toList] at hx hy
    have hi':i<d'.size:=by have:=lt_of_getA (l:=d'.toList) (by rw [Array.getElem?_toList];exact hx);simpa using this
    have hj':j<d'.size:=by simpa using hj
    rw [getElem!_pos d' i hi',getElem!_pos d' j hj'] at this
    rw [Array.getElem?_eq_getElem hi'] at hx
    rw [Array.getElem?_eq_getElem hj'] at hy
    cases hx;cases hy
    simp [ltOf] at this
    omega
  · show w.heap.size≤((mapBlock (Sort.ahead w m) g (putCells id 0 (flatK f sz d'))).heap++os).size
    simp only [Array.size_append,mapBlock,Sort.ahead,Array.size_modify]
    omega
  · exact trivial
  · intro b hb hHb
    have hbg:b≠g:=fun e=>hHb ((hH b).2 e)
    show((mapBlock (Sort.ahead w m) g (putCells id 0 (flatK f sz d'))).heap++os)[b]?=_
    rw [Array.getElem?_append_left (by simp only [mapBlock,Sort.ahead,Array.size_modify];exact hb)]
    simp only [mapBlock,Sort.ahead,Array.getElem?_modify,if_neg (Ne.symm hbg)]
  · rw [flat_len f sz hf]
    simp [hds]
  · simp [putCells,hcs]
  · rw [←hfl']
    apply List.ext_getElem?
    intro t
    rw [List.getElem?_take]
    have hle:l.length*sz≤cur.size:=by rw [hcs];exact Nat.mul_le_mul_right _ hnc
    by_cases ht:t<l.length*sz
    · rw [if_pos ht]
      have hq:t<(flatK f sz d').size:=by rw [size_flatK,hds];exact ht
      have hq2:t<cur.size:=by omega
      simp only [Array.getElem?_toList,putCells,Array.getElem?_mapIdx,Nat.zero_le,Nat.zero_add,true_and,Nat.sub_zero,id]
      rw [Array.getElem?_eq_getElem hq2,Array.getElem?_eq_getElem hq]
      simp only [Option.map_some,if_pos hq]
      rw [getElem!_pos (flatK f sz d') t hq]
    · rw [if_neg ht,Array.getElem?_toList,Array.getElem?_eq_none (by rw [size_flatK,hds];omega)]
  · intro b
    simp [Value.ownBlock,eq_comm]
theorem sort_row{α:Type} [Inhabited α]{P:Program}{ρ:Ren}(L:SlLaysF0.n6 P ρ)(f:α→List Value)(sz:Nat)(hf:∀ x,(f x).length=sz)(hsz:0<sz)(h1:∀ x,∀ v∈f x,v.oneCell'=true)
    [ag:Ag P (ρ.t 24)] [hs:Sz P (ρ.t 24) sz] (cf:α→α→Int) (hO:SWO (ltOf cf)) (k:FuncId) (cps:List Value) [en:Enters P k]
    (hcmp:∀ x y W,Calls P k (.agg (f x).toArray:: .agg (f y).toArray::cps).toArray W fun e w'=>e= .returned (.int .i64 (cf x y))∧∃ q os',w'=Sort.grow (W.drewN q) os')
    (w:World) (H:Nat→Prop) (a:Option Addr) (n c T:Nat) (l:List α) (hn:l.length=n) (hown:Sep [own T sz (.slice a n c) n (l.flatMap f)] w H) (hlt:n<4611686018427387904)
    (hnil:Spec P (ρ.f 6) #[.slice none 0 0,.func (.func k) #[] cps.toArray] w (fun _=>False) (fun v A=>v= .tuple #[]∧A=[])):
    Spec P (ρ.f 6) #[.slice a n c,.func (.func k) #[] cps.toArray] w H (fun v A=>∃ l':List α,v= .tuple #[]∧l'.Perm l∧(∀ (i j:Nat) (x y:α),i<j→l'[i]?=some x→l'[j]?=some y→ ¬cf y x<0)∧A=[own T sz (.slice a n c) n (l'.flatMap f)]):=by
  have hown':=hown
  obtain⟨F1,F2,⟨⟨hlen,ho⟩,hF1⟩,h2,_,hF⟩:=hown
  rcases ho with⟨he,hn0⟩|⟨g,cap,cur,he,_⟩
  · cases he
    have hl:l=[]:=List.length_eq_zero_iff.1 hn
    subst hl
    have hH:H=fun _=>False:=by
      funext b
      have:=h2 b
      have:=hF b
      simp [hF1 b,Value.ownBlock] at this
      simp_all
    subst hH
    refine Calls.mono hnil ?_
    rintro e w' ⟨v,A,rfl,⟨rfl,rfl⟩,hc⟩
    exact⟨_,_,rfl,⟨[],rfl,List.Perm.refl _,fun i j x y _ hx=>(by cases hx),rfl⟩,hc.nilOwn T sz⟩
  · cases he
    exact sort_own L f sz hf hsz h1 cf hO k cps hcmp w H g n c T l hn hown' hlt
end Go.Lx
namespace Go.Proofs
open Go.Shelf
def Tryz.sortS_ren:Go.Shelf.Ren:=⟨fun|6=>302|15=>200|14=>326|28=>251|29=>252|20=>332|21=>333|22=>334|23=>335|24=>336|25=>337|26=>338|27=>339|46=>340|47=>295|48=>296|49=>341|50=>342|57=>343|n=>n,fun|22=>39|24=>103|25=>374|3=>3|39=>284|0=>0|53=>186|55=>27|4=>4|46=>326|45=>325|50=>306|5=>5|9=>9|66=>367|70=>370|76=>388|77=>389|n=>n,fun|n=>n⟩
theorem Tryz.sortS:Go.Proofs.SlLaysF0.n6 Tryz.prog Tryz.sortS_ren:={
  mixed:=by kernel_rfl
  f6:=⟨Tryz.f302.name,by decide,Tryz.func302.trans (congrArg some (by kernel_rfl))⟩
  f14:=⟨Tryz.f326.name,by decide,Tryz.func326.trans (congrArg some (by kernel_rfl))⟩
  f15:=Tryz.func200.trans (congrArg some (by kernel_rfl))
  f20:=⟨Tryz.f332.name,by decide,Tryz.func332.trans (congrArg some (by kernel_rfl))⟩
  f21:=⟨Tryz.f333.name,by decide,Tryz.func333.trans (congrArg some (by kernel_rfl))⟩
  f22:=⟨Tryz.f334.name,by decide,Tryz.func334.trans (congrArg some (by kernel_rfl))⟩
  f23:=⟨Tryz.f335.name,by decide,Tryz.func335.trans (congrArg some (by kernel_rfl))⟩
  f24:=⟨Tryz.f336.name,by decide,Tryz.func336.trans (congrArg some (by kernel_rfl))⟩
  f25:=⟨Tryz.f337.name,by decide,Tryz.func337.trans (congrArg some (by kernel_rfl))⟩
  f26:=⟨Tryz.f338.name,by decide,Tryz.func338.trans (congrArg some (by kernel_rfl))⟩
  f27:=⟨Tryz.f339.name,by decide,Tryz.func339.trans (congrArg some (by kernel_rfl))⟩
  f28:=Tryz.func251.trans (congrArg some (by kernel_rfl))
  f29:=Tryz.func252.trans (congrArg some (by kernel_rfl))
  f46:=⟨Tryz.f340.name,by decide,Tryz.func340.trans (congrArg some (by kernel_rfl))⟩
  f47:=Tryz.func295.trans (congrArg some (by kernel_rfl))
  f48:=Tryz.func296.trans (congrArg some (by kernel_rfl))
  f49:=⟨Tryz.f341.name,by decide,Tryz.func341.trans (congrArg some (by kernel_rfl))⟩
  f50:=⟨Tryz.f342.name,by decide,Tryz.func342.trans (congrArg some (by kernel_rfl))⟩
  f57:=⟨Tryz.f343.name,by decide,Tryz.func343.trans (congrArg some (by kernel_rfl))⟩
  t0:=Tryz.underlying0
  a0:=Tryz.isAgg0
  z0:=Tryz.sizeOf0
  v0:=Tryz.zeroValue0
  t3:=Tryz.underlying3
  a3:=Tryz.isAgg3
  z3:=Tryz.sizeOf3
  v3:=Tryz.zeroValue3
  t4:=Tryz.underlying4
  a4:=Tryz.isAgg4
  z4:=Tryz.sizeOf4
  v4:=Tryz.zeroValue4
  t5:=Tryz.underlying5
  a5:=Tryz.isAgg5
  z5:=Tryz.sizeOf5
  v5:=Tryz.zeroValue5
  t9:=Tryz.underlying9
  a9:=Tryz.isAgg9
  z9:=Tryz.sizeOf9
  v9:=Tryz.zeroValue9
  t22:=Tryz.underlying39
  a22:=Tryz.isAgg39
  z22:=Tryz.sizeOf39
  v22:=Tryz.zeroValue39
  t25:=Tryz.underlying374
  a25:=Tryz.isAgg374
  z25:=Tryz.sizeOf374
  v25:=Tryz.zeroValue374
  t39:=Tryz.underlying284
  a39:=Tryz.isAgg284
  z39:=Tryz.sizeOf284
  v39:=Tryz.zeroValue284
  t45:=Tryz.underlying325
  a45:=Tryz.isAgg325
  z45:=Tryz.sizeOf325
  v45:=Tryz.zeroValue325
  t46:=Tryz.underlying326
  a46:=Tryz.isAgg326
  z46:=Tryz.sizeOf326
  v46:=Tryz.zeroValue326
  t50:=Tryz.underlying306
  a50:=Tryz.isAgg306
  z50:=Tryz.sizeOf306
  v50:=Tryz.zeroValue306
  t53:=Tryz.underlying186
  a53:=Tryz.isAgg186
  z53:=Tryz.sizeOf186
  v53:=Tryz.zeroValue186
  t55:=Tryz.underlying27
  a55:=Tryz.isAgg27
  z55:=Tryz.sizeOf27
  v55:=Tryz.zeroValue27
  t66:=Tryz.underlying367
  a66:=Tryz.isAgg367
  z66:=Tryz.sizeOf367
  v66:=Tryz.zeroValue367
  t70:=Tryz.underlying370
  a70:=Tryz.isAgg370
  z70:=Tryz.sizeOf370
  v70:=Tryz.zeroValue370
  t76:=Tryz.underlying388
  a76:=Tryz.isAgg388
  z76:=Tryz.sizeOf388
  v76:=Tryz.zeroValue388
  t77:=Tryz.underlying389
  a77:=Tryz.isAgg389
  z77:=Tryz.sizeOf389
  v77:=Tryz.zeroValue389}
def Tryz.cmpS_ren:Go.Shelf.Ren:=⟨fun|5=>304|7=>313|n=>n,fun|22=>3|3=>3|4=>4|n=>n,fun|n=>n⟩
theorem Tryz.cmpS:Go.Proofs.SlLaysC2.n5 Tryz.prog Tryz.cmpS_ren:={
  mixed:=by kernel_rfl
  f5:=⟨Tryz.f304.name,by decide,Tryz.func304.trans (congrArg some (by kernel_rfl))⟩
  f7:=⟨Tryz.f313.name,by decide,Tryz.func313.trans (congrArg some (by kernel_rfl))⟩
  t3:=Tryz.underlying3
  a3:=Tryz.isAgg3
  z3:=Tryz.sizeOf3
  v3:=Tryz.zeroValue3
  t4:=Tryz.underlying4
  a4:=Tryz.isAgg4
  z4:=Tryz.sizeOf4
  v4:=Tryz.zeroValue4
  t22:=Tryz.underlying3
  a22:=Tryz.isAgg3
  z22:=Tryz.sizeOf3
  v22:=Tryz.zeroValue3}
end Go.Proofs
