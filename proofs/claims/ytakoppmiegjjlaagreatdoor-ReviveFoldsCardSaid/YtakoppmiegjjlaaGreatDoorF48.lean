import Derived.Test.YtakoppmiegjjlaaGreatDoorF46
import Derived.Test.YtakoppmiegjjlaaGreatDoorF47
import Derived.Test.YtakoppmiegjjlaaGreatDoorF41
import Derived.Test.YtakoppmiegjjlaaGreatDoorF42
import Derived.Test.YtakoppmiegjjlaaGreatDoorF4
import Derived.Test.YtakoppmiegjjlaaGreatDoorF39
set_option linter.unusedVariables false
set_option linter.unusedSimpArgs false
set_option maxRecDepth 20000
set_option maxHeartbeats 4000000
namespace Go.Lx
open Go.Proofs
abbrev vV:Bs:=[118,111,108]
structure Chn (k N:Nat) (O:List Dob) (S:Nat→Ck):Prop where
  len:N≤O.length
  few:O.length≤12
  st:S 0=cN k 300
  kk:k<18446744073709551616
  fold:∀ j,1≤j→j≤N→FoldR (cN k 300) (O.take j) (S j) 0
  one:∀ j o,j<N→O[j]?=some o→FoldR (S j) [o] (S (j+1)) 0
theorem Chn.step{k N:Nat}{O:List Dob}{S:Nat→Ck}(h:Chn k N O S){o:Dob}{d:Ck}(ho:O[N]?=some o)(hd:FoldR (S N) [o] d 0):Chn k (N+1) O (fun j=>if j≤N then S j else d):=by
  have hl:=(List.getElem?_eq_some_iff.1 ho).1
  have h1:FoldR (cN k 300) (O.take (N+1)) d 0:=by
    have ht:O.take (N+1)=O.take N++[o]:=by rw [List.take_add_one,ho];rfl
    cases N with
    |zero=>rw [ht,List.take_zero,List.nil_append];rw [h.st] at hd;exact hd
    |succ n=>
      have h2:=h.fold (n+1) (by omega) (Nat.le_refl _)
      refine fold_two (by decide) (by rw [List.length_take];have:=h.few;omega) (a:=n+1) (by rw [List.length_take];omega) ?_ ?_ (y:=S (n+1))
      · rw [List.take_take,Nat.min_eq_left (by omega)];exact h2
      · rw [ht,List.drop_append_of_le_length (by rw [List.length_take];omega),List.drop_eq_nil_of_le (by rw [List.length_take];omega)];exact hd
  refine⟨hl,h.few, ?_,h.kk,fun j hj hj2=>?_,fun j p hj hp=>?_⟩
  · simp only [Nat.zero_le,if_true];exact h.st
  · by_cases e:j≤N
    · simp only [e,if_true];exact h.fold j hj e
    · obtain rfl:j=N+1:=by omega
      simp only [e,if_false];exact h1
  · by_cases e:j<N
    · have e1:j≤N:=by omega
      have e2:j+1≤N:=e
      simp only [e1,e2,if_true];exact h.one j p e hp
    · obtain rfl:j=N:=by omega
      have e2: ¬j+1≤j:=by omega
      simp only [Nat.le_refl,e2,if_true,if_false]
      rw [ho] at hp;cases hp;exact hd
theorem Chn.at_{k N:Nat}{O:List Dob}{S:Nat→Ck}(h:Chn k N O S){j:Nat}(hj:j≤N):(S j).sq=(j:Int)∧(S j).k=k∧(S j).sz=300∧chkK (S j)=0∧(S j).m.length≤300∧(S j).r.length≤12∧(S j).nt.length=0:=by
  have hf:=h.few
  have hn:=h.len
  by_cases e:j=0
  · subst e
    rw [h.st]
    exact⟨rfl,rfl,rfl,chk_new (by decide),Nat.zero_le _,Nat.zero_le _,rfl⟩
  · have h1:=h.fold j (by omega) hj
    have h2:=fold_end (by decide) (by rw [List.length_take];omega) h1
    have h3:=FoldR.small (by decide) (by rw [List.length_take];omega) h1
    obtain⟨i,rfl⟩:∃ i,j=i+1:=⟨j-1,by omega⟩
    have he:=h2.2.1.eq
    have hs:=okN.seq (c:=cN k 300) rfl h2.1 (Nat.le_refl _)
    have hk:=foldN_same (cN k 300) (O.take (i+1)) (O.take (i+1)).length
    have hl:(O.take (i+1)).length=i+1:=by rw [List.length_take];omega
    refine⟨?_, ?_, ?_,h2.2.2,h3⟩
    · have:=congrArg Ck.sq he;rw [hs.1,hl] at this;exact this
    · have:=congrArg Ck.k he;rw [hk.1] at this;exact this
    · have:=congrArg Ck.sz he;rw [hk.2.1] at this;exact this
theorem Chn.obj{k N:Nat}{O:List Dob}{S:Nat→Ck}(h:Chn k N O S){j:Nat}{o:Dob}(hj:j<N)(ho:O[j]?=some o):chkD o=0∧o.sq=(j:Int)+1∧o.k=k:=by
  have h1:=h.one j o hj ho
  rcases h1 with⟨a1,a2,_⟩|⟨_,⟨i,p,b1,b2,b3,b4,_⟩|⟨hok,_⟩⟩
  · exact absurd a2.symm a1
  · exact absurd b4.symm b3
  · have:=mayK_ok (hok 0 o (Nat.zero_lt_succ 0) rfl)
    have h2:=h.at_ (Nat.le_of_lt hj)
    have e:foldN (S j) [o] 0=S j:=rfl
    rw [e] at this
    exact⟨this.1,by rw [this.2.2.1,h2.1],by rw [this.2.1,h2.2.1]⟩
structure Sto (n m:Nat) (x:Int) (ck:Nat→Bool) (O:List Dob) (S:Nat→Ck) (es L:List (Bs×Bs)) (u:Int):Prop where
  ag:Agree es L
  nm:NamesV vV L
  us:u=(usedL L:Int)
  ln:L.length≤n+m
  bd:usedL L≤65536*(n+m)
  dt:∀ p∈L,p.2.length≤65536
  ob:∀ q,seqOK q→((1≤q∧q≤n∧q≠x)→∃ o,O[(q-1).toNat]?=some o∧getT L (nmT vV 1 q)=some (dobB o))∧(¬(1≤q∧q≤n∧q≠x)→getT L (nmT vV 1 q)=none)
  cp:∀ q,seqOK q→((1≤q∧q≤m∧ck (q-1).toNat=true∧(x<1∨q<x))→getT L (nmT vV 2 q)=some (stK (S q.toNat)))∧(¬(1≤q∧q≤m∧ck (q-1).toNat=true∧(x<1∨q<x))→getT L (nmT vV 2 q)=none)
theorem Sto.zero(x:Int)(ck:Nat→Bool)(O:List Dob)(S:Nat→Ck):Sto 0 0 x ck O S [] [] 0:=
  ⟨Agree.nil,fun p hp=>absurd hp List.not_mem_nil,rfl,Nat.le_refl _,Nat.zero_le _,fun p hp=>absurd hp List.not_mem_nil,fun q _=>⟨fun h=>by omega,fun _=>rfl⟩,fun q _=>⟨fun h=>by omega,fun _=>rfl⟩⟩
theorem Sto.swap{n m:Nat}{x:Int}{ck:Nat→Bool}{O:List Dob}{S S':Nat→Ck}{es L:List (Bs×Bs)}{u:Int}(h:Sto n m x ck O S es L u)(hS:∀ j,j≤m→S' j=S j):Sto n m x ck O S' es L u:=
  ⟨h.ag,h.nm,h.us,h.ln,h.bd,h.dt,h.ob,fun q hq=>⟨fun h1=>by rw [hS _ (by omega)];exact(h.cp q hq).1 h1,(h.cp q hq).2⟩⟩
theorem Sto.skipO{n m:Nat}{x:Int}{ck:Nat→Bool}{O:List Dob}{S:Nat→Ck}{es L:List (Bs×Bs)}{u:Int}(h:Sto n m x ck O S es L u)(hx:(n:Int)+1=x):Sto (n+1) m x ck O S es L u:=
  ⟨h.ag,h.nm,h.us,by have:=h.ln;omega,by have:=h.bd;omega,h.dt,fun q hq=>⟨fun h1=>(h.ob q hq).1 (by omega),fun h1=>(h.ob q hq).2 (by omega)⟩,h.cp⟩
theorem Sto.skipC{n m:Nat}{x:Int}{ck:Nat→Bool}{O:List Dob}{S:Nat→Ck}{es L:List (Bs×Bs)}{u:Int}(h:Sto n m x ck O S es L u)(hx: ¬(ck m=true∧(x<1∨(m:Int)+1<x))):Sto n (m+1) x ck O S es L u:=by
  refine⟨h.ag,h.nm,h.us,by have:=h.ln;omega,by have:=h.bd;omega,h.dt,h.ob,fun q hq=>?_⟩
  have key:(1≤q∧q≤((m+1:Nat):Int)∧ck (q-1).toNat=true∧(x<1∨q<x))→(1≤q∧q≤m∧ck (q-1).toNat=true∧(x<1∨q<x)):=by
    rintro⟨h1,h2,h3,h4⟩
    refine⟨h1, ?_,h3,h4⟩
    rcases Int.lt_or_le (m:Int) q with g|g
    · obtain rfl:q=(m:Int)+1:=by omega
      rw [show((m:Int)+1-1).toNat=m from by omega] at h3
      exact absurd ⟨h3,h4⟩ hx
    · exact g
  exact⟨fun h1=>(h.cp q hq).1 (key h1),fun h1=>(h.cp q hq).2 (fun h2=>h1 ⟨h2.1,by omega,h2.2.2⟩)⟩
theorem volOKv:VolOK vV:=by decide
theorem Sto.putG{n m:Nat}{x:Int}{ck:Nat→Bool}{O:List Dob}{S:Nat→Ck}{es L:List (Bs×Bs)}{u:Int}(h:Sto n m x ck O S es L u){k q:Int}(hk:1≤k∧k≤2)(hq:seqOK q){d:Bs}(hd:d.length≤65536)(hn:getT L (nmT vV k q)=none){e u':Int}{es':List (Bs×Bs)}(hp:PutQ es (nmT vV k q) d u e u' es'):e=0∧u'=u+d.length∧Agree es' (insL L (nmT vV k q) d)∧NamesV vV (insL L (nmT vV k q) d)∧(∀ p∈insL L (nmT vV k q) d,p.2.length≤65536)∧∀ j,getT (insL L (nmT vV k q) d) j=if j=nmT vV k q then some d else getT L j:=by
  have hne:nmT vV k q≠[]:=fun h0=>by have:=nmT_len vV k q;rw [h0] at this;simp at this
  rcases hp with⟨h1,_⟩|⟨_,⟨h1,_⟩|⟨h1,rfl,rfl,rfl⟩⟩
  · exact absurd h1 hne
  · exact absurd ((h.ag.get _).trans hn) h1
  · refine⟨rfl,rfl,h.ag.put d hn,h.nm.ins (by omega) hq d,fun p hp=>?_,get_insL _ _ _ (getT_none' hn)⟩
    rcases mem_insL.1 hp with rfl|hp
    · exact hd
    · exact h.dt p hp
theorem nm_ne{k j q p:Int}(hk:1≤k∧k≤2)(hj:1≤j∧j≤2)(hq:seqOK q)(hp:seqOK p)(h:k≠j∨q≠p):nmT vV k q≠nmT vV j p:=fun e=>by
  have:=nmT_inj volOKv volOKv (by omega) (by omega) hq hp e
  omega
theorem Sto.putO{n m:Nat}{x:Int}{ck:Nat→Bool}{O:List Dob}{S:Nat→Ck}{es L:List (Bs×Bs)}{u:Int}(h:Sto n m x ck O S es L u)(hn:n≤1000)(hx:(n:Int)+1≠x){o:Dob}(ho:O[n]?=some o)(hd:(dobB o).length≤65536){e u':Int}{es':List (Bs×Bs)}(hp:PutQ es (nmT vV 1 ((n:Int)+1)) (dobB o) u e u' es'):e=0∧∃ L',Sto (n+1) m x ck O S es' L' u':=by
  have hs:seqOK ((n:Int)+1):=by unfold seqOK;omega
  obtain⟨rfl,rfl,h1,h2,h3,h4⟩:=h.putG (by decide) hs hd ((h.ob _ hs).2 (by omega)) hp
  refine⟨rfl,_,h1,h2,by rw [h.us,usedL_ins];omega,by rw [insL_len];have:=h.ln;omega,by rw [usedL_ins];have:=h.bd;omega,h3,fun q hq=>?_,fun q hq=>?_⟩
  · rw [h4]
    by_cases e:q=(n:Int)+1
    · subst e
      rw [if_pos rfl]
      exact⟨fun _=>⟨o,by rw [show((n:Int)+1-1).toNat=n from by omega];exact ho,rfl⟩,fun g=>absurd ⟨by omega,by omega,hx⟩ g⟩
    · rw [if_neg (nm_ne (by decide) (by decide) hq hs (.inr e))]
      exact⟨fun g=>(h.ob q hq).1 (by omega),fun g=>(h.ob q hq).2 (by omega)⟩
  · rw [h4,if_neg (nm_ne (by decide) (by decide) hq hs (.inl (by decide)))]
    exact h.cp q hq
theorem Sto.putC{n m:Nat}{x:Int}{ck:Nat→Bool}{O:List Dob}{S:Nat→Ck}{es L:List (Bs×Bs)}{u:Int}(h:Sto n m x ck O S es L u)(hn:m≤1000)(hx:ck m=true∧(x<1∨(m:Int)+1<x))(hd:(stK (S (m+1))).length≤65536){e u':Int}{es':List (Bs×Bs)}(hp:PutQ es (nmT vV 2 ((m:Int)+1)) (stK (S (m+1))) u e u' es'):e=0∧∃ L',Sto n (m+1) x ck O S es' L' u':=by
  have hs:seqOK ((m:Int)+1):=by unfold seqOK;omega
  obtain⟨rfl,rfl,h1,h2,h3,h4⟩:=h.putG (by decide) hs hd ((h.cp _ hs).2 (by omega)) hp
  refine⟨rfl,_,h1,h2,by rw [h.us,usedL_ins];omega,by rw [insL_len];have:=h.ln;omega,by rw [usedL_ins];have:=h.bd;omega,h3,fun q hq=>?_,fun q hq=>?_⟩
  · rw [h4,if_neg (nm_ne (by decide) (by decide) hq hs (.inl (by decide)))]
    exact h.ob q hq
  · rw [h4]
    by_cases e:q=(m:Int)+1
    · subst e
      rw [if_pos rfl]
      exact⟨fun _=>by rw [show((m:Int)+1).toNat=m+1 from by omega],fun g=>absurd ⟨by omega,by omega,by rw [show((m:Int)+1-1).toNat=m from by omega];exact hx.1,hx.2⟩ g⟩
    · rw [if_neg (nm_ne (by decide) (by decide) hq hs (.inr e))]
      exact⟨fun g=>(h.cp q hq).1 ⟨g.1,by omega,g.2.2⟩,fun g=>(h.cp q hq).2 (fun g2=>g ⟨g2.1,by omega,g2.2.2⟩)⟩
end Go.Lx
namespace Go.Lx
open Go.Proofs
def okU (x upto:Int) (j:Nat):Prop:=j=0∨((x<1∨(j:Int)<x)∧(j:Int)≤upto)
theorem okU.down{x upto:Int}{i j:Nat}(h:okU x upto j)(hi:i≤j):okU x upto i:=by
  unfold okU at *
  omega
theorem getS_all{d:Bs}(h:d.length≤65536):getS (some d) (fateL []) 0 65537=(d,0):=by
  unfold getS
  rw [if_neg (by decide)]
  simp only [Nat.not_lt_zero,gt_iff_lt,if_false,List.drop_zero]
  rw [List.take_of_length_le (by omega)]
theorem prtE0{k q:Int}(hk:1≤k∧k≤4)(hq:seqOK q):prtE vV k q=0:=by
  unfold prtE
  rw [if_pos volOKv,if_pos hk,if_pos hq]
theorem gotS_v{look:Bs→Option Bs}{k q:Int}(hk:1≤k∧k≤4)(hq:seqOK q)(a n:Nat):gotS look [] vV k q a n=getS (look (nmT vV k q)) (fateL []) a n:=by
  unfold gotS
  rw [if_pos (prtE0 hk hq)]
theorem gotL_v(k q:Int):gotL [] vV k q=[]:=by
  unfold gotL
  split<;>rfl
theorem ObjR.have{look:Bs→Option Bs}{q:Int}{o:Dob}(hq:seqOK q)(hl:look (nmT vV 1 q)=some (dobB o))(hc:chkD o=0)(hk:o.k<18446744073709551616)(hs:o.sq=q):ObjR look [] vV q o 0:=
  ⟨dobB o,0,by rw [gotS_v (by decide) hq,hl];exact getS_all (chkD_ok hc).2.2.2,.inr ⟨rfl,o,0,DecD.of_good hc hk,.inr ⟨rfl,hs,rfl,rfl⟩⟩⟩
theorem ObjR.lack{look:Bs→Option Bs}{q:Int}(hq:seqOK q)(hl:look (nmT vV 1 q)=none):ObjR look [] vV q zD 15:=
  ⟨[],15,by rw [gotS_v (by decide) hq,hl];rfl,.inl ⟨by decide,rfl,rfl⟩⟩
theorem CkpR.have{look:Bs→Option Bs}{q:Int}{c:Ck}(hq:seqOK q)(hl:look (nmT vV 2 q)=some (stK c))(hc:chkK c=0)(hk:c.k<18446744073709551616)(hr:c.r.length≤65536)(hd:(stK c).length≤65536)(hs:c.sq=q):CkpR look [] vV q c 0:=
  ⟨stK c,0,by rw [gotS_v (by decide) hq,hl];exact getS_all hd,.inr ⟨rfl,c,0,DecK.of_good hc hk hr,.inr ⟨rfl,hs,rfl,rfl⟩⟩⟩
theorem nums_in{L:List (Bs×Bs)}(hL:NamesV vV L){k q:Int}(hk:1≤k∧k≤4)(hq:seqOK q)(h:getT L (nmT vV k q)≠none):q∈numsL L vV k:=by
  have h1:nmT vV k q∈keyT L:=by
    by_cases g:nmT vV k q∈keyT L
    · exact g
    · exact absurd ((getT_none L _).2 g) h
  have h2:nmT vV k q∈withP (preB vV k) (keyT L):=List.mem_filter.2 ⟨h1,by rw [decide_eq_true_eq];exact nmT_pre vV k q⟩
  rw [withP_nums hL volOKv volOKv hk] at h2
  obtain⟨p,hp,he⟩:=List.mem_map.1 h2
  have:=nmT_inj volOKv volOKv hk hk (nums_ok hL volOKv volOKv hk p hp) hq he
  rw [←this.2.2];exact hp
theorem nums_has{L:List (Bs×Bs)}(hL:NamesV vV L){k q:Int}(hk:1≤k∧k≤4)(h:q∈numsL L vV k):seqOK q∧getT L (nmT vV k q)≠none:=
  ⟨nums_ok hL volOKv volOKv hk q h,fun g=>(getT_none L _).1 g (nums_mem hL volOKv volOKv hk h)⟩
section
variable {k N:Nat} {x upto u:Int} {ck:Nat→Bool} {O:List Dob} {S:Nat→Ck} {es L:List (Bs×Bs)}
theorem Sto.obj(h:Sto N N x ck O S es L u)(hc:Chn k N O S){j:Nat}{o:Dob}(hj:j<N)(ho:O[j]?=some o)(hx:(j:Int)+1≠x):ObjR (getT es) [] vV ((j:Int)+1) o 0:=by
  have hs:seqOK ((j:Int)+1):=by have:=hc.len;have:=hc.few;unfold seqOK;omega
  obtain⟨p,hp,hg⟩:=(h.ob _ hs).1 ⟨by omega,by omega,hx⟩
  rw [show((j:Int)+1-1).toNat=j from by omega,ho] at hp
  cases hp
  have h1:=hc.obj hj ho
  exact ObjR.have hs ((h.ag.get _).trans hg) h1.1 (by rw [h1.2.2];exact hc.kk) h1.2.1
theorem Sto.lack(h:Sto N N x ck O S es L u)(hc:Chn k N O S){j:Nat}(hj:j<N)(hx:(j:Int)+1=x):ObjR (getT es) [] vV ((j:Int)+1) zD 15:=by
  have hs:seqOK ((j:Int)+1):=by have:=hc.len;have:=hc.few;unfold seqOK;omega
  exact ObjR.lack hs ((h.ag.get _).trans ((h.ob _ hs).2 (by omega)))
theorem Chn.small(hc:Chn k N O S){j:Nat}(hj:1≤j∧j≤N):(stK (S j)).length≤65536:=by
  rcases hc.fold j hj.1 hj.2 with⟨h1,h2,_⟩|⟨_,⟨_,_,_,_,h1,h2,_⟩|⟨_,d',h,⟨h1,_,rfl⟩|⟨_,h2,_⟩⟩⟩
  · exact absurd h2.symm h1
  · exact absurd h2.symm h1
  · exact h1
  · exact absurd h2 (by decide)
theorem Sto.beg(h:Sto N N x ck O S es L u)(hc:Chn k N O S):∀ {l fs f':List Int} {s:Ck} {n e:Int},BegR (getT es) vV (cN k 300) upto l fs s n e f'→fs=[]→(∀ q∈l,q∈numsL L vV 2)→e=0∧f'=[]∧(n≤upto∨n=0)∧∃ j,j≤N∧okU x upto j∧s=S j:=by
  have key:∀ q,q∈numsL L vV 2→(1≤q∧q≤N∧(x<1∨q<x))∧CkpR (getT es) [] vV q (S q.toNat) 0∧(S q.toNat).k=k∧(S q.toNat).sz=300:=by
    intro q hq
    obtain⟨hs,hg⟩:=nums_has h.nm (by decide) hq
    by_cases g:(1≤q∧q≤N∧ck (q-1).toNat=true∧(x<1∨q<x))
    · have ha:=hc.at_ (j:=q.toNat) (by omega)
      have hb:=hc.small (j:=q.toNat) (by omega)
      refine⟨⟨g.1,g.2.1,g.2.2.2⟩,CkpR.have hs ((h.ag.get _).trans ((h.cp q hs).1 g)) ha.2.2.2.1 (by rw [ha.2.1];exact hc.kk) (by omega) hb (by rw [ha.1];omega),ha.2.1,ha.2.2.1⟩
    · exact absurd ((h.cp q hs).2 g) hg
  intro l fs f' s n e hb
  induction hb with
  |nil=>exact fun h0 _=>⟨rfl,h0,.inr rfl,0,Nat.zero_le _,.inl rfl,hc.st.symm⟩
  |skip a1 a2 ih=>exact fun h0 hq=>ih h0 fun p hp=>hq p (List.mem_cons_of_mem _ hp)
  |gone a1 a2 a3 a4 ih=>
    intro h0 hq
    subst h0
    obtain⟨b1,b2,b3,b4⟩:=key _ (hq _ List.mem_cons_self)
    obtain⟨rfl,rfl⟩:=a2.unique b2
    rcases a3 with a3|a3
    · exact absurd a3 gone0
    · exact absurd b3 a3.2
  |err a1 a2 a3 a4=>
    intro h0 hq
    subst h0
    obtain⟨b1,b2,b3,b4⟩:=key _ (hq _ List.mem_cons_self)
    exact absurd (a2.unique b2).2 a3
  |take a1 a2 a3=>
    rename_i q l fs c
    intro h0 hq
    subst h0
    obtain⟨b1,b2,b3,b4⟩:=key _ (hq _ List.mem_cons_self)
    obtain⟨rfl,_⟩:=a2.unique b2
    refine⟨rfl,gotL_v 2 q,.inl (by omega),q.toNat,by omega,.inr (by omega), ?_⟩
    have:max (S q.toNat).sz (cN k 300).sz=(S q.toNat).sz:=by rw [b4];rfl
    rw [this]
theorem Sto.fol(h:Sto N N x ck O S es L u)(hc:Chn k N O S)(hN:N=O.length){t:Nat}(ht:t≤N∧okU x upto t∧∀ j,j≤N→okU x upto j→j≤t):∀ {fs:List Int} {s d:Ck} {e:Int},FolR (getT es) vV (numsL L vV 1) upto fs s d e→fs=[]→∀ j,j≤N→okU x upto j→s=S j→e=0∧d=S t:=by
  have key:∀ j:Nat,j≤N→okU x upto j→((j:Int)+1∈numsL L vV 1)→(j:Int)+1≤upto→j+1≤N∧okU x upto (j+1)∧∃ o,O[j]?=some o∧ObjR (getT es) [] vV ((j:Int)+1) o 0∧FoldR (S j) [o] (S (j+1)) 0:=by
    intro j hj hok hq hu
    obtain⟨hs,hg⟩:=nums_has h.nm (by decide) hq
    by_cases g:(1≤(j:Int)+1∧(j:Int)+1≤N∧(j:Int)+1≠x)
    · obtain⟨o,ho,_⟩:=(h.ob _ hs).1 g
      rw [show((j:Int)+1-1).toNat=j from by omega] at ho
      refine⟨by omega,by unfold okU at *;omega,o,ho,h.obj hc (by omega) ho g.2.2,hc.one j o (by omega) ho⟩
    · exact absurd ((h.ob _ hs).2 g) hg
  intro fs s d e hf
  induction hf with
  |stop a1=>
    rintro _ j hj hok rfl
    refine⟨rfl, ?_⟩
    have hsq:=(hc.at_ hj).1
    rw [hsq] at a1
    obtain⟨h1,h2,h3⟩:=ht
    have h4:=h3 j hj hok
    rcases Nat.lt_or_ge j t with g|g
    · have h5:okU x upto (j+1):=h2.down g
      have h6:((j:Int)+1≠x∧(j:Int)+1≤upto):=by unfold okU at h5;omega
      have hs:seqOK ((j:Int)+1):=by have:=hc.few;unfold seqOK;omega
      obtain⟨o,_,hg⟩:=(h.ob _ hs).1 ⟨by omega,by omega,h6.1⟩
      rcases a1 with a1|a1
      · exact absurd (nums_in h.nm (by decide) hs (by rw [hg];exact Option.some_ne_none _)) a1
      · omega
    · obtain rfl:j=t:=by omega
      rfl
  |gone a1 a2 a3 a4=>
    rintro rfl j hj hok rfl
    rw [(hc.at_ hj).1] at a1 a2 a3
    obtain⟨_,_,o,_,b1,_⟩:=key j hj hok a1 a2
    obtain⟨_,rfl⟩:=a3.unique b1
    exact absurd a4 gone0
  |err a1 a2 a3 a4 a5=>
    rintro rfl j hj hok rfl
    rw [(hc.at_ hj).1] at a1 a2 a3
    obtain⟨_,_,o,_,b1,_⟩:=key j hj hok a1 a2
    exact absurd (a3.unique b1).2 a4
  |bad a1 a2 a3 a4 a5=>
    rintro rfl j hj hok rfl
    rw [(hc.at_ hj).1] at a1 a2 a3
    obtain⟨_,_,o,_,b1,b2⟩:=key j hj hok a1 a2
    obtain⟨rfl,_⟩:=a3.unique b1
    exact absurd (a4.unique b2).2 a5
  |step a1 a2 a3 a4 a5 ih=>
    rintro rfl j hj hok rfl
    rw [(hc.at_ hj).1] at a1 a2 a3
    obtain⟨c1,c2,o,_,b1,b2⟩:=key j hj hok a1 a2
    obtain⟨rfl,_⟩:=a3.unique b1
    exact ih (gotL_v 1 _) (j+1) c1 c2 (a4.unique b2).1
theorem Sto.run(h:Sto N N x ck O S es L u)(hc:Chn k N O S)(hN:N=O.length){t:Nat}(ht:t≤N∧okU x upto t∧∀ j,j≤N→okU x upto j→j≤t){s:Ck}{n e:Int}{o:List Int}(hr:RunR (getT es) L [] vV (cN k 300) upto s n o e):e=0∧s=S t∧(n≤upto∨n=0):=by
  have list:∀ {j e:Int} {qs:List Int},ListR L [] vV j e qs→e=0∧qs=numsL L vV j:=by
    rintro j e qs (⟨h1,_⟩|⟨_,h2,h3⟩)
    · exact absurd rfl h1
    · exact⟨h2,h3⟩
  obtain⟨e1,qs,h1,h2⟩:=hr
  obtain⟨rfl,rfl⟩:=list h1
  rcases h2 with⟨a1,_⟩|⟨_,e2,ps,a2,a3⟩
  · exact absurd rfl a1
  obtain⟨rfl,rfl⟩:=list a2
  rcases a3 with⟨c1,_⟩|⟨_,s1,n1,e3,fs3,c2,c3⟩
  · exact absurd rfl c1
  obtain⟨rfl,rfl,hn,j,hj,hok,rfl⟩:=h.beg hc c2 rfl (fun q hq=>List.mem_reverse.1 hq)
  rcases c3 with⟨g1,_⟩|⟨_,d,e4,g2,g3⟩
  · exact absurd rfl g1
  obtain⟨rfl,rfl⟩:=h.fol hc hN ht g2 rfl j hj hok rfl
  rcases g3 with⟨x1,_⟩|⟨_,rfl,rfl,rfl,_⟩
  · exact absurd rfl x1
  · exact⟨rfl,rfl,hn⟩
theorem Sto.sec(h:Sto N N x ck O S es L u)(hc:Chn k N O S){j:Nat}{o:Dob}(hj:j<N)(ho:O[j]?=some o)(hx:(j:Int)+1≠x){a n:Nat}(ha:64*(a+n)≤o.d.length):gotS (getT es) [] vV 1 ((j:Int)+1) (64*a) (64*n)=((o.d.take (64*(a+n))).drop (64*a),0):=by
  have hs:seqOK ((j:Int)+1):=by have:=hc.len;have:=hc.few;unfold seqOK;omega
  obtain⟨p,hp,hg⟩:=(h.ob _ hs).1 ⟨by omega,by omega,hx⟩
  rw [show((j:Int)+1-1).toNat=j from by omega,ho] at hp
  cases hp
  rw [gotS_v (by decide) hs,h.ag.get,hg]
  have hl:=(dobB_drop o).1
  unfold getS
  rw [if_neg (by decide)]
  simp only
  rw [if_neg (by omega)]
  refine congrArg (fun z=>(z,(0:Int))) ?_
  unfold dobB
  rw [List.drop_append_of_le_length (by omega),List.take_append_of_le_length (by rw [List.length_drop];omega),List.drop_take]
  congr 1
  omega
end
end Go.Lx
namespace Go.Lx
open Go.Proofs
end Go.Lx
