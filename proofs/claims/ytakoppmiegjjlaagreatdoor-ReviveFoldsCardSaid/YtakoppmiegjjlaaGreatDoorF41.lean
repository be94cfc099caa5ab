import Derived.Test.YtakoppmiegjjlaaGreatDoorF35
set_option linter.unusedVariables false
set_option linter.unusedSimpArgs false
namespace Go.Lx
open Go.Proofs
theorem IsMap.sig{l:List Ext}{σ τ:Sig}(h:IsMap l σ)(k:IsMap l τ):σ=τ:=by
  funext t
  have e:∀ p,σ t=some p↔τ t=some p:=fun p=>by rw [←h.at_,←k.at_]
  cases hs:σ t with
  |none=>cases ht:τ t with
    |none=>rfl
    |some q=>have:=(e q).2 ht;rw [hs] at this;cases this
  |some p=>exact((e p).1 hs).symm
theorem stepS_some{sq p t:Int}{σ:Sig}{x:Ext}{s:Int×Int}(h:stepS sq σ p x t=some s):(x.a≤t∧t<x.a+x.n∧s=(sq,p+(t-x.a)))∨σ t=some s:=by
  unfold stepS at h
  split at h
  · unfold updE at h
    dsimp only at h
    split at h
    · rename_i ht;cases h;exact .inl ⟨ht.1,ht.2,rfl⟩
    · exact .inr h
  · unfold movS at h
    dsimp only at h
    split at h
    · rename_i ht;cases h;exact .inl ⟨ht.1,ht.2.1,rfl⟩
    · exact .inr h
theorem cuts_some:∀ (l:List Sp) {σ:Sig} {t:Int} {s:Int×Int},(l.foldl cutE σ) t=some s→σ t=some s
  |[],_,_,_,h=>h
  |c::l,σ,t,s,h=>by
    have:=cuts_some l h
    unfold cutE at this
    split at this
    · cases this
    · exact this
structure OwnS (sq sz T:Int) (σ τ:Sig):Prop where
  pos:0≤T
  of:∀ t s,τ t=some s→(s.1=sq∧0≤s.2∧s.2<T∧0≤t∧t<sz)∨(s.1≠sq∧σ t=some s)
  inj:∀ t u p,τ t=some (sq,p)→τ u=some (sq,p)→t=u
theorem partsN_own{σ:Sig}{sq sz:Int}{l:List Ext}(hnew:∀ t s,σ t=some s→s.1≠sq)(hl:∀ (i:Nat) x,l[i]?=some x→0≤x.a∧1≤x.n∧x.a+x.n≤sz):∀ n,n≤l.length→OwnS sq sz (secs (l.take n)) σ (partsN σ sq l n)
  |0,_=>⟨Int.le_refl _,fun t s h=> .inr ⟨hnew t s h,h⟩,fun t u p h=>absurd rfl (hnew t _ h)⟩
  |n+1,hn=>by
    obtain⟨x,hx⟩:=Qt (l:=l) (k:=n) hn
    have ih:=partsN_own hnew hl n (by omega)
    have hxl:=hl n x hx
    rw [partsN_succ hx,Qw hx,secs_snoc]
    have hp:=ih.pos
    refine⟨by omega,fun t s h=>?_,fun t u p h k=>?_⟩
    · rcases stepS_some h with⟨h1,h2,rfl⟩|h1
      · exact .inl ⟨rfl,by dsimp only;omega,by dsimp only;omega,by omega,by omega⟩
      · rcases ih.of t s h1 with⟨g1,g2,g3,g4⟩|g
        · exact .inl ⟨g1,g2,by omega,g4⟩
        · exact .inr g
    · have old:∀ {v},partsN σ sq l n v=some (sq,p)→p<secs (l.take n):=fun hv=>by
        rcases ih.of _ _ hv with⟨_,_,g,_⟩|⟨g,_⟩
        · exact g
        · exact absurd rfl g
      rcases stepS_some h with⟨h1,h2,h3⟩|h1<;>rcases stepS_some k with⟨k1,k2,k3⟩|k1
      · have a:=congrArg Prod.snd h3
        have b:=congrArg Prod.snd k3
        dsimp only at a b
        omega
      · have a:=congrArg Prod.snd h3
        have b:=old k1
        dsimp only at a
        omega
      · have a:=congrArg Prod.snd k3
        have b:=old h1
        dsimp only at a
        omega
      · exact ih.inj t u p h1 k1
structure InvS (sz:Int) (L:List Dob) (n:Nat) (σ:Sig):Prop where
  of:∀ t s,σ t=some s→0≤t∧t<sz∧∃ (i:Nat) (o:Dob),i<n∧L[i]?=some o∧s.1=o.sq∧0≤s.2∧s.2<secs o.ps
  inj:∀ t u s,σ t=some s→σ u=some s→t=u
theorem InvS.step{sz:Int}{L:List Dob}{n:Nat}{σ:Sig}{o:Dob}(h:InvS sz L n σ)(ho:L[n]?=some o)(hsq:∀ (i:Nat) p,i<n+1→L[i]?=some p→p.sq=(i:Int)+1)(hl:∀ (i:Nat) x,o.ps[i]?=some x→0≤x.a∧1≤x.n∧x.a+x.n≤sz):InvS sz L (n+1) (applyS σ o):=by
  have hos:=hsq n o (by omega) ho
  have hnew:∀ t s,(o.cs.foldl cutE σ) t=some s→s.1≠o.sq:=fun t s hs e=>by
    obtain⟨_,_,i,p,hi,hp,h1,_⟩:=h.of t s (cuts_some _ hs)
    have:=hsq i p (by omega) hp
    omega
  have hO:=partsN_own hnew hl o.ps.length (Nat.le_refl _)
  rw [List.take_length] at hO
  refine⟨fun t s hs=>?_,fun t u s ht hu=>?_⟩
  · rcases hO.of t s hs with⟨g1,g2,g3,g4,g5⟩|⟨_,g⟩
    · exact⟨g4,g5,n,o,by omega,ho,g1,g2,g3⟩
    · obtain⟨a,b,i,p,hi,q⟩:=h.of t s (cuts_some _ g)
      exact⟨a,b,i,p,by omega,q⟩
  · rcases hO.of t s ht with⟨g1,_⟩|⟨g1,g⟩
    · obtain⟨a,b⟩:=s
      dsimp only at g1
      subst g1
      exact hO.inj t u b ht hu
    · rcases hO.of u s hu with⟨k1,_⟩|⟨_,k⟩
      · exact absurd k1 g1
      · exact h.inj t u s (cuts_some _ g) (cuts_some _ k)
theorem foldC_r:∀ (l:List Dob) (c:Ck),(l.foldl foldC c).r=c.r++l.map fun o=>(o.sq,secs o.ps,0)
  |[],c=>by simp
  |o::l,c=>by
    rw [List.foldl_cons,foldC_r l (foldC c o),List.map_cons]
    simp [foldC]
theorem okN.seq{c:Ck}{L:List Dob}(h0:c.sq=0):∀ {n:Nat},okN c L n→n≤L.length→(foldN c L n).sq=n∧∀ (i:Nat) p,i<n→L[i]?=some p→p.sq=(i:Int)+1
  |0,_,_=>⟨by show c.sq=_;rw [h0];rfl,fun i p hi=>by omega⟩
  |n+1,h,hn=>by
    obtain⟨o,ho⟩:=Qt (l:=L) (k:=n) hn
    obtain⟨h1,h2⟩:=okN.seq h0 (n:=n) (fun j p hj hp=>h j p (by omega) hp) (by omega)
    have h3:=(mayK_ok (h n o (by omega) ho)).2.2.1
    rw [h1] at h3
    rw [foldN_succ ho]
    refine⟨by show o.sq=_;omega,fun i p hi hp=>?_⟩
    rcases Nat.lt_or_ge i n with g|g
    · exact h2 i p g hp
    · obtain rfl:i=n:=by omega
      rw [ho] at hp;cases hp;exact h3
theorem okN.inv{k:Nat}{sz:Int}{L:List Dob}:∀ {n:Nat},okN (cN k sz) L n→n≤L.length→InvS sz L n (sigN (cN k sz) L n)
  |0,_,_=>⟨fun t s h=>(by cases h),fun t u s h=>(by cases h)⟩
  |n+1,h,hn=>by
    obtain⟨o,ho⟩:=Qt (l:=L) (k:=n) hn
    have ih:=okN.inv (n:=n) (fun j p hj hp=>h j p (by omega) hp) (by omega)
    have hs:=(okN.seq (c:=cN k sz) rfl h hn).2
    rw [sigN_succ ho]
    obtain⟨m1,_,_,_,_,m6,_⟩:=mayK_ok (h n o (by omega) ho)
    have hL:=(chkD_ok m1).2.1
    refine ih.step ho hs (fun i x hx=>?_)
    have h1:=(hL.2.2.1 i x (Qv hx) hx).1.1
    have h2:=m6 x (List.mem_of_getElem? hx)
    have h3:=(foldN_same (cN k sz) L n).2.1
    rw [h3] at h2
    unfold mayS at h1
    dsimp only at h1
    exact⟨h1.1,h1.2.2.1,h2⟩
theorem cntI_split(f p:Int→Bool)(a:Int):∀ n:Nat,cntI f a n=cntI (fun t=>f t&&p t) a n+cntI (fun t=>f t&& !p t) a n
  |0=>rfl
  |n+1=>by
    simp only [cntI,cntI_split f p a n]
    rcases Bool.eq_false_or_eq_true (f (a+n)) with hf|hf<;>rcases Bool.eq_false_or_eq_true (p (a+n)) with hp|hp<;>simp [hf,hp]<;>omega
theorem cntI_one{f:Int→Bool}{a:Int}:∀ {n:Nat},(∀ t u:Int,a≤t→t<a+n→a≤u→u<a+n→f t=true→f u=true→t=u)→cntI f a n≤1
  |0,_=>(by decide:(0:Int)≤1)
  |n+1,h=>by
    simp only [cntI]
    by_cases hf:f (a+n)=true
    · rw [if_pos hf,cntI_none (n:=n) (fun t h1 h2=>by
        cases ht:f t with
        |false=>rfl
        |true=>have:=h t (a+n) h1 (by omega) (by omega) (by omega) ht hf;omega)]
      decide
    · rw [if_neg hf]
      have:=cntI_one (f:=f) (a:=a) (n:=n) (fun t u a1 a2 a3 a4=>h t u a1 (by omega) a3 (by omega))
      omega
theorem cntI_inj(N:Nat)(g:Int→Int):∀ (T:Nat) (f:Int→Bool),(∀ t:Int,0≤t→t<N→f t=true→0≤g t∧g t<T)→(∀ t u:Int,0≤t→t<N→0≤u→u<N→f t=true→f u=true→g t=g u→t=u)→cntI f 0 N≤T
  |0,f,h,_=>by
    rw [cntI_none]
    · exact Int.le_refl _
    · intro t h1 h2
      cases ht:f t with
      |false=>rfl
      |true=>have:=h t h1 (by omega) ht;omega
  |T+1,f,h,hi=>by
    rw [cntI_split f (fun t=>decide (g t=T)) 0 N]
    have h1:cntI (fun t=>f t&&decide (g t=T)) 0 N≤1:=cntI_one (fun t u a1 a2 a3 a4 a5 a6=>by
      simp only [Bool.and_eq_true,decide_eq_true_eq] at a5 a6
      exact hi t u a1 (by omega) a3 (by omega) a5.1 a6.1 (by omega))
    have h2:=cntI_inj N g T (fun t=>f t&& !decide (g t=T)) (fun t a1 a2 a3=>by
      simp only [Bool.and_eq_true,Bool.not_eq_true',decide_eq_false_iff_not] at a3
      have:=h t a1 a2 a3.1
      omega) (fun t u a1 a2 a3 a4 a5 a6=>by
      simp only [Bool.and_eq_true] at a5 a6
      exact hi t u a1 a2 a3 a4 a5.1 a6.1)
    omega
theorem liveN_sumC(q:Int):∀ l:List Ext,liveN l q=sumC (fun y=>decide (y.q=q)) l
  |[]=>rfl
  |x::l=>by
    simp only [liveN,sumC,liveN_sumC q l,decide_eq_true_eq]
theorem live_le{l:List Ext}{σ:Sig}{q:Int}{T:Nat}(h:IsMap l σ)(hσ:∀ t p:Int,σ t=some (q,p)→0≤p∧p<T)(hi:∀ t u s,σ t=some s→σ u=some s→t=u):liveN l q≤T:=by
  let f:Int→Bool:=fun t=>match σ t with
    |some s=>decide (s.1=q)
    |none=>false
  let g:Int→Int:=fun t=>match σ t with
    |some s=>s.2
    |none=>0
  have hf:∀ t,f t=true→∃ p,σ t=some (q,p)∧g t=p:=fun t ht=>by
    cases hs:σ t with
    |none=>simp only [f,hs] at ht;cases ht
    |some s=>
      obtain⟨a,b⟩:=s
      simp only [f,hs,decide_eq_true_eq] at ht
      subst ht
      exact⟨b,rfl,by simp only [g,hs]⟩
  rw [liveN_sumC,sumC_cnt (fun y=>decide (y.q=q)) f l 0 65536 h.rise (by have:=h.rise.endTop (by omega);omega) (fun t _ _=>?_)]
  · refine cntI_inj 65536 g T f (fun t _ _ ht=>?_) (fun t u _ _ _ _ ht hu he=>?_)
    · obtain⟨p,h1,h2⟩:=hf t ht
      rw [h2];exact hσ t p h1
    · obtain⟨p,h1,h2⟩:=hf t ht
      obtain⟨p',k1,k2⟩:=hf u hu
      have:p=p':=by rw [←h2,←k2,he]
      subst this
      exact hi t u _ h1 k1
  · constructor
    · intro ht
      obtain⟨p,h1,_⟩:=hf t ht
      obtain⟨y,hy,y1,y2,y3⟩:=(h.at_ t (q,p)).2 h1
      exact⟨y,hy,y1,y2,decide_eq_true (congrArg Prod.fst y3).symm⟩
    · rintro⟨y,hy,y1,y2,y3⟩
      have:=(h.at_ t (y.q,y.p+(t-y.a))).1 ⟨y,hy,y1,y2,rfl⟩
      simp only [f,this]
      exact y3
theorem rise_len2:∀ (l:List Ext) (lo:Int),Rise lo l→lo+(l.length:Int)≤endE lo l
  |[],lo,_=>by simp [endE]
  |x::l,lo,h=>by
    obtain⟨h1,h2,h3⟩:=h
    have ih:=rise_len2 l _ h3
    unfold inE at h2
    simp only [List.length_cons,endE]
    omega
theorem map_end{l:List Ext}{σ:Sig}{sz:Int}(h:IsMap l σ)(hs:∀ t s,σ t=some s→t<sz):∀ x∈l,x.a+x.n≤sz:=fun x hx=>by
  have hi:=(h.rise.mem hx).1
  unfold inE at hi
  have:=hs _ _ ((h.at_ (x.a+x.n-1) _).1 ⟨x,hx,by omega,by omega,rfl⟩)
  omega
theorem map_len{l:List Ext}{σ:Sig}{sz:Int}(h:IsMap l σ)(hsz:0≤sz)(hs:∀ t s,σ t=some s→t<sz):(l.length:Int)≤sz:=by
  have h1:=rise_len2 l 0 h.rise
  have h2:=endE_le l 0 hsz (map_end h hs)
  omega
theorem stK_small{k:Nat}{sz:Int}{L:List Dob}{d:Ck}(hsz:1≤sz∧sz≤300)(ho:okN (cN k sz) L L.length)(hL:L.length≤12)(h:IsEnd (cN k sz) L d):(stK d).length≤65536:=by
  have hI:=ho.inv (Nat.le_refl _)
  have hml:=map_len h.map (by omega) (fun t s hs=>(hI.of t s hs).2.1)
  have hr:d.r.length=L.length:=by
    have e:=h.eq
    have:d.r=cntK d.m (foldN (cN k sz) L L.length).r:=by rw [e]
    rw [this,cntK_len,foldN_rlen (Nat.le_refl _)]
    show 0+L.length=L.length
    omega
  have hnt:d.nt.length=0:=by
    have:d.nt=(foldN (cN k sz) L L.length).nt:=by rw [h.eq]
    rw [this,(foldN_same (cN k sz) L L.length).2.2.2]
    rfl
  have h1:=bodK_len d
  have h2:=stK_len d
  omega
theorem chk_fold{k:Nat}{sz:Int}{L:List Dob}{d:Ck}(hsz:1≤sz∧sz≤300)(ho:okN (cN k sz) L L.length)(hL:L.length≤12)(h:IsEnd (cN k sz) L d):chkK d=0:=by
  have hI:=ho.inv (Nat.le_refl _)
  obtain⟨hS,hsq⟩:=okN.seq (c:=cN k sz) rfl ho (Nat.le_refl _)
  have hn0:numsK (cN k sz):=⟨(by decide:(1:Int)≤1∧(1:Int)<1099511627776),(by decide:(0:Int)≤0∧(0:Int)<1099511627776),(by decide:(0:Int)≤0∧(0:Int)<1099511627776),by show 1≤sz;omega,by show sz≤65536;omega⟩
  have hn:=h.nums ho hn0
  have hds:d.sz=sz:=by
    have:d.sz=(foldN (cN k sz) L L.length).sz:=by rw [h.eq]
    rw [this,(foldN_same (cN k sz) L L.length).2.1]
    rfl
  have hdq:d.sq=L.length:=by
    have:d.sq=(foldN (cN k sz) L L.length).sq:=by rw [h.eq]
    rw [this,hS]
  have hdr:d.r=cntK d.m (L.map fun o=>(o.sq,secs o.ps,0)):=by
    have:d.r=cntK d.m (foldN (cN k sz) L L.length).r:=by rw [h.eq]
    rw [this]
    unfold foldN
    rw [List.take_length,foldC_r]
    rfl
  have hnt:d.nt.length=0:=by
    have:d.nt=(foldN (cN k sz) L L.length).nt:=by rw [h.eq]
    rw [this,(foldN_same (cN k sz) L L.length).2.2.2]
    rfl
  have hrow:∀ (i:Nat) o,L[i]?=some o→d.r[i]?=some (o.sq,secs o.ps,liveN d.m o.sq):=fun i o ho'=>by
    rw [hdr]
    unfold cntK
    rw [List.getElem?_map,List.getElem?_map,ho']
    rfl
  have hsec:∀ (i:Nat) o,L[i]?=some o→0≤secs o.ps∧secs o.ps≤65536:=fun i o ho'=>by
    have m1:=(mayK_ok (ho i o (Qv ho') ho')).1
    have hs:=(chkD_ok m1).2.1.2.2.1.secs o.ps.length (Nat.le_refl _)
    rw [List.take_length] at hs
    omega
  have hval:∀ x∈d.m,∃ (i:Nat) (o:Dob),L[i]?=some o∧x.q=o.sq∧0≤x.p∧x.p<secs o.ps:=fun x hx=>by
    have hi:=(h.map.rise.mem hx).1
    unfold inE at hi
    obtain⟨_,_,i,o,_,h1,h2,h3,h4⟩:=hI.of _ _ ((h.map.at_ x.a (x.q,x.p+(x.a-x.a))).1 ⟨x,hx,by omega,by omega,rfl⟩)
    dsimp only at h2 h3 h4
    exact⟨i,o,h1,h2,by omega,by omega⟩
  refine chkK_of hn ⟨fun j x hj hx=>⟨?_,fun y h0 hy=>?_⟩,h.map.nf, ?_⟩ ⟨fun i x hi hx=>?_,fun x hx=>?_⟩ (by omega) (stK_small hsz ho hL h)
  · have hi:=(h.map.rise.mem (List.mem_of_getElem? hx)).1
    obtain⟨i,o,h1,h2,h3,h4⟩:=hval x (List.mem_of_getElem? hx)
    have h5:=hsq i o (Qv h1) h1
    have h6:=hsec i o h1
    have h7:=Qv h1
    unfold inE at hi
    unfold mayE mayS plS
    dsimp only
    omega
  · exact h.map.rise.idx (by omega) hy hx
  · rw [hds]
    exact map_end h.map (fun t s hs=>(hI.of t s hs).2.1)
  · have hil:i<L.length:=by
      have:=Qv hx
      rw [hdr,cntK_len,List.length_map] at this
      exact this
    obtain⟨o,ho'⟩:=Qt hil
    have e:=hrow i o ho'
    rw [e] at hx
    cases hx
    have h1:=hsq i o hil ho'
    have h2:=hsec i o ho'
    have hp:prevK d.r i=i:=by
      cases i with
      |zero=>rfl
      |succ j=>
        obtain⟨o2,ho2⟩:=Qt (l:=L) (k:=j) (by omega)
        rw [prevK_succ (hrow j o2 ho2)]
        have:=hsq j o2 (by omega) ho2
        dsimp only
        omega
    have hlv:liveN d.m o.sq≤(secs o.ps).toNat:=live_le h.map (fun t p htp=>by
      obtain⟨_,_,j,o2,hj,h3,h4,h5,h6⟩:=hI.of t _ htp
      have h7:=hsq j o2 hj h3
      dsimp only at h4 h5 h6
      obtain rfl:j=i:=by omega
      rw [ho'] at h3
      cases h3
      omega) hI.inj
    unfold RowP
    rw [hp,hdq]
    dsimp only
    refine⟨by omega,by omega,by omega,by omega,rfl,by omega⟩
  · obtain⟨i,o,h1,h2,_⟩:=hval x hx
    exact⟨_,List.mem_of_getElem? (hrow i o h1),h2.symm⟩
end Go.Lx
namespace Go.Lx
open Go.Proofs
def AlikeK (c d:Ck):Prop:=c.k=d.k∧c.sq=d.sq∧c.ep=d.ep∧c.up=d.up∧c.sz=d.sz∧c.nt=d.nt
theorem AlikeK.fold:∀ (l:List Dob) {c d:Ck},AlikeK c d→AlikeK (l.foldl foldC c) (l.foldl foldC d)
  |[],_,_,h=>h
  |o::l,c,d,h=>by
    rw [List.foldl_cons,List.foldl_cons]
    exact AlikeK.fold l ⟨h.1,rfl,rfl,rfl,h.2.2.2.2.1,h.2.2.2.2.2⟩
theorem AlikeK.may{c d:Ck}(h:AlikeK c d)(o:Dob):mayK c o=mayK d o:=mayK_eq h.1 h.2.1 h.2.2.1 h.2.2.2.1 h.2.2.2.2.1
theorem foldN_take{c:Ck}{L:List Dob}{a j:Nat}(h:j≤a):foldN c (L.take a) j=foldN c L j:=by
  unfold foldN
  rw [List.take_take,Nat.min_eq_left h]
theorem foldN_drop(c:Ck)(L:List Dob)(a i:Nat):foldN c L (a+i)=((L.drop a).take i).foldl foldC (foldN c L a):=by
  unfold foldN
  rw [List.take_add,List.foldl_append]
theorem take_get{L:List Dob}{a j:Nat}{o:Dob}(h:(L.take a)[j]?=some o):L[j]?=some o∧j<a:=by
  rw [List.getElem?_take] at h
  split at h
  · rename_i g;exact⟨h,g⟩
  · cases h
theorem get_take{L:List Dob}{a j:Nat}{o:Dob}(h:L[j]?=some o)(hj:j<a):(L.take a)[j]?=some o:=by
  rw [List.getElem?_take,if_pos hj];exact h
theorem cntK_cnt(m n:List Ext)(R T:List Kr):cntK m (cntK n R++T)=cntK m (R++T):=by
  unfold cntK
  rw [List.map_append,List.map_append,List.map_map]
  rfl
theorem fold_one{k:Nat}{sz:Int}{L:List Dob}{a:Nat}{x y:Ck}{e f:Int}(hsz:1≤sz∧sz≤300)(hL:L.length≤12)(h:FoldR (cN k sz) (L.take a) y f)(hf:f≠0)(hx:FoldR (cN k sz) L x e):e=f∧x=zK:=by
  have hc:chkK (cN k sz)=0:=chk_new ⟨hsz.1,by omega⟩
  obtain⟨_,h⟩:=h.resolve_left (fun g=>g.1 hc)
  rcases h with⟨i,o,i1,i2,i3,rfl,rfl⟩|⟨h2,d,hd,h⟩
  · obtain⟨j1,j2⟩:=take_get i1
    rw [foldN_take (by omega)] at i3 hf
    have hr:FoldR (cN k sz) L zK (mayK (foldN (cN k sz) L i) o):= .inr ⟨hc,.inl ⟨i,o,j1,fun j p hj hp=>by have:=i2 j p hj (get_take hp (by omega));rwa [foldN_take (by omega)] at this,i3,rfl,rfl⟩⟩
    have:=hx.unique hr
    rw [foldN_take (by omega)]
    exact⟨this.2,this.1⟩
  · have hs:=stK_small hsz h2 (by rw [List.length_take];omega) hd
    rcases h with⟨_,h,_⟩|⟨h,_⟩
    · exact absurd h hf
    · omega
theorem fold_end{k:Nat}{sz:Int}{L:List Dob}{y:Ck}(hsz:1≤sz∧sz≤300)(hL:L.length≤12)(h:FoldR (cN k sz) L y 0):okN (cN k sz) L L.length∧IsEnd (cN k sz) L y∧chkK y=0:=by
  have hc:chkK (cN k sz)=0:=chk_new ⟨hsz.1,by omega⟩
  obtain⟨_,h⟩:=h.resolve_left (fun g=>g.1 hc)
  rcases h with⟨i,o,i1,i2,i3,i4,_⟩|⟨h2,d,hd,h⟩
  · exact absurd i4.symm i3
  · rcases h with⟨_,_,rfl⟩|⟨_,h,_⟩
    · exact⟨h2,hd,chk_fold hsz h2 hL hd⟩
    · cases h
theorem fold_two{k:Nat}{sz:Int}{L:List Dob}{a:Nat}{y z:Ck}{g:Int}(hsz:1≤sz∧sz≤300)(hL:L.length≤12)(ha:a≤L.length)(h:FoldR (cN k sz) (L.take a) y 0)(hz:FoldR y (L.drop a) z g):FoldR (cN k sz) L z g:=by
  have hc:chkK (cN k sz)=0:=chk_new ⟨hsz.1,by omega⟩
  have hla:(L.take a).length=a:=by rw [List.length_take];omega
  obtain⟨h1,h2,h3⟩:=fold_end hsz (by omega) h
  rw [hla] at h1
  have hfa:foldN (cN k sz) (L.take a) (L.take a).length=foldN (cN k sz) L a:=by rw [hla,foldN_take (Nat.le_refl _)]
  have hyeq:y={foldN (cN k sz) L a with m:=y.m,r:=cntK y.m (foldN (cN k sz) L a).r}:=by have:=h2.eq;rwa [hfa] at this
  have hal:AlikeK y (foldN (cN k sz) L a):=by rw [hyeq];exact⟨rfl,rfl,rfl,rfl,rfl,rfl⟩
  have hali:∀ i,AlikeK (foldN y (L.drop a) i) (foldN (cN k sz) L (a+i)):=fun i=>by rw [foldN_drop];exact AlikeK.fold _ hal
  have hok1:okN (cN k sz) L a:=fun j p hj hp=>by have:=h1 j p hj (get_take hp hj);rwa [foldN_take (by omega)] at this
  have hok2:∀ n,okN y (L.drop a) n→okN (cN k sz) L (a+n):=fun n hn j p hj hp=>by
    rcases Nat.lt_or_ge j a with q|q
    · exact hok1 j p q hp
    · obtain⟨i,rfl⟩:∃ i,j=a+i:=⟨j-a,by omega⟩
      rw [←(hali i).may]
      exact hn i p (by omega) (by rw [List.getElem?_drop];exact hp)
  obtain⟨_,hz⟩:=hz.resolve_left (fun q=>q.1 h3)
  refine .inr ⟨hc, ?_⟩
  rcases hz with⟨i,o,i1,i2,i3,rfl,rfl⟩|⟨z1,d,hd,hz⟩
  · rw [List.getElem?_drop] at i1
    refine .inl ⟨a+i,o,i1,hok2 i i2, ?_, ?_,rfl⟩
    · rw [←(hali i).may];exact i3
    · exact(hali i).may o
  · have hld:a+(L.drop a).length=L.length:=by rw [List.length_drop];omega
    have hok:okN (cN k sz) L L.length:=by have:=hok2 _ z1;rwa [hld] at this
    refine .inr ⟨hok,d,⟨?_, ?_⟩,hz⟩
    · have hs:sigC y=sigN (cN k sz) L a:=by
        have e1:=((chkK_ok h3).2.1).isMap
        have e2:=h2.map
        rw [hla] at e2
        have e3:sigN (cN k sz) (L.take a) a=sigN (cN k sz) L a:=by unfold sigN;rw [List.take_take,Nat.min_self]
        rw [e3] at e2
        exact e1.sig e2
      have e4:sigN y (L.drop a) (L.drop a).length=sigN (cN k sz) L L.length:=by
        unfold sigN at hs ⊢
        rw [hs,List.take_length,List.take_length,←List.foldl_append,List.take_append_drop]
      rw [←e4]
      exact hd.map
    · have e:=hd.eq
      have hai:=hali (L.drop a).length
      rw [hld] at hai
      have hrr:cntK d.m (foldN y (L.drop a) (L.drop a).length).r=cntK d.m (foldN (cN k sz) L L.length).r:=by
        rw [show foldN (cN k sz) L L.length=foldN (cN k sz) L (a+(L.drop a).length) by rw [hld],foldN_drop]
        unfold foldN
        rw [List.take_length,foldC_r,foldC_r]
        have hyr:y.r=cntK y.m (foldN (cN k sz) L a).r:=by
          have:=congrArg Ck.r hyeq
          exact this
        rw [hyr,cntK_cnt]
        rfl
      rw [hrr] at e
      obtain⟨a1,a2,a3,a4,a5,a6⟩:=hai
      exact e.trans (by dsimp only;rw [a1,a2,a3,a4,a5,a6])
end Go.Lx
namespace Go.Lx
open Go.Proofs
end Go.Lx
