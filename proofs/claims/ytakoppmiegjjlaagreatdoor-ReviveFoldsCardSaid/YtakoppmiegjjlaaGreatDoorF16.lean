import Derived.Test.YtakoppmiegjjlaaGreatDoorF1
import Derived.Test.YtakoppmiegjjlaaGreatDoorF4
set_option linter.unusedVariables false
set_option linter.unusedSimpArgs false
namespace Go.Lx
abbrev Sp:=Int×Int
def mayS (x:Int×Int):Prop:=0≤x.1∧x.1≤65536∧1≤x.2∧x.2≤65536-x.1
instance (x:Int×Int):Decidable (mayS x):=by unfold mayS;infer_instance
theorem Qt{α:Type}{l:List α}{k:Nat}(h:k<l.length):∃ x,l[k]?=some x:=⟨l[k],List.getElem?_eq_getElem h⟩
theorem Qv{α:Type}{l:List α}{k:Nat}{x:α}(h:l[k]?=some x):k<l.length:=(List.getElem?_eq_some_iff.1 h).1
def SetOK (l:List Sp) (n:Nat):Prop:=∀ k x,k<n→l[k]?=some x→mayS x∧∀ y,0<k→l[k-1]?=some y→y.1+y.2<x.1
theorem SetOK.step{l:List Sp}{k:Nat}{x:Sp}(h:SetOK l k)(hx:l[k]?=some x)(hm:mayS x)(hy:∀ y,0<k→l[k-1]?=some y→y.1+y.2<x.1):SetOK l (k+1):=by
  intro j z hj hz
  by_cases e:j=k
  · subst e;rw [hx] at hz;cases hz;exact⟨hm,hy⟩
  · exact h j z (by omega) hz
theorem SetOK.may{l:List Sp}{n k:Nat}{x:Sp}(h:SetOK l n)(hk:k<n)(hx:l[k]?=some x):mayS x:=(h k x hk hx).1
theorem SetOK.mem{l:List Sp}{n:Nat}{x:Sp}(h:SetOK l n)(hl:l.length=n)(hx:x∈l):mayS x:=by
  obtain⟨k,hk⟩:=List.mem_iff_getElem?.1 hx
  exact h.may (by have:=Qv hk;omega) hk
theorem SetOK.nil(n:Nat):SetOK [] n:=fun k x _ h=>by cases h
theorem SetOK.lt{l:List Sp}{n:Nat}(h:SetOK l n):∀ (k j:Nat) (x y:Sp),j<k→k<n→l[j]?=some x→l[k]?=some y→x.1+x.2<y.1
  |0,j,_,_,hj,_,_,_=>by omega
  |k+1,j,x,y,hj,hk,hx,hy=>by
    have hkl:=Qv hy
    obtain⟨z,hz⟩:=Qt (l:=l) (k:=k) (by omega)
    have h1:=(h (k+1) y hk hy).2 z (by omega) (by simpa using hz)
    by_cases e:j=k
    · subst e;rw [hx] at hz;cases hz;exact h1
    · have h2:=SetOK.lt h k j x z (by omega) (by omega) hx hz
      have h3:=h.may (by omega:k<n) hz
      unfold mayS at h3
      omega
theorem SetOK.snoc{o:List Sp}{p:Sp}(h:SetOK o o.length)(he:∀ x∈o,x.1+x.2<p.1)(hp:mayS p):SetOK (o++[p]) (o++[p]).length:=by
  intro k x hk hx
  by_cases hko:k<o.length
  · rw [List.getElem?_append_left hko] at hx
    obtain⟨h1,h2⟩:=h k x hko hx
    refine⟨h1,fun y h0 hy=>h2 y h0 ?_⟩
    rw [List.getElem?_append_left (by omega)] at hy
    exact hy
  · simp at hk
    obtain rfl:k=o.length:=by omega
    simp at hx
    subst hx
    refine⟨hp,fun y h0 hy=>?_⟩
    rw [List.getElem?_append_left (by omega)] at hy
    exact he y (List.mem_of_getElem? hy)
def inS (l:List Sp) (t:Int):Prop:=∃ x∈l,x.1≤t∧t<x.1+x.2
theorem inS_nil(t:Int): ¬inS [] t:=fun⟨_,h,_⟩=>by cases h
theorem inS_append{a b:List Sp}{t:Int}:inS (a++b) t↔inS a t∨inS b t:=by
  unfold inS
  constructor
  · rintro⟨x,hx,h⟩
    rcases List.mem_append.1 hx with h1|h1
    · exact .inl ⟨x,h1,h⟩
    · exact .inr ⟨x,h1,h⟩
  · rintro(⟨x,hx,h⟩|⟨x,hx,h⟩)
    · exact⟨x,List.mem_append.2 (.inl hx),h⟩
    · exact⟨x,List.mem_append.2 (.inr hx),h⟩
theorem inS_one{x:Sp}{t:Int}:inS [x] t↔x.1≤t∧t<x.1+x.2:=by simp [inS]
def inTo (l:List Sp) (i:Nat) (t:Int):Prop:=∃ j x,j<i∧l[j]?=some x∧x.1≤t∧t<x.1+x.2
theorem inTo_all{l:List Sp}{t:Int}:inTo l l.length t↔inS l t:=by
  constructor
  · rintro⟨j,x,_,hx,h⟩;exact⟨x,List.mem_of_getElem? hx,h⟩
  · rintro⟨x,hx,h⟩
    obtain⟨j,hj⟩:=List.mem_iff_getElem?.1 hx
    exact⟨j,x,Qv hj,hj,h⟩
theorem inTo_succ{l:List Sp}{i:Nat}{s:Sp}{t:Int}(hs:l[i]?=some s):inTo l (i+1) t↔inTo l i t∨(s.1≤t∧t<s.1+s.2):=by
  constructor
  · rintro⟨j,x,hj,hx,h⟩
    by_cases e:j=i
    · subst e;rw [hs] at hx;cases hx;exact .inr h
    · exact .inl ⟨j,x,by omega,hx,h⟩
  · rintro(⟨j,x,hj,hx,h⟩|h)
    · exact⟨j,x,by omega,hx,h⟩
    · exact⟨i,s,by omega,hs,h⟩
structure OutI (l off:List Sp) (i k:Nat) (o:List Sp):Prop where
  hi:i≤l.length
  hk:k≤off.length
  len:o.length≤i+k
  set:SetOK o o.length
  ends:∀ x∈o,∀ y,l[i]?=some y→x.1+x.2<y.1
  mem:∀ t,inS o t↔inTo l i t∧ ¬inS off t
  past:∀ j x y,j<k→off[j]?=some x→l[i]?=some y→x.1+x.2≤y.1
structure InI (l off:List Sp) (i k:Nat) (o:List Sp) (s:Sp) (at_:Int) (e:Nat):Prop where
  hs:l[i]?=some s
  hk:k≤off.length
  len:o.length≤i+k+e
  set:SetOK o o.length
  ends:∀ x∈o,x.1+x.2<at_∨(e=1∧x.1+x.2≤at_)
  lo:s.1≤at_
  hi:at_≤s.1+s.2
  mem:∀ t,inS o t↔(inTo l i t∨(s.1≤t∧t<at_))∧ ¬inS off t
  past:∀ j x,j<k→off[j]?=some x→x.1+x.2≤at_
variable {l off o:List Sp} {i k:Nat} {s x:Sp} {at_:Int}
theorem OutI.start:OutI l off 0 0 []:=⟨Nat.zero_le _,Nat.zero_le _,by simp,SetOK.nil _,fun _ h=>(by cases h),fun t=>⟨fun h=>absurd h (inS_nil t),fun⟨⟨j,_,hj,_⟩,_⟩=>absurd hj (Nat.not_lt_zero j)⟩,fun j _ _ hj=>absurd hj (Nat.not_lt_zero j)⟩
theorem OutI.enter(h:OutI l off i k o)(hl:SetOK l l.length)(hs:l[i]?=some s):InI l off i k o s s.1 0:=by
  have hm:=hl.may (Qv hs) hs
  unfold mayS at hm
  refine⟨hs,h.hk,h.len,h.set,fun x hx=> .inl (h.ends x hx s hs),Int.le_refl _,by omega,fun t=>?_,fun j x hj hx=>h.past j x s hj hx hs⟩
  rw [h.mem t]
  constructor
  · rintro⟨h1,h2⟩;exact⟨.inl h1,h2⟩
  · rintro⟨h1|h1,h2⟩
    · exact⟨h1,h2⟩
    · omega
theorem InI.skip(h:InI l off i k o s at_ 0)(hx:off[k]?=some x)(hle:x.1+x.2≤at_):InI l off i (k+1) o s at_ 0:=
  ⟨h.hs,Qv hx,by have:=h.len;omega,h.set,h.ends,h.lo,h.hi,h.mem,fun j y hj hy=>by
    by_cases e:j=k
    · subst e;rw [hx] at hy;cases hy;exact hle
    · exact h.past j y (by omega) hy⟩
theorem not_in_off(ho:SetOK off off.length){lo hi:Int}(hpast:∀ j y,j<k→off[j]?=some y→y.1+y.2≤lo)(hnext:∀ y,off[k]?=some y→hi≤y.1):∀ t,lo≤t→t<hi→ ¬inS off t:=by
  rintro t h1 h2 ⟨y,hy,h3,h4⟩
  obtain⟨j,hj⟩:=List.mem_iff_getElem?.1 hy
  have hjl:=Qv hj
  rcases Nat.lt_trichotomy j k with h|h|h
  · have:=hpast j y h hj;omega
  · subst h;have:=hnext y hj;omega
  · obtain⟨z,hz⟩:=Qt (l:=off) (k:=k) (by omega)
    have a1:=hnext z hz
    have a2:=ho.lt j k z y h hjl hz hj
    have a3:=ho.may (by omega:k<off.length) hz
    unfold mayS at a3
    omega
theorem InI.cutAt(h:InI l off i k o s at_ 0)(ho:SetOK off off.length)(hs':mayS s)(hx:off[k]?=some x)(h1:x.1<s.1+s.2)(h2:at_<x.1+x.2)(h3:at_<x.1):
    InI l off i k (o++[(at_,x.1-at_)]) s (min (x.1+x.2) (s.1+s.2)) 1∧(x.1+x.2≤s.1+s.2→InI l off i (k+1) (o++[(at_,x.1-at_)]) s (min (x.1+x.2) (s.1+s.2)) 0):=by
  have hxm:=ho.may (Qv hx) hx
  have hno:=not_in_off (k:=k) (lo:=at_) (hi:=x.1) ho (fun j y hj hy=>h.past j y hj hy) (fun y hy=>by rw [hx] at hy;cases hy;omega)
  have hset:SetOK (o++[(at_,x.1-at_)]) (o++[(at_,x.1-at_)]).length:=h.set.snoc (fun y hy=>by have:=h.ends y hy;dsimp only;omega) (by
    have:=h.lo;unfold mayS at *;dsimp only;omega)
  have hends:∀ y∈o++[(at_,x.1-at_)],y.1+y.2≤x.1:=by
    intro y hy
    rcases List.mem_append.1 hy with hy|hy
    · have:=h.ends y hy;omega
    · simp at hy;subst hy;dsimp only;omega
  unfold mayS at hxm hs'
  have hlo:=h.lo
  have hmem:∀ m:Int,m≤x.1+x.2→x.1<m→m≤s.1+s.2→∀ t,inS (o++[(at_,x.1-at_)]) t↔(inTo l i t∨(s.1≤t∧t<m))∧ ¬inS off t:=by
    intro m hm hm2 hm3 t
    rw [inS_append,h.mem t,inS_one]
    dsimp only
    constructor
    · rintro(⟨h4,h5⟩|h4)
      · exact⟨h4.imp id (fun h=>by omega),h5⟩
      · exact⟨.inr (by omega),hno t (by omega) (by omega)⟩
    · rintro⟨h4|h4,h5⟩
      · exact .inl ⟨.inl h4,h5⟩
      · by_cases q:t<at_
        · exact .inl ⟨.inr (by omega),h5⟩
        · refine .inr ⟨by omega, ?_⟩
          rcases Int.lt_or_le t x.1 with q2|q2
          · omega
          · exact absurd ⟨x,List.mem_of_getElem? hx,q2,by omega⟩ h5
  have hl:=h.len
  refine⟨⟨h.hs,h.hk,by simp;omega,hset,fun y hy=>?_,by omega,by omega,hmem _ (by omega) (by omega) (by omega),fun j y hj hy=>by have:=h.past j y hj hy;omega⟩,fun hle=>⟨h.hs,Qv hx,by simp;omega,hset,fun y hy=>?_,by omega,by omega,hmem _ (by omega) (by omega) (by omega),fun j y hj hy=>?_⟩⟩
  · have:=hends y hy;omega
  · have:=hends y hy;omega
  · by_cases e:j=k
    · subst e;rw [hx] at hy;cases hy;omega
    · have:=h.past j y (by omega) hy;omega
theorem InI.cutIn(h:InI l off i k o s at_ 0)(ho:SetOK off off.length)(hs':mayS s)(hx:off[k]?=some x)(h1:x.1<s.1+s.2)(h2:at_<x.1+x.2)(h3:x.1≤at_):
    InI l off i k o s (min (x.1+x.2) (s.1+s.2)) 1∧(x.1+x.2≤s.1+s.2→InI l off i (k+1) o s (min (x.1+x.2) (s.1+s.2)) 0):=by
  have hxm:=ho.may (Qv hx) hx
  unfold mayS at hxm hs'
  have hlo:=h.lo
  have hhi:=h.hi
  have hmem:∀ m:Int,m≤x.1+x.2→at_≤m→∀ t,inS o t↔(inTo l i t∨(s.1≤t∧t<m))∧ ¬inS off t:=by
    intro m hm hm2 t
    rw [h.mem t]
    constructor
    · rintro⟨h4,h5⟩
      exact⟨h4.imp id (fun h=>by omega),h5⟩
    · rintro⟨h4|h4,h5⟩
      · exact⟨.inl h4,h5⟩
      · by_cases q:t<at_
        · exact⟨.inr (by omega),h5⟩
        · exact absurd ⟨x,List.mem_of_getElem? hx,by omega,by omega⟩ h5
  have hl:=h.len
  refine⟨⟨h.hs,h.hk,by omega,h.set,fun y hy=>?_,by omega,by omega,hmem _ (by omega) (by omega),fun j y hj hy=>by have:=h.past j y hj hy;omega⟩,fun hle=>⟨h.hs,Qv hx,by omega,h.set,fun y hy=>?_,by omega,by omega,hmem _ (by omega) (by omega),fun j y hj hy=>?_⟩⟩
  · have:=h.ends y hy;omega
  · have:=h.ends y hy;omega
  · by_cases e:j=k
    · subst e;rw [hx] at hy;cases hy;omega
    · have:=h.past j y (by omega) hy;omega
theorem InI.next0{e:Nat}(h:InI l off i k o s at_ e)(he:e≤1)(hl:SetOK l l.length)(ha:s.1+s.2≤at_):OutI l off (i+1) k o:=by
  have hi:=h.hi
  have hlen:=h.len
  refine⟨Qv h.hs,h.hk,by omega,h.set,fun x hx y hy=>?_,fun t=>?_,fun j x y hj hx hy=>?_⟩
  · have a1:=hl.lt (i+1) i s y (by omega) (Qv hy) h.hs hy
    have:=h.ends x hx
    omega
  · rw [h.mem t,inTo_succ h.hs]
    have:at_=s.1+s.2:=by omega
    rw [this]
  · have a1:=hl.lt (i+1) i s y (by omega) (Qv hy) h.hs hy
    have:=h.past j x hj hx
    omega
theorem InI.next1(h:InI l off i k o s at_ 0)(hl:SetOK l l.length)(ho:SetOK off off.length)(ha:at_<s.1+s.2)(hend:∀ y,off[k]?=some y→s.1+s.2≤y.1):OutI l off (i+1) k (o++[(at_,s.1+s.2-at_)]):=by
  have hno:=not_in_off (k:=k) (lo:=at_) (hi:=s.1+s.2) ho (fun j y hj hy=>h.past j y hj hy) hend
  have hlo:=h.lo
  have hlen:=h.len
  have hm:=hl.may (Qv h.hs) h.hs
  unfold mayS at hm
  refine⟨Qv h.hs,h.hk,by simp;omega,h.set.snoc (fun y hy=>by have:=h.ends y hy;dsimp only;omega) (by unfold mayS;dsimp only;omega),fun x hx y hy=>?_,fun t=>?_,fun j x y hj hx hy=>?_⟩
  · have a1:=hl.lt (i+1) i s y (by omega) (Qv hy) h.hs hy
    rcases List.mem_append.1 hx with hx|hx
    · have:=h.ends x hx;omega
    · simp at hx;subst hx;dsimp only;omega
  · rw [inS_append,h.mem t,inS_one,inTo_succ h.hs]
    dsimp only
    constructor
    · rintro(⟨h4,h5⟩|h4)
      · exact⟨h4.imp id (fun h=>by omega),h5⟩
      · exact⟨.inr (by omega),hno t (by omega) (by omega)⟩
    · rintro⟨h4|h4,h5⟩
      · exact .inl ⟨.inl h4,h5⟩
      · by_cases q:t<at_
        · exact .inl ⟨.inr (by omega),h5⟩
        · exact .inr (by omega)
  · have a1:=hl.lt (i+1) i s y (by omega) (Qv hy) h.hs hy
    have:=h.past j x hj hx
    omega
end Go.Lx
namespace Go.Lx
structure Ext where
  a:Int
  n:Int
  q:Int
  p:Int
  deriving DecidableEq,Inhabited
def encE1 (x:Ext):List Value:=[.int .i64 x.a,.int .i64 x.n,.int .i64 x.q,.int .i64 x.p]
def encE (l:List Ext):List Value:=l.flatMap encE1
def plS (q p:Int):Prop:=0≤q∧q<1099511627776∧0≤p∧p<1099511627776
instance (q p:Int):Decidable (plS q p):=by unfold plS;infer_instance
def mayE (x:Ext):Prop:=mayS (x.a,x.n)∧plS x.q x.p
instance (x:Ext):Decidable (mayE x):=by unfold mayE;infer_instance
def inE (x:Ext):Prop:=0≤x.a∧1≤x.n∧x.a+x.n≤65536∧0≤x.q∧x.q<1099511627776∧0≤x.p∧x.p+x.n≤1099511693312
theorem mayE.inE{x:Ext}(h:mayE x):inE x:=by unfold mayE mayS plS at h;unfold Lx.inE;dsimp only at h;omega
def Rise (lo:Int):List Ext→Prop
  |[]=>True
  |x::l=>lo≤x.a∧inE x∧Rise (x.a+x.n) l
def endE (lo:Int):List Ext→Int
  |[]=>lo
  |x::l=>endE (x.a+x.n) l
theorem rise_append:∀ {lo:Int} {l m:List Ext},Rise lo (l++m)↔Rise lo l∧Rise (endE lo l) m
  |lo,[],m=>by simp [Rise,endE]
  |lo,x::l,m=>by
    simp only [List.cons_append,Rise,endE,rise_append (l:=l)]
    constructor
    · rintro⟨h1,h2,h3,h4⟩;exact⟨⟨h1,h2,h3⟩,h4⟩
    · rintro⟨⟨h1,h2,h3⟩,h4⟩;exact⟨h1,h2,h3,h4⟩
theorem endE_append:∀ {lo:Int} {l m:List Ext},endE lo (l++m)=endE (endE lo l) m
  |lo,[],m=>rfl
  |lo,x::l,m=>by simp only [List.cons_append,endE,endE_append (l:=l)]
theorem Rise.weak{lo lo':Int}{l:List Ext}(h:Rise lo l)(hl:lo'≤lo):Rise lo' l:=by
  cases l with
  |nil=>trivial
  |cons x l=>exact⟨by have:=h.1;omega,h.2⟩
theorem Rise.mem:∀ {lo:Int} {l:List Ext} {x:Ext},Rise lo l→x∈l→inE x∧lo≤x.a
  |lo,y::l,x,h,hx=>by
    rcases List.mem_cons.1 hx with rfl|hx
    · exact⟨h.2.1,h.1⟩
    · have:=Rise.mem h.2.2 hx
      have h2:=h.2.1
      unfold inE at h2
      have h1:=h.1
      exact⟨this.1,by omega⟩
theorem Rise.le_end:∀ {lo:Int} {l:List Ext},Rise lo l→lo≤endE lo l
  |lo,[],_=>Int.le_refl _
  |lo,x::l,h=>by
    have:=Rise.le_end h.2.2
    have h1:=h.1
    have h2:=h.2.1
    unfold inE at h2
    simp only [endE]
    omega
theorem Rise.endLe:∀ {lo:Int} {l:List Ext} {x:Ext},Rise lo l→x∈l→x.a+x.n≤endE lo l
  |lo,y::l,x,h,hx=>by
    rcases List.mem_cons.1 hx with rfl|hx
    · exact h.2.2.le_end
    · show x.a+x.n≤endE (y.a+y.n) l
      exact Rise.endLe h.2.2 hx
def Fol (x y:Ext):Prop:=x.a+x.n=y.a∧x.q=y.q∧x.p+x.n=y.p
instance (x y:Ext):Decidable (Fol x y):=by unfold Fol;infer_instance
def NF:List Ext→Prop
  |[]=>True
  |[_]=>True
  |x::y::l=> ¬Fol x y∧NF (y::l)
theorem NF.tail{x:Ext}{l:List Ext}(h:NF (x::l)):NF l:=by
  cases l with
  |nil=>trivial
  |cons y l=>exact h.2
theorem nf_snoc2:∀ {l:List Ext} {x y:Ext},NF (l++[x,y])↔NF (l++[x])∧ ¬Fol x y
  |[],x,y=>by simp [NF]
  |[z],x,y=>by simp [NF]
  |z::w::l,x,y=>by
    have:=nf_snoc2 (l:=w::l) (x:=x) (y:=y)
    simp only [List.cons_append,NF] at this ⊢
    rw [this,and_assoc]
def atE (l:List Ext) (t:Int) (s:Int×Int):Prop:=∃ x∈l,x.a≤t∧t<x.a+x.n∧s=(x.q,x.p+(t-x.a))
theorem atE_nil{t:Int}{s:Int×Int}: ¬atE [] t s:=fun⟨_,h,_⟩=>by cases h
theorem atE_cons{x:Ext}{l:List Ext}{t:Int}{s:Int×Int}:atE (x::l) t s↔(x.a≤t∧t<x.a+x.n∧s=(x.q,x.p+(t-x.a)))∨atE l t s:=by simp [atE]
theorem atE_append{l m:List Ext}{t:Int}{s:Int×Int}:atE (l++m) t s↔atE l t s∨atE m t s:=by
  unfold atE
  constructor
  · rintro⟨x,hx,h⟩
    rcases List.mem_append.1 hx with h1|h1
    · exact .inl ⟨x,h1,h⟩
    · exact .inr ⟨x,h1,h⟩
  · rintro(⟨x,hx,h⟩|⟨x,hx,h⟩)
    · exact⟨x,List.mem_append.2 (.inl hx),h⟩
    · exact⟨x,List.mem_append.2 (.inr hx),h⟩
theorem atE_one{x:Ext}{t:Int}{s:Int×Int}:atE [x] t s↔x.a≤t∧t<x.a+x.n∧s=(x.q,x.p+(t-x.a)):=by simp [atE]
theorem Rise.at_ge{lo:Int}{l:List Ext}(h:Rise lo l){t:Int}{s:Int×Int}(ht:atE l t s):lo≤t:=by
  obtain⟨x,hx,h1,_⟩:=ht
  have:=(h.mem hx).2
  omega
theorem ext_unique:∀ {lo:Int} (l m:List Ext),Rise lo l→Rise lo m→NF l→NF m→(∀ t s,atE l t s↔atE m t s)→l=m
  |lo,[],[],_,_,_,_,_=>rfl
  |lo,[],y::m,_,hm,_,_,h=>by
    have h1:=hm.2.1
    unfold inE at h1
    exact absurd ((h y.a (y.q,y.p)).2 (atE_cons.2 (.inl ⟨by omega,by omega,by simp⟩))) atE_nil
  |lo,x::l,[],hl,_,_,_,h=>by
    have h1:=hl.2.1
    unfold inE at h1
    exact absurd ((h x.a (x.q,x.p)).1 (atE_cons.2 (.inl ⟨by omega,by omega,by simp⟩))) atE_nil
  |lo,x::l,y::m,hl,hm,hnl,hnm,h=>by
    have hx:=hl.2.1
    have hy:=hm.2.1
    unfold inE at hx hy
    have e1:x.a=y.a:=by
      have h1:=(h x.a (x.q,x.p)).1 (atE_cons.2 (.inl ⟨by omega,by omega,by simp⟩))
      have h2:=(h y.a (y.q,y.p)).2 (atE_cons.2 (.inl ⟨by omega,by omega,by simp⟩))
      have g1:y.a≤x.a:=by
        rcases atE_cons.1 h1 with h1|h1
        · omega
        · have:=hm.2.2.at_ge h1;omega
      have g2:x.a≤y.a:=by
        rcases atE_cons.1 h2 with h2|h2
        · omega
        · have:=hl.2.2.at_ge h2;omega
      omega
    have e2:x.q=y.q∧x.p=y.p:=by
      have h1:=(h x.a (x.q,x.p)).1 (atE_cons.2 (.inl ⟨by omega,by omega,by simp⟩))
      rcases atE_cons.1 h1 with⟨_,_,h1⟩|h1
      · rw [e1] at h1
        simp at h1
        exact h1
      · have:=hm.2.2.at_ge h1;omega
    have key:∀ {lo:Int} {x y:Ext} {l m:List Ext},Rise lo (x::l)→Rise lo (y::m)→NF (x::l)→x.a=y.a→x.q=y.q→x.p=y.p→(∀ t s,atE (y::m) t s→atE (x::l) t s)→ ¬x.n<y.n:=by
      intro lo x y l m hl hm hn ea eq ep h hlt
      have hx:=hl.2.1
      unfold inE at hx
      have h1:=h (x.a+x.n) (x.q,x.p+x.n) (atE_cons.2 (.inl ⟨by omega,by omega,by rw [eq,ep,ea];congr 1;omega⟩))
      rcases atE_cons.1 h1 with h1|h1
      · omega
      · cases l with
        |nil=>exact atE_nil h1
        |cons z l=>
          have hz:=hl.2.2
          have hzi:=hz.2.1
          unfold inE at hzi
          rcases atE_cons.1 h1 with⟨h2,h3,h4⟩|h1
          · have h5:=hz.1
            have e:z.a=x.a+x.n:=by omega
            rw [e] at h4
            simp at h4
            exact hn.1 ⟨e.symm,h4.1,by omega⟩
          · have:=hz.2.2.at_ge h1
            have h5:=hz.1
            omega
    have e3:x.n=y.n:=by
      rcases Int.lt_trichotomy x.n y.n with q|q|q
      · exact absurd q (key hl hm hnl e1 e2.1 e2.2 (fun t s h'=>(h t s).2 h'))
      · exact q
      · exact absurd q (key hm hl hnm e1.symm e2.1.symm e2.2.symm (fun t s h'=>(h t s).1 h'))
    have exy:x=y:=by
      cases x;cases y
      simp only at e1 e2 e3
      obtain⟨e2,e4⟩:=e2
      subst e1 e2 e3 e4
      rfl
    subst exy
    rw [ext_unique l m hl.2.2 hm.2.2 hnl.tail hnm.tail fun t s=>?_]
    have hge:∀ {l:List Ext},Rise (x.a+x.n) l→atE l t s→ ¬(x.a≤t∧t<x.a+x.n∧s=(x.q,x.p+(t-x.a))):=fun hr ha hb=>by
      have:=hr.at_ge ha
      omega
    constructor
    · intro ht
      exact(atE_cons.1 ((h t s).1 (atE_cons.2 (.inr ht)))).resolve_left (hge hl.2.2 ht)
    · intro ht
      exact(atE_cons.1 ((h t s).2 (atE_cons.2 (.inr ht)))).resolve_left (hge hm.2.2 ht)
theorem take_succ_snoc{α:Type}{l:List α}{i:Nat}{x:α}(h:l[i]?=some x):l.take (i+1)=l.take i++[x]:=by
  rw [List.take_add_one,h];rfl
structure JnI (lo:Int) (l:List Ext) (i:Nat) (o:List Ext):Prop where
  hi:i≤l.length
  len:o.length≤i
  rise:Rise lo o
  nf:NF o
  fin:endE lo o=endE lo (l.take i)
  at_:∀ t s,atE o t s↔atE (l.take i) t s
variable {lo:Int} {l o:List Ext} {i:Nat} {x y:Ext}
theorem JnI.start:JnI lo l 0 []:=⟨Nat.zero_le _,Nat.le_refl _,trivial,trivial,rfl,fun t s=>Iff.rfl⟩
theorem Rise.at_i(h:Rise lo l)(hx:l[i]?=some x):endE lo (l.take i)≤x.a∧inE x:=by
  have hl:=(List.getElem?_eq_some_iff.1 hx).1
  have e:l=l.take i++x::l.drop (i+1):=by
    have h1:l[i]=x:=(List.getElem?_eq_some_iff.1 hx).2
    rw [←h1,←List.drop_eq_getElem_cons hl,List.take_append_drop]
  rw [e] at h
  have h2:=(rise_append.1 h).2
  exact⟨h2.1,h2.2.1⟩
theorem JnI.push(h:JnI lo l i o)(hl:Rise lo l)(hx:l[i]?=some x)(hn:∀ y,o[o.length-1]?=some y→ ¬Fol y x):JnI lo l (i+1) (o++[x]):=by
  have hxi:=hl.at_i hx
  refine⟨(List.getElem?_eq_some_iff.1 hx).1,by have:=h.len;simp;omega,rise_append.2 ⟨h.rise,by rw [h.fin];exact hxi.1,hxi.2,trivial⟩, ?_, ?_,fun t s=>?_⟩
  · rcases List.eq_nil_or_concat o with rfl|⟨o',y,rfl⟩
    · trivial
    · rw [List.concat_eq_append] at h hn ⊢
      rw [List.append_assoc]
      exact nf_snoc2.2 ⟨h.nf,hn y (by simp)⟩
  · rw [endE_append,take_succ_snoc hx,endE_append];rfl
  · rw [take_succ_snoc hx,atE_append,atE_append,h.at_ t s]
theorem JnI.merge(h:JnI lo l i o)(hl:Rise lo l)(hx:l[i]?=some x)(hy:o[o.length-1]?=some y)(hf:Fol y x):JnI lo l (i+1) (o.set (o.length-1) ⟨y.a,y.n+x.n,y.q,y.p⟩):=by
  have hxi:=hl.at_i hx
  have hl0:=(List.getElem?_eq_some_iff.1 hy).1
  rcases List.eq_nil_or_concat o with rfl|⟨o',z,rfl⟩
  · cases hy
  rw [List.concat_eq_append] at *
  have e1:(o'++[z]).length-1=o'.length:=by simp
  rw [e1] at hy ⊢
  simp at hy
  subst hy
  have e2:(o'++[z]).set o'.length ⟨z.a,z.n+x.n,z.q,z.p⟩=o'++[⟨z.a,z.n+x.n,z.q,z.p⟩]:=by simp
  rw [e2]
  have hr:=rise_append.1 h.rise
  have hz:=hr.2.2.1
  obtain⟨f1,f2,f3⟩:=hf
  have hx2:=hxi.2
  have hnew:inE ⟨z.a,z.n+x.n,z.q,z.p⟩:=by unfold inE at hz hx2 ⊢;dsimp only;omega
  refine⟨(List.getElem?_eq_some_iff.1 hx).1, ?_,rise_append.2 ⟨hr.1,hr.2.1,hnew,trivial⟩, ?_, ?_,fun t s=>?_⟩
  · have:=h.len;simp at this ⊢;omega
  · rcases List.eq_nil_or_concat o' with rfl|⟨o'',w,rfl⟩
    · trivial
    · rw [List.concat_eq_append] at h ⊢
      have h1:=h.nf
      rw [List.append_assoc] at h1 ⊢
      have h2:=nf_snoc2.1 h1
      exact nf_snoc2.2 ⟨h2.1,fun q=>h2.2 ⟨q.1,q.2.1,q.2.2⟩⟩
  · rw [endE_append,take_succ_snoc hx,endE_append]
    show z.a+(z.n+x.n)=x.a+x.n
    omega
  · rw [take_succ_snoc hx,atE_append,atE_append,←h.at_ t s,atE_append,atE_one,atE_one,atE_one,or_assoc]
    unfold inE at hz hx2
    dsimp only
    apply or_congr_right
    constructor
    · rintro⟨h1,h2,h3⟩
      by_cases q:t<z.a+z.n
      · exact .inl ⟨h1,q,h3⟩
      · exact .inr ⟨by omega,by omega,by rw [h3,f2];congr 1;omega⟩
    · rintro(⟨h1,h2,h3⟩|⟨h1,h2,h3⟩)
      · exact⟨h1,by omega,h3⟩
      · exact⟨by omega,by omega,by rw [h3,f2];congr 1;omega⟩
end Go.Lx
namespace Go.Lx
def cstep (x:Nat):Nat:=if x%2=1 then x/2^^^2197175160 else x/2
def cit (x:Nat):Nat→Nat
  |0=>x
  |k+1=>cstep (cit x k)
def cbyte (x:Nat) (b:UInt8):Nat:=cit (x^^^b.toNat) 8
def cmore (x:Nat) (l:Bs):Nat:=l.foldl cbyte x
def crc (l:Bs):Nat:=4294967295-cmore 4294967295 l
theorem byte_lt(b:UInt8):b.toNat<256:=b.toNat_lt
theorem cstep_lt{x:Nat}(h:x<4294967296):cstep x<4294967296:=by
  unfold cstep
  split
  · exact Nat.xor_lt_two_pow (n:=32) (by omega) (by omega)
  · omega
theorem cit_lt{x:Nat}(h:x<4294967296):∀ k,cit x k<4294967296
  |0=>h
  |k+1=>cstep_lt (cit_lt h k)
theorem xorb_lt{x:Nat}(h:x<4294967296)(b:UInt8):x^^^b.toNat<4294967296:=Nat.xor_lt_two_pow (n:=32) h (by have:=byte_lt b;omega)
theorem cbyte_lt{x:Nat}(h:x<4294967296)(b:UInt8):cbyte x b<4294967296:=cit_lt (xorb_lt h b) 8
theorem cmore_lt:∀ (l:Bs) {x:Nat},x<4294967296→cmore x l<4294967296
  |[],x,h=>h
  |b::l,x,h=>cmore_lt l (cbyte_lt h b)
theorem crc_lt(l:Bs):crc l<4294967296:=by unfold crc;omega
theorem cmore_append(x:Nat)(l m:Bs):cmore x (l++m)=cmore (cmore x l) m:=by unfold cmore;rw [List.foldl_append]
def four (x:Nat):Bs:=[UInt8.ofNat x,UInt8.ofNat (x/256),UInt8.ofNat (x/65536),UInt8.ofNat (x/16777216)]
theorem four_len(x:Nat):(four x).length=4:=rfl
def sealS (l:Bs):Bs:=l++four (crc l)
theorem sealS_len(l:Bs):(sealS l).length=l.length+4:=by simp [sealS,four_len]
def openS (l:Bs):Bs×Int:=if l.length<4 then([],10) else if four (crc (l.take (l.length-4)))≠l.drop (l.length-4) then([],13) else(l.take (l.length-4),0)
theorem openS_seal(l:Bs):openS (sealS l)=(l,0):=by
  unfold openS
  rw [if_neg (by rw [sealS_len];omega),sealS_len,show l.length+4-4=l.length by omega]
  unfold sealS
  rw [List.take_left,List.drop_left,if_neg (fun h=>h rfl)]
theorem openS_ok{l t:Bs}(h:openS l=(t,0)):l=sealS t:=by
  unfold openS at h
  split at h
  · cases h
  · split at h
    · cases h
    · rename_i h1 h2
      cases h
      unfold sealS
      rw [show four (crc (l.take (l.length-4)))=l.drop (l.length-4) from Classical.not_not.1 h2,List.take_append_drop]
end Go.Lx
