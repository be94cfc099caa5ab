import Derived.Orders
import Derived.OrdersHeld
import Derived.WalkKit
import Derived.Below
import Derived.Scope
import Derived.Laws.AppendOwn
import Derived.Laws.CopyRow
import Derived.RangeFuncLeaves
import Derived.RangeFuncRecord
set_option linter.unusedVariables false
set_option linter.unusedSimpArgs false
namespace Go.Lx
theorem nN{p:Prop} [Decidable p](h: ¬¬p):p:=Decidable.not_not.1 h
theorem bF:false≠true:=Bool.false_ne_true
end Go.Lx
namespace Go.Lx
section
variable {P:Program} {ops:Array Oper} {Q:Exit→Act→World→Prop} {md:Region.Mode} {S:World→Prop}
def waits (md:Region.Mode) (ops:Array Oper):Nat→Nat→Nat→Bool
  |0,_,_=>false
  |n+1,j,i=>match ops[j]? with
    |none=>false
    |some o=>o.after.toList.any fun e=>Region.binds md e&&(e.on==i||waits md ops n e.on i)
def Closed (md:Region.Mode) (ops:Array Oper) (l:Array Bool):Prop:=
  ∀ (j:Nat) (o:Oper),l.getD j false=true→ops[j]?=some o→∀ e∈o.after,Region.binds md e=true→l.getD e.on false=true
theorem closed_init(n:Nat):Closed md ops (Array.replicate n false):=by
  intro j o h
  exfalso
  rcases Nat.lt_or_ge j n with hj|hj
  · simp [hj] at h
  · simp [hj] at h
theorem Closed.set{l:Array Bool}{j:Nat}(h:Closed md ops l)(hj:j∈Region.ready md ops l):Closed md ops (l.setIfInBounds j true):=by
  obtain⟨_,oj,hoj,hall⟩:=mem_ready.1 hj
  intro k o hk hok e he hb
  apply getD_set_true
  by_cases hkj:k=j
  · subst hkj
    rw [hoj] at hok
    cases hok
    exact hall e he hb
  · rw [getD_set_ne false (Ne.symm hkj)] at hk
    exact h k o hk hok e he hb
theorem waits_listed{l:Array Bool}(hc:Closed md ops l):∀ (n j i:Nat),waits md ops n j i=true→(∀ o,ops[j]?=some o→∀ e∈o.after,Region.binds md e=true→l.getD e.on false=true)→l.getD i false=true
  |0,_,_,h,_=>by simp [waits] at h
  |n+1,j,i,h,hall=>by
    unfold waits at h
    split at h
    · cases h
    · rename_i o ho
      obtain⟨e,he,hb⟩:=List.any_eq_true.1 h
      simp only [Bool.and_eq_true,Bool.or_eq_true,beq_iff_eq] at hb
      have hl:=hall o ho e (Array.mem_toList_iff.1 he) hb.1
      rcases hb.2 with rfl|hw
      · exact hl
      · exact waits_listed hc n e.on i hw (fun o' ho' e' he' hb'=>hc e.on o' hl ho' e' he' hb')
theorem waits_ready{l:Array Bool}(hc:Closed md ops l){n j i:Nat}(hw:waits md ops n j i=true)(hj:j∈Region.ready md ops l):l.getD i false=true:=by
  obtain⟨_,oj,hoj,hall⟩:=mem_ready.1 hj
  refine waits_listed hc n j i hw (fun o ho e he hb=>?_)
  rw [hoj] at ho
  cases ho
  exact hall e he hb
def finDone (fins:List Nat) (l:Array Bool):Bool:=fins.any fun f=>l.getD f false
theorem finDone_set_ne{fins:List Nat}{l:Array Bool}{i:Nat}(h:fins.contains i=false):finDone fins (l.setIfInBounds i true)=finDone fins l:=by
  unfold finDone
  induction fins with
  |nil=>rfl
  |cons f fs ih=>
    simp only [List.contains_cons,Bool.or_eq_false_iff,beq_eq_false_iff_ne] at h
    simp only [List.any_cons]
    rw [ih h.2,getD_set_ne false h.1]
def wpAnyF (P:Program) (md:Region.Mode) (ops:Array Oper) (Q:Exit→Act→World→Prop) (S:World→Prop) (fins:List Nat):Nat→Array Bool→Act→World→Prop
  |0,listed,a,w=>Region.ready md ops listed=[]∧Q .normal a w
  |fuel+1,listed,a,w=>
    (Region.ready md ops listed=[]→Q .normal a w)∧
    ∀ i∈Region.ready md ops listed,wpOp P ops Q i (fun a' w'=>(finDone fins (listed.setIfInBounds i true)=true∨S w')∧wpAnyF P md ops Q S fins fuel (listed.setIfInBounds i true) a' w') a w
theorem wpAny_of_F{fins:List Nat}:∀ (fuel:Nat) (listed:Array Bool) (a:Act) (w:World),wpAnyF P md ops Q S fins fuel listed a w→wpAny P md ops Q fuel listed a w
  |0,_,_,_,h=>h
  |fuel+1,_,_,_,h=>⟨h.1,fun i hi=>wpOp_mono (fun a' w' h'=>wpAny_of_F fuel _ a' w' h'.2) (h.2 i hi)⟩
theorem getD_of_ready{l:Array Bool}{i:Nat}(h:i∈Region.ready md ops l):l.getD i false=false:=by
  have h0:=(mem_ready.1 h).1
  rcases Nat.lt_or_ge i l.size with h'|h'
  · simp [h'] at h0;simp [h',h0]
  · simp [h']
theorem not_after{l:Array Bool}{i:Nat}{oj:Oper}(hr:i∈Region.ready md ops l)(hall:∀ e∈oj.after,Region.binds md e=true→l.getD e.on false=true):∀ e∈oj.after,Region.binds md e=true→e.on≠i:=fun e he hb heq=>by
  have h1:=hall e he hb
  rw [heq,getD_of_ready hr] at h1
  cases h1
theorem wpAnyF_first1{fins:List Nat}{i:Nat}{oi:Oper}{v:Value}(hi:ops[i]?=some oi)(hsel:∀ (j:Nat) (o:Oper) cs b,ops[j]?=some o→o.op≠ .select cs b)
    (hQ:∀ c a w,Q (.panic c) (a.put oi.dst v) w→Q (.panic c) a w) (hin:fins.contains i=false) (hfin:∀ j,fins.contains j=true→waits md ops ops.size j i=true):
    ∀ (fuel:Nat) (listed:Array Bool) (a:Act) (w:World),Closed md ops listed→finDone fins listed=false→
      (∀ j oj,ops[j]?=some oj→j≠i→listed.getD j true=false→(∀ e∈oj.after,Region.binds md e=true→e.on≠i)→oi.apart ops oj=true)→
      i∈Region.ready md ops listed→YieldsIf P ops S oi v a→S w→
      wpAnyF P md ops Q S fins fuel (listed.setIfInBounds i true) (a.put oi.dst v) w→wpAnyF P md ops Q S fins (fuel+1) listed a w:=by
  intro fuel
  induction fuel with
  |zero=>
    intro listed a w _ _ _ hr hy hS H
    refine⟨fun h=>(by rw [h] at hr;cases hr),fun j hj=>?_⟩
    by_cases hji:j=i
    · subst hji;exact hy.wpOp hi hS ⟨.inr hS,H⟩
    · have:=ready_mono hj hji
      rw [H.1] at this
      cases this
  |succ fuel ih=>
    intro listed a w hcl hfd hfree hr hy hS H
    refine⟨fun h=>(by rw [h] at hr;cases hr),fun j hj=>?_⟩
    by_cases hji:j=i
    · subst hji;exact hy.wpOp hi hS ⟨.inr hS,H⟩
    · have h1:=H.2 j (ready_mono hj hji)
      obtain⟨hjun,oj,hoj,hall⟩:=mem_ready.1 hj
      have hun0:=getD_of_ready hr
      have hnf:fins.contains j=false:=by
        cases hf:fins.contains j with
        |false=>rfl
        |true=>
          rw [waits_ready hcl (hfin j hf) hj] at hun0
          cases hun0
      have h2:=wpOp_putIf hoj (hfree j oj hoj hji hjun (not_after hr hall)) (fun cs b=>hsel i oi cs b hi) (fun cs b=>hsel j oj cs b hoj) hQ hy h1
      have hfree':∀ k ok,ops[k]?=some ok→k≠i→(listed.setIfInBounds j true).getD k true=false→
          (∀ e∈ok.after,Region.binds md e=true→e.on≠i)→oi.apart ops ok=true:=fun k ok hk hki hun hno=>by
        refine hfree k ok hk hki ?_ hno
        by_cases hjk:j=k
        · subst hjk;exact hjun
        · rw [getD_set_ne true hjk] at hun;exact hun
      refine wpOp_mono (fun a' w' h3=>?_) h2
      have hfd':finDone fins (listed.setIfInBounds j true)=false:=by rw [finDone_set_ne hnf];exact hfd
      have hS':S w':=by
        rcases h3.2.1 with h|h
        · rw [finDone_set_ne hnf,finDone_set_ne hin,hfd] at h;cases h
        · exact h
      refine⟨.inr hS',ih (listed.setIfInBounds j true) a' w' (hcl.set hj) hfd' hfree' (ready_mono hr (Ne.symm hji)) h3.1 hS' ?_⟩
      rw [Array.setIfInBounds_comm _ _ hji]
      exact h3.2.2
theorem wpAnyF_first0{fins:List Nat}{i:Nat}{oi:Oper}{v:Value}(hi:ops[i]?=some oi)(hsel:∀ (j:Nat) (o:Oper) cs b,ops[j]?=some o→o.op≠ .select cs b)
    (hQ:∀ c a w,Q (.panic c) (a.put oi.dst v) w→Q (.panic c) a w) (hin:fins.contains i=false):
    ∀ (fuel:Nat) (listed:Array Bool) (a:Act) (w:World),(finDone fins listed=true∨S w)→
      (∀ j oj,ops[j]?=some oj→j≠i→listed.getD j true=false→(∀ e∈oj.after,Region.binds md e=true→e.on≠i)→oi.apart ops oj=true)→
      i∈Region.ready md ops listed→Yields P ops oi v a→
      wpAnyF P md ops Q S fins fuel (listed.setIfInBounds i true) (a.put oi.dst v) w→wpAnyF P md ops Q S fins (fuel+1) listed a w:=by
  intro fuel
  induction fuel with
  |zero=>
    intro listed a w hS _ hr hy H
    refine⟨fun h=>(by rw [h] at hr;cases hr),fun j hj=>?_⟩
    by_cases hji:j=i
    · subst hji;exact(hy.yieldsIf (S:=fun _=>True)).wpOp hi trivial ⟨by rw [finDone_set_ne hin];exact hS,H⟩
    · have:=ready_mono hj hji
      rw [H.1] at this
      cases this
  |succ fuel ih=>
    intro listed a w hS hfree hr hy H
    refine⟨fun h=>(by rw [h] at hr;cases hr),fun j hj=>?_⟩
    by_cases hji:j=i
    · subst hji;exact(hy.yieldsIf (S:=fun _=>True)).wpOp hi trivial ⟨by rw [finDone_set_ne hin];exact hS,H⟩
    · have h1:=H.2 j (ready_mono hj hji)
      obtain⟨hjun,oj,hoj,hall⟩:=mem_ready.1 hj
      have h2:=wpOp_put hoj (hfree j oj hoj hji hjun (not_after hr hall)) (fun cs b=>hsel i oi cs b hi) (fun cs b=>hsel j oj cs b hoj) hQ hy h1
      have hfree':∀ k ok,ops[k]?=some ok→k≠i→(listed.setIfInBounds j true).getD k true=false→
          (∀ e∈ok.after,Region.binds md e=true→e.on≠i)→oi.apart ops ok=true:=fun k ok hk hki hun hno=>by
        refine hfree k ok hk hki ?_ hno
        by_cases hjk:j=k
        · subst hjk;exact hjun
        · rw [getD_set_ne true hjk] at hun;exact hun
      refine wpOp_mono (fun a' w' h3=>?_) h2
      have hS':finDone fins (listed.setIfInBounds j true)=true∨S w':=by
        have:=h3.2.1
        rw [Array.setIfInBounds_comm _ _ (Ne.symm hji),finDone_set_ne hin] at this
        exact this
      refine⟨hS',ih (listed.setIfInBounds j true) a' w' hS' hfree' (ready_mono hr (Ne.symm hji)) h3.1 ?_⟩
      rw [Array.setIfInBounds_comm _ _ hji]
      exact h3.2.2
inductive Cl where
  |v0|v1|ch|fin
  deriving DecidableEq
inductive Sd where
  |nil
  |op (c:Cl) (i:Nat) (r:Sd)
  |br (x y:Sd)
def wpT (P:Program) (ops:Array Oper) (Q:Exit→Act→World→Prop) (S:World→Prop):Sd→Act→World→Prop
  | .nil,a,w=>Q .normal a w
  | .op .v0 i r,a,w=>∃ o v,ops[i]?=some o∧Yields P ops o v a∧wpT P ops Q S r (a.put o.dst v) w
  | .op .v1 i r,a,w=>∃ o v,ops[i]?=some o∧YieldsIf P ops S o v a∧wpT P ops Q S r (a.put o.dst v) w
  | .op .ch i r,a,w=>wpOp P ops Q i (fun a' w'=>S w'∧wpT P ops Q S r a' w') a w
  | .op .fin i r,a,w=>wpOp P ops Q i (wpT P ops Q S r) a w
  | .br x y,a,w=>wpT P ops Q S x a w∧wpT P ops Q S y a w
def Sd.heads:Sd→List Nat
  | .op .ch i _=>[i]
  | .br x y=>x.heads++y.heads
  |_=>[]
def Sd.dep:Sd→Nat
  | .nil=>0
  | .op _ _ r=>r.dep+1
  | .br x y=>max x.dep y.dep
def chk (md:Region.Mode) (ops:Array Oper) (fins:List Nat):Sd→Bool→Array Bool→Bool→Bool
  | .nil,b,l,_=> !b&&(Region.ready md ops l).isEmpty
  | .op .v0 i r,b,l,d=> !b&&Region.free md ops l i&&(Region.ready md ops l).contains i&& !fins.contains i&&chk md ops fins r false (l.setIfInBounds i true) d
  | .op .v1 i r,b,l,d=> !b&& !d&&Region.free md ops l i&&(Region.ready md ops l).contains i&& !fins.contains i&&fins.all (fun j=>waits md ops ops.size j i)&&chk md ops fins r false (l.setIfInBounds i true) d
  | .op .ch i r,b,l,d=> !d&&(b||Region.ready md ops l==[i])&&(Region.ready md ops l).contains i&& !fins.contains i&&chk md ops fins r false (l.setIfInBounds i true) d
  | .op .fin i r,b,l,_=> !b&&(Region.ready md ops l==[i])&&chk md ops fins r false (l.setIfInBounds i true) true
  | .br x y,b,l,d=>(b||(Region.ready md ops l).all fun i=>(x.heads++y.heads).contains i)&&chk md ops fins x true l d&&chk md ops fins y true l d
def finsOf:Sd→List Nat
  | .nil=>[]
  | .op .fin i r=>i::finsOf r
  | .op _ _ r=>finsOf r
  | .br x y=>finsOf x++finsOf y
theorem wpAnyF_done{fins:List Nat}{l:Array Bool}(hr:Region.ready md ops l=[]):∀ (n:Nat) {a:Act} {w:World},Q .normal a w→wpAnyF P md ops Q S fins n l a w
  |0,_,_,h=>⟨hr,h⟩
  |n+1,_,_,h=>⟨fun _=>h,fun i hi=>by rw [hr] at hi;cases hi⟩
theorem wpT_any(fins:List Nat)(hs:Region.noSelect ops=true)(hQ:∀ c a a' w,Q (.panic c) a w→Q (.panic c) a' w)(hfl:fins.all (· <ops.size)=true):∀ (σ:Sd) (b:Bool) (n:Nat) (l:Array Bool) (d:Bool) (a:Act) (w:World),l.size=ops.size→Closed md ops l→
    chk md ops fins σ b l d=true→(∀ i,i∈finsOf σ→fins.contains i=true)→(d=false→finDone fins l=false)→(d=true→finDone fins l=true)→(d=true∨S w)→wpT P ops Q S σ a w→
    if b then σ.dep≤n+1→∀ i∈σ.heads,wpOp P ops Q i (fun a' w'=>(finDone fins (l.setIfInBounds i true)=true∨S w')∧wpAnyF P md ops Q S fins n (l.setIfInBounds i true) a' w') a w
    else σ.dep≤n→wpAnyF P md ops Q S fins n l a w
  | .nil,b,n,l,d,a,w,_,_,hc,_,_,_,_,h=>by
    simp only [chk,List.isEmpty_iff,Bool.and_eq_true,Bool.not_eq_true'] at hc
    obtain⟨rfl,hc⟩:=hc
    exact fun _=>wpAnyF_done hc n h
  | .op .v0 i r,b,n,l,d,a,w,hsz,hcl,hc,hf,hd0,hd1,hS,h=>by
    simp only [chk,Bool.and_eq_true,Bool.not_eq_true'] at hc
    obtain⟨⟨⟨⟨rfl,hfr⟩,hrd⟩,hin⟩,hk⟩:=hc
    intro hn
    obtain⟨o,v,ho,hy,hr⟩:=h
    have hrd':i∈Region.ready md ops l:=by simpa using hrd
    cases n with
    |zero=>simp [Sd.dep] at hn
    |succ n=>
      refine wpAnyF_first0 ho (Region.noSelect_spec hs) (fun c a w=>hQ c _ _ w) hin n l a w ?_ (Region.free_spec ho hfr) hrd' hy ?_
      · rcases hS with h|h
        · exact .inl (hd1 h)
        · exact .inr h
      · refine wpT_any fins hs hQ hfl r false n _ d _ w (by simpa using hsz) (hcl.set hrd') hk (fun i hi=>hf i hi) ?_ ?_ hS hr (by simp [Sd.dep] at hn;exact hn)
        · intro e;rw [finDone_set_ne hin];exact hd0 e
        · intro e;rw [finDone_set_ne hin];exact hd1 e
  | .op .v1 i r,b,n,l,d,a,w,hsz,hcl,hc,hf,hd0,hd1,hS,h=>by
    simp only [chk,Bool.and_eq_true,Bool.not_eq_true'] at hc
    obtain⟨⟨⟨⟨⟨⟨rfl,hd⟩,hfr⟩,hrd⟩,hin⟩,hw⟩,hk⟩:=hc
    subst hd
    intro hn
    obtain⟨o,v,ho,hy,hr⟩:=h
    have hrd':i∈Region.ready md ops l:=by simpa using hrd
    have hS':S w:=hS.resolve_left (by simp)
    cases n with
    |zero=>simp [Sd.dep] at hn
    |succ n=>
      refine wpAnyF_first1 ho (Region.noSelect_spec hs) (fun c a w=>hQ c _ _ w) hin ?_ n l a w hcl (hd0 rfl) (Region.free_spec ho hfr) hrd' hy hS' ?_
      · intro j hj
        have:=List.all_eq_true.1 hw j (by simpa using hj)
        exact this
      · refine wpT_any fins hs hQ hfl r false n _ false _ w (by simpa using hsz) (hcl.set hrd') hk (fun i hi=>hf i hi) ?_ ?_ hS hr (by simp [Sd.dep] at hn;exact hn)
        · intro e;rw [finDone_set_ne hin];exact hd0 e
        · intro e;cases e
  | .op .ch i r,b,n,l,d,a,w,hsz,hcl,hc,hf,hd0,hd1,hS,h=>by
    simp only [chk,Bool.and_eq_true,Bool.not_eq_true',Bool.or_eq_true,beq_iff_eq] at hc
    obtain⟨⟨⟨⟨hd,hb⟩,hrd⟩,hin⟩,hk⟩:=hc
    subst hd
    have hrd':i∈Region.ready md ops l:=by simpa using hrd
    have key:∀ m,r.dep≤m→wpOp P ops Q i (fun a' w'=>(finDone fins (l.setIfInBounds i true)=true∨S w')∧wpAnyF P md ops Q S fins m (l.setIfInBounds i true) a' w') a w:=by
      intro m hm
      refine wpOp_mono (fun a' w' h3=>⟨.inr h3.1, ?_⟩) h
      refine wpT_any fins hs hQ hfl r false m _ false _ w' (by simpa using hsz) (hcl.set hrd') hk (fun i hi=>hf i hi) ?_ ?_ (.inr h3.1) h3.2 hm
      · intro e;rw [finDone_set_ne hin];exact hd0 e
      · intro e;cases e
    cases b with
    |true=>
      simp only [if_true]
      intro hn j hj
      simp only [Sd.heads,List.mem_singleton] at hj
      subst hj
      exact key n (by simp [Sd.dep] at hn;exact hn)
    |false=>
      simp only [Bool.false_eq_true,if_false]
      intro hn
      have hb':Region.ready md ops l=[i]:=hb.resolve_left (by simp)
      cases n with
      |zero=>simp [Sd.dep] at hn
      |succ n=>
        refine⟨fun h0=>(by rw [hb'] at h0;cases h0),fun j hj=>?_⟩
        rw [hb'] at hj
        obtain rfl:j=i:=by simpa using hj
        exact key n (by simp [Sd.dep] at hn;exact hn)
  | .op .fin i r,b,n,l,d,a,w,hsz,hcl,hc,hf,hd0,hd1,hS,h=>by
    simp only [chk,Bool.and_eq_true,Bool.not_eq_true',beq_iff_eq] at hc
    obtain⟨⟨rfl,hrd⟩,hk⟩:=hc
    intro hn
    have hrd':i∈Region.ready md ops l:=by rw [hrd];simp
    have hin:fins.contains i=true:=hf i (List.mem_cons_self ..)
    have hil:i<l.size:=by
      have:=List.all_eq_true.1 hfl i (by simpa using hin)
      rw [hsz];simpa using this
    have hfd:finDone fins (l.setIfInBounds i true)=true:=List.any_eq_true.2 ⟨i,by simpa using hin,by simp [hil]⟩
    cases n with
    |zero=>simp [Sd.dep] at hn
    |succ n=>
      refine⟨fun h0=>(by rw [hrd] at h0;cases h0),fun j hj=>?_⟩
      rw [hrd] at hj
      obtain rfl:j=i:=by simpa using hj
      refine wpOp_mono (fun a' w' h3=>⟨.inl hfd, ?_⟩) h
      exact wpT_any fins hs hQ hfl r false n _ true _ w' (by simpa using hsz) (hcl.set hrd') hk (fun i hi=>hf i (List.mem_cons_of_mem _ hi)) (by intro e;cases e) (fun _=>hfd) (.inl rfl) h3 (by simp [Sd.dep] at hn;exact hn)
  | .br x y,b,n,l,d,a,w,hsz,hcl,hc,hf,hd0,hd1,hS,h=>by
    simp only [chk,Bool.and_eq_true,Bool.or_eq_true] at hc
    obtain⟨⟨hb,hx⟩,hy⟩:=hc
    have kx:=fun m=>wpT_any fins hs hQ hfl x true m l d a w hsz hcl hx (fun i hi=>hf i (List.mem_append.2 (.inl hi))) hd0 hd1 hS h.1
    have ky:=fun m=>wpT_any fins hs hQ hfl y true m l d a w hsz hcl hy (fun i hi=>hf i (List.mem_append.2 (.inr hi))) hd0 hd1 hS h.2
    simp only [if_true] at kx ky
    have key:∀ m,(Sd.br x y).dep≤m+1→∀ i∈(Sd.br x y).heads,wpOp P ops Q i (fun a' w'=>(finDone fins (l.setIfInBounds i true)=true∨S w')∧wpAnyF P md ops Q S fins m (l.setIfInBounds i true) a' w') a w:=by
      intro m hm i hi
      simp only [Sd.dep] at hm
      simp only [Sd.heads] at hi
      rcases List.mem_append.1 hi with h1|h1
      · exact kx m (by omega) i h1
      · exact ky m (by omega) i h1
    cases b with
    |true=>simp only [if_true];exact key n
    |false=>
      simp only [Bool.false_eq_true,if_false]
      intro hn
      have hb':=hb.resolve_left (by simp)
      have dpos:∀ (z:Sd) (l:Array Bool) (d:Bool),chk md ops fins z true l d=true→0<z.dep:=by
        intro z
        induction z with
        |nil=>intro l d h;simp [chk] at h
        |op c i r _=>intro l d _;simp [Sd.dep]
        |br x y ihx _=>
          intro l d h
          simp only [chk,Bool.and_eq_true] at h
          have:=ihx l d h.1.2
          simp only [Sd.dep]
          omega
      have hpos:=dpos x l d hx
      cases n with
      |zero=>simp only [Sd.dep] at hn;omega
      |succ n=>
        refine⟨fun h0=>?_,fun j hj=>?_⟩
        · exfalso
          have hne:∀ (z:Sd) (b:Bool),chk md ops fins z true l d=true→Region.ready md ops l=[]→False:=by
            intro z
            induction z with
            |nil=>intro b h _;simp [chk] at h
            |op c i r _=>
              intro b h h0
              cases c<;>simp only [chk,h0,Bool.and_eq_true] at h<;>simp at h
            |br x y ihx _=>
              intro b h h0
              simp only [chk,Bool.and_eq_true] at h
              exact ihx b h.1.2 h0
          exact hne x true hx h0
        · exact key n hn j (by have:=List.all_eq_true.1 hb' j hj;simpa [Sd.heads] using this)
def schedOk (ops:Array Oper) (σ:Sd):Bool:=
  Region.noSelect ops&&(finsOf σ).all (· <ops.size)&&decide (σ.dep≤ops.size)&&chk .any ops (finsOf σ) σ false (Array.replicate ops.size false) false
theorem wpOps_draw{a:Act}{w:World}(σ:Sd)(hm:P.follows .mixedOrders=true)(hok:schedOk ops σ=true)(hQ:∀ c a a' w,Q (.panic c) a w→Q (.panic c) a' w)
    (hS:S w) (h:wpT P ops Q S σ a w) (t:Nat):wpOps P ops Q (Region.schedule (P.follows .mixedOrders) ops t) a w:=by
  simp only [schedOk,Bool.and_eq_true,decide_eq_true_eq] at hok
  obtain⟨⟨⟨hs,hfl⟩,hlen⟩,hc⟩:=hok
  simp only [Region.schedule,hm,Bool.true_or,if_true]
  refine wpAny_sound ops.size t _ a _ (wpAny_of_F (S:=S) (fins:=finsOf σ) _ _ _ _ ?_)
  refine wpT_any (finsOf σ) hs hQ hfl σ false _ _ false a _ (by simp) (closed_init _) hc (fun i hi=>by simpa using hi) ?_ ?_ (.inr hS) h hlen
  · intro _
    unfold finDone
    rw [List.any_eq_false]
    intro f _
    rcases Nat.lt_or_ge f ops.size with hj|hj
    · simp [hj]
    · simp [hj]
  · intro e;cases e
def Sd.text:Nat→Nat→Sd
  |0,_=> .nil
  |n+1,k=> .op .fin k (Sd.text n (k+1))
theorem wpOps_of_wpT:∀ (n k:Nat) (a:Act) (w:World),wpT P ops Q (fun _=>True) (Sd.text n k) a w→wpOps P ops Q (List.range' k n) a w
  |0,_,_,_,h=>h
  |n+1,k,a,w,h=>by
    rw [List.range'_succ,wpOps_cons]
    exact wpOp_mono (fun a' w' h'=>wpOps_of_wpT n (k+1) a' w' h') h
theorem wpOps_text{a:Act}{w:World}(h:wpT P ops Q (fun _=>True) (Sd.text ops.size 0) a w):wpOps P ops Q (List.range ops.size) a w:=by
  have:=wpOps_of_wpT _ 0 a w h
  rw [←List.range_eq_range'] at this
  exact this
end
end Go.Lx
namespace Go.Lx
abbrev Env:=List (Nat×Value)
structure Kd where
  n:Nat
  ms:Option Nat
  ro:Option Nat
instance:Coe Nat Kd:=⟨fun n=>⟨n,none,none⟩⟩
instance (n:Nat):OfNat Kd n:=⟨⟨n,none,none⟩⟩
def marks:Option Nat→List Deferred
  |none=>[]
  |some D=>[{target:= .collected D,args:=#[]}]
abbrev fen (k:Kd):Fence:={Fence.wide with round:=k.ro}
structure EnvOK (k:Kd) (env:Env) (a:Act):Prop where
  size:a.tmps.size=k.n
  defers:a.defers=marks k.ms
  vals:∀ t v,env.lookup t=some v→a.tmps[t]?=some v
def ev (env:Env):Operand→Option Value
  | .tmp t=>env.lookup t
  | .const v=>some v
  | .func f=>some (.func (.func f) #[] #[])
  | .global g=>some (.pointer (some ⟨g,0,none⟩))
def evs (env:Env):List Operand→Option (List Value)
  |[]=>some []
  |x::l=>match ev env x,evs env l with
    |some v,some vs=>some (v::vs)
    |_,_=>none
def evps (env:Env):List (Nat×Operand)→Option (List (Nat×Value))
  |[]=>some []
  |(i,x)::l=>match ev env x,evps env l with
    |some v,some vs=>some ((i,v)::vs)
    |_,_=>none
theorem EnvOK.ev{n:Kd}{env:Env}{a:Act}(h:EnvOK n env a){x:Operand}{v:Value}(hx:ev env x=some v):a.eval x=v:=by
  cases x with
  |tmp t=>
    have:=h.vals t v hx
    simp [Act.eval,Array.getD_eq_getD_getElem?,this]
  |const u=>simpa [Lx.ev,Act.eval] using hx
  |func f=>simpa [Lx.ev,Act.eval] using hx
  |global g=>simpa [Lx.ev,Act.eval] using hx
theorem EnvOK.evs{n:Kd}{env:Env}{a:Act}(he:EnvOK n env a):∀ (l:List Operand) (vs:List Value),evs env l=some vs→l.map a.eval=vs
  |[],vs,h=>by simp [Lx.evs] at h;simp [←h]
  |x::l,vs,h=>by
    simp only [Lx.evs] at h
    split at h
    · rename_i v us hv hus
      cases h
      simp [he.ev hv,he.evs l us hus]
    · cases h
theorem EnvOK.evps{n:Kd}{env:Env}{a:Act}(he:EnvOK n env a):∀ (l:List (Nat×Operand)) (vs:List (Nat×Value)),evps env l=some vs→l.map (fun p=>(p.1,a.eval p.2))=vs
  |[],vs,h=>by simp [Lx.evps] at h;simp [←h]
  |(i,x)::l,vs,h=>by
    simp only [Lx.evps] at h
    split at h
    · rename_i v us hv hus
      cases h
      simp [he.ev hv,he.evps l us hus]
    · cases h
theorem EnvOK.put{n:Kd}{env:Env}{a:Act}(h:EnvOK n env a){d:Nat}(hd:Nat.blt d n.n=true)(v:Value):EnvOK n ((d,v)::env) (a.put (some d) v):=by
  have hd:d<n.n:=by simpa [Nat.blt_eq] using hd
  refine⟨by simp [Act.put,h.size],h.defers,fun t u ht=>?_⟩
  simp only [List.lookup_cons] at ht
  simp only [Act.put,Array.getElem?_setIfInBounds]
  by_cases e:t=d
  · subst e
    simp at ht
    subst ht
    simp [h.size,hd]
  · rw [if_neg (Ne.symm e)]
    have:(t==d)=false:=by simpa using e
    rw [this] at ht
    exact h.vals t u ht
def Sub (e' e:Env):Prop:=∀ t v,e'.lookup t=some v→e.lookup t=some v
theorem Sub.nil{e:Env}:Sub [] e:=fun _ _ h=>by cases h
theorem Sub.cons{e' e:Env}{t:Nat}{v:Value}(h:e.lookup t=some v)(k:Sub e' e):Sub ((t,v)::e') e:=by
  intro s u hs
  simp only [List.lookup_cons] at hs
  by_cases hst:s=t
  · subst hst
    simp at hs
    subst hs
    exact h
  · have:(s==t)=false:=by simpa using hst
    rw [this] at hs
    exact k s u hs
theorem EnvOK.sub{n:Kd}{e e':Env}{a:Act}(h:EnvOK n e a)(k:Sub e' e):EnvOK n e' a:=⟨h.size,h.defers,fun t v ht=>h.vals t v (k t v ht)⟩
structure Assn where
  holds:World→(Nat→Prop)→Prop
  loc:∀ {w w':World} {F:Nat→Prop},holds w F→(∀ b,F b→w'.heap[b]?=w.heap[b]?)→holds w' F
  dom:∀ {w:World} {F:Nat→Prop} {b:Nat},holds w F→F b→b<w.heap.size
def Sep:List Assn→World→(Nat→Prop)→Prop
  |[],_,F=>∀ b,¬F b
  |p::ps,w,F=>∃ F1 F2,p.holds w F1∧Sep ps w F2∧(∀ b,F1 b→ ¬F2 b)∧(∀ b,F b↔F1 b∨F2 b)
theorem Sep.loc:∀ {A:List Assn} {w w':World} {F:Nat→Prop},Sep A w F→(∀ b,F b→w'.heap[b]?=w.heap[b]?)→Sep A w' F
  |[],_,_,_,h,_=>h
  |p::ps,_,_,_,⟨F1,F2,h1,h2,hd,hF⟩,hk=>
    ⟨F1,F2,p.loc h1 (fun b hb=>hk b ((hF b).2 (.inl hb))),Sep.loc h2 (fun b hb=>hk b ((hF b).2 (.inr hb))),hd,hF⟩
theorem Sep.dom:∀ {A:List Assn} {w:World} {F:Nat→Prop} {b:Nat},Sep A w F→F b→b<w.heap.size
  |[],_,_,b,h,hb=>absurd hb (h b)
  |p::ps,_,_,b,⟨F1,F2,h1,h2,_,hF⟩,hb=>by
    rcases(hF b).1 hb with hb|hb
    · exact p.dom h1 hb
    · exact Sep.dom h2 hb
theorem Sep.append:∀ {A B:List Assn} {w:World} {F1 F2:Nat→Prop},Sep A w F1→Sep B w F2→(∀ b,F1 b→ ¬F2 b)→Sep (A++B) w (fun b=>F1 b∨F2 b)
  |[],B,w,F1,F2,h1,h2,_=>by
    have:(fun b=>F1 b∨F2 b)=F2:=by
      funext b
      have:=h1 b
      simp [this]
    rw [this]
    exact h2
  |p::ps,B,w,F1,F2,⟨G1,G2,g1,g2,gd,gF⟩,h2,hd=>by
    refine⟨G1,fun b=>G2 b∨F2 b,g1,Sep.append g2 h2 (fun b hb=>hd b ((gF b).2 (.inr hb))), ?_, ?_⟩
    · intro b hb h
      rcases h with h|h
      · exact gd b hb h
      · exact hd b ((gF b).2 (.inl hb)) h
    · intro b
      show(F1 b∨F2 b)↔G1 b∨G2 b∨F2 b
      rw [gF b,or_assoc]
theorem Sep.split:∀ {A B:List Assn} {w:World} {F:Nat→Prop},Sep (A++B) w F→∃ F1 F2,Sep A w F1∧Sep B w F2∧(∀ b,F1 b→ ¬F2 b)∧(∀ b,F b↔F1 b∨F2 b)
  |[],B,w,F,h=>⟨fun _=>False,F,fun _ h=>h,h,fun _ h=>h.elim,fun b=>by simp⟩
  |p::ps,B,w,F,⟨G1,G2,g1,g2,gd,gF⟩=>by
    obtain⟨F1,F2,f1,f2,fd,fF⟩:=Sep.split g2
    refine⟨fun b=>G1 b∨F1 b,F2,⟨G1,F1,g1,f1,fun b hb h=>gd b hb ((fF b).2 (.inl h)),fun b=>Iff.rfl⟩,f2, ?_, ?_⟩
    · intro b hb h2
      rcases hb with hb|hb
      · exact gd b hb ((fF b).2 (.inr h2))
      · exact fd b hb h2
    · intro b
      show F b↔(G1 b∨F1 b)∨F2 b
      rw [gF b,fF b,or_assoc]
theorem Sep.perm{A B:List Assn}(h:A.Perm B):∀ {w:World} {F:Nat→Prop},Sep A w F→Sep B w F:=by
  induction h with
  |nil=>exact fun h=>h
  |cons p _ ih=>exact fun⟨F1,F2,h1,h2,hd,hF⟩=>⟨F1,F2,h1,ih h2,hd,hF⟩
  |swap p q l=>
    intro w F ⟨F1,F2,h1,⟨G1,G2,g1,g2,gd,gF⟩,hd,hF⟩
    refine⟨G1,fun b=>F1 b∨G2 b,g1,⟨F1,G2,h1,g2,fun b hb h=>hd b hb ((gF b).2 (.inr h)),fun _=>Iff.rfl⟩, ?_, ?_⟩
    · intro b hb h
      rcases h with h|h
      · exact hd b h ((gF b).2 (.inl hb))
      · exact gd b hb h
    · intro b
      rw [hF b,gF b]
      constructor<;>rintro(h|h|h)<;>simp [h]
  |trans _ _ ih1 ih2=>exact fun h=>ih2 (ih1 h)
structure Cx where
  P:Program
  n:Kd
  w0:World
  H:Nat→Prop
structure Conf (C:Cx) (A:List Assn) (w:World):Prop where
  os:w.os=C.w0.os
  tape:w.tape=C.w0.tape
  output:w.output=C.w0.output
  size:C.w0.heap.size≤w.heap.size
  drawn:True
  keep:∀ b,b<C.w0.heap.size→ ¬C.H b→w.heap[b]?=C.w0.heap[b]?
  sep:∃ F,Sep A w F∧∀ b,F b→C.H b∨C.w0.heap.size≤b
variable {C:Cx} {A B:List Assn} {w:World}
theorem Conf.perm(h:Conf C A w)(k:A.Perm B):Conf C B w:=⟨h.os,h.tape,h.output,h.size,h.drawn,h.keep,let⟨F,s,f⟩:=h.sep;⟨F,s.perm k,f⟩⟩
theorem Conf.drop{p:Assn}(h:Conf C (p::A) w):Conf C A w:=
  ⟨h.os,h.tape,h.output,h.size,h.drawn,h.keep,let⟨_,⟨_,F2,_,h2,_,hF⟩,f⟩:=h.sep;⟨F2,h2,fun b hb=>f b ((hF b).2 (.inr hb))⟩⟩
theorem Conf.sub(h:Conf C A w)(k:B.Sublist A):Conf C B w:=by
  obtain⟨F,s,f⟩:=h.sep
  suffices∀ {B A:List Assn},B.Sublist A→∀ {F:Nat→Prop},Sep A w F→∃ F',Sep B w F'∧∀ b,F' b→F b by
    obtain⟨F',s',f'⟩:=this k s
    exact⟨h.os,h.tape,h.output,h.size,h.drawn,h.keep,F',s',fun b hb=>f b (f' b hb)⟩
  intro B A k
  induction k with
  |slnil=>exact fun h=>⟨_,h,fun _ h=>h⟩
  |cons p _ ih=>
    intro F ⟨F1,F2,_,h2,_,hF⟩
    obtain⟨F',s',f'⟩:=ih h2
    exact⟨F',s',fun b hb=>(hF b).2 (.inr (f' b hb))⟩
  |cons_cons p _ ih=>
    intro F ⟨F1,F2,h1,h2,hd,hF⟩
    obtain⟨F',s',f'⟩:=ih h2
    refine⟨fun b=>F1 b∨F' b,⟨F1,F',h1,s',fun b hb h=>hd b hb (f' b h),fun _=>Iff.rfl⟩, ?_⟩
    rintro b (hb|hb)
    · exact(hF b).2 (.inl hb)
    · exact(hF b).2 (.inr (f' b hb))
theorem Conf.drew(h:Conf C A w):Conf C A w.drew:=⟨h.os,h.tape,h.output,h.size,trivial,h.keep,let⟨F,s,f⟩:=h.sep;⟨F,s.loc (fun _ _=>rfl),f⟩⟩
theorem Sep.get:∀ {A:List Assn} {i:Nat} {p:Assn} {w:World} {F:Nat→Prop},A[i]?=some p→Sep A w F→∃ F1,p.holds w F1∧∀ b,F1 b→F b
  |[],_,_,_,_,h,_=>by cases h
  |q::qs,0,p,_,_,h,⟨F1,F2,h1,_,_,hF⟩=>by
    simp at h
    subst h
    exact⟨F1,h1,fun b hb=>(hF b).2 (.inl hb)⟩
  |q::qs,i+1,p,_,_,h,⟨F1,F2,_,h2,_,hF⟩=>by
    obtain⟨G,g,gF⟩:=Sep.get (i:=i) (by simpa using h) h2
    exact⟨G,g,fun b hb=>(hF b).2 (.inr (gF b hb))⟩
theorem Conf.get{i:Nat}{p:Assn}(h:Conf C A w)(hi:A[i]?=some p):∃ F,p.holds w F∧∀ b,F b→C.H b∨C.w0.heap.size≤b:=by
  obtain⟨F,s,f⟩:=h.sep
  obtain⟨F1,h1,k⟩:=s.get hi
  exact⟨F1,h1,fun b hb=>f b (k b hb)⟩
theorem Conf.update{i:Nat}{p q:Assn}{w':World}(h:Conf C A w)(hi:A[i]?=some p)(hos:w'.os=w.os)(htape:w'.tape=w.tape)(hout:w'.output=w.output)(hsz:w.heap.size≤w'.heap.size)(hdr:w.drawn≤w'.drawn)
    (hq:∀ F,p.holds w F→∃ F',q.holds w' F'∧(∀ b,F' b→F b∨w.heap.size≤b)∧∀ b,b<w.heap.size→ ¬F b→w'.heap[b]?=w.heap[b]?):Conf C (A.set i q) w':=by
  obtain⟨F,s,f⟩:=h.sep
  suffices∀ {A:List Assn} {i:Nat} {F:Nat→Prop},A[i]?=some p→Sep A w F→∃ F',Sep (A.set i q) w' F'∧(∀ b,F' b→F b∨w.heap.size≤b)∧∀ b,b<w.heap.size→ ¬F b→w'.heap[b]?=w.heap[b]? by
    obtain⟨F',s',f',k'⟩:=this hi s
    refine⟨hos.trans h.os,htape.trans h.tape,hout.trans h.output,Nat.le_trans h.size hsz,trivial,fun b hb hH=>?_,F',s',fun b hb=>?_⟩
    · rw [k' b (Nat.lt_of_lt_of_le hb h.size) (fun hF=>?_),h.keep b hb hH]
      rcases f b hF with h1|h1
      · exact hH h1
      · omega
    · rcases f' b hb with h1|h1
      · exact f b h1
      · exact .inr (Nat.le_trans h.size h1)
  intro A
  induction A with
  |nil=>intro i F hi;cases hi
  |cons r rs ih=>
    intro i F hi ⟨F1,F2,h1,h2,hd,hF⟩
    cases i with
    |zero=>
      simp at hi
      subst hi
      obtain⟨G,g1,gF,gk⟩:=hq F1 h1
      have hd2:∀ b,F2 b→b<w.heap.size:=fun b hb=>Sep.dom h2 hb
      refine⟨fun b=>G b∨F2 b,⟨G,F2,g1,h2.loc (fun b hb=>gk b (hd2 b hb) (fun h=>hd b h hb)), ?_,fun _=>Iff.rfl⟩, ?_, ?_⟩
      · intro b hb h2b
        rcases gF b hb with h|h
        · exact hd b h h2b
        · have:=hd2 b h2b;omega
      · rintro b (hb|hb)
        · rcases gF b hb with h|h
          · exact .inl ((hF b).2 (.inl h))
          · exact .inr h
        · exact .inl ((hF b).2 (.inr hb))
      · intro b hb hn
        exact gk b hb (fun h=>hn ((hF b).2 (.inl h)))
    |succ i=>
      obtain⟨F',s',f',k'⟩:=ih (by simpa using hi) h2
      have hd1:∀ b,F1 b→b<w.heap.size:=fun b hb=>r.dom h1 hb
      refine⟨fun b=>F1 b∨F' b,⟨F1,F',r.loc h1 (fun b hb=>k' b (hd1 b hb) (hd b hb)),s', ?_,fun _=>Iff.rfl⟩, ?_, ?_⟩
      · intro b hb hb'
        rcases f' b hb' with h|h
        · exact hd b hb h
        · have:=hd1 b hb;omega
      · rintro b (hb|hb)
        · exact .inl ((hF b).2 (.inl hb))
        · rcases f' b hb with h|h
          · exact .inl ((hF b).2 (.inr h))
          · exact .inr h
      · intro b hb hn
        exact k' b hb (fun h=>hn ((hF b).2 (.inr h)))
theorem Conf.new{q:Assn}{w':World}(h:Conf C A w)(hos:w'.os=w.os)(htape:w'.tape=w.tape)(hout:w'.output=w.output)(hsz:w.heap.size≤w'.heap.size)(hdr:w.drawn≤w'.drawn)(hk:∀ b,b<w.heap.size→w'.heap[b]?=w.heap[b]?)
    (hq:∃ F',q.holds w' F'∧∀ b,F' b→w.heap.size≤b):Conf C (q::A) w':=by
  obtain⟨F,s,f⟩:=h.sep
  obtain⟨G,g,gF⟩:=hq
  have hd:∀ b,F b→b<w.heap.size:=fun b hb=>Sep.dom s hb
  refine⟨hos.trans h.os,htape.trans h.tape,hout.trans h.output,Nat.le_trans h.size hsz,trivial,fun b hb hH=>?_,fun b=>G b∨F b,⟨G,F,g,s.loc (fun b hb=>hk b (hd b hb)), ?_,fun _=>Iff.rfl⟩, ?_⟩
  · rw [hk b (Nat.lt_of_lt_of_le hb h.size),h.keep b hb hH]
  · intro b hb hb'
    have:=gF b hb
    have:=hd b hb'
    omega
  · rintro b (hb|hb)
    · exact .inr (Nat.le_trans h.size (gF b hb))
    · exact f b hb
theorem Conf.start{P:Program}{n:Kd}{H:Nat→Prop}(h:Sep A w H):Conf ⟨P,n,w,H⟩ A w:=
  ⟨rfl,rfl,rfl,Nat.le_refl _,trivial,fun _ _ _=>rfl,H,h,fun _ hb=> .inl hb⟩
theorem Conf.any{n:Kd}(h:Conf C A w):Conf ⟨C.P,n,C.w0,C.H⟩ A w:=⟨h.os,h.tape,h.output,h.size,h.drawn,h.keep,h.sep⟩
theorem Conf.over{P:Program}{m:Kd}{w0 w1 w2:World}{H:Nat→Prop}(h:Conf ⟨P,0,w1,fun _=>False⟩ [] w2)(k:Conf ⟨P,m,w0,H⟩ A w1):Conf ⟨P,0,w0,H⟩ [] w2:=
  ⟨h.os.trans k.os,h.tape.trans k.tape,h.output.trans k.output,Nat.le_trans k.size h.size,trivial,fun b hb hH=>by
    rw [h.keep b (Nat.lt_of_lt_of_le hb k.size) (fun h=>h),k.keep b hb hH],fun _=>False,fun _ h=>h,fun _ h=>h.elim⟩
structure X (C:Cx) (c:Code) (Q:Exit→Act→World→Prop) (env:Env) (A:List Assn):Prop where go:∀ a w,EnvOK C.n env a→Conf C A w→c.wpIn (fen C.n) 9 C.P Q a w
structure N (C:Cx) (Q:Exit→Act→World→Prop) (env:Env) (A:List Assn):Prop where go:∀ a w,EnvOK C.n env a→Conf C A w→Q .normal a w
structure Ex (C:Cx) (id:Nat) (Q:Exit→Act→World→Prop) (env:Env) (A:List Assn):Prop where go:∀ a w,EnvOK C.n env a→Conf C A w→Q (.exit id) a w
structure Rt (C:Cx) (Q:Exit→Act→World→Prop) (env:Env) (A:List Assn):Prop where go:∀ a w,EnvOK C.n env a→Conf C A w→Q .ret a w
structure XL (C:Cx) (ops:Array Oper) (Q:Exit→Act→World→Prop) (S:World→Prop) (L:Sd) (env:Env) (A:List Assn):Prop where
  go:∀ a w,EnvOK C.n env a→Conf C A w→wpT C.P ops Q S L a w
def Spec (P:Program) (f:FuncId) (args:Array Value) (w:World) (H:Nat→Prop) (R:Value→List Assn→Prop):Prop:=
  Calls P f args w fun e w'=>∃ v A,e= .returned v∧R v A∧Conf ⟨P,0,w,H⟩ A w'
def Ends (P:Program) (w:World) (H:Nat→Prop) (R:Value→List Assn→Prop) (e:Ending) (w':World):Prop:=∃ v A,e= .returned v∧R v A∧Conf ⟨P,0,w,H⟩ A w'
def Post (P:Program) (fn:Func) (w:World) (H:Nat→Prop) (R:Value→List Assn→Prop):Exit→Act→World→Prop
  | .normal,a,w'| .ret,a,w'=>LeavesInM Fence.wide 9 P fn a.tmps (Ends P w H R) a.defers .returning w'
  |_,_,_=>False
class NoPanic (Q:Exit→Act→World→Prop):Prop where
  out:∀ c a a' w,Q (.panic c) a w→Q (.panic c) a' w
  tight:∀ a w,¬Q .outgrown a w
instance {P:Program} {fn:Func} {w:World} {H:Nat→Prop} {R:Value→List Assn→Prop}:NoPanic (Post P fn w H R):=⟨fun c a a' w h=>h.elim,fun a w h=>h.elim⟩
instance {K:Act→World→Prop} {Q:Exit→Act→World→Prop} [h:NoPanic Q]:NoPanic (Exit.then K Q):=⟨fun c a a' w=>h.out c a a' w,fun a w=>h.tight a w⟩
instance {id:Nat} {Q:Exit→Act→World→Prop} [h:NoPanic Q]:NoPanic (Exit.inBlock id Q):=⟨fun c a a' w=>h.out c a a' w,fun a w=>h.tight a w⟩
theorem NoPanic.lets{Q:Exit→Act→World→Prop} [h:NoPanic Q]: ¬LetsOut Q:=fun⟨a,w,k⟩=>h.tight a w k
def noDefer (ops:Array Oper):Bool:=ops.all fun o=>match o.op with| .defer _=>false|_=>true
theorem noDefer_spec{ops:Array Oper}(h:noDefer ops=true){i:Nat}{o:Oper}(ho:ops[i]?=some o)(c:Call):o.op≠ .defer c:=fun e=>by
  obtain⟨hi,rfl⟩:=Array.getElem?_eq_some_iff.1 ho
  have:=(Array.all_eq_true.1 h) i hi
  rw [e] at this
  cases this
theorem uponIn_of{k:Kd}{n:Nat}{P:Program}{o:Oper}{a:Act}{next:Act→World→Prop}{Q Q':Exit→Act→World→Prop}{r:Result Next}(hQ:∀ c a w,Q (.panic c) a w→Q' (.panic c) a w)(hT: ¬LetsOut Q)(h:o.upon P a next Q r):o.uponIn (fen k) n P a next Q' r:=by
  cases r with
  |ok x w'=>
    cases x with
    |value v=>exact h
    |skip=>exact h
    |defer d=>exact h
    |enter f args=>exact⟨fun h=>(by cases h),CallsIn.mono ((callsIn_wide (n:=n-1)).2 h) (fun e w'' he=>by cases e<;>first|exact he|exact hQ _ _ _ he|exact(hT he).elim)⟩
    |row row args=>exact⟨fun h=>(by cases h),fun c cs _=>let⟨v,w',r,s⟩:=h c cs;⟨v,w',r,stepsIn_wide.2 s⟩⟩
    |_=>exact h.elim
  |halt x w'=>cases x<;>first|exact h|exact hQ _ _ _ h
theorem wpOpIn_of{k:Kd}{n:Nat}{P:Program}{ops:Array Oper}{Q Q':Exit→Act→World→Prop}(hQ:∀ c a w,Q (.panic c) a w→Q' (.panic c) a w)(hT: ¬LetsOut Q)(hnd:noDefer ops=true){i:Nat}{K K':Act→World→Prop}{a:Act}{w:World}(hK:∀ a w,K a w→K' a w)(h:wpOp P ops Q i K a w):
    match ops[i]? with
    |none=>K' a w
    |some o=>if Region.wanted o (yielded ops a.tmps) then o.wpIn (fen k) n P a w K' Q' else(∀ f,o.about P w a.eval=some f→(fen k).fn f)∧K' (a.put o.dst undef) w:=by
  unfold wpOp at h
  split at h
  · rename_i h0;simp only [h0];exact hK _ _ h
  · rename_i o ho
    simp only [ho]
    split at h
    · rename_i hw
      rw [if_pos hw]
      have h1:=Oper.wp_mono hK (h.resolve_right fun x=>hT x.2)
      refine⟨fun _ _=>trivial, ?_⟩
      rw [Oper.semAt_eq _ _ _ (noDefer_spec hnd ho)]
      exact uponIn_of hQ hT h1
    · rename_i hw
      rw [if_neg hw]
      exact⟨fun _ _=>trivial,hK _ _ h⟩
theorem wpOpsIn_then{k:Kd}{n:Nat}{P:Program}{ops:Array Oper}{Q:Exit→Act→World→Prop} [NoPanic Q](hnd:noDefer ops=true)(rest:List Nat):∀ (l:List Nat) (a:Act) (w:World),wpOps P ops (Exit.then (wpOpsIn (fen k) n P ops Q rest) Q) l a w→wpOpsIn (fen k) n P ops Q (l++rest) a w
  |[],_,_,h=>h
  |i::l,a,w,h=>by
    rw [wpOps_cons] at h
    have:=wpOpIn_of (k:=k) (n:=n) (Q':=Q) (fun c a w h=>h) NoPanic.lets hnd (fun a w=>wpOpsIn_then hnd rest l a w) h
    rw [List.cons_append]
    unfold wpOpsIn
    exact this
theorem wpOpsIn_of{k:Kd}{n:Nat}{P:Program}{ops:Array Oper}{Q:Exit→Act→World→Prop} [NoPanic Q](hnd:noDefer ops=true):∀ (l:List Nat) (a:Act) (w:World),wpOps P ops Q l a w→wpOpsIn (fen k) n P ops Q l a w
  |[],_,_,h=>h
  |i::rest,a,w,h=>by
    rw [wpOps_cons] at h
    have:=wpOpIn_of (k:=k) (n:=n) (fun _ _ _ h=>h) NoPanic.lets hnd (fun a w=>wpOpsIn_of (k:=k) (n:=n) hnd rest a w) h
    unfold wpOpsIn
    exact this
section
variable {Q:Exit→Act→World→Prop} {env env':Env} {c d:Code} {id:Nat} {K:Act→World→Prop}
theorem X.seq(h:X C c (Exit.then (d.wpIn (fen C.n) 9 C.P Q) Q) env A):X C (.seq c d) Q env A:=⟨fun a w he hc=>wpIn_seq (h.go a w he hc)⟩
theorem X.skip(h:N C Q env A):X C .skip Q env A:=⟨fun a w he hc=>wpIn_skip (h.go a w he hc)⟩
theorem X.ret(h:Rt C Q env A):X C .ret Q env A:=⟨fun a w he hc=>wpIn_ret (h.go a w he hc)⟩
theorem Qq(h:Ex C id Q env A):X C (.exit id) Q env A:=⟨fun a w he hc=>wpIn_exit (h.go a w he hc)⟩
theorem X.scope(h:X C c (Exit.noGoto Q) env A)(hro:C.n.ro=none:=by rfl):X C (.scope c) Q env A:=⟨fun a w he hc=>by
  have e:fen C.n=Fence.wide:=by unfold fen;rw [hro];rfl
  have:=h.go a w he hc
  rw [e,wpIn_wide] at this ⊢
  exact wp_scope_straight this⟩
theorem N.scope(h:N C Q env A):N C (Exit.noGoto Q) env A:=⟨fun a w he hc=>h.go a w he hc⟩
theorem Ex.scope{i:Nat}(h:Ex C i Q env A):Ex C i (Exit.noGoto Q) env A:=⟨fun a w he hc=>h.go a w he hc⟩
theorem Rt.scope(h:Rt C Q env A):Rt C (Exit.noGoto Q) env A:=⟨fun a w he hc=>h.go a w he hc⟩
instance {Q:Exit→Act→World→Prop} [h:NoPanic Q]:NoPanic (Exit.noGoto Q):=⟨fun c a a' w=>h.out c a a' w,fun a w=>h.tight a w⟩
theorem X.label{l:Nat}(h:N C Q env A):X C (.label l) Q env A:=⟨fun a w he hc=>wpIn_label (h.go a w he hc)⟩
theorem X.block(h:X C c (Exit.inBlock id Q) env A):X C (.block id c) Q env A:=⟨fun a w he hc=>wpIn_block (h.go a w he hc)⟩
theorem Qi{x:Operand}{t:Bool}(hx:ev env x=some (.bool t))(h:t=true→X C c Q env A)(h':t=false→X C d Q env A):X C (.cond x c d) Q env A:=
  ⟨fun a w he hc=>wpIn_cond_split (he.ev hx) (fun e=>(h e).go a w he hc) (fun e=>(h' e).go a w he hc)⟩
theorem N.next(h:X C d Q env A):N C (Exit.then (d.wpIn (fen C.n) 9 C.P Q) Q) env A:=⟨fun a w he hc=>h.go a w he hc⟩
theorem N.block(h:N C Q env A):N C (Exit.inBlock id Q) env A:=⟨fun a w he hc=>h.go a w he hc⟩
theorem Ex.then{i:Nat}(h:Ex C i Q env A):Ex C i (Exit.then K Q) env A:=⟨fun a w he hc=>h.go a w he hc⟩
theorem Ql(h:N C Q env A):Ex C id (Exit.inBlock id Q) env A:=⟨fun a w he hc=>by
  simp only [Exit.inBlock,if_true]
  exact h.go a w he hc⟩
theorem Ex.out{i:Nat}(hne:(i==id)=false)(h:Ex C i Q env A):Ex C i (Exit.inBlock id Q) env A:=⟨fun a w he hc=>by
  have: ¬i=id:=by simpa using hne
  simp only [Exit.inBlock,this,if_false]
  exact h.go a w he hc⟩
theorem Rt.then(h:Rt C Q env A):Rt C (Exit.then K Q) env A:=⟨fun a w he hc=>h.go a w he hc⟩
theorem Rt.block(h:Rt C Q env A):Rt C (Exit.inBlock id Q) env A:=⟨fun a w he hc=>h.go a w he hc⟩
theorem X.mem(hA:∀ w,Conf C A w→Conf C B w)(h:X C c Q env B):X C c Q env A:=⟨fun a w e k=>h.go a w e (hA w k)⟩
theorem XL.fact{ops:Array Oper}{S:World→Prop}{L:Sd}{p:Prop}(hp:∀ w,Conf C A w→p)(h:p→XL C ops Q S L env A):XL C ops Q S L env A:=⟨fun a w e k=>(h (hp w k)).go a w e k⟩
theorem XL.mem{ops:Array Oper}{S:World→Prop}{L:Sd}(hA:∀ w,Conf C A w→Conf C B w)(h:XL C ops Q S L env B):XL C ops Q S L env A:=⟨fun a w e k=>h.go a w e (hA w k)⟩
theorem XL.nil{ops:Array Oper}{S:World→Prop}(h:N C Q env A):XL C ops Q S .nil env A:=⟨fun a w he hc=>h.go a w he hc⟩
theorem XL.at{ops:Array Oper}{S:World→Prop}{cl:Cl}{r:Sd}(i:Nat)(h:XL C ops Q S (.op cl i r) env A):XL C ops Q S (.op cl i r) env A:=h
theorem Za{ops:Array Oper}{S:World→Prop}{cl:Cl}{r:Sd}(i:Nat)(h:XL C ops Q S (.op cl i r) env A):XL C ops Q S (.op cl i r) env A:=h
theorem XL.br{ops:Array Oper}{S:World→Prop}{x y:Sd}(h:XL C ops Q S x env A)(k:XL C ops Q S y env A):XL C ops Q S (.br x y) env A:=⟨fun a w he hc=>⟨h.go a w he hc,k.go a w he hc⟩⟩
theorem X.text{ops:Array Oper} [hQ:NoPanic Q]{L:Sd}(hL:Sd.text ops.size 0=L)(hnd:noDefer ops=true)(h:XL C ops Q (fun _=>True) L env A):X C (.region id ops false) Q env A:=
  ⟨fun a w he hc=>wpIn_region (wpOpsIn_of hnd _ _ _ (wpOps_text (by rw [hL];exact h.go a w he hc)))⟩
theorem X.draw{ops:Array Oper} [hQ:NoPanic Q](σ:Sd)(hm:C.P.follows .mixedOrders=true)(hok:(noDefer ops&&schedOk ops σ)=true)(h:XL C ops Q (fun w=>Conf C A w) σ env A):X C (.region id ops true) Q env A:=
  ⟨fun a w he hc=>wpIn_region_draw fun t=>by
    simp only [Bool.and_eq_true] at hok
    exact wpOpsIn_of hok.1 _ _ _ (wpOps_draw σ hm hok.2 hQ.out hc.drew (h.go a w.drew he hc.drew) t)⟩
theorem Qs{ι:Type}(E:ι→Env)(AA:ι→List Assn)(I:ι→Prop)(μ:ι→Nat)(i0:ι)(h0:I i0)(he0:Sub (E i0) env)(hA0:∀ w,Conf C A w→Conf C (AA i0) w)
    (round:∀ i,I i→X C c (Exit.then (fun a w=>∃ j,I j∧μ j<μ i∧EnvOK C.n (E j) a∧Conf C (AA j) w) Q) (E i) (AA i)):X C (.loop c) Q env A:=by
  refine⟨fun a w he hc=>?_⟩
  intro b k cs hro hb hr
  have key:∀ n i a w,μ i=n→I i→EnvOK C.n (E i) a→Conf C (AA i) w→
      ∃ e a' w',Q e a' w'∧ArrivesIn (Machine.fenced C.P (fen C.n)) C.P (lone (b.atR a (.code c:: .inLoop c::k)) cs w) b k cs e a' w':=by
    intro n
    induction n using Nat.strongRecOn with
    |_ n ih=>
      intro i a w hn hI hE hK
      obtain⟨e,a₁,w₁,hq,harr⟩:=(round i hI).go a w hE hK b (.inLoop c::k) cs hro hb hr
      cases e with
      |normal=>
        obtain⟨j,hI₁,hlt,hE₁,hK₁⟩:=hq
        obtain⟨e₂,a₂,w₂,hq₂,harr₂⟩:=ih (μ j) (hn▸hlt) j a₁ w₁ rfl hI₁ hE₁ hK₁
        exact⟨e₂,a₂,w₂,hq₂,.of_steps (StepsIn.trans harr (.one (fenced_calm hb hr rfl) stepR_inLoop)) harr₂⟩
      |exit id=>exact⟨_,a₁,w₁,hq,.pass (x:= .inLoop c) rfl (fun _ _=> .inl (by simp)) harr⟩
      |goto l=>exact⟨_,a₁,w₁,hq,.pass (x:= .inLoop c) rfl (fun _ _=> .inl (by simp)) harr⟩
      |ret=>exact⟨_,a₁,w₁,hq,.pass (x:= .inLoop c) rfl (fun _ _=> .inl (by simp)) harr⟩
      |panic ch=>exact⟨_,a₁,w₁,hq,.pass (x:= .inLoop c) rfl (fun _ _=> .inl (by simp)) harr⟩
      |outgrown=>exact⟨_,a₁,w₁,hq,.pass (x:= .inLoop c) rfl (fun _ _=> .inl (by simp)) harr⟩
  obtain⟨e,a',w',hq,harr⟩:=key _ i0 a w rfl h0 (he.sub he0) (hA0 w hc)
  exact⟨e,a',w',hq,.of_steps (.one (fenced_calm hb hr rfl) stepR_loop) harr⟩
theorem Qp{ι:Type}{E:ι→Env}{AA:ι→List Assn}{I:ι→Prop}{μ:ι→Nat}{m:Nat}(j:ι)(hI:I j)(hμ:μ j<m)(he:Sub (E j) env)(hA:∀ w,Conf C A w→Conf C (AA j) w):
    N C (Exit.then (fun a w=>∃ j,I j∧μ j<m∧EnvOK C.n (E j) a∧Conf C (AA j) w) Q) env A:=
  ⟨fun a w e k=>⟨j,hI,hμ,e.sub he,hA w k⟩⟩
theorem X.meet{ι:Type}(E:ι→Env)(AA:ι→List Assn)(I:ι→Prop)(h:X C c (Exit.then (fun a w=>∃ j,I j∧EnvOK C.n (E j) a∧Conf C (AA j) w) Q) env A)
    (k:∀ j,I j→X C d Q (E j) (AA j)):X C (.seq c d) Q env A:=by
  refine⟨fun a w he hc=>?_⟩
  refine wpIn_seq (wpIn_mono (h.go a w he hc) ?_)
  intro e a' w' q
  cases e with
  |normal=>
    obtain⟨j,hI,hE,hK⟩:=q
    exact(k j hI).go a' w' hE hK
  |_=>exact q
theorem N.meet{ι:Type}{E:ι→Env}{AA:ι→List Assn}{I:ι→Prop}(j:ι)(hI:I j)(he:Sub (E j) env)(hA:∀ w,Conf C A w→Conf C (AA j) w):
    N C (Exit.then (fun a w=>∃ j,I j∧EnvOK C.n (E j) a∧Conf C (AA j) w) Q) env A:=
  ⟨fun a w e k=>⟨j,hI,e.sub he,hA w k⟩⟩
def argEnv (k:Nat):List Value→Env
  |[]=>[]
  |v::vs=>(k,v)::argEnv (k+1) vs
theorem argEnv_lookup:∀ (vs:List Value) (k t:Nat) (v:Value),(argEnv k vs).lookup t=some v→∃ i,t=k+i∧vs[i]?=some v
  |[],_,_,_,h=>by cases h
  |u::us,k,t,v,h=>by
    simp only [argEnv,List.lookup_cons] at h
    by_cases e:t=k
    · subst e
      simp at h
      subst h
      exact⟨0,rfl,rfl⟩
    · have:(t==k)=false:=by simpa using e
      rw [this] at h
      obtain⟨i,hi,hv⟩:=argEnv_lookup us (k+1) t v h
      exact⟨i+1,by omega,by simpa using hv⟩
theorem Spec.enter{P:Program}{f:FuncId}{fn:Func}{n:Nat}{args:List Value}{w:World}{H:Nat→Prop}{R:Value→List Assn→Prop}{c:Code}(hf:P.funcs[f]?=some fn)(hb:fn.body=some c)(hn:fn.ntmps=n)
    (hle:(decide (args.length≤n))=true) (hpre:Sep A w H) (h:X ⟨P,n,w,H⟩ c (Post P fn w H R) (argEnv 0 args) A):Spec P f args.toArray w H R:=by
  refine(callsIn_wide (n:=9)).1 (callsIn_of_wp_marks hf hb trivial (wpIn_mono (h.go _ w ⟨?_,rfl, ?_⟩ (Conf.start hpre)) (fun e a w q=>by cases e<;>first|exact q|exact q.elim)))
  · have hle':args.length≤n:=by simpa using hle
    simp [hn];omega
  · intro t v ht
    obtain⟨i,rfl,hv⟩:=argEnv_lookup args 0 t v ht
    obtain⟨hi,_⟩:=List.getElem?_eq_some_iff.1 hv
    simp only [Nat.zero_add]
    rw [Array.getElem?_append_left (by simpa using hi)]
    simpa using hv
def Res (C:Cx) (fn:Func) (env:Env) (A:List Assn) (v:Value):Prop:=∀ a w,EnvOK C.n env a→Conf C A w→(results fn a.tmps).run C.P w= .ok v w
theorem Rt.done{P:Program}{n:Nat}{ro:Option Nat}{w0:World}{H:Nat→Prop}{fn:Func}{R:Value→List Assn→Prop}{v:Value}(hv:Res ⟨P,⟨n,none,ro⟩,w0,H⟩ fn env A v)(hR:R v B)(hA:∀ w,Conf ⟨P,⟨n,none,ro⟩,w0,H⟩ A w→Conf ⟨P,⟨n,none,ro⟩,w0,H⟩ B w):Rt ⟨P,⟨n,none,ro⟩,w0,H⟩ (Post P fn w0 H R) env A:=
  ⟨fun a w he hc=>by
    show LeavesInM _ _ _ _ _ _ a.defers _ _
    rw [he.defers]
    exact⟨v,hv a w he hc,v,B,rfl,hR,(hA w hc).any⟩⟩
theorem N.done{P:Program}{n:Nat}{ro:Option Nat}{w0:World}{H:Nat→Prop}{fn:Func}{R:Value→List Assn→Prop}{v:Value}(hv:Res ⟨P,⟨n,none,ro⟩,w0,H⟩ fn env A v)(hR:R v B)(hA:∀ w,Conf ⟨P,⟨n,none,ro⟩,w0,H⟩ A w→Conf ⟨P,⟨n,none,ro⟩,w0,H⟩ B w):N ⟨P,⟨n,none,ro⟩,w0,H⟩ (Post P fn w0 H R) env A:=
  ⟨fun a w he hc=>(Rt.done hv hR hA).go a w he hc⟩
theorem EnvOK.getD{n:Kd}{a:Act}(h:EnvOK n env a){t:Nat}{v:Value}(ht:env.lookup t=some v):a.tmps.getD t undef=v:=by
  simp [Array.getD_eq_getD_getElem?,h.vals t v ht]
theorem Res.none{fn:Func}(h:fn.results=#[]):Res C fn env A (.tuple #[]):=fun a w _ _=>results_none h _ _ _
end
end Go.Lx
namespace Go.Lx
class SlT (P:Program) (t:TypeId) (e:outParam TypeId):Prop where und:P.underlying t=some (.slice e)
class StrT (P:Program) (t:TypeId):Prop where und:P.underlying t=some .string
class IntT (P:Program) (t:TypeId) (k:outParam IntKind):Prop where und:P.underlying t=some (.int k)
class PtrT (P:Program) (t:TypeId) (e:outParam TypeId):Prop where und:P.underlying t=some (.pointer e)
class ArrT (P:Program) (t:TypeId) (n:outParam Nat) (e:outParam TypeId):Prop where und:P.underlying t=some (.array n e)
class Sz (P:Program) (t:TypeId) (n:outParam Nat):Prop where run:∀ w,(sizeOf t).run P w= .ok n w
class One (P:Program) (t:TypeId):Prop where
  one:∀ w,(isAgg t).run P w= .ok false w
class Ag (P:Program) (t:TypeId):Prop where
  agg:∀ w,(isAgg t).run P w= .ok true w
class Zr (P:Program) (t:TypeId) (z:outParam Value):Prop where run:∀ w,(zeroValue t).run P w= .ok z w
class Fld (P:Program) (t:TypeId) (f:Nat) (off:outParam Nat) (ft:outParam TypeId):Prop where
  fs:∃ fs fd,P.underlying t=some (.struct fs)∧fs[f]?=some fd∧fd.offset=off∧fd.type=ft
class Enters (P:Program) (f:FuncId):Prop where run:∀ args w,(callFunc f args).run P w= .ok (.enter f args) w
variable {P:Program}
theorem Sz.mk'{t n:Nat}(h:((P.info? t).map (·.size))=some n):Sz P t n:=⟨fun w=>by
  cases hi:P.info? t with
  |none=>simp [hi] at h
  |some i=>simp [hi] at h;simp [sizeOf,typeInfo,hi,h]⟩
theorem One.mk'{t:Nat}{d:TypeDesc}(h:P.underlying t=some d)(hd:(match d with| .struct _| .array _ _=>false|_=>true)=true):One P t:=⟨fun w=>by
  cases d<;>simp [isAgg,run_underlying h] at hd ⊢⟩
theorem Ag.mk'{t:Nat}{d:TypeDesc}(h:P.underlying t=some d)(hd:(match d with| .struct _| .array _ _=>true|_=>false)=true):Ag P t:=⟨fun w=>by
  cases d<;>simp [isAgg,run_underlying h] at hd ⊢⟩
theorem Zr.mk'{t:Nat}{z:Value}(h:((P.info? t).bind (·.zero))=some z):Zr P t z:=⟨fun w=>by
  cases hi:P.info? t with
  |none=>simp [hi] at h
  |some i=>simp [hi] at h;simp [zeroValue,typeInfo,hi,h]⟩
theorem Fld.mk'{t f off ft:Nat}{fs:Array Field}(h:P.underlying t=some (.struct fs))(hf:(fs[f]?).map (fun d=>(d.offset,d.type))=some (off,ft)):Fld P t f off ft:=⟨by
  cases hq:fs[f]? with
  |none=>simp [hq] at hf
  |some d=>simp [hq] at hf;exact⟨fs,d,h,hq,hf.1,hf.2⟩⟩
theorem Enters.mk'{f:FuncId}{fn:Func}(hf:P.funcs[f]?=some fn)(hn:(fn.name== "runtime.NumGoroutine")=false)(hb:fn.body.isSome=true):Enters P f:=⟨fun args w=>by
  have hb': ¬fn.body=none:=fun h=>by simp [h] at hb
  have hn': ¬fn.name= "runtime.NumGoroutine" :=by simpa using hn
  simp [callFunc,hf,hn',hb']⟩
def cells (g:Nat) (cs:List Value) (T:TypeId):Assn where
  holds w F:=w.heap[g]?=some (.cells cs.toArray T (0,0))∧∀ b,F b↔b=g
  loc:=fun⟨h,hF⟩ hk=>⟨(hk g ((hF g).2 rfl)).trans h,hF⟩
  dom:=fun⟨h,hF⟩ hb=>by
    rw [(hF _).1 hb]
    exact(Array.getElem?_eq_some_iff.1 h).1
def own (T:TypeId) (sz:Nat) (v:Value) (n:Nat) (xs:List Value):Assn where
  holds w F:=w.ownsRow 0 T sz v n xs∧∀ b,F b↔v.ownBlock=some b
  loc:=fun {w w' F} ⟨h,hF⟩ hk=>⟨by
    refine⟨h.1, ?_⟩
    rcases h.2 with hn|⟨g,cap,cur,rfl,hb,hgg,rest⟩
    · exact .inl hn
    · exact .inr ⟨g,cap,cur,rfl,hb,(hk g ((hF g).2 rfl)).trans hgg,rest⟩,hF⟩
  dom:=fun {w F b} ⟨h,hF⟩ hb=>(h.lt b ((hF b).1 hb)).2
class Loc (A:List Assn) (g:Nat) (cs:outParam (List Value)) (T:outParam TypeId) (i:outParam Nat):Prop where at_:A[i]?=some (cells g cs T)
instance {A:List Assn} {g:Nat} {cs:List Value} {T:TypeId}:Loc (cells g cs T::A) g cs T 0:=⟨rfl⟩
instance (priority:=low) {A:List Assn} {p:Assn} {g:Nat} {cs:List Value} {T:TypeId} {i:Nat} [h:Loc A g cs T i]:Loc (p::A) g cs T (i+1):=⟨by simpa using h.at_⟩
class OwnAt (A:List Assn) (v:Value) (T:outParam TypeId) (sz n:outParam Nat) (xs:outParam (List Value)) (i:outParam Nat):Prop where at_:A[i]?=some (own T sz v n xs)
instance {A:List Assn} {v:Value} {T:TypeId} {sz n:Nat} {xs:List Value}:OwnAt (own T sz v n xs::A) v T sz n xs 0:=⟨rfl⟩
instance (priority:=low) {A:List Assn} {p:Assn} {v:Value} {T:TypeId} {sz n:Nat} {xs:List Value} {i:Nat} [h:OwnAt A v T sz n xs i]:OwnAt (p::A) v T sz n xs (i+1):=⟨by simpa using h.at_⟩
def el (a:Option Addr) (k:Nat):Addr:=(a.getD ⟨0,0,none⟩).add k
theorem el_add(a:Option Addr)(k j:Nat):(el a k).add j=el a (k+j):=by
  unfold el Addr.add
  by_cases hk:k=0
  · subst hk;simp
  · by_cases hj:j=0
    · subst hj;simp [hk]
    · simp [hk,hj,Nat.add_assoc]
theorem at_add(g o j:Nat):(⟨g,o,none⟩:Addr).add j=⟨g,o+j,none⟩:=by
  unfold Addr.add
  by_cases hj:j=0
  · subst hj;simp
  · simp [hj]
structure Rd (w:World) (sz:Nat) (a:Option Addr) (n c:Nat) (cs:List Value):Prop where
  len:cs.length=n*sz
  le:n≤c
  mx:c≤maxLen
  sm:0<n→a.isSome=true
  cell:∀ j v,cs[j]?=some v→w.cell? (el a j)=some v
variable {C:Cx} {A:List Assn} {w:World}
theorem flat_get{α:Type}(f:α→List Value)(sz:Nat)(hf:∀ x,(f x).length=sz):∀ (xs:List α) (m j:Nat) (x:α),xs[m]?=some x→j<sz→(xs.flatMap f)[m*sz+j]?=(f x)[j]?
  |[],_,_,_,h,_=>by cases h
  |y::ys,0,j,x,h,hj=>by
    simp at h
    subst h
    rw [List.flatMap_cons,List.getElem?_append_left (by rw [hf];omega)]
    simp
  |y::ys,m+1,j,x,h,hj=>by
    rw [List.flatMap_cons,List.getElem?_append_right (by rw [hf,Nat.add_mul];omega),hf]
    have:(m+1)*sz+j-sz=m*sz+j:=by rw [Nat.add_mul];omega
    rw [this]
    exact flat_get f sz hf ys m j x (by simpa using h) hj
theorem flat_len{α:Type}(f:α→List Value)(sz:Nat)(hf:∀ x,(f x).length=sz)(xs:List α):(xs.flatMap f).length=xs.length*sz:=by
  induction xs with
  |nil=>simp
  |cons x xs ih=>rw [List.flatMap_cons,List.length_append,hf,ih,List.length_cons,Nat.add_mul];omega
theorem Rd.nil(w:World)(sz:Nat):Rd w sz none 0 0 []:=⟨by simp,Nat.le_refl _,by unfold maxLen;omega,fun h=>by omega,fun _ _ h=>by cases h⟩
theorem Rd.elem{α:Type}{sz n c m:Nat}{a:Option Addr}{f:α→List Value}{xs:List α}{x:α}(h:Rd w sz a n c (xs.flatMap f))(hf:∀ x,(f x).length=sz)(hx:xs[m]?=some x):∀ j u,(f x)[j]?=some u→w.cell? ((el a (m*sz)).add j)=some u:=by
  intro j u hu
  have hj:j<sz:=by rw [←hf x];exact(List.getElem?_eq_some_iff.1 hu).1
  rw [el_add]
  exact h.cell _ u (by rw [flat_get f sz hf xs m j x hx hj];exact hu)
theorem Conf.cell0(h:Conf C A w){p:Addr}{v:Value}(hp:C.w0.cell? p=some v)(hH: ¬C.H p.block):w.cell? p=some v:=by
  have hb:=World.block_lt_of_cell? C.w0 p hp
  have:=h.keep p.block hb hH
  rw [←hp]
  unfold World.cell?
  rw [this]
theorem Rd.conf{sz n c:Nat}{a:Option Addr}{cs:List Value}(h:Rd C.w0 sz a n c cs)(hH:∀ j v,cs[j]?=some v→ ¬C.H (el a j).block)(hw:Conf C A w):Rd w sz a n c cs:=
  ⟨h.len,h.le,h.mx,h.sm,fun j v hj=>hw.cell0 (h.cell j v hj) (hH j v hj)⟩
theorem Rd.conf0{P:Program}{m:Nat}{w0:World}{sz n c:Nat}{a:Option Addr}{cs:List Value}(h:Rd w0 sz a n c cs)(hw:Conf ⟨P,m,w0,fun _=>False⟩ A w):Rd w sz a n c cs:=
  Rd.conf (C:=⟨P,m,w0,fun _=>False⟩) h (fun _ _ _ h=>h) hw
theorem own_rd{T sz n c:Nat}{a:Option Addr}{m:Nat}{xs:List Value}{F:Nat→Prop}(h:(own T sz (.slice a n c) m xs).holds w F):Rd w sz a n c xs∧m=n:=by
  obtain⟨⟨hl,h⟩,_⟩:=h
  rcases h with⟨he,rfl⟩|⟨g,cap,cur,he,_,hg,hn,hm,hs,ht⟩
  · cases he
    exact⟨⟨hl,Nat.le_refl _,by unfold maxLen;omega,fun h=>by omega,fun j v hj=>by
      have:xs=[]:=List.length_eq_zero_iff.1 (by simpa using hl)
      subst this;cases hj⟩,rfl⟩
  · cases he
    refine⟨⟨hl,hn,hm,fun _=>rfl,fun j v hj=>?_⟩,rfl⟩
    have:el (some ⟨g,0,none⟩) j=⟨g,j,none⟩:=by simp [el,at_add]
    rw [this]
    rw [←ht,List.getElem?_take] at hj
    split at hj
    · simp [World.cell?,hg]
      simpa using hj
    · cases hj
theorem Conf.ownRd{T sz n c m i:Nat}{a:Option Addr}{xs:List Value}(h:Conf C A w)(hi:A[i]?=some (own T sz (.slice a n c) m xs)):Rd w sz a n c xs:=by
  obtain⟨F,hF,_⟩:=h.get hi
  exact(own_rd hF).1
theorem Conf.loc{g i T:Nat}{cs:List Value}(h:Conf C A w)(hi:A[i]?=some (cells g cs T)):w.heap[g]?=some (.cells cs.toArray T (0,0)):=by
  obtain⟨F,hF,_⟩:=h.get hi
  exact hF.1
theorem Conf.cellAt{g i T o:Nat}{cs:List Value}{v:Value}(h:Conf C A w)(hi:A[i]?=some (cells g cs T))(hv:cs[o]?=some v):w.cell? ⟨g,o,none⟩=some v:=by
  simp [World.cell?,h.loc hi,hv]
structure Det (C:Cx) (S:World→Prop) (env:Env) (o:Oper) (v:Value):Prop where
  go:∀ a w,EnvOK C.n env a→S w→(execOp a.eval o).run C.P w= .ok (.value v) w
def gok (ops:Array Oper) (env:Env) (o:Oper):Option Bool:=
  match o.guard with
  |none=>some true
  |some (j,b)=>match(ops[j]?).bind (·.dst) with
    |some t=>match env.lookup t with
      |some (.bool c)=>some (c==b)
      |some _=>some false
      |none=>none
    |none=>none
theorem gok_wanted{ops:Array Oper}{env:Env}{o:Oper}{n:Kd}{a:Act}{r:Bool}(h:gok ops env o=some r)(he:EnvOK n env a):Region.wanted o (yielded ops a.tmps)=r:=by
  unfold gok at h
  unfold Region.wanted
  split at h
  · rename_i hg;rw [hg];simpa using h
  · rename_i j b hg
    rw [hg]
    split at h
    · rename_i t ht
      split at h
      · rename_i c hc
        have:=he.vals t _ hc
        simp only [Option.some.injEq] at h
        simp only [yielded,ht,Option.bind_some,this]
        rw [←h]
        cases c<;>cases b<;>rfl
      · rename_i u hnb hu
        have:=he.vals t _ hu
        simp only [Option.some.injEq] at h
        simp only [yielded,ht,Option.bind_some,this]
        rw [←h]
        cases u<;>first|(exfalso;exact hnb _ rfl)|(cases b<;>rfl)
      · cases h
    · cases h
variable {Q:Exit→Act→World→Prop} {S:World→Prop} {env:Env} {ops:Array Oper} {r:Sd} {i d:Nat} {o:Oper} {v:Value}
theorem XL.det0(ho:ops[i]?=some o)(hg:gok ops env o=some true)(hd:o.dst=some d)(hdn:Nat.blt d C.n.n=true)(h:Det C (fun _=>True) env o v)(k:XL C ops Q S r ((d,v)::env) A):XL C ops Q S (.op .v0 i r) env A:=
  ⟨fun a w he hc=>⟨o,v,ho,.inl ⟨gok_wanted hg he,fun w=>h.go a w he trivial⟩,by rw [hd];exact k.go _ w (he.put hdn v) hc⟩⟩
theorem XL.det1(ho:ops[i]?=some o)(hg:gok ops env o=some true)(hd:o.dst=some d)(hdn:Nat.blt d C.n.n=true)(h:Det C S env o v)(k:XL C ops Q S r ((d,v)::env) A):XL C ops Q S (.op .v1 i r) env A:=
  ⟨fun a w he hc=>⟨o,v,ho,.inl ⟨gok_wanted hg he,fun w=>h.go a w he⟩,by rw [hd];exact k.go _ w (he.put hdn v) hc⟩⟩
theorem Qu(ho:ops[i]?=some o)(hg:gok ops env o=some true)(hd:o.dst=some d)(hdn:Nat.blt d C.n.n=true)(h:Det C (fun w=>Conf C A w) env o v)(k:XL C ops Q S r ((d,v)::env) A):XL C ops Q S (.op .fin i r) env A:=
  ⟨fun a w he hc=>by
    unfold wpT wpOp
    simp only [ho,gok_wanted hg he,if_true,Oper.wp,h.go a w he hc,Oper.upon,hd]
    exact .inl (k.go _ w (he.put hdn v) hc)⟩
theorem Qm(ho:ops[i]?=some o)(hg:gok ops env o=some true)(hd:o.dst=some d)(hdn:Nat.blt d C.n.n=true)(h:Det C (fun _=>True) env o v)(k:XL C ops Q S r ((d,v)::env) A):XL C ops Q S (.op .fin i r) env A:=
  Qu ho hg hd hdn ⟨fun a w he _=>h.go a w he trivial⟩ k
theorem XL.skip0(ho:ops[i]?=some o)(hg:gok ops env o=some false)(hd:o.dst=some d)(hdn:Nat.blt d C.n.n=true)(k:XL C ops Q S r ((d,undef)::env) A):XL C ops Q S (.op .v0 i r) env A:=
  ⟨fun a w he hc=>⟨o,undef,ho,.inr ⟨gok_wanted hg he,rfl⟩,by rw [hd];exact k.go _ w (he.put hdn undef) hc⟩⟩
theorem XL.skip1(ho:ops[i]?=some o)(hg:gok ops env o=some false)(hd:o.dst=some d)(hdn:Nat.blt d C.n.n=true)(k:XL C ops Q S r ((d,undef)::env) A):XL C ops Q S (.op .v1 i r) env A:=
  ⟨fun a w he hc=>⟨o,undef,ho,.inr ⟨gok_wanted hg he,rfl⟩,by rw [hd];exact k.go _ w (he.put hdn undef) hc⟩⟩
theorem XL.skipF(ho:ops[i]?=some o)(hg:gok ops env o=some false)(hd:o.dst=some d)(hdn:Nat.blt d C.n.n=true)(k:XL C ops Q S r ((d,undef)::env) A):XL C ops Q S (.op .fin i r) env A:=
  ⟨fun a w he hc=>by
    unfold wpT wpOp
    simp only [ho,gok_wanted hg he,Bool.false_eq_true,if_false,hd]
    exact k.go _ w (he.put hdn undef) hc⟩
theorem XL.split0{p:Prop} [Decidable p](ho:ops[i]?=some o)(hg:gok ops env o=some true)(hd:o.dst=some d)(hdn:Nat.blt d C.n.n=true)(h:Det C (fun _=>True) env o (.bool (decide p)))
    (k:p→XL C ops Q S r ((d,.bool true)::env) A) (k': ¬p→XL C ops Q S r ((d,.bool false)::env) A):XL C ops Q S (.op .v0 i r) env A:=by
  by_cases hp:p
  · exact XL.det0 ho hg hd hdn (by simpa [hp] using h) (k hp)
  · exact XL.det0 ho hg hd hdn (by simpa [hp] using h) (k' hp)
theorem Qn{p:Prop} [Decidable p](ho:ops[i]?=some o)(hg:gok ops env o=some true)(hd:o.dst=some d)(hdn:Nat.blt d C.n.n=true)(h:Det C (fun _=>True) env o (.bool (decide p)))
    (k:p→XL C ops Q S r ((d,.bool true)::env) A) (k': ¬p→XL C ops Q S r ((d,.bool false)::env) A):XL C ops Q S (.op .fin i r) env A:=by
  by_cases hp:p
  · exact Qm ho hg hd hdn (by simpa [hp] using h) (k hp)
  · exact Qm ho hg hd hdn (by simpa [hp] using h) (k' hp)
namespace D
variable {T:World→Prop} {x y z:Operand} {t u:TypeId} {k:IntKind} {a b:Int}
theorem move{ty:TypeId}{pos:String}{af:Array Edge}{gd:Option (Nat×Bool)}{ds:Option Tmp}(hx:ev env x=some v):Det C T env ⟨ds,.move x,ty,pos,af,gd⟩ v:=⟨fun ac w he _=>by simp [execOp,he.ev hx]⟩
theorem assign{ty:TypeId}{pos:String}{af:Array Edge}{gd:Option (Nat×Bool)}{ds:Option Tmp}(hx:ev env x=some v):Det C T env ⟨ds,.assign x,ty,pos,af,gd⟩ v:=⟨fun ac w he _=>by simp [execOp,he.ev hx]⟩
section
variable {ty:TypeId} {pos:String} {af:Array Edge} {gd:Option (Nat×Bool)} {ds:Option Tmp}
theorem pickT{v1:Value}(hx:ev env x=some (.bool true))(hy:ev env y=some v1):Det C T env ⟨ds,.pick x y z,ty,pos,af,gd⟩ v1:=⟨fun ac w he _=>by
  simp [execOp,he.ev hx,he.ev hy,asBool]⟩
theorem pickF{v2:Value}(hx:ev env x=some (.bool false))(hz:ev env z=some v2):Det C T env ⟨ds,.pick x y z,ty,pos,af,gd⟩ v2:=⟨fun ac w he _=>by
  simp [execOp,he.ev hx,he.ev hz,asBool]⟩
def intBin:BinOp→IntKind→Int→Int→Option Value
  | .add,k,a,b=>some (.int k (k.wrap (a+b)))
  | .sub,k,a,b=>some (.int k (k.wrap (a-b)))
  | .mul,k,a,b=>some (.int k (k.wrap (a*b)))
  | .eql,_,a,b=>some (.bool (decide (a=b)))
  | .neq,_,a,b=>some (.bool (decide (a≠b)))
  | .lss,_,a,b=>some (.bool (decide (a<b)))
  | .leq,_,a,b=>some (.bool (decide (a≤b)))
  | .gtr,_,a,b=>some (.bool (decide (a>b)))
  | .geq,_,a,b=>some (.bool (decide (a≥b)))
  |_,_,_,_=>none
theorem eqGuard_int(op:BinOp)(t:TypeId)(x y:Operand)(k k':IntKind)(a b:Int)(w:World):(eqGuard op t x y (.int k a) (.int k' b)).run P w= .ok () w:=by
  unfold eqGuard
  cases op<;>simp
theorem int{op:BinOp}(hx:ev env x=some (.int k a))(hy:ev env y=some (.int k b))(hr:intBin op k a b=some v):Det C T env ⟨ds,.binOp op t x y u,ty,pos,af,gd⟩ v:=⟨fun ac w he _=>by
  simp only [execOp,he.ev hx,he.ev hy,Sem.run_bind,eqGuard_int,Result.andThen_ok]
  cases op<;>simp only [intBin,Option.some.injEq,reduceCtorEq] at hr<;>subst hr<;>simp [binOp,Op.intArith,Op.intCmp]
  all_goals rfl⟩
theorem wrap64_fit{n:Int}(h: -9223372036854775808≤n∧n≤9223372036854775807):IntKind.i64.wrap n=n:=by
  by_cases hn:0≤n
  · have h1:n%2^64=n:=by omega
    simp only [IntKind.wrap,IntKind.bits,IntKind.signed,h1]
    rw [if_neg (by simp;omega)]
  · have h1:n%2^64=n+2^64:=by omega
    simp only [IntKind.wrap,IntKind.bits,IntKind.signed,h1]
    rw [if_pos (by simp;omega)]
    omega
theorem add64(hx:ev env x=some (.int .i64 a))(hy:ev env y=some (.int .i64 b))(h: -9223372036854775808≤a+b∧a+b≤9223372036854775807):Det C T env ⟨ds,.binOp .add t x y u,ty,pos,af,gd⟩ (.int .i64 (a+b)):=
  int hx hy (by simp only [intBin,wrap64_fit h])
theorem sub64(hx:ev env x=some (.int .i64 a))(hy:ev env y=some (.int .i64 b))(h: -9223372036854775808≤a-b∧a-b≤9223372036854775807):Det C T env ⟨ds,.binOp .sub t x y u,ty,pos,af,gd⟩ (.int .i64 (a-b)):=
  int hx hy (by simp only [intBin,wrap64_fit h])
theorem mul64(hx:ev env x=some (.int .i64 a))(hy:ev env y=some (.int .i64 b))(h: -9223372036854775808≤a*b∧a*b≤9223372036854775807):Det C T env ⟨ds,.binOp .mul t x y u,ty,pos,af,gd⟩ (.int .i64 (a*b)):=
  int hx hy (by simp only [intBin,wrap64_fit h])
theorem not{c:Bool}(hx:ev env x=some (.bool c)):Det C T env ⟨ds,.unOp .not t x,ty,pos,af,gd⟩ (.bool !c):=⟨fun ac w he _=>by
  simp [execOp,he.ev hx,Op.unary]⟩
theorem nilCheck{p:Addr}(hx:ev env x=some (.pointer (some p))):Det C T env ⟨ds,.nilCheck x,ty,pos,af,gd⟩ (.pointer (some p)):=⟨fun ac w he _=>by
  simp [execOp,he.ev hx]⟩
theorem fieldAddr{p:Addr}{f off ft sz:Nat} [h:Fld C.P t f off ft] [hs:Sz C.P ft sz](hz:(sz==0)=false)(hx:ev env x=some (.pointer (some p))):Det C T env ⟨ds,.fieldAddr t x f,ty,pos,af,gd⟩ (.pointer (some (p.add off))):=⟨fun ac w he _=>by
  obtain⟨fs,fd,h1,h2,rfl,rfl⟩:=h.fs
  have hz': ¬sz=0:=by simpa using hz
  simp [execOp,he.ev hx,Instr.fieldAt,run_underlying h1,h2,Instr.sureAddr,fieldPlace,hs.run,hz']⟩
theorem fieldN{cs:Array Value}{f off ft sz:Nat} [h:Fld C.P t f off ft] [h1:Ag C.P ft] [hs:Sz C.P ft sz](hx:ev env x=some (.agg cs)):Det C T env ⟨ds,.field t x f,ty,pos,af,gd⟩ (.agg (cs.extract off (off+sz))):=⟨fun ac w he _=>by
  obtain⟨fs,fd,hf1,hf2,rfl,rfl⟩:=h.fs
  simp [execOp,he.ev hx,Instr.field,run_underlying hf1,hf2,part,asAgg,h1.agg,hs.run]⟩
theorem extract{vs:Array Value}{ix:Nat}(hx:ev env x=some (.tuple vs))(hv:vs[ix]?=some v):Det C T env ⟨ds,.extract x ix,ty,pos,af,gd⟩ v:=⟨fun ac w he _=>by
  simp [execOp,he.ev hx,Instr.extract,hv]⟩
theorem makeFunc{fn:Fn}{first captured:Array Operand}{fs cs:List Value}(h1:evs env first.toList=some fs)(h2:evs env captured.toList=some cs):Det C T env ⟨ds,.makeFunc fn first captured,ty,pos,af,gd⟩ (.func fn fs.toArray cs.toArray):=⟨fun ac w he _=>by
  have e1:=he.evs _ _ h1
  have e2:=he.evs _ _ h2
  have q1:first.map ac.eval=fs.toArray:=by apply Array.ext';simp [e1]
  have q2:captured.map ac.eval=cs.toArray:=by apply Array.ext';simp [e2]
  simp [execOp,Instr.makeFunc,q1,q2]⟩
theorem indexAddr{ad:Option Addr}{n c e sz:Nat}{k:IntKind}{j:Int}(m:Nat) [h:SlT C.P t e] [hs:Sz C.P e sz](hx:ev env x=some (.slice ad n c))(hy:ev env y=some (.int k j))(hj:j=(m:Int))(hm:m<n)(hsome:ad.isSome=true):
    Det C T env ⟨ds,.indexAddr t x y,ty,pos,af,gd⟩ (.pointer (some (el ad (m*sz)))):=⟨fun ac w he _=>by
  subst hj
  obtain⟨p,rfl⟩:=Option.isSome_iff_exists.1 hsome
  have h0:(0:Int)≤(m:Int)∧(m:Int)<(n:Int):=by omega
  have h1:(0:Int)≤(m:Int)∧(m:Int)<((n:Nat):Int):=h0
  simp [execOp,he.ev hx,he.ev hy,Instr.indexAt,asIntOf,run_underlying h.und,hs.run,hm,el]⟩
theorem indexStr{s:ByteArray}{k:IntKind}{j:Int}(m:Nat) [h:StrT C.P t](hx:ev env x=some (.string s))(hy:ev env y=some (.int k j))(hj:j=(m:Int))(hm:m<s.size):
    Det C T env ⟨ds,.index t x y,ty,pos,af,gd⟩ (.int .u8 ((s[m]'hm).toNat:Int)):=⟨fun ac w he _=>by
  subst hj
  simp [execOp,he.ev hx,he.ev hy,Instr.index,asIntOf,run_underlying h.und,hm]⟩
theorem load1{p:Addr} [h:One C.P t](hx:ev env x=some (.pointer (some p)))(hv:∀ w,T w→w.cell? p=some v):Det C T env ⟨ds,.load t x,ty,pos,af,gd⟩ v:=⟨fun ac w he hT=>by
  simp [execOp,he.ev hx,Instr.loadAt,Instr.sureAddr,loadVar,h.one,hv w hT]⟩
theorem loadN{p:Addr}{sz:Nat}{cs:List Value} [h:Ag C.P t] [hs:Sz C.P t sz](hx:ev env x=some (.pointer (some p)))(hl:(cs.length==sz)=true)(hv:∀ w,T w→∀ j u,cs[j]?=some u→w.cell? (p.add j)=some u):Det C T env ⟨ds,.load t x,ty,pos,af,gd⟩ (.agg cs.toArray):=⟨fun ac w he hT=>by
  have hl':cs.length=sz:=by simpa using hl
  have:=run_loadCells_list (P:=C.P) w p cs (hv w hT)
  rw [hl'] at this
  simp [execOp,he.ev hx,Instr.loadAt,Instr.sureAddr,loadVar,h.agg,hs.run,this]⟩
end
end D
end Go.Lx
