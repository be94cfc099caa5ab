import Derived.Test.YtakoppmiegjjlaaGreatDoorF2
import Derived.Test.YtakoppmiegjjlaaGreatDoorF4
import Derived.Lib.ConvBytes
import Derived.Test.YtakoppmiegjjlaaGreatDoorF5
import Derived.Test.YtakoppmiegjjlaaGreatDoorF16
set_option linter.unusedVariables false
set_option linter.unusedSimpArgs false
set_option maxRecDepth 20000
set_option maxHeartbeats 4000000
namespace Go.Lx
def objA (b:Nat) (o:Obj):Assn where
  holds w F:=w.heap[b]?=some o∧∀ x,F x↔x=b
  loc:=fun⟨h,hF⟩ hk=>⟨(hk b ((hF b).2 rfl)).trans h,hF⟩
  dom:=fun⟨h,hF⟩ hb=>by
    rw [(hF _).1 hb]
    exact(Array.getElem?_eq_some_iff.1 h).1
class ObjAt (A:List Assn) (b:Nat) (o:outParam Obj) (i:outParam Nat):Prop where at_:A[i]?=some (objA b o)
instance {A:List Assn} {b:Nat} {o:Obj}:ObjAt (objA b o::A) b o 0:=⟨rfl⟩
instance (priority:=low) {A:List Assn} {q:Assn} {b i:Nat} {o:Obj} [h:ObjAt A b o i]:ObjAt (q::A) b o (i+1):=⟨by simpa using h.at_⟩
def someA {ι:Type} (I:ι→Prop) (AA:ι→List Assn):Assn where
  holds w F:=∃ i,I i∧Sep (AA i) w F
  loc:=fun⟨i,hi,h⟩ hk=>⟨i,hi,h.loc hk⟩
  dom:=fun⟨i,hi,h⟩ hb=>Sep.dom h hb
variable {C:Cx} {A A' B B':List Assn} {w:World} {Q:Exit→Act→World→Prop} {S:World→Prop} {env:Env} {ops:Array Oper} {r:Sd} {i d:Nat} {o:Oper} {v:Value} {cl:Cl} {c:Code}
theorem Sep.one{p:Assn}{F:Nat→Prop}(h:p.holds w F):Sep [p] w F:=⟨F,fun _=>False,h,fun _ h=>h,fun _ _ h=>h,fun b=>by simp⟩
theorem Sep.one'{p:Assn}{F:Nat→Prop}(h:Sep [p] w F):p.holds w F:=by
  obtain⟨F1,F2,h1,h2,_,hF⟩:=h
  have:F=F1:=funext fun b=>propext ⟨fun hb=>((hF b).1 hb).resolve_right (h2 b),fun hb=>(hF b).2 (.inl hb)⟩
  rw [this]
  exact h1
theorem Conf.someOut{ι:Type}{I:ι→Prop}{AA:ι→List Assn}(h:Conf C [someA I AA] w):∃ i,I i∧Conf C (AA i) w:=by
  obtain⟨F,s,f⟩:=h.sep
  obtain⟨i,hi,k⟩:=s.one'
  exact⟨i,hi,h.os,h.tape,h.output,h.size,h.drawn,h.keep,F,k,f⟩
theorem Conf.someIn{ι:Type}{I:ι→Prop}{AA:ι→List Assn}{i:ι}(hi:I i)(h:Conf C (AA i) w):Conf C [someA I AA] w:=by
  obtain⟨F,s,f⟩:=h.sep
  exact⟨h.os,h.tape,h.output,h.size,h.drawn,h.keep,F,Sep.one ⟨i,hi,s⟩,f⟩
theorem Conf.head{p:Assn}{k:Kd}(h:Conf C ([p]++A) w):Conf ⟨C.P,k,C.w0,C.H⟩ [p] w:=(h.sub (List.sublist_append_left [p] A)).any
theorem Conf.setObj{b:Nat}{o o':Obj} [hb:ObjAt A b o i] [hu:Upd A i (objA b o') A'](h:Conf C A w):Conf C A' (w.putObj b o'):=by
  rw [←hu.eq]
  refine h.update hb.at_ rfl rfl rfl (by simp [World.putObj]) (Nat.le_refl _) fun F ⟨h1,h2⟩=>⟨F,⟨World.putObj_heap_same (Array.getElem?_eq_some_iff.1 h1).1,h2⟩,fun b hb=> .inl hb,fun k hk hn=>?_⟩
  exact World.putObj_heap_other fun e=>hn ((h2 k).2 e)
theorem Conf.objAt{b:Nat}{o:Obj} [hb:ObjAt A b o i](h:Conf C A w):w.heap[b]?=some o:=by
  obtain⟨F,⟨h1,_⟩,_⟩:=h.get hb.at_
  exact h1
theorem Conf.behindF{B B':List Assn}{n:Kd}{w':World}{F F2:Nat→Prop}(h:Conf C (B++A) w)(hF:∀ b,F b→C.H b∨C.w0.heap.size≤b)(hF2:∀ b,F2 b→C.H b∨C.w0.heap.size≤b)(s2:Sep A w F2)(hd:∀ b,F b→ ¬F2 b)(k:Conf ⟨C.P,n,w,F⟩ B' w'):Conf C (B'++A) w':=by
  obtain⟨G,g,gF⟩:=k.sep
  have hd2:∀ b,F2 b→b<w.heap.size:=fun b hb=>Sep.dom s2 hb
  refine⟨k.os.trans h.os,k.tape.trans h.tape,k.output.trans h.output,Nat.le_trans h.size k.size,trivial,fun b hb hH=>?_,fun b=>G b∨F2 b,Sep.append g (s2.loc fun b hb=>k.keep b (hd2 b hb) (fun h1=>hd b h1 hb)) ?_, ?_⟩
  · rw [k.keep b (Nat.lt_of_lt_of_le hb h.size) (fun h1=>?_),h.keep b hb hH]
    rcases hF b h1 with h2|h2
    · exact hH h2
    · omega
  · intro b hb hb2
    rcases gF b hb with h1|h1
    · exact hd b h1 hb2
    · have:=hd2 b hb2
      simp only at h1
      omega
  · rintro b (hb|hb)
    · rcases gF b hb with h1|h1
      · exact hF b h1
      · exact .inr (Nat.le_trans h.size h1)
    · exact hF2 b hb
def lp (r:Loop) (st:LoopState) (pe:Option Code):Obj:= .loop {r with state:=st,pending:=pe}
def YieldsTo (P:Program) (l:Nat) (args:List Value) (w:World) (F:Nat→Prop) (R:Value→List Assn→Prop):Prop:=
  ∃ fn tmps assign body,(Instr.yield l args.toArray).run P w= .ok (.round l fn tmps assign body) w∧RoundIn Fence.wide 8 P l fn tmps assign body w (Ends P w F R)
def Iter {α:Type} (P:Program) (gf:FuncId) (lb:List Value) (encs:α→List Value) (xs:List α) (w:World) (F:Nat→Prop):Prop:=
  ∀ (l:Nat) (J Jx:List α→Assn) (w1:World) (H:Nat→Prop),Conf ⟨P,0,w,F⟩ [] w1→(∀ b,H b→F b∨w.heap.size≤b)→Sep [J []] w1 H→
    (∀ pre x post W F',xs=pre++x::post→Sep [J pre] W F'→(∀ b,F' b→H b∨w1.heap.size≤b)→Conf ⟨P,0,w1,H⟩ [J pre] W→
      YieldsTo P l (encs x) W F' (fun v A=>(v= .bool true∧A=[J (pre++[x])])∨(v= .bool false∧A=[Jx (pre++[x])])))→
    Spec P gf (.func (.yield l) #[] #[]::lb).toArray w1 H (fun _ A=>A=[J xs]∨∃ pre,A=[Jx pre])
def RQ (P:Program) (l:Nat) (w:World) (F:Nat→Prop) (R:Value→List Assn→Prop):Exit→Act→World→Prop:=roundPost P l (Ends P w F R)
instance {P:Program} {l:Nat} {w:World} {F:Nat→Prop} {R:Value→List Assn→Prop}:NoPanic (RQ P l w F R):=⟨fun c a a' w h=>h.elim,fun a w h=>h.elim⟩
def AQ (P:Program) (l:Nat) (body:Code) (w:World) (F:Nat→Prop) (R:Value→List Assn→Prop):Exit→Act→World→Prop:=
  Exit.then (fun a₁ w₁=>∃ w₂,(Instr.beginRound l).run P w₁= .ok () w₂∧body.wpIn (Fence.wide.inRound l) 8 P (RQ P l w F R) a₁ w₂) (fun _ _ _=>False)
instance {P:Program} {l:Nat} {b:Code} {w:World} {F:Nat→Prop} {R:Value→List Assn→Prop}:NoPanic (AQ P l b w F R):=⟨fun c a a' w h=>h.elim,fun a w h=>h.elim⟩
theorem wpIn_depth{F:Fence}{n m:Nat}{P:Program}{a:Act}(hF:F.depth=none)(h:c.wpIn F n P Q a w):c.wpIn F m P Q a w:=
  fun b k cs hro hb _=>h b k cs hro hb (fun d hd=>by rw [hF] at hd;cases hd)
theorem N.begin{P:Program}{n l:Nat}{w0 w:World}{H F:Nat→Prop}{R:Value→List Assn→Prop}{r:Loop}{body:Code} [hb:ObjAt A l (lp r .ready none) i] [hu:Upd A i (objA l (lp r .busy none)) A']
    (h:X ⟨P,⟨n,none,some l⟩,w0,H⟩ body (RQ P l w F R) env A'):N ⟨P,⟨n,none,some l⟩,w0,H⟩ (AQ P l body w F R) env A:=
  ⟨fun a w1 he hc=>⟨_,run_beginRound (r:={r with state:= .ready,pending:=none}) (hc.objAt (b:=l)) rfl,wpIn_depth (m:=8) rfl (h.go a _ he (Conf.setObj (b:=l) (o':=lp r .busy none) hc))⟩⟩
theorem N.goOn{P:Program}{n l:Nat}{w:World}{F:Nat→Prop}{R:Value→List Assn→Prop}{r:Loop} [hb:ObjAt A l (lp r .busy none) i] [hu:Upd A i (objA l (lp r .ready none)) A']
    (hR:R (.bool true) B) (hA:∀ w',Conf ⟨P,⟨n,none,some l⟩,w,F⟩ A' w'→Conf ⟨P,⟨n,none,some l⟩,w,F⟩ B w'):N ⟨P,⟨n,none,some l⟩,w,F⟩ (RQ P l w F R) env A:=
  ⟨fun a w1 he hc=>⟨_,_,run_endRound (r:={r with state:= .busy,pending:=none}) none (hc.objAt (b:=l)),_,B,rfl,hR,(hA _ (Conf.setObj (b:=l) (o':=lp r .ready none) hc)).any⟩⟩
theorem Rt.leave{P:Program}{n l:Nat}{w:World}{F:Nat→Prop}{R:Value→List Assn→Prop}{r:Loop} [hb:ObjAt A l (lp r .busy none) i] [hu:Upd A i (objA l (lp r .done (some .ret))) A']
    (hR:R (.bool false) B) (hA:∀ w',Conf ⟨P,⟨n,none,some l⟩,w,F⟩ A' w'→Conf ⟨P,⟨n,none,some l⟩,w,F⟩ B w'):Rt ⟨P,⟨n,none,some l⟩,w,F⟩ (RQ P l w F R) env A:=
  ⟨fun a w1 he hc=>⟨_,_,run_endRound (r:={r with state:= .busy,pending:=none}) (some .ret) (hc.objAt (b:=l)),_,B,rfl,hR,(hA _ (Conf.setObj (b:=l) (o':=lp r .done (some .ret)) hc)).any⟩⟩
def puts (env:Env):List Nat→List Value→Env
  |p::ps,v::vs=>puts ((p,v)::env) ps vs
  |_,_=>env
theorem EnvOK.puts{k:Kd}:∀ (ps:List Nat) (vs:List Value) (env:Env) (t:Array Value) (ds:List Deferred),EnvOK k env ⟨t,ds⟩→(ps.all fun p=>Nat.blt p k.n)=true→EnvOK k (puts env ps vs) ⟨((ps.zip vs).foldl (fun t p=>t.setIfInBounds p.1 p.2) t),ds⟩
  |[],vs,env,t,ds,h,_=>by cases vs<;>exact h
  |p::ps,[],env,t,ds,h,_=>h
  |p::ps,v::vs,env,t,ds,h,hp=>by
    simp only [List.all_cons,Bool.and_eq_true] at hp
    have h1:=EnvOK.put h hp.1 v
    exact EnvOK.puts ps vs ((p,v)::env) _ ds h1 hp.2
theorem X.rangeF{α ι κ:Type}{g:Operand}{ps:Array Tmp}{assign body:Code}{gf:FuncId}{lb:List Value}{encs:α→List Value}{xs:List α}
    (B:List Assn) (I:List α→ι→Prop) (AA:List α→ι→List Assn) (KX:κ→Prop) (cd:κ→Code) (AX:κ→List Assn) {A':List Assn} [ht:Takes A B A']
    (hro:C.n.ro=none) (hms:C.n.ms=none) (hg:ev env g=some (.func (.func gf) #[] lb.toArray)) [hent:Enters C.P gf] (hps:∀ x,(encs x).length=ps.size) (hpn:(ps.toList.all fun p=>Nat.blt p C.n.n)=true)
    (i0:ι) (hI0:I [] i0) (hB0:AA [] i0=B)
    (hseq:∀ w F,Sep B w F→Frm C A' w F→Conf C (B++A') w→Iter C.P gf lb encs xs w F)
    (hround:∀ (pre:List α) (x:α) (post:List α) (i:ι) (l D:Nat) (r:Loop) (W:World) (F:Nat→Prop) (R:Value→List Assn→Prop),xs=pre++x::post→I pre i→Frm C A' W F→Conf C (objA l (lp r .ready none)::objA D (.deferred (some []))::(AA pre i++A')) W→
      (∀ B1,(∃ j,I (pre++[x]) j∧B1=objA l (lp r .ready none)::objA D (.deferred (some []))::AA (pre++[x]) j)→R (.bool true) B1)→
      (∀ B1,(∃ k,KX k∧B1=objA l (lp r .done (some (cd k)))::objA D (.deferred (some []))::AX k)→R (.bool false) B1)→
      X ⟨C.P,⟨C.n.n,none,some l⟩,W,F⟩ assign (AQ C.P l body W F R) (puts env ps.toList (encs x)) (objA l (lp r .ready none)::objA D (.deferred (some []))::AA pre i))
    (hdone:∀ i D,I xs i→N ⟨C.P,⟨C.n.n,some D,none⟩,C.w0,C.H⟩ Q env (objA D (.deferred (some []))::(AA xs i++A')))
    (hstop:∀ k D,KX k→X ⟨C.P,⟨C.n.n,some D,none⟩,C.w0,C.H⟩ (cd k) Q env (objA D (.deferred (some []))::(AX k++A'))):X C (.rangeFunc g ps assign body) Q env A:=by
  refine⟨fun a w he hc0=>?_⟩
  have hc:Conf C (B++A') w:=hc0.takes2
  have hfen:fen C.n=Fence.wide:=by unfold fen;rw [hro];rfl
  rw [hfen]
  refine wpIn_rangeFunc fun fn hfn=>?_
  obtain⟨rec,hrec⟩:∃ rec:Loop,rec={state:= .ready,pending:=none,fn,tmps:=a.tmps,params:=ps,assign,body,defers:=w.heap.size}:=⟨_,rfl⟩
  have hrec0:lp rec .ready none= .loop rec:=by rw [hrec];rfl
  obtain⟨W1,hW1⟩:∃ W1,(w.alloc (.deferred (some []))).alloc (.loop rec)=W1:=⟨_,rfl⟩
  obtain⟨F,s,hF⟩:=hc.sep
  obtain⟨F1,F2,s1,s2,hd,hFF⟩:=s.split
  have hd1:∀ b,F1 b→b<w.heap.size:=fun b hb=>Sep.dom s1 hb
  have hd2:∀ b,F2 b→b<w.heap.size:=fun b hb=>Sep.dom s2 hb
  have hF1:∀ b,F1 b→C.H b∨C.w0.heap.size≤b:=fun b hb=>hF b ((hFF b).2 (.inl hb))
  have hF2:∀ b,F2 b→C.H b∨C.w0.heap.size≤b:=fun b hb=>hF b ((hFF b).2 (.inr hb))
  have hsz:W1.heap.size=w.heap.size+2:=by rw [←hW1];simp
  have hold:∀ b,b<w.heap.size→W1.heap[b]?=w.heap[b]?:=fun b hb=>by
    rw [←hW1];exact(RowKit.Below.heap_alloc _ _ b (by simp;omega)).trans (RowKit.Below.heap_alloc w _ b hb)
  have hL1:W1.heap[w.heap.size+1]?=some (.loop rec):=by
    rw [←hW1];have:=World.alloc_heap_new (w.alloc (.deferred (some []))) (.loop rec);rwa [World.size_alloc] at this
  have hD1:W1.heap[w.heap.size]?=some (.deferred (some [])):=by
    rw [←hW1];exact(RowKit.Below.heap_alloc _ _ _ (by simp)).trans (World.alloc_heap_new w _)
  have hdr1:W1.drawn=w.drawn:=by rw [←hW1];rfl
  have hos1:W1.os=w.os:=by rw [←hW1];rfl
  have hta1:W1.tape=w.tape:=by rw [←hW1];rfl
  have hou1:W1.output=w.output:=by rw [←hW1];rfl
  have hle0:C.w0.heap.size≤w.heap.size:=hc.size
  --the state of the loop,as one assertion
  obtain⟨J,hJ⟩:∃ J:List α→Assn,J=fun pre=>someA (I pre) (fun i=>objA (w.heap.size+1) (lp rec .ready none)::objA w.heap.size (.deferred (some []))::AA pre i):=⟨_,rfl⟩
  obtain⟨Jx,hJx⟩:∃ Jx:List α→Assn,Jx=fun _=>someA KX (fun k=>objA (w.heap.size+1) (lp rec .done (some (cd k)))::objA w.heap.size (.deferred (some []))::AX k):=⟨_,rfl⟩
  obtain⟨H1,hH1⟩:∃ H1:Nat→Prop,H1=fun b=>b=w.heap.size+1∨b=w.heap.size∨F1 b:=⟨_,rfl⟩
  have hsJ:Sep [J []] W1 H1:=by
    rw [hJ,hH1]
    refine Sep.one ⟨i0,hI0, ?_⟩
    show Sep (objA (w.heap.size+1) (lp rec .ready none)::objA w.heap.size (.deferred (some []))::AA [] i0) _ _
    rw [hB0,hrec0]
    refine⟨fun b=>b=w.heap.size+1,fun b=>b=w.heap.size∨F1 b,⟨hL1,fun _=>Iff.rfl⟩,⟨fun b=>b=w.heap.size,F1,⟨hD1,fun _=>Iff.rfl⟩,s1.loc (fun b hb=>hold b (hd1 b hb)), ?_,fun _=>Iff.rfl⟩, ?_,fun _=>Iff.rfl⟩
    · intro b hb h1;have:=hd1 b h1;omega
    · rintro b hb (h1|h1)
      · omega
      · have:=hd1 b h1;omega
  have hcW:Conf C ([J []]++A') W1:=by
    refine⟨hos1.trans hc.os,hta1.trans hc.tape,hou1.trans hc.output,by omega,trivial,fun b hb hH=>(hold b (by omega)).trans (hc.keep b hb hH),fun b=>H1 b∨F2 b,Sep.append hsJ (s2.loc fun b hb=>hold b (hd2 b hb)) ?_, ?_⟩
    · rw [hH1]
      rintro b (rfl|rfl|h1) h2
      · have:=hd2 _ h2;omega
      · have:=hd2 _ h2;omega
      · exact hd b h1 h2
    · rw [hH1]
      rintro b ((rfl|rfl|h1)|h2)
      · exact .inr (by omega)
      · exact .inr (by omega)
      · exact hF1 b h1
      · exact hF2 b h2
  have hH1o:∀ b,H1 b→C.H b∨C.w0.heap.size≤b:=by
    rw [hH1]
    rintro b (rfl|rfl|h1)
    · exact .inr (by omega)
    · exact .inr (by omega)
    · exact hF1 b h1
  have hH1d:∀ b,H1 b→ ¬F2 b:=by
    rw [hH1]
    rintro b (rfl|rfl|h1) h2
    · have:=hd2 _ h2;omega
    · have:=hd2 _ h2;omega
    · exact hd b h1 h2
  have s2W:Sep A' W1 F2:=s2.loc fun b hb=>hold b (hd2 b hb)
  have hit:=hseq w F1 s1 ⟨hF1,F2,s2,hd⟩ hc (w.heap.size+1) J Jx W1 H1
    ⟨hos1,hta1,hou1,by show w.heap.size≤_;omega,trivial,fun b hb _=>hold b hb,fun _=>False,fun _ h=>h,fun _ h=>h.elim⟩
    (by
      rw [hH1]
      rintro b (rfl|rfl|h1)
      · exact .inr (by show w.heap.size≤_;omega)
      · exact .inr (Nat.le_refl _)
      · exact .inl h1) hsJ ?_
  · refine⟨w.heap.size+1,[{target:= .collected w.heap.size,args:=#[]}],W1,{target:= .fn (.func gf) lb.toArray,args:=#[.func (.yield (w.heap.size+1)) #[] #[]]},W1,gf,
      #[.func (.yield (w.heap.size+1)) #[] #[]]++lb.toArray,W1, ?_, ?_, ?_, ?_,fun h=>(by cases h), ?_⟩
    · rw [←hW1,hrec];exact run_enterLoop_outer _ _ _ _ _
    · simp only [resolve,he.ev hg]
      simp [go_sem]
    · intro f' _;trivial
    · simp [invoke,go_sem,hent.run]
    · have e1:(#[Value.func (.yield (w.heap.size+1)) #[] #[]]++lb.toArray)=(Value.func (.yield (w.heap.size+1)) #[] #[]::lb).toArray:=by simp
      rw [e1]
      refine(callsIn_wide (n:=9-1)).2 (Calls.mono hit ?_)
      rintro e W2 ⟨v,AE,rfl,hAE,hce⟩
      have hcx:=fun(B2:List Assn) (h:Conf ⟨C.P,0,W1,H1⟩ B2 W2)=>Conf.behindF (B:=[J []]) hcW hH1o hF2 s2W hH1d h
      have hae:EnvOK ⟨C.n.n,some w.heap.size,none⟩ env {a with defers:=[{target:= .collected w.heap.size,args:=#[]}]++a.defers}:=⟨he.size,by show _++a.defers=_;rw [he.defers,hms];rfl,he.vals⟩
      rcases hAE with rfl|⟨pre,rfl⟩
      · rw [hJ] at hce
        obtain⟨i,hi,hce⟩:=hce.someOut
        have hc2:Conf C (objA (w.heap.size+1) (lp rec .ready none)::objA w.heap.size (.deferred (some []))::(AA xs i++A')) W2:=hcx _ hce
        have hl2:W2.heap[w.heap.size+1]?=some (lp rec .ready none):=hce.objAt (i:=0)
        refine⟨none,_,run_endLoop (by exact hl2) (by simp), ?_⟩
        have hc3:=(Conf.setObj (i:=0) (b:=w.heap.size+1) (o':=lp rec .exhausted none) hc2).drop
        exact(hdone i w.heap.size hi).go _ _ hae hc3.any
      · rw [hJx] at hce
        obtain⟨k,hk,hce⟩:=hce.someOut
        have hc2:Conf C (objA (w.heap.size+1) (lp rec .done (some (cd k)))::objA w.heap.size (.deferred (some []))::(AX k++A')) W2:=hcx _ hce
        have hl2:W2.heap[w.heap.size+1]?=some (lp rec .done (some (cd k))):=hce.objAt (i:=0)
        refine⟨some (cd k),_,run_endLoop (by exact hl2) (by simp), ?_⟩
        have hc3:=(Conf.setObj (i:=0) (b:=w.heap.size+1) (o':=lp rec .exhausted (some (cd k))) hc2).drop
        exact(hstop k w.heap.size hk).go _ _ hae hc3.any
  · intro pre x post W F' hxs hsW hF' hcp
    rw [hJ] at hcp hsW
    obtain⟨i,hi,hsW⟩:=hsW.one'
    have hcC:Conf C (objA (w.heap.size+1) (lp rec .ready none)::objA w.heap.size (.deferred (some []))::(AA pre i++A')) W:=by
      refine Conf.behindF (B:=[J []]) (B':=objA (w.heap.size+1) (lp rec .ready none)::objA w.heap.size (.deferred (some []))::AA pre i) hcW hH1o hF2 s2W hH1d (n:=0) ⟨hcp.os,hcp.tape,hcp.output,hcp.size,hcp.drawn,hcp.keep,F',hsW,hF'⟩
    have hlW:W.heap[w.heap.size+1]?=some (lp rec .ready none):=hcC.objAt (i:=0)
    have hfr:Frm C A' W F':=by
      refine⟨fun b hb=>?_,F2,s2W.loc (fun b hb=>hcp.keep b (Nat.lt_of_lt_of_le (hd2 b hb) (by show w.heap.size≤W1.heap.size;omega)) (fun h=>hH1d b h hb)),fun b hb h2=>?_⟩
      · rcases hF' b hb with h1|h1
        · exact hH1o b h1
        · exact .inr (by omega)
      · rcases hF' b hb with h1|h1
        · exact hH1d b h1 h2
        · have:=hd2 b h2;omega
    have hx:=hround pre x post i (w.heap.size+1) w.heap.size rec W F' (fun v A=>(v= .bool true∧∃ j,I (pre++[x]) j∧A=objA (w.heap.size+1) (lp rec .ready none)::objA w.heap.size (.deferred (some []))::AA (pre++[x]) j)∨
      (v= .bool false∧∃ k,KX k∧A=objA (w.heap.size+1) (lp rec .done (some (cd k)))::objA w.heap.size (.deferred (some []))::AX k)) hxs hi hfr hcC (fun B1 h=> .inl ⟨rfl,h⟩) (fun B1 h=> .inr ⟨rfl,h⟩)
    have hround:=roundIn_of_wpIn (F:=Fence.wide) (n:=8) (f:=fn) hfn (wpIn_depth (m:=8) rfl (hx.go _ W (EnvOK.puts ps.toList (encs x) env a.tmps [] ⟨he.size,rfl,he.vals⟩ hpn) (Conf.start hsW)))
    have e2:(rec.params.zip (encs x).toArray).foldl (fun tmps (t,a)=>tmps.setIfInBounds t a) rec.tmps=(ps.toList.zip (encs x)).foldl (fun t p=>t.setIfInBounds p.1 p.2) a.tmps:=by
      rw [hrec]
      simp only
      rw [←Array.foldl_toList,Array.toList_zip]
    have e3:(lp rec .ready none)= .loop {rec with state:= .ready,pending:=none}:=rfl
    have hra:rec.assign=assign∧rec.body=body∧rec.fn=fn:=by rw [hrec];exact⟨rfl,rfl,rfl⟩
    refine⟨fn,_,assign,body, ?_,hround.mono ?_⟩
    · rw [←e2]
      obtain⟨h1,h2,h3⟩:=hra
      have:=run_yield (P:=C.P) (args:=(encs x).toArray) (w:=W) (l:=w.heap.size+1) (r:={rec with state:= .ready,pending:=none}) hlW (by rw [hrec];simpa using hps x)
      simp only [h1,h2,h3] at this
      exact this
    · rintro e w' ⟨v,A1,rfl,hv,hcf⟩
      rcases hv with⟨rfl,j,hj,rfl⟩|⟨rfl,k,hk,rfl⟩
      · exact⟨_,_,rfl,.inl ⟨rfl,rfl⟩,by rw [hJ];exact hcf.someIn hj⟩
      · exact⟨_,_,rfl,.inr ⟨rfl,rfl⟩,by rw [hJx];exact hcf.someIn hk⟩
structure Y (C:Cx) (ops:Array Oper) (Q:Exit→Act→World→Prop) (is:List Nat) (env:Env) (A:List Assn):Prop where
  go:∀ a w,EnvOK C.n env a→Conf C A w→wpOpsIn (fen C.n) 9 C.P ops Q is a w
theorem X.textY{id:Nat}(h:Y C ops Q (List.range ops.size) env A):X C (.region id ops false) Q env A:=⟨fun a w he hc=>wpIn_region (h.go a w he hc)⟩
theorem Y.nil(h:N C Q env A):Y C ops Q [] env A:=⟨fun a w he hc=>h.go a w he hc⟩
theorem Y.part [NoPanic Q]{is:List Nat}(k i:Nat)(rest:List Nat)(hnd:noDefer ops=true)(e:is=List.range' i k++rest){L:Sd}(hL:Sd.text k i=L)
    (h:XL C ops (Exit.then (wpOpsIn (fen C.n) 9 C.P ops Q rest) Q) (fun _=>True) L env A):Y C ops Q is env A:=
  ⟨fun a w he hc=>by
    rw [e]
    exact wpOpsIn_then hnd rest _ _ _ (wpOps_of_wpT k i a w (by rw [hL];exact h.go a w he hc))⟩
theorem N.rest{is:List Nat}(h:Y C ops Q is env A):N C (Exit.then (wpOpsIn (fen C.n) 9 C.P ops Q is) Q) env A:=⟨fun a w he hc=>h.go a w he hc⟩
theorem Y.app{is:List Nat}{D:List Assn} [h:App A B D](k:Y C ops Q is env D):Y C ops Q is env (A++B):=by rw [h.eq];exact k
theorem RoundIn.anyDepth{P:Program}{l n m:Nat}{f:FuncId}{tmps:Array Value}{assign body:Code}{w:World}{R:Ending→World→Prop}(h:RoundIn Fence.wide n P l f tmps assign body w R):RoundIn Fence.wide m P l f tmps assign body w R:=
  ⟨h.1,fun c cs _=>h.2 c cs (room_wide _)⟩
theorem Y.yield{l:Nat}{is:List Nat}{fx:Operand}{args:Array Operand}{ats:Array TypeId}{ty:TypeId}{pos:String}{af:Array Edge}{gd:Option (Nat×Bool)}{vs:List Value}{R:Value→List Assn→Prop}(B:List Assn) [NoPanic Q](hro:C.n.ro=none)
    (ho:ops[i]?=some ⟨some d,.call ⟨.value fx,args,ats⟩,ty,pos,af,gd⟩) (hg:gok ops env ⟨some d,.call ⟨.value fx,args,ats⟩,ty,pos,af,gd⟩=some true) (hdn:Nat.blt d C.n.n=true)
    (hf:ev env fx=some (.func (.yield l) #[] #[])) (hargs:evs env args.toList=some vs) [ht:Takes A B A']
    (hspec:∀ w F,Sep B w F→Frm C A' w F→Conf C (B++A') w→YieldsTo C.P l vs w F R)
    (k:∀ v B',R v B'→Y C ops Q is ((d,v)::env) (B'++A')):Y C ops Q (i::is) env A:=by
  refine⟨fun a w he hc0=>?_⟩
  have hc:Conf C (B++A') w:=hc0.takes2
  have hargs':args.map a.eval=vs.toArray:=by
    apply Array.ext'
    rw [Array.toList_map]
    exact he.evs _ _ hargs
  obtain⟨F,s,hF⟩:=hc.sep
  obtain⟨F1,F2,s1,s2,hd,hFF⟩:=s.split
  have hF1:∀ b,F1 b→C.H b∨C.w0.heap.size≤b:=fun b hb=>hF b ((hFF b).2 (.inl hb))
  obtain⟨fn,tmps,assign,body,hy,hr⟩:=hspec w F1 s1 ⟨hF1,F2,s2,hd⟩ hc
  have hfen:fen C.n=Fence.wide:=by unfold fen;rw [hro];rfl
  unfold wpOpsIn
  simp only [ho,gok_wanted hg he,if_true]
  rw [hfen]
  refine⟨fun _ _=>trivial, ?_⟩
  have hrun:(Oper.semAt (none:Option Nat) a.eval ⟨some d,.call ⟨.value fx,args,ats⟩,ty,pos,af,gd⟩).run C.P w= .ok (.round l fn tmps assign body) w:=by
    rw [Oper.semAt_none]
    simp [execOp,resolve,he.ev hf,hargs',Deferred.ofValue,invoke,hy]
  have hrun':(Oper.semAt Fence.wide.round a.eval ⟨some d,.call ⟨.value fx,args,ats⟩,ty,pos,af,gd⟩).run C.P w= .ok (.round l fn tmps assign body) w:=hrun
  rw [hrun']
  refine⟨fun h=>(by cases h),(RoundIn.anyDepth hr).mono ?_⟩
  rintro e w' ⟨v,B',rfl,hR,hcf⟩
  have h2:=(k v B' hR).go _ w' (he.put hdn v) (Conf.behindF (B:=B) hc hF1 (fun b hb=>hF b ((hFF b).2 (.inr hb))) s2 hd hcf)
  rw [hfen] at h2
  exact h2
theorem Rt.doneM{P:Program}{n D j:Nat}{w0:World}{H:Nat→Prop}{fn:Func}{R:Value→List Assn→Prop}{v:Value} [ho:ObjAt A D (.deferred (some [])) j] [hu:Upd A j (objA D (.deferred none)) A']
    (hv:Res ⟨P,⟨n,some D,none⟩,w0,H⟩ fn env A' v) (hR:R v B) (hA:∀ w,Conf ⟨P,⟨n,some D,none⟩,w0,H⟩ A' w→Conf ⟨P,⟨n,some D,none⟩,w0,H⟩ B w):Rt ⟨P,⟨n,some D,none⟩,w0,H⟩ (Post P fn w0 H R) env A:=
  ⟨fun a w he hc=>by
    show LeavesInM _ _ _ _ _ _ a.defers _ _
    rw [he.defers]
    have hc2:=Conf.setObj (b:=D) (o':= .deferred none) hc
    exact⟨by simp,.inl ⟨D,_,rfl,run_takeDeferred (hc.objAt (b:=D)),v,hv a _ he hc2,v,B,rfl,hR,(hA _ hc2).any⟩⟩⟩
end Go.Lx
namespace Go.Lx
variable {C:Cx} {A A' B B':List Assn} {w:World} {Q:Exit→Act→World→Prop} {S:World→Prop} {env:Env} {ops:Array Oper} {r:Sd} {i d:Nat} {o:Oper} {v:Value} {cl:Cl} {x y:Operand} {ty T:TypeId} {pos:String} {af:Array Edge} {gd:Option (Nat×Bool)}
end Go.Lx
namespace Go.Lx
open Go.Proofs
theorem cstep_and(x:Nat)(h:x<4294967296):x/2^^^(2197175160&&&((2^32-(x&&&1))%2^32))=cstep x:=by
  unfold cstep
  rw [Nat.and_one_is_mod]
  by_cases hx:x%2=1
  · rw [if_pos hx,hx];rfl
  · rw [if_neg hx,show x%2=0 by omega];simp
theorem step_spec(x:Nat)(h:x<4294967296)(w:World):Spec Tryz.prog 278 #[.int .u32 x] w (fun _=>False) (fun v A=>v= .int .u32 (cstep x)∧A=[]):=by
  have h1:x&&&1<4294967296:=Nat.lt_of_le_of_lt Nat.and_le_left h
  have h2:(2^32-(x&&&1))%2^32<4294967296:=Nat.mod_lt _ (by decide)
  have h3:2197175160&&&((2^32-(x&&&1))%2^32)<4294967296:=Nat.lt_of_le_of_lt Nat.and_le_left (by decide)
  refine Zn Tryz.func278 Tryz.ntmps278 ?_
  ((refine Zt ?_<;>repeat' first|refine Z.p rfl ?_|refine Qf ?_)<;>(refine Zt ?_<;>repeat' first|(refine Za 4 ?_;((apply Qm rfl rfl rfl rfl;exact D.negN rfl rfl h1)))|refine Z.p rfl ?_|(refine Za 1 ?_;((apply Qm rfl rfl rfl rfl;exact D.shrN (b:=1) rfl rfl (by decide))))|(refine Za 3 ?_;((apply Qm rfl rfl rfl rfl;exact D.andN (b:=1) rfl rfl rfl ⟨h,by decide⟩)))|(refine Za 5 ?_;((apply Qm rfl rfl rfl rfl;exact D.andN (a:=2197175160) rfl rfl rfl ⟨by decide,h2⟩)))|(refine Za 6 ?_;((apply Qm rfl rfl rfl rfl;exact D.xorN rfl rfl rfl ⟨show x/2<4294967296 by omega,h3⟩);rw [show x/2^1^^^(2197175160&&&((2^IntKind.u32.bits-(x&&&1))%2^IntKind.u32.bits))=cstep x from cstep_and x h]))|refine Qf ?_)<;>(apply X.r1 Tryz.results278 (Qh rfl);(focus(exact⟨rfl,rfl⟩));exact Zd))
theorem byted_spec(x:Nat)(b:UInt8)(h:x<4294967296)(w:World):Spec Tryz.prog 231 #[.int .u32 x,.int .u8 b.toNat] w (fun _=>False) (fun v A=>v= .int .u32 (cbyte x b)∧A=[]):=by
  have hb:=byte_lt b
  have h1:=xorb_lt h b
  refine Zn Tryz.func231 Tryz.ntmps231 ?_
  ((refine Zt ?_<;>repeat' first|refine Z.p rfl ?_|refine Qf ?_)<;>(refine Zt ?_<;>repeat' first|refine Z.p rfl ?_|(refine Za 2 ?_;((apply Qm rfl rfl rfl rfl;exact D.convN rfl rfl);rw [show b.toNat%2^IntKind.u32.bits=b.toNat from Nat.mod_eq_of_lt (Nat.lt_of_lt_of_le hb (by decide))]))|(refine Za 3 ?_;((apply Qm rfl rfl rfl rfl;exact D.xorN rfl rfl rfl ⟨h,Nat.lt_of_lt_of_le hb (by decide)⟩)))|refine Qf ?_)<;>refine X.seq ?_<;>((refine Zt ?_<;>repeat' first|refine Z.p rfl ?_|refine Qf ?_)<;>refine X.block ?_<;>((refine Qs (ι:=Nat) (fun k=>[(0,.int .u32 (cit (x^^^b.toNat) k)),(9,Zj k)]) (fun _=>[]) (fun k=>k≤8) (fun k=>8-k) (0) ?_ Zb Zd ?_;(focus(exact Nat.zero_le _));rintro k hk)<;>((refine Zt ?_<;>repeat' first|(refine Za 0 ?_;(first|refine Qn rfl rfl rfl rfl (D.int rfl rfl rfl) (fun h0=>?_) (fun h0=>?_)))|refine Qf ?_)<;>refine X.seq ?_<;>((first|refine Zp ?_|refine Zq ?_))<;>(first|refine Ex.then ?_|refine N.next ?_<;>(refine X.seq ?_<;>(refine X.block ?_<;>(refine Zx ?_<;>repeat' first|refine Z.p rfl ?_|(refine Za 1 ?_;((refine XL.call rfl rfl rfl rfl (fun w hw=>step_spec _ (cit_lt h1 k) w) ?_;rintro v B' ⟨rfl,rfl⟩;refine Qg ?_)))|refine XL.nil ?_)<;>(first|refine N.block ?_|refine Ql ?_|refine Ex.out rfl ?_))<;>(first|refine Ex.then ?_|refine N.next ?_<;>(refine Zx ?_<;>repeat' first|refine Z.p rfl ?_|refine Z.g rfl (by omega) ?_|refine Z.w rfl ?_|refine XL.nil ?_)))))<;>(first|refine Ex.then ?_|((refine Qp ((k+1)) ?_ ?_ Zb Zd;(focus(omega));(focus(first|omega|(dsimp only;omega)))))))<;>(first|refine N.block ?_|refine Ql ?_|refine Ex.out rfl ?_))<;>(first|refine Ex.then ?_|refine N.next ?_<;>((refine Zt ?_<;>repeat' first|(refine Za 0 ?_;(obtain rfl:k=8:=(by omega);(apply Qm rfl rfl rfl rfl;exact D.move rfl)))|refine Z.p rfl ?_|refine Qf ?_)<;>(apply X.r1 Tryz.results231 (Qh rfl);(focus(exact⟨rfl,rfl⟩));exact Zd))))
theorem More_spec(w:World)(a:Option Addr)(c:Nat)(p:List Bs)(x:Nat)(hx:x<4294967296)(hp:Rd w 1 a p.length c (encT p))(hq:∀ s∈p,s.length≤1000000000):Spec Tryz.prog 178 #[.int .u32 x,.slice a p.length c] w (fun _=>False) (fun v A=>v= .int .u32 ((4294967295-cmore (4294967295-x) p.flatten:Nat):Int)∧A=[]):=by
  have hb:=hp.le
  have hb2:=hp.mx
  unfold maxLen at hb2
  have h0:4294967295-x<4294967296:=by omega
  refine Zn Tryz.func178 Tryz.ntmps178 ?_
  ((refine Zt ?_<;>repeat' first|refine Z.p rfl ?_|refine Qf ?_)<;>(refine Zt ?_<;>repeat' first|(refine Za 1 ?_;((apply Qm rfl rfl rfl rfl;exact D.notN rfl rfl hx);rw [show 2^IntKind.u32.bits-1-x=cmore (4294967295-x) ((p.take 0).flatten) from rfl]))|refine Z.p rfl ?_|refine Qf ?_)<;>refine X.seq ?_<;>((refine Zt ?_<;>repeat' first|refine Z.p rfl ?_|refine Z.ln rfl rfl ?_|refine Z.lnL rfl rfl ?_|refine Z.lnS rfl rfl ?_|refine Qf ?_)<;>refine X.block ?_<;>((refine Qs (ι:=Nat) (fun i=>[(1,.slice a p.length c),(5,.int .u32 ((cmore (4294967295-x) ((p.take i).flatten):Nat):Int)),(11,.slice a p.length c),(12,Zj p.length),(13,Zj i)]) (fun _=>[]) (fun i=>i≤p.length) (fun i=>p.length-i) (0) ?_ Zb Zd ?_;(focus(exact Nat.zero_le _));rintro i hi;(dsimp only at *))<;>((refine Zt ?_<;>repeat' first|(refine Za 0 ?_;(first|refine Qn rfl rfl rfl rfl (D.int rfl rfl rfl) (fun h1=>?_) (fun h1=>?_)))|refine Qf ?_)<;>refine X.seq ?_<;>((first|refine Zp ?_|refine Zq ?_))<;>(first|refine Ex.then ?_|refine N.next ?_<;>(refine X.seq ?_<;>(refine X.block ?_<;>((refine Zt ?_<;>repeat' first|refine Z.p rfl ?_|(refine Za 0 ?_;(have hil:i<p.length:=(by omega);obtain⟨s,hs⟩:∃ s,p[i]?=some s:=(⟨p[i],List.getElem?_eq_getElem hil⟩);(apply Qm rfl rfl rfl rfl;exact D.indexAddr i rfl rfl rfl hil (hp.sm (by omega)))))|(refine Za 1 ?_;((apply Qu rfl rfl rfl rfl;exact D.load1 rfl (fun w hw=>Rd.strAt (hp.conf0 hw) hs))))|refine Qf ?_)<;>(refine Zt ?_<;>repeat' first|(refine Za 2 ?_;(have hsl:=hq s (List.mem_of_getElem? hs);rw [show cmore (4294967295-x) ((p.take i).flatten)=cmore (cmore (4294967295-x) ((p.take i).flatten)) (s.take 0) from rfl];(apply Qm rfl rfl rfl rfl;exact D.move rfl)))|refine Z.p rfl ?_|refine Z.ln rfl rfl ?_|refine Z.lnL rfl rfl ?_|refine Z.lnS rfl rfl ?_|refine Qf ?_)<;>refine X.block ?_<;>((refine Qs (ι:=Nat) (fun k=>[(1,.slice a p.length c),(5,.int .u32 ((cmore (cmore (4294967295-x) ((p.take i).flatten)) (s.take k):Nat):Int)),(7,Zi s),(11,.slice a p.length c),(12,Zj p.length),(13,Zj i),(18,Zj s.length),(19,Zj k)]) (fun _=>[]) (fun k=>k≤s.length) (fun k=>s.length-k) (0) ?_ Zb Zd ?_;(focus(exact Nat.zero_le _));rintro k hk;(dsimp only at *))<;>((refine Zt ?_<;>repeat' first|(refine Za 0 ?_;(first|refine Qn rfl rfl rfl rfl (D.int rfl rfl rfl) (fun h2=>?_) (fun h2=>?_)))|refine Qf ?_)<;>refine X.seq ?_<;>((first|refine Zp ?_|refine Zq ?_))<;>(first|refine Ex.then ?_|refine N.next ?_<;>(refine X.seq ?_<;>(refine X.block ?_<;>((refine Zt ?_<;>repeat' first|refine Z.p rfl ?_|refine Qf ?_)<;>refine Zx ?_<;>repeat' first|refine Z.p rfl ?_|(refine Za 3 ?_;(have hkl:k<s.length:=(by omega);obtain⟨b,hb⟩:∃ b,s[k]?=some b:=(⟨s[k],List.getElem?_eq_getElem hkl⟩);(apply Qm rfl rfl rfl rfl;exact D.idx k rfl rfl rfl hb)))|(refine Za 4 ?_;((refine XL.call rfl rfl rfl rfl (fun w hw=>byted_spec _ b (cmore_lt _ (cmore_lt _ h0)) w) ?_;rintro v B' ⟨rfl,rfl⟩;refine Qg ?_);rw [show cbyte (cmore (cmore (4294967295-x) ((p.take i).flatten)) (s.take k)) b=cmore (cmore (4294967295-x) ((p.take i).flatten)) (s.take (k+1)) from(by rw [List.take_add_one,hb,cmore_append];rfl)]))|refine XL.nil ?_)<;>(first|refine N.block ?_|refine Ql ?_|refine Ex.out rfl ?_))<;>(first|refine Ex.then ?_|refine N.next ?_<;>(refine Zx ?_<;>repeat' first|refine Z.p rfl ?_|refine Z.g rfl (by omega) ?_|refine Z.w rfl ?_|refine XL.nil ?_)))))<;>(first|refine Ex.then ?_|((refine Qp ((k+1)) ?_ ?_ Zb Zd;(focus(omega));(focus(first|omega|(dsimp only;omega)))))))<;>(first|refine N.block ?_|refine Ql ?_|refine Ex.out rfl ?_))<;>(first|refine N.block ?_|refine Ql ?_|refine Ex.out rfl ?_))<;>(first|refine Ex.then ?_|refine N.next ?_<;>(refine Zx ?_<;>repeat' first|refine Z.p rfl ?_|(refine Za 0 ?_;(have hke:s.take k=s:=(List.take_of_length_le (by omega));rw [hke,←cmore_append,show(p.take i).flatten++s=(p.take (i+1)).flatten from(by rw [List.take_add_one,hs];simp)];(apply Qm rfl rfl rfl rfl;exact D.add64 rfl rfl (by omega))))|refine XL.nil ?_)))))<;>(first|refine Ex.then ?_|((refine Qp ((i+1)) ?_ ?_ Zb Zd;(focus(omega));(focus(first|omega|(dsimp only;omega)))))))<;>(first|refine N.block ?_|refine Ql ?_|refine Ex.out rfl ?_))<;>(first|refine Ex.then ?_|refine N.next ?_<;>((refine Zt ?_<;>repeat' first|(refine Za 0 ?_;(have hje:p.take i=p:=(List.take_of_length_le (by omega));rw [hje];(apply Qm rfl rfl rfl rfl;exact D.move rfl)))|(refine Za 1 ?_;((apply Qm rfl rfl rfl rfl;exact D.notN rfl rfl (cmore_lt _ h0))))|refine Z.p rfl ?_|refine Qf ?_)<;>(apply X.r1 Tryz.results178 (Qh rfl);(focus(exact⟨rfl,rfl⟩));exact Zd))))
theorem Sum_spec(w:World)(a:Option Addr)(c:Nat)(p:List Bs)(hp:Rd w 1 a p.length c (encT p))(hq:∀ s∈p,s.length≤1000000000):Spec Tryz.prog 100 #[.slice a p.length c] w (fun _=>False) (fun v A=>v= .int .u32 ((crc p.flatten:Nat):Int)∧A=[]):=by
  refine Zn Tryz.func100 Tryz.ntmps100 ?_
  ((refine Zt ?_<;>repeat' first|refine Z.p rfl ?_|refine Qf ?_)<;>(refine Zt ?_<;>repeat' first|refine Z.p rfl ?_|(refine Za 1 ?_;((refine XL.call rfl rfl rfl rfl (fun w hw=>More_spec w a c p 0 (by decide) (hp.conf0 hw) hq) (Zs ?_))))|refine Qf ?_)<;>(apply X.r1 Tryz.results100 (Qh rfl);(focus(exact⟨rfl,rfl⟩));exact Zd))
theorem Seal_spec(w:World)(s:Bs)(hs:s.length≤1000000000):Spec Tryz.prog 154 #[Zi s] w (fun _=>False) (fun v A=>v= .string ⟨List.toArray (sealS s)⟩∧A=[]):=by
  have h0:=crc_lt s
  refine Zn Tryz.func154 Tryz.ntmps154 ?_
  ((refine Zt ?_<;>repeat' first|refine Z.p rfl ?_|refine Qf ?_)<;>(refine Zt ?_<;>repeat' first|refine Z.p rfl ?_|(refine Za 1 ?_;((refine XL.sliceL (fun s:Bs=>Zi s) encT1 [s] (fun _=>rfl) (fun _=>rfl) rfl rfl rfl rfl rfl rfl (fun _=>by infer_instance) (fun g=>?_))))|(refine Za 2 ?_;((refine XL.call rfl rfl rfl rfl (fun w hw=>Sum_spec w (some ⟨g,0,none⟩) 1 [s] (hw.rd (a:=some ⟨g,0,none⟩)) (fun t ht=>by rw [List.mem_singleton] at ht;subst ht;exact hs)) (Zs ?_));rw [show [s].flatten=s from(by simp)]))|refine Qf ?_)<;>(refine Zt ?_<;>repeat' first|refine Z.p rfl ?_|(refine Za 2 ?_;((apply Qm rfl rfl rfl rfl;exact D.convN rfl rfl);rw [show((crc s%2^IntKind.u8.bits:Nat):Int)=((UInt8.ofNat (crc s)).toNat:Int) from rfl]))|(refine Za 4 ?_;((apply Qm rfl rfl rfl rfl;exact D.shrN (b:=8) rfl rfl (by decide));rw [show crc s/2^8=crc s/256 from rfl]))|(refine Za 5 ?_;((apply Qm rfl rfl rfl rfl;exact D.convN rfl rfl);rw [show((crc s/256%2^IntKind.u8.bits:Nat):Int)=((UInt8.ofNat (crc s/256)).toNat:Int) from rfl]))|(refine Za 7 ?_;((apply Qm rfl rfl rfl rfl;exact D.shrN (b:=16) rfl rfl (by decide));rw [show crc s/2^16=crc s/65536 from rfl]))|(refine Za 8 ?_;((apply Qm rfl rfl rfl rfl;exact D.convN rfl rfl);rw [show((crc s/65536%2^IntKind.u8.bits:Nat):Int)=((UInt8.ofNat (crc s/65536)).toNat:Int) from rfl]))|(refine Za 10 ?_;((apply Qm rfl rfl rfl rfl;exact D.shrN (b:=24) rfl rfl (by decide));rw [show crc s/2^24=crc s/16777216 from rfl]))|(refine Za 11 ?_;((apply Qm rfl rfl rfl rfl;exact D.convN rfl rfl);rw [show((crc s/16777216%2^IntKind.u8.bits:Nat):Int)=((UInt8.ofNat (crc s/16777216)).toNat:Int) from rfl]))|(refine Za 12 ?_;((refine XL.sliceL (fun b:UInt8=> .int .u8 (b.toNat:Int)) encY1 (four (crc s)) (fun _=>rfl) (fun _=>rfl) rfl rfl rfl rfl rfl rfl (fun _=>by infer_instance) (fun g2=>?_))))|(refine Za 13 ?_;((apply Qu rfl rfl rfl rfl;exact D.toStr (four (crc s)) rfl rfl (fun w hw=>hw.rd (a:=some ⟨g2,0,none⟩)))))|(refine Za 14 ?_;((apply Qm rfl rfl rfl rfl;exact D.cat rfl rfl (by rw [four_len];omega))))|refine Qf ?_)<;>(apply X.r1 Tryz.results154 (Qh rfl);(focus(exact⟨rfl,rfl⟩));exact Zd))
theorem Open_spec(w:World)(s:Bs)(hs:s.length≤1000000000):Spec Tryz.prog 98 #[Zi s] w (fun _=>False) (fun v A=>v= .tuple #[.string ⟨List.toArray ((openS s).1)⟩,Zj (openS s).2]∧A=[]):=by
  refine Zn Tryz.func98 Tryz.ntmps98 ?_
  ((refine Zt ?_<;>repeat' first|refine Z.p rfl ?_|refine Qf ?_)<;>refine X.seq ?_<;>((refine Zt ?_<;>repeat' first|refine Z.p rfl ?_|(refine Za 2 ?_;(first|refine Qn rfl rfl rfl rfl (D.int rfl rfl rfl) (fun h0=>?_) (fun h0=>?_)))|refine Z.ln rfl rfl ?_|refine Z.lnL rfl rfl ?_|refine Z.lnS rfl rfl ?_|refine Qf ?_)<;>(first|(refine Zu ?_;(refine Zt ?_<;>repeat' first|refine Z.p rfl ?_|refine Qf ?_)<;>(apply X.r2 Tryz.results98 (Qh rfl) (Qh rfl);(focus(refine⟨?_,rfl⟩;have key:=(List.take_append_drop (s.length-4) s);first|(rw [show openS s=([],10) from(by unfold openS;rw [if_pos (by omega)])];done)|(rw [show openS s=([],13) from(by unfold openS;rw [if_neg (by omega),if_pos (fun h=>h1 (by unfold sealS;rw [h];exact key))])];done)|(rw [show openS s=(s.take (s.length-4),0) from(by unfold openS;rw [if_neg (by omega),if_neg (fun h=>h1 (fun e=>h (by unfold sealS at e;have e2:=e.trans key.symm;exact List.append_cancel_left e2)))])])));exact Zd))|refine Zm ?_))<;>(first|refine Ex.then ?_|refine N.next ?_<;>((refine Zt ?_<;>repeat' first|refine Z.p rfl ?_|(refine Za 3 ?_;((apply Qm rfl rfl rfl rfl;exact D.sub64 rfl rfl (by omega));rw [show(s.length:Int)-4=((s.length-4:Nat):Int) from(by omega)]))|(refine Za 4 ?_;((apply Qm rfl rfl rfl rfl;exact D.cutH rfl rfl (by omega))))|refine Z.ln rfl rfl ?_|refine Z.lnL rfl rfl ?_|refine Z.lnS rfl rfl ?_|refine Qf ?_)<;>refine X.seq ?_<;>((refine Zt ?_<;>repeat' first|refine Z.p rfl ?_|(refine Za 1 ?_;((refine XL.call rfl rfl rfl rfl (fun w hw=>Seal_spec w _ (by rw [List.length_take];omega)) ?_;rintro v B' ⟨rfl,rfl⟩;refine Qg ?_)))|(refine Za 3 ?_;(refine Qn rfl rfl rfl rfl (D.strNe rfl rfl) (fun h1=>?_) (fun h1=>?_)))|refine Qf ?_)<;>(first|(refine Zu ?_;(refine Zt ?_<;>repeat' first|refine Z.p rfl ?_|refine Qf ?_)<;>(apply X.r2 Tryz.results98 (Qh rfl) (Qh rfl);(focus(refine⟨?_,rfl⟩;have key:=(List.take_append_drop (s.length-4) s);first|(rw [show openS s=([],10) from(by unfold openS;rw [if_pos (by omega)])];done)|(rw [show openS s=([],13) from(by unfold openS;rw [if_neg (by omega),if_pos (fun h=>h1 (by unfold sealS;rw [h];exact key))])];done)|(rw [show openS s=(s.take (s.length-4),0) from(by unfold openS;rw [if_neg (by omega),if_neg (fun h=>h1 (fun e=>h (by unfold sealS at e;have e2:=e.trans key.symm;exact List.append_cancel_left e2)))])])));exact Zd))|refine Zm ?_))<;>(first|refine Ex.then ?_|refine N.next ?_<;>((refine Zt ?_<;>repeat' first|refine Z.p rfl ?_|refine Qf ?_)<;>(apply X.r2 Tryz.results98 (Qh rfl) (Qh rfl);(focus(refine⟨?_,rfl⟩;have key:=(List.take_append_drop (s.length-4) s);first|(rw [show openS s=([],10) from(by unfold openS;rw [if_pos (by omega)])];done)|(rw [show openS s=([],13) from(by unfold openS;rw [if_neg (by omega),if_pos (fun h=>h1 (by unfold sealS;rw [h];exact key))])];done)|(rw [show openS s=(s.take (s.length-4),0) from(by unfold openS;rw [if_neg (by omega),if_neg (fun h=>h1 (fun e=>h (by unfold sealS at e;have e2:=e.trans key.symm;exact List.append_cancel_left e2)))])])));exact Zd))))))
end Go.Lx
