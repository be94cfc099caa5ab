import Derived.Test.YtakoppmiegjjlaaGreatDoorF1
import Derived.WalkKit
import Derived.ProofKit
import Derived.OpenShut
import Derived.ShutString
import Derived.ChangeOld
import Derived.Below
import Derived.Carry
import Derived.SizedLaws
import Derived.Deep.Slices
import Derived.Deep.Fields
import Derived.ChangeSame
import Derived.Test.YtakoppmiegjjlaaGreatDoorF2
set_option linter.unusedVariables false
set_option linter.unusedSimpArgs false
namespace Go.Lx
open Go.ChangeShapes Go.WideShapes Go.Deep Go.RowKit
def i64 (n:Int):Prop:= -9223372036854775808≤n∧n≤9223372036854775807
theorem wf_i64'{n:Int}(h2:(Lit.int .i64 n).wf=true):i64 n:=by
  have h3:IntKind.i64.min= -9223372036854775808:=by decide
  have h4:IntKind.i64.max=9223372036854775807:=by decide
  simp only [Lit.wf,Bool.and_eq_true,decide_eq_true_eq,h3,h4] at h2
  exact h2
theorem okWide_arr{P:Program}{w:World}{r:Reach}{base:Nat}{t e:TypeId}{n:Nat}{v:Value}(ht:P.underlying t=some (.array n e))(h:Value.okWide P w r base t v):∃ cs,v= .agg cs:=by
  simp only [Value.okWide,ht] at h
  obtain⟨cs,h1,_⟩:=h
  exact⟨cs,h1⟩
theorem exists_list{α:Type}(p:Nat→α→Prop):∀ (n:Nat),(∀ i,i<n→∃ x,p i x)→∃ l:List α,l.length=n∧∀ i x,l[i]?=some x→p i x
  |0,_=>⟨[],rfl,fun _ _ h=>(by cases h)⟩
  |n+1,h=>by
    obtain⟨l,hl,hp⟩:=exists_list p n (fun i hi=>h i (by omega))
    obtain⟨x,hx⟩:=h n (by omega)
    refine⟨l++[x],by simp [hl],fun i y hy=>?_⟩
    by_cases hi:i<l.length
    · rw [List.getElem?_append_left hi] at hy
      exact hp i y hy
    · have:=(List.getElem?_eq_some_iff.1 hy).1
      simp at this
      obtain rfl:i=l.length:=by omega
      simp at hy
      subst hy
      rw [hl]
      exact hx
theorem Rd.ofCells{w:World}{a:Addr}{n c sz:Nat}{α:Type}{f:α→List Value}(hf:∀ x,(f x).length=sz)(hsz:0<sz)(l:List α)(hl:l.length=n)(hc:n≤c)(hm:c≤maxLen)(h:∀ i x,l[i]?=some x→∀ j u,(f x)[j]?=some u→w.cell? (a.add (i*sz+j))=some u):Rd w sz (some a) n c (l.flatMap f):=by
  refine⟨by rw [flat_len f sz hf,hl],hc,hm,fun _=>rfl,fun t v ht=>?_⟩
  have htl:t<l.length*sz:=by rw [←flat_len f sz hf];exact(List.getElem?_eq_some_iff.1 ht).1
  have h1:t/sz<l.length:=by rw [Nat.div_lt_iff_lt_mul hsz];exact htl
  have h2:t%sz<sz:=Nat.mod_lt _ hsz
  have h3:=flat_get f sz hf l (t/sz) (t%sz) l[t/sz] (List.getElem?_eq_getElem h1) h2
  have e:t/sz*sz+t%sz=t:=by rw [Nat.mul_comm];exact Nat.div_add_mod t sz
  rw [e] at h3
  rw [h3] at ht
  have:=h (t/sz) l[t/sz] (List.getElem?_eq_getElem h1) (t%sz) v ht
  rw [e] at this
  exact this
theorem sized_len{H:Type}{enc:TypeId×Value→H}{P:Program}{w:World}{base:Nat}{spare:Nat→Bool}{held:Bool}{t e B:Nat}{a:Option Addr}{n c:Nat}{d:DataW H}{ps:List MemPlace}{ts:List TypeId}{ds:List (DataW H)}{j:Nat}(hsz:(DataW.weightsEach P ts ds).all (· ≤reachBytes)=true)(hts:ts[j]?=some t)(hd:ds[j]?=some d)
    (ht:P.underlying t=some (.slice e)) (hB:P.bytesOf e=B) (h:DataW.Trod enc P w base spare held t (.slice a n c) d ps):n*B≤140737488351232:=by
  obtain⟨fuel,hx⟩:=h
  rcases open_slice ht hx with⟨hcs,_⟩|⟨a',len,cap,m,n',D,Pl,hcs,_,hl,hm,hmm,hxe,hi⟩
  · simp [Value.cells] at hcs
    obtain⟨rfl,rfl,rfl⟩:=hcs
    simp
  · simp [Value.cells] at hcs
    obtain⟨rfl,rfl,rfl⟩:=hcs
    obtain⟨hx1,_⟩:=Prod.mk.inj hxe
    subst hx1
    have z:=sized_slice hsz hts hd ht
    rw [hB] at z
    simp only [List.length_map,List.length_range] at z
    exact Nat.le_trans (Nat.mul_le_mul_right _ (Nat.le_add_right _ _)) z
theorem D.indexArr{C:Cx}{env:Env}{W:World→Prop}{x y:Operand}{ty t:TypeId}{pos:String}{af:Array Edge}{gd:Option (Nat×Bool)}{ds:Option Tmp}{g o n e sz:Nat}{k:IntKind}{j:Int}(m:Nat) [h:ArrT C.P t n e] [hs:Sz C.P e sz](hx:ev env x=some (.pointer (some ⟨g,o,none⟩)))(hy:ev env y=some (.int k j))(hj:j=(m:Int))(hm:m<n):
    Det C W env ⟨ds,.indexAddr t x y,ty,pos,af,gd⟩ (.pointer (some ⟨g,o+m*sz,none⟩)):=⟨fun a w he _=>by
  subst hj
  have h1:(m:Int)<((n:Nat):Int):=by omega
  rw [←at_add]
  simp [execOp,he.ev hx,he.ev hy,Instr.indexAt,asIntOf,run_underlying h.und,hs.run,hm,Instr.sureAddr]⟩
theorem Conf.rd{C:Cx}{A:List Assn}{w:World}{a:Option Addr}{n c sz i:Nat}{T:TypeId}{xs:List Value} [h:OwnA A a n c T sz xs i](hw:Conf C A w):Rd w sz a n c xs:=hw.ownRd h.at_
theorem Conf.below{P:Program}{w w':World}{A:List Assn}(h:Conf ⟨P,0,w,fun _=>False⟩ A w'):RowKit.Below w.heap.size w w':=
  ⟨h.os,h.tape,h.output,h.size,fun b hb=>h.keep b hb (fun h=>h)⟩
theorem Spec.says{P:Program}{f:FuncId}{args:Array Value}{w:World}{u:Value}(h:Spec P f args w (fun _=>False) (fun v A=>v=u∧A=[])):Calls P f args w (fun e w'=>e= .returned u∧RowKit.Below w.heap.size w w'):=
  Calls.mono h (by rintro e w' ⟨v,A,rfl,⟨rfl,rfl⟩,hc⟩;exact⟨rfl,hc.below⟩)
end Go.Lx
namespace Go.Lx
open Go.ChangeShapes Go.WideShapes Go.Deep Go.RowKit
def OpensW (P:Program) (t:TypeId) (sz:Nat) {α:Type} (f:α→List Value) (G:World→α→Prop):Prop:=
  (∀ a,(f a).length=sz)∧P.cellsOf t=sz∧
  ∀ {H:Type} {enc:TypeId×Value→H} {w:World} {base:Nat} {spare:Nat→Bool} {held:Bool} {fuel:Nat} {cs:List Value} {x:DataW H×List MemPlace},DataW.trod enc P w base spare held fuel t cs=some x→∃ a:α,cs=f a∧G w a
theorem opensW_int{P:Program}{t:TypeId}{k:IntKind}(h:P.underlying t=some (.int k))(hc:P.cellsOf t=1):OpensW P t 1 (fun n:Int=>[Value.int k n]) (fun _ n=>(Lit.int k n).wf=true):=
  ⟨fun _=>rfl,hc,fun hx=>by
    obtain⟨n,h1,_,h2⟩:=DataW.trod_int h hx
    exact⟨n,h1,h2⟩⟩
theorem opensW_bool{P:Program}{t:TypeId}(h:P.underlying t=some .bool)(hc:P.cellsOf t=1):OpensW P t 1 (fun b:Bool=>[Value.bool b]) (fun _ _=>True):=
  ⟨fun _=>rfl,hc,fun hx=>by
    obtain⟨b,h1,_⟩:=DataW.trod_bool h hx
    exact⟨b,h1,trivial⟩⟩
theorem opensW_string{P:Program}{t:TypeId}(h:P.underlying t=some .string)(hc:P.cellsOf t=1):OpensW P t 1 (fun s:ByteArray=>[Value.string s]) (fun _ s=>s.size≤maxLen):=
  ⟨fun _=>rfl,hc,fun hx=>by
    obtain⟨s,h1,_,h2⟩:=DataW.trod_string h hx
    exact⟨s,h1,h2⟩⟩
theorem OpensW.map{P:Program}{t:TypeId}{sz:Nat}{α β:Type}{f:α→List Value}{G:World→α→Prop}(h:OpensW P t sz f G)(e:α→β)(f':β→List Value)(G':World→β→Prop)(hs:∀ b,(f' b).length=sz)(hf:∀ w a,G w a→f a=f' (e a))(hG:∀ w a,G w a→G' w (e a)):OpensW P t sz f' G':=
  ⟨hs,h.2.1,fun hx=>by
    obtain⟨a,h1,h2⟩:=h.2.2 hx
    exact⟨e a,h1.trans (hf _ a h2),hG _ _ h2⟩⟩
def OpF (P:Program) (fs:List Field) (off sz:Nat) {α:Type} (f:α→List Value) (G:World→α→Prop):Prop:=
  (∀ a,(f a).length=sz)∧
  ∀ {H:Type} {enc:TypeId×Value→H} {w:World} {base:Nat} {spare:Nat→Bool} {held:Bool} {n:Nat} {cs:List Value},cs.length=off+sz→(∀ (i:Nat) (fd:Field),fs[i]?=some fd→∃ y,DataW.trod enc P w base spare held n fd.type ((cs.drop fd.offset).take (P.cellsOf fd.type))=some y)→∃ a:α,cs.drop off=f a∧G w a
theorem OpF.nil{P:Program}{off:Nat}:OpF P [] off 0 (fun _:Unit=>[]) (fun _ _=>True):=
  ⟨fun _=>rfl,fun hl _=>⟨(),List.drop_of_length_le (by omega),trivial⟩⟩
theorem OpF.cons{P:Program}{fd:Field}{fs:List Field}{off s0 s1:Nat}{α β:Type}{f:α→List Value}{g:β→List Value}{G:World→α→Prop}{K:World→β→Prop}(ho:fd.offset=off)(h0:OpensW P fd.type s0 f G)(h1:OpF P fs (off+s0) s1 g K):
    OpF P (fd::fs) off (s0+s1) (fun x:α×β=>f x.1++g x.2) (fun w x=>G w x.1∧K w x.2):=
  ⟨fun x=>by simp [h0.1,h1.1],fun {H enc w base spare held n cs} hl hall=>by
    obtain⟨y,hy⟩:=hall 0 fd rfl
    rw [ho,h0.2.1] at hy
    obtain⟨a,ha,hG⟩:=h0.2.2 hy
    obtain⟨b,hb,hK⟩:=h1.2 (H:=H) (enc:=enc) (w:=w) (base:=base) (spare:=spare) (held:=held) (n:=n) (cs:=cs) (by omega) (fun i fd' hi=>hall (i+1) fd' (by simpa using hi))
    refine⟨(a,b), ?_,hG,hK⟩
    dsimp only
    rw [←ha,←hb,←List.drop_drop,List.take_append_drop]⟩
theorem opensW_struct{P:Program}{t:TypeId}{fs:Array Field}{sz:Nat}{α:Type}{f:α→List Value}{G:World→α→Prop}(hs:P.underlying t=some (.struct fs))(hc:P.cellsOf t=sz)(hf:OpF P fs.toList 0 sz f G):OpensW P t sz f G:=
  ⟨hf.1,hc,fun {H enc w base spare held fuel cs x} hx=>by
    obtain⟨xs,n,_,_,hl,hlen,hall⟩:=DataW.trod_struct hs hx
    obtain⟨a,ha,hG⟩:=hf.2 (H:=H) (enc:=enc) (w:=w) (base:=base) (spare:=spare) (held:=held) (n:=n) (cs:=cs) (by rw [hl,hc];omega) (fun i fd hi=>by
      have hi':fs[i]?=some fd:=by simpa using hi
      have hlt:i<xs.length:=by rw [hlen];exact(Array.getElem?_eq_some_iff.1 hi').1
      exact⟨xs[i],by rw [hall i fd hi',List.getElem?_eq_getElem hlt]⟩)
    exact⟨a,by simpa using ha,hG⟩⟩
structure SlV (α:Type) where
  a:Option Addr
  n:Nat
  c:Nat
  l:List α
theorem opensW_slice{P:Program}{t e sz:Nat}{α:Type}{f:α→List Value}{G:World→α→Prop}(ht:P.underlying t=some (.slice e))(hc:P.cellsOf t=1)(h0:0<sz)(hO:OpensW P e sz f G):
    OpensW P t 1 (fun s:SlV α=>[.slice s.a s.n s.c]) (fun w s=>s.l.length=s.n∧Rd w sz s.a s.n s.c (s.l.flatMap f)∧∀ x∈s.l,G w x):=
  ⟨fun _=>rfl,hc,fun {H enc w base spare held fuel cs x} hx=>by
    rcases open_slice ht hx with⟨hcs,_⟩|⟨a',len,cap,m,n',D,Pl,hcs,_,hl,hm,hmm,_,hi⟩
    · exact⟨⟨none,0,0,[]⟩,hcs,rfl,Rd.nil w _,fun _ h=>(by cases h)⟩
    · have hle:len≤m:=by rw [hmm];split<;>omega
      obtain⟨l,hll,hp⟩:=exists_list (fun i (x:α)=>G w x∧∀ j u,(f x)[j]?=some u→w.cell? (a'.add (i*P.cellsOf e+j))=some u) len (fun i hin=>by
        obtain⟨cs',hcells,htr⟩:=hi i (by omega)
        obtain⟨x,rfl,hG⟩:=hO.2.2 htr
        obtain⟨_,_,hcell⟩:=World.cells?_some hcells
        refine⟨x,hG,fun j u hu=>?_⟩
        have hj:j<P.cellsOf e:=by rw [hO.2.1,←hO.1 x];exact(List.getElem?_eq_some_iff.1 hu).1
        rw [←Go.Deep.add_add,hcell j hj,hu])
      rw [hO.2.1] at hp
      exact⟨⟨some a',len,cap,l⟩,hcs,hll,Rd.ofCells hO.1 h0 l hll hl hm (fun i x hx=>(hp i x hx).2),fun x hx=>by
        obtain⟨i,hi'⟩:=List.mem_iff_getElem?.1 hx
        exact(hp i x hi').1⟩⟩
theorem opensW_arr2{P:Program}{t e sz s2:Nat}{α:Type}{f:α→List Value}{G:World→α→Prop}(hs:P.underlying t=some (.array 2 e))(hc:P.cellsOf t=s2)(h2:s2=sz+sz)(hO:OpensW P e sz f G):OpensW P t s2 (fun x:α×α=>f x.1++f x.2) (fun w x=>G w x.1∧G w x.2):=
  ⟨fun x=>by simp [hO.1,h2],hc,fun {H enc w base spare held fuel cs x} hx=>by
    obtain⟨xs,n,_,_,hl,hn,hf⟩:=DataW.trod_array hs hx
    rw [hO.2.1] at hf
    have g0:0<xs.length:=by omega
    have g1:1<xs.length:=by omega
    have e0:=hf 0 (by omega)
    have e1:=hf 1 (by omega)
    rw [List.getElem?_eq_getElem g0] at e0
    rw [List.getElem?_eq_getElem g1] at e1
    obtain⟨a,ha,hG⟩:=hO.2.2 e0
    obtain⟨b,hb,hK⟩:=hO.2.2 e1
    refine⟨(a,b), ?_,hG,hK⟩
    dsimp only
    rw [←ha,←hb]
    simp only [Nat.zero_mul,List.drop_zero,Nat.one_mul]
    rw [hc] at hl
    rw [List.take_of_length_le (l:=cs.drop sz) (by simp;omega),List.take_append_drop]⟩
theorem openW{H:Type}{enc:TypeId×Value→H}{P:Program}{w:World}{base:Nat}{spare:Nat→Bool}{held:Bool}{t sz:Nat}{α:Type}{f:α→List Value}{G:World→α→Prop}(hO:OpensW P t sz f G){v:Value}{d:DataW H}{ps:List MemPlace}(h:DataW.Trod enc P w base spare held t v d ps):∃ x:α,v.cells.toList=f x∧G w x:=by
  obtain⟨fuel,hx⟩:=h
  exact hO.2.2 hx
theorem openW_slice{H:Type}{enc:TypeId×Value→H}{P:Program}{w:World}{base:Nat}{spare:Nat→Bool}{held:Bool}{t e sz:Nat}{α:Type}{f:α→List Value}{G:World→α→Prop}(ht:P.underlying t=some (.slice e))(hc:P.cellsOf t=1)(h0:0<sz)(hO:OpensW P e sz f G)
    {a:Option Addr} {n c:Nat} {d:DataW H} {ps:List MemPlace} (h:DataW.Trod enc P w base spare held t (.slice a n c) d ps):∃ l:List α,l.length=n∧Rd w sz a n c (l.flatMap f)∧∀ x∈l,G w x:=by
  obtain⟨s,hs,h1,h2,h3⟩:=openW (opensW_slice ht hc h0 hO) h
  simp [Value.cells] at hs
  obtain⟨rfl,rfl,rfl⟩:=hs
  exact⟨s.l,h1,h2,h3⟩
theorem openW_agg{H:Type}{enc:TypeId×Value→H}{P:Program}{w:World}{base:Nat}{spare:Nat→Bool}{held:Bool}{t sz:Nat}{α:Type}{f:α→List Value}{G:World→α→Prop}(hO:OpensW P t sz f G){v:Value}(hv:∃ cs,v= .agg cs){d:DataW H}{ps:List MemPlace}(h:DataW.Trod enc P w base spare held t v d ps):∃ x:α,v= .agg (f x).toArray∧G w x:=by
  obtain⟨cs,rfl⟩:=hv
  obtain⟨x,h1,h2⟩:=openW hO h
  refine⟨x, ?_,h2⟩
  rw [←h1]
  simp [Value.cells]
end Go.Lx
namespace Go.Lx
def encN1 (n:Int):List Value:=[.int .i64 n]
def encN (l:List Int):List Value:=l.flatMap encN1
theorem encN_len(l:List Int):(encN l).length=l.length:=by
  have:=flat_len encN1 1 (fun _=>rfl) l
  rw [Nat.mul_one] at this
  exact this
theorem encN_map(l:List Int):encN l=l.map (Value.int .i64):=by
  induction l with
  |nil=>rfl
  |cons x l ih=>simp only [encN,List.flatMap_cons,List.map_cons] at ih ⊢;rw [ih];rfl
theorem encN_get(l:List Int)(j:Nat):(encN l)[j]?=l[j]?.map (Value.int .i64):=by rw [encN_map,List.getElem?_map]
theorem Rd.intAt{w:World}{a:Option Addr}{n c m:Nat}{xs:List Int}{x:Int}(h:Rd w 1 a n c (encN xs))(hx:xs[m]?=some x):w.cell? (el a (m*1))=some (.int .i64 x):=by
  have:=Rd.elem (f:=encN1) h (fun _=>rfl) hx 0 _ rfl
  rw [el_add] at this
  exact this
theorem encN_snoc(o:List Int)(n:Int):encN o++[.int .i64 n]=encN (o++[n]):=by simp [encN,encN1]
def encB1 (b:Bool):List Value:=[.bool b]
def encB (bs:List Bool):List Value:=bs.flatMap encB1
theorem Rd.bAt{w:World}{a:Option Addr}{n c k:Nat}{xs:List Bool}{b:Bool}(h:Rd w 1 a n c (encB xs))(hb:xs[k]?=some b):w.cell? (el a (k*1))=some (.bool b):=by
  have:=Rd.elem (f:=encB1) h (fun _=>rfl) hb 0 _ rfl
  simpa [el_add] using this
theorem putAt_one(xs:List Value)(k:Nat)(v:Value)(h:k<xs.length):putAt xs k [v]=xs.set k v:=by
  unfold putAt
  exact list_set_parts xs k v h
theorem set_flat{α:Type}(f:α→List Value)(sz:Nat)(hf:∀ x,(f x).length=sz)(j:Nat)(hj:j<sz)(v:Value)(x y:α)(hxy:(f y).set j v=f x):∀ (l:List α) (k:Nat),l[k]?=some y→(l.flatMap f).set (k*sz+j) v=(l.set k x).flatMap f
  |[],k,h=>by cases h
  |z::l,0,h=>by
    simp at h
    subst h
    rw [Nat.zero_mul,Nat.zero_add,List.flatMap_cons,List.set_append_left _ _ (by rw [hf];exact hj),hxy,List.set_cons_zero,List.flatMap_cons]
  |z::l,k+1,h=>by
    have ih:=set_flat f sz hf j hj v x y hxy l k (by simpa using h)
    rw [List.flatMap_cons,List.set_cons_succ,List.flatMap_cons,←ih]
    have e:(k+1)*sz+j=(f z).length+(k*sz+j):=by rw [hf,Nat.add_mul];omega
    rw [e,List.set_append_right _ _ (Nat.le_add_right _ _)]
    congr 2
    omega
end Go.Lx
