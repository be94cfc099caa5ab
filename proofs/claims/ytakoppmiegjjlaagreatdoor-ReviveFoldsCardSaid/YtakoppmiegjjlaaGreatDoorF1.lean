import Derived.Test.YtakoppmiegjjlaaGreatDoorF0
import Derived.Laws.Tables
import Derived.Laws.MakeOwn
import Derived.Laws.OwnMore
import Derived.Laws.Cover3
import Derived.Laws.Pointers
import Derived.Laws.StructEq
set_option linter.unusedVariables false
set_option linter.unusedSimpArgs false
namespace Go.Lx
class SetAt (cs:List Value) (o:Nat) (v:Value) (cs':outParam (List Value)):Prop where
  eq:cs.set o v=cs'
  lt:o<cs.length
instance {a:Value} {cs:List Value} {v:Value}:SetAt (a::cs) 0 v (v::cs):=⟨rfl,by simp⟩
instance {a:Value} {cs cs':List Value} {o:Nat} {v:Value} [h:SetAt cs o v cs']:SetAt (a::cs) (o+1) v (a::cs'):=⟨by simp [h.eq],by have:=h.lt;simp;omega⟩
class Upd (A:List Assn) (i:Nat) (p:Assn) (A':outParam (List Assn)):Prop where eq:A.set i p=A'
instance {q:Assn} {A:List Assn} {p:Assn}:Upd (q::A) 0 p (p::A):=⟨rfl⟩
instance {q:Assn} {A A':List Assn} {i:Nat} {p:Assn} [h:Upd A i p A']:Upd (q::A) (i+1) p (q::A'):=⟨by simp [h.eq]⟩
class App (A B:List Assn) (D:outParam (List Assn)):Prop where eq:A++B=D
instance {B:List Assn}:App [] B B:=⟨rfl⟩
instance {p:Assn} {A B D:List Assn} [h:App A B D]:App (p::A) B (p::D):=⟨by simp [h.eq]⟩
class Take (A:List Assn) (p:Assn) (A':outParam (List Assn)):Prop where perm:A.Perm (p::A')
instance {p:Assn} {A:List Assn}:Take (p::A) p A:=⟨List.Perm.refl _⟩
instance (priority:=low) {p q:Assn} {A A':List Assn} [h:Take A p A']:Take (q::A) p (q::A'):=⟨(List.Perm.cons q h.perm).trans (List.Perm.swap p q A')⟩
class Takes (A B:List Assn) (A':outParam (List Assn)):Prop where perm:A.Perm (B++A')
instance {A:List Assn}:Takes A [] A:=⟨List.Perm.refl _⟩
instance {A A1 A2 B:List Assn} {p:Assn} [h:Take A p A1] [k:Takes A1 B A2]:Takes A (p::B) A2:=⟨h.perm.trans (List.Perm.cons p k.perm)⟩
class Suf (A B:List Assn):Prop where sub:A.Sublist B
instance {A:List Assn}:Suf A A:=⟨List.Sublist.refl _⟩
instance (priority:=low) {p:Assn} {A B:List Assn} [h:Suf A B]:Suf A (p::B):=⟨List.Sublist.cons _ h.sub⟩
class After (cl:Cl) (S:World→Prop) (C:Cx) (A:List Assn):Prop where ok:cl= .fin∨(cl= .ch∧∀ w,Conf C A w→S w)
instance {S:World→Prop} {C:Cx} {A:List Assn}:After .fin S C A:=⟨.inl rfl⟩
instance {C:Cx} {As A:List Assn} [h:Suf As A]:After .ch (fun w=>Conf C As w) C A:=⟨.inr ⟨rfl,fun w hw=>hw.sub h.sub⟩⟩
variable {C:Cx} {A A' B B':List Assn} {w:World} {Q:Exit→Act→World→Prop} {S:World→Prop} {env:Env} {ops:Array Oper} {r:Sd} {i d:Nat} {o:Oper} {v:Value} {cl:Cl}
theorem Conf.takes [h:Takes A B A'](k:Conf C A w):Conf C B w:=(k.perm h.perm).sub (List.sublist_append_left B A')
theorem Conf.takes2 [h:Takes A B A'](k:Conf C A w):Conf C (B++A') w:=k.perm h.perm
theorem Qg{D:List Assn} [h:App A B D] [haf:After cl S C D](k:XL C ops Q S r env D):After cl S C (A++B)∧XL C ops Q S r env (A++B):=by rw [h.eq];exact⟨haf,k⟩
theorem XL.chg(ho:ops[i]?=some o)(hg:gok ops env o=some true)(hd:o.dst=some d)(hdn:Nat.blt d C.n.n=true)
    (h:∀ a w,EnvOK C.n env a→Conf C A w→∃ v A' w',(execOp a.eval o).run C.P w= .ok (.value v) w'∧Conf C A' w'∧After cl S C A'∧XL C ops Q S r ((d,v)::env) A'):XL C ops Q S (.op cl i r) env A:=by
  refine⟨fun a w he hc=>?_⟩
  obtain⟨v,A',w',hr,hc',haf,k⟩:=h a w he hc
  have key:=k.go _ w' (he.put hdn v) hc'
  rcases haf.ok with rfl|⟨rfl,hS⟩
  · unfold wpT wpOp
    simp only [ho,gok_wanted hg he,if_true,Oper.wp,hr,Oper.upon,hd]
    exact .inl key
  · unfold wpT wpOp
    simp only [ho,gok_wanted hg he,if_true,Oper.wp,hr,Oper.upon,hd]
    exact .inl ⟨hS w' hc',key⟩
theorem XL.skipC(ho:ops[i]?=some o)(hg:gok ops env o=some false)(hd:o.dst=some d)(hdn:Nat.blt d C.n.n=true) [haf:After .ch S C A](k:XL C ops Q S r ((d,undef)::env) A):XL C ops Q S (.op .ch i r) env A:=
  ⟨fun a w he hc=>by
    unfold wpT wpOp
    simp only [ho,gok_wanted hg he,Bool.false_eq_true,if_false,hd]
    exact⟨(haf.ok.resolve_left (by simp)).2 w hc,k.go _ w (he.put hdn undef) hc⟩⟩
theorem XL.chg0(ho:ops[i]?=some o)(hg:gok ops env o=some true)(hd:o.dst=none)
    (h:∀ a w,EnvOK C.n env a→Conf C A w→∃ A' w',(execOp a.eval o).run C.P w= .ok .skip w'∧Conf C A' w'∧After cl S C A'∧XL C ops Q S r env A'):XL C ops Q S (.op cl i r) env A:=by
  refine⟨fun a w he hc=>?_⟩
  obtain⟨A',w',hr,hc',haf,k⟩:=h a w he hc
  have key:=k.go _ w' he hc'
  rcases haf.ok with rfl|⟨rfl,hS⟩
  · unfold wpT wpOp
    simp only [ho,gok_wanted hg he,if_true,Oper.wp,hr,Oper.upon,hd]
    exact .inl key
  · unfold wpT wpOp
    simp only [ho,gok_wanted hg he,if_true,Oper.wp,hr,Oper.upon,hd]
    exact .inl ⟨hS w' hc',key⟩
theorem Conf.alloc(h:Conf C A w)(cs:List Value)(T:TypeId):Conf C (cells w.heap.size cs T::A) (w.alloc (.cells cs.toArray T)):=
  h.new rfl rfl rfl (by simp) (Nat.le_refl _) (fun b hb=>Below.heap_alloc_old w _ b hb) ⟨fun b=>b=w.heap.size,⟨heap_alloc_new w _,fun b=>Iff.rfl⟩,fun b hb=>by rw [hb];exact Nat.le_refl _⟩
where
  Below.heap_alloc_old (w:World) (o:Obj) (k:Nat) (h:k<w.heap.size):(w.alloc o).heap[k]?=w.heap[k]?:=RowKit.Below.heap_alloc w o k h
section
variable {ty T:TypeId} {pos:String} {af:Array Edge} {gd:Option (Nat×Bool)} {x y:Operand}
class Zc (P:Program) (t:TypeId) (cs:outParam (List Value)):Prop where run:∃ z,(∀ w,(zeroValue t).run P w= .ok z w)∧z.cells=cs.toArray
theorem Zc.mk'{P:Program}{t:Nat}{z:Value}{cs:List Value}(h:((P.info? t).bind (·.zero))=some z)(hz:z.cells=cs.toArray):Zc P t cs:=⟨z,(Zr.mk' h).run,hz⟩
theorem XL.alloc{cs:List Value}(ho:ops[i]?=some ⟨some d,.alloc T,ty,pos,af,gd⟩)(hg:gok ops env ⟨some d,.alloc T,ty,pos,af,gd⟩=some true)(hdn:Nat.blt d C.n.n=true) [hz:Zc C.P T cs](haf:∀ g,After cl S C (cells g cs T::A):=by intro g;infer_instance)
    (k:∀ g,XL C ops Q S r ((d,.pointer (some ⟨g,0,none⟩))::env) (cells g cs T::A)):XL C ops Q S (.op cl i r) env A:=by
  refine XL.chg ho hg rfl hdn fun a w he hc=>?_
  obtain⟨z,hrun,hcs⟩:=hz.run
  refine⟨_,_,_, ?_,hc.alloc cs T,haf _,k _⟩
  simp [execOp,Instr.alloc,hrun,newVar,newRow,hcs]
theorem XL.box1{u:Value}(ho:ops[i]?=some ⟨some d,.box T x,ty,pos,af,gd⟩)(hg:gok ops env ⟨some d,.box T x,ty,pos,af,gd⟩=some true)(hdn:Nat.blt d C.n.n=true)(hx:ev env x=some u)(hu:u.oneCell'=true)(haf:∀ g,After cl S C (cells g [u] T::A):=by intro g;infer_instance)
    (k:∀ g,XL C ops Q S r ((d,.pointer (some ⟨g,0,none⟩))::env) (cells g [u] T::A)):XL C ops Q S (.op cl i r) env A:=by
  refine XL.chg ho hg rfl hdn fun a w he hc=>?_
  refine⟨_,_,_, ?_,hc.alloc [u] T,haf _,k _⟩
  have:u.cells=#[u]:=by cases u<;>first|rfl|cases hu
  simp [execOp,he.ev hx,Instr.box,newVar,newRow,this]
theorem Qr{cs:List Value}(ho:ops[i]?=some ⟨some d,.box T x,ty,pos,af,gd⟩)(hg:gok ops env ⟨some d,.box T x,ty,pos,af,gd⟩=some true)(hdn:Nat.blt d C.n.n=true)(hx:ev env x=some (.agg cs.toArray))(haf:∀ g,After cl S C (cells g cs T::A):=by intro g;infer_instance)
    (k:∀ g,XL C ops Q S r ((d,.pointer (some ⟨g,0,none⟩))::env) (cells g cs T::A)):XL C ops Q S (.op cl i r) env A:=by
  refine XL.chg ho hg rfl hdn fun a w he hc=>?_
  refine⟨_,_,_, ?_,hc.alloc cs T,haf _,k _⟩
  simp [execOp,he.ev hx,Instr.box,newVar,newRow,Value.cells]
theorem setRow_other(w:World)(g:Nat)(cur:Array Value)(b:Nat)(h:b≠g):(w.setRow g cur).heap[b]?=w.heap[b]?:=by
  simp only [World.setRow,Array.getElem?_modify]
  rw [if_neg (Ne.symm h)]
theorem Conf.setRow{g T:Nat}{cs cs':List Value}(h:Conf C A w)(hi:A[i]?=some (cells g cs T)):Conf C (A.set i (cells g cs' T)) (w.setRow g cs'.toArray):=by
  refine h.update hi rfl rfl rfl (by simp [World.setRow]) (Nat.le_refl _) fun F ⟨hF1,hF2⟩=>⟨F,⟨setRow_heap w g _ _ T _ hF1,hF2⟩,fun b hb=> .inl hb,fun b hb hn=>setRow_other w g _ b (fun e=>hn ((hF2 b).2 e))⟩
theorem list_set_parts(cs:List Value)(o:Nat)(v:Value)(h:o<cs.length):cs.take o++[v]++cs.drop (o+1)=cs.set o v:=by
  rw [List.set_eq_take_append_cons_drop,if_pos h]
  simp
theorem Qj{g k0 T':Nat}{cs cs':List Value}{u:Value}{j:Nat}(ho:ops[i]?=some ⟨none,.store T x y,ty,pos,af,gd⟩)(hg:gok ops env ⟨none,.store T x y,ty,pos,af,gd⟩=some true)(hx:ev env x=some (.pointer (some ⟨g,k0,none⟩)))(hy:ev env y=some u)(hu:u.oneCell'=true) [hs:Sz C.P T 1]
    [hl:Loc A g cs T' j] [hset:SetAt cs k0 u cs'] [hupd:Upd A j (cells g cs' T') A'] [haf:After cl S C A'] (k:XL C ops Q S r env A'):XL C ops Q S (.op cl i r) env A:=by
  refine XL.chg0 ho hg rfl fun a w he hc=>?_
  have hk':k0<cs.length:=hset.lt
  have h1:u.cells=#[u]:=by cases u<;>first|rfl|cases hu
  have hst:=run_storeCells_at C.P g k0 T' [u] 0 cs.toArray w (hc.loc hl.at_) (by simp;omega) (by simp [hu])
  refine⟨A',w.setRow g cs'.toArray, ?_, ?_,haf,k⟩
  rotate_left
  · rw [←hupd.eq]
    exact hc.setRow hl.at_
  · have e:cs.take k0++[u]++cs.drop (k0+1)=cs.set k0 u:=list_set_parts cs k0 u hk'
    simp only [Nat.add_zero,List.length_cons,List.length_nil,Nat.zero_add] at hst
    rw [e,hset.eq] at hst
    simp [execOp,he.ev hx,he.ev hy,Instr.storeAt,Instr.sureAddr,storeVar,h1,hs.run,hst]
theorem Qk{g T' sz:Nat}{cs cs':List Value}{j:Nat}(ho:ops[i]?=some ⟨none,.store T x y,ty,pos,af,gd⟩)(hg:gok ops env ⟨none,.store T x y,ty,pos,af,gd⟩=some true)(hx:ev env x=some (.pointer (some ⟨g,0,none⟩)))(hy:ev env y=some (.agg cs'.toArray)) [hs:Sz C.P T sz](hu:cs'.all (·.oneCell')=true)(hlen:(cs'.length==sz&&cs.length==sz)=true)
    [hl:Loc A g cs T' j] [hupd:Upd A j (cells g cs' T') A'] [haf:After cl S C A'] (k:XL C ops Q S r env A'):XL C ops Q S (.op cl i r) env A:=by
  refine XL.chg0 ho hg rfl fun a w he hc=>?_
  obtain⟨h1,h2⟩:cs'.length=sz∧cs.length=sz:=by simpa using hlen
  have hst:=run_storeCells_at C.P g 0 T' cs' 0 cs.toArray w (hc.loc hl.at_) (by simp;omega) (by simpa using hu)
  refine⟨A',w.setRow g cs'.toArray, ?_, ?_,haf,k⟩
  rotate_left
  · rw [←hupd.eq]
    exact hc.setRow hl.at_
  · have e:cs.drop (0+0+cs'.length)=[]:=by simp;omega
    simp only [Nat.add_zero,Nat.zero_add,List.take_zero,List.nil_append] at hst e
    rw [e,List.append_nil] at hst
    simp [execOp,he.ev hx,he.ev hy,Instr.storeAt,Instr.sureAddr,storeVar,Value.cells,hs.run,h1,hst]
theorem fold_put:∀ (l:List Value) (k:Nat) (acc:Array Value),acc.size=k+l.length→(l.zipIdx k).foldl (fun cs (x:Value×Nat)=>cs.setIfInBounds x.2 x.1) acc=(acc.toList.take k++l).toArray
  |[],k,acc,h=>by simp at h;apply Array.ext';simp [←h,List.take_of_length_le]
  |a::l,k,acc,h=>by
    simp only [List.length_cons] at h
    have ih:=fold_put l (k+1) (acc.setIfInBounds k a) (by simp;omega)
    simp only [List.zipIdx_cons,List.foldl_cons]
    rw [ih]
    apply Array.ext'
    simp only [Array.toList_setIfInBounds]
    have hk:k<acc.toList.length:=by simp;omega
    rw [List.take_add_one,List.take_set_of_le (Nat.le_refl k),List.getElem?_set_self hk]
    simp
theorem run_fill1{sz:Nat}{v:Value}{cs:List Value}{z:Array Value}(hv:v.cells=cs.toArray)(hl:cs.length=sz)(hz:z.size=sz):Instr.fill (fun i=>some (i*sz,sz)) z [(0,v)]=some cs.toArray:=by
  have h1: ¬((cs.toArray.size≠sz||decide (0+cs.toArray.size>z.size))=true):=by simp;omega
  simp only [Instr.fill,hv,Nat.zero_mul,if_neg h1]
  have:=fold_put cs 0 z (by omega)
  simp only [Nat.zero_add]
  congr 1
  rw [←Array.foldl_toList]
  simpa using this
theorem XL.buildSlice{len e sz:Nat}{parts:Array (Nat×Operand)}{vs:List (Nat×Value)}(cs:List Value)(ho:ops[i]?=some ⟨some d,.buildSlice T len parts,ty,pos,af,gd⟩)(hg:gok ops env ⟨some d,.buildSlice T len parts,ty,pos,af,gd⟩=some true)(hdn:Nat.blt d C.n.n=true)
    [ht:SlT C.P T e] [hs:Sz C.P e sz] {zs:List Value} [hz:Zc C.P e zs] (hv:evps env parts.toList=some vs) (hsm:(decide (len*sz≤2^24)&& !(len*sz==0))=true)
    (hf:Instr.fill (fun i=>some (i*sz,sz)) ((Array.range (len*sz)).map (zs.toArray[· %zs.toArray.size]!)) vs=some cs.toArray) (haf:∀ g,After cl S C (cells g cs e::A):=by intro g;infer_instance)
    (k:∀ g,XL C ops Q S r ((d,.slice (some ⟨g,0,none⟩) len len)::env) (cells g cs e::A)):XL C ops Q S (.op cl i r) env A:=by
  refine XL.chg ho hg rfl hdn fun a w he hc=>?_
  obtain⟨z,hrun,hcs⟩:=hz.run
  refine⟨_,_,_, ?_,hc.alloc cs e,haf _,k _⟩
  obtain⟨h1,h2⟩:len*sz≤2^24∧ ¬len*sz=0:=by simpa using hsm
  have h1': ¬len*sz>2^24:=by omega
  have hp:List.map (fun x=>(x.1,a.eval x.2)) parts.toList=vs:=by
    exact he.evps _ _ hv
  simp only [execOp]
  have hrun2:(Instr.buildSlice T len (parts.map fun(i,x)=>(i,a.eval x))).run C.P w= .ok (.slice (some ⟨w.heap.size,0,none⟩) len len) (w.alloc (.cells cs.toArray e)):=by
    simp [Instr.buildSlice,run_underlying ht.und,hs.run,h1',h2,hrun,hcs,newRow]
    rw [hp]
    simp at hf
    simp [hf]
  simp [hrun2]
theorem XL.slice1{e sz:Nat}{x:Operand}{v:Value}{cs:List Value}(ho:ops[i]?=some ⟨some d,.buildSlice T 1 #[(0,x)],ty,pos,af,gd⟩)(hg:gok ops env ⟨some d,.buildSlice T 1 #[(0,x)],ty,pos,af,gd⟩=some true)(hdn:Nat.blt d C.n.n=true)
    [ht:SlT C.P T e] [hs:Sz C.P e sz] {zs:List Value} [hz:Zc C.P e zs] (hv:ev env x=some v) (hvc:v.cells=cs.toArray) (hsm:(cs.length==sz&&decide (sz≤1000)&& !(sz==0))=true) (haf:∀ g,After cl S C (cells g cs e::A):=by intro g;infer_instance)
    (k:∀ g,XL C ops Q S r ((d,.slice (some ⟨g,0,none⟩) 1 1)::env) (cells g cs e::A)):XL C ops Q S (.op cl i r) env A:=by
  obtain⟨⟨h1,h2⟩,h3⟩:(cs.length=sz∧sz≤1000)∧ ¬sz=0:=by simpa using hsm
  refine XL.buildSlice (vs:=[(0,v)]) cs ho hg hdn (by simp [evps,hv]) (by simp;omega) ?_ haf k
  exact run_fill1 hvc h1 (by simp)
theorem XL.callG{f:FuncId}{args:Array Operand}{ats:Array TypeId}{fx:Operand}{fs cps vs:List Value}{R:Value→List Assn→Prop}{ds:Option Nat}(ho:ops[i]?=some ⟨ds,.call ⟨.value fx,args,ats⟩,ty,pos,af,gd⟩)(hg:gok ops env ⟨ds,.call ⟨.value fx,args,ats⟩,ty,pos,af,gd⟩=some true)
    (hf:ev env fx=some (.func (.func f) fs.toArray cps.toArray)) (hargs:evs env args.toList=some vs) [hent:Enters C.P f]
    (hspec:∀ w F,Sep B w F→Conf C (B++A) w→Spec C.P f (fs++vs++cps).toArray w F R)
    (k:∀ v B',R v B'→(∀ d,ds=some d→Nat.blt d C.n.n=true)∧After cl S C (B'++A)∧XL C ops Q S r (match ds with|some d=>(d,v)::env|none=>env) (B'++A)):XL C ops Q S (.op cl i r) env (B++A):=by
  refine⟨fun a w he hc=>?_⟩
  have hargs':args.map a.eval=vs.toArray:=by
    apply Array.ext'
    rw [Array.toList_map]
    exact he.evs _ _ hargs
  have hrun:(execOp a.eval ⟨ds,.call ⟨.value fx,args,ats⟩,ty,pos,af,gd⟩).run C.P w= .ok (.enter f (fs++vs++cps).toArray) w:=by
    simp [execOp,resolve,he.ev hf,hargs',Deferred.ofValue,invoke,hent.run]
  obtain⟨F,s,hF⟩:=hc.sep
  obtain⟨F1,F2,s1,s2,hd,hFF⟩:=s.split
  have hsp:=hspec w F1 s1 hc
  have hall:∀ K:Value→World→Prop,(∀ v B' w',R v B'→Conf C (B'++A) w'→K v w')→Calls C.P f (fs++vs++cps).toArray w fun
      | .returned v,w''=>K v w''
      | .panicked chain,w''=>Q (.panic chain) a w''
      | .outgrown,_=>LetsOut Q:=by
    intro K hK
    refine Calls.mono hsp ?_
    rintro e w' ⟨v,B',rfl,hR,hcf⟩
    refine hK v B' w' hR ?_
    --the frame
    obtain⟨G,g,gF⟩:=hcf.sep
    have hd2:∀ b,F2 b→b<w.heap.size:=fun b hb=>Sep.dom s2 hb
    refine⟨hcf.os.trans hc.os,hcf.tape.trans hc.tape,hcf.output.trans hc.output,Nat.le_trans hc.size hcf.size,trivial,fun b hb hH=>?_,fun b=>G b∨F2 b,Sep.append g (s2.loc fun b hb=>hcf.keep b (hd2 b hb) (fun h1=>hd b h1 hb)) ?_, ?_⟩
    · rw [hcf.keep b (Nat.lt_of_lt_of_le hb hc.size) (fun h1=>?_),hc.keep b hb hH]
      rcases hF b ((hFF b).2 (.inl h1)) with h2|h2
      · exact hH h2
      · omega
    · intro b hb hb2
      rcases gF b hb with h1|h1
      · exact hd b h1 hb2
      · have:=hd2 b hb2
        simp only at h1
        omega
    · rintro b (hb|hb)
      · rcases gF b hb with h1|h1
        · exact hF b ((hFF b).2 (.inl h1))
        · exact .inr (Nat.le_trans hc.size h1)
      · exact hF b ((hFF b).2 (.inr hb))
  have fin:wpOp C.P ops Q i (fun a' w'=>(cl= .fin∨S w')∧wpT C.P ops Q S r a' w') a w:=by
    unfold wpOp
    simp only [ho,gok_wanted hg he,if_true,Oper.wp,hrun,Oper.upon]
    refine .inl (hall _ fun v B' w' hR hcw=>?_)
    obtain⟨hdn,haf,hk⟩:=k v B' hR
    refine⟨?_, ?_⟩
    · rcases haf.ok with h|⟨_,h⟩
      · exact .inl h
      · exact .inr (h w' hcw)
    · cases ds with
      |none=>exact hk.go _ w' he hcw
      |some d=>exact hk.go _ w' (he.put (hdn d rfl) v) hcw
  have hcl:cl= .fin∨cl= .ch:=by
    obtain⟨e,w',fr,hR,_⟩:=hsp []
    obtain⟨v,B',_,hR,_⟩:=hR
    rcases(k v B' hR).2.1.ok with h|⟨h,_⟩
    · exact .inl h
    · exact .inr h
  rcases hcl with rfl|rfl
  · exact wpOp_mono (fun a' w' h=>h.2) fin
  · exact wpOp_mono (fun a' w' h=>⟨h.1.resolve_left (by simp),h.2⟩) fin
theorem XL.call{f:FuncId}{args:Array Operand}{ats:Array TypeId}{vs:List Value}{R:Value→List Assn→Prop}(ho:ops[i]?=some ⟨some d,.call ⟨.value (.func f),args,ats⟩,ty,pos,af,gd⟩)(hg:gok ops env ⟨some d,.call ⟨.value (.func f),args,ats⟩,ty,pos,af,gd⟩=some true)(hdn:Nat.blt d C.n.n=true)
    (hargs:evs env args.toList=some vs) [hent:Enters C.P f]
    (hspec:∀ w,Conf C A w→Spec C.P f vs.toArray w (fun _=>False) R)
    (k:∀ v B',R v B'→After cl S C (B'++A)∧XL C ops Q S r ((d,v)::env) (B'++A)):XL C ops Q S (.op cl i r) env A:=by
  refine XL.callG (B:=[]) (fs:=[]) (cps:=[]) (f:=f) (ds:=some d) ho hg rfl hargs ?_ (fun v B' hR=>⟨fun d' h=>(by cases h;exact hdn),k v B' hR⟩)
  intro w F hF hc
  have:F=fun _=>False:=by funext b;have:=hF b;simp [this]
  subst this
  simpa using hspec w hc
theorem XL.callH{f:FuncId}{args:Array Operand}{ats:Array TypeId}{vs:List Value}{R:Value→List Assn→Prop}(B:List Assn)(ho:ops[i]?=some ⟨some d,.call ⟨.value (.func f),args,ats⟩,ty,pos,af,gd⟩)(hg:gok ops env ⟨some d,.call ⟨.value (.func f),args,ats⟩,ty,pos,af,gd⟩=some true)(hdn:Nat.blt d C.n.n=true)
    (hargs:evs env args.toList=some vs) [hent:Enters C.P f] [ht:Takes A B A']
    (hspec:∀ w F,Sep B w F→Conf C (B++A') w→Spec C.P f vs.toArray w F R)
    (k:∀ v B',R v B'→After cl S C (B'++A')∧XL C ops Q S r ((d,v)::env) (B'++A')):XL C ops Q S (.op cl i r) env A:=by
  refine XL.mem (B:=B++A') (fun w h=>h.takes2) ?_
  refine XL.callG (B:=B) (fs:=[]) (cps:=[]) (f:=f) (ds:=some d) ho hg rfl hargs ?_ (fun v B' hR=>⟨fun d' h=>(by cases h;exact hdn),k v B' hR⟩)
  intro w F hF hc
  simpa using hspec w F hF hc
theorem XL.callV{f:FuncId}{args:Array Operand}{ats:Array TypeId}{fx:Operand}{fs cps vs:List Value}{R:Value→List Assn→Prop}(ho:ops[i]?=some ⟨some d,.call ⟨.value fx,args,ats⟩,ty,pos,af,gd⟩)(hg:gok ops env ⟨some d,.call ⟨.value fx,args,ats⟩,ty,pos,af,gd⟩=some true)(hdn:Nat.blt d C.n.n=true)
    (hf:ev env fx=some (.func (.func f) fs.toArray cps.toArray)) (hargs:evs env args.toList=some vs) [hent:Enters C.P f]
    (hspec:∀ w,Conf C A w→Spec C.P f (fs++vs++cps).toArray w (fun _=>False) R)
    (k:∀ v B',R v B'→After cl S C (B'++A)∧XL C ops Q S r ((d,v)::env) (B'++A)):XL C ops Q S (.op cl i r) env A:=by
  refine XL.callG (B:=[]) (f:=f) (ds:=some d) ho hg hf hargs ?_ (fun v B' hR=>⟨fun d' h=>(by cases h;exact hdn),k v B' hR⟩)
  intro w F hF hc
  have:F=fun _=>False:=by funext b;have:=hF b;simp [this]
  subst this
  exact hspec w hc
theorem D.len{W:World→Prop}{t e n c:Nat}{ad:Option Addr} [h:SlT C.P t e](hx:ev env x=some (.slice ad n c)):Det C W env ⟨some d,.call ⟨.builtin .len,#[x],#[t]⟩,ty,pos,af,gd⟩ (.int .i64 n):=⟨fun a w he _=>by
  simp [execOp,resolve,invoke,builtin,Builtin.len_,he.ev hx,run_underlying h.und,goInt]⟩
theorem D.lenS{W:World→Prop}{t:Nat}{s:ByteArray} [h:StrT C.P t](hx:ev env x=some (.string s)):Det C W env ⟨some d,.call ⟨.builtin .len,#[x],#[t]⟩,ty,pos,af,gd⟩ (.int .i64 s.size):=⟨fun a w he _=>by
  simp [execOp,resolve,invoke,builtin,Builtin.len_,he.ev hx,run_underlying h.und,goInt]⟩
theorem D.min2{W:World→Prop}{ats:Array TypeId}{k k':IntKind}{a b:Int}(hx:ev env x=some (.int k a))(hy:ev env y=some (.int k' b)):Det C W env ⟨some d,.call ⟨.builtin .min,#[x,y],ats⟩,ty,pos,af,gd⟩ (.int k (min a b)):=⟨fun ac w he _=>by
  have e:(if b<a then b else a)=min a b:=by rw [Int.min_def];split<;>split<;>omega
  simp [execOp,resolve,invoke,builtin,Builtin.min_,Builtin.min2,he.ev hx,he.ev hy,e]⟩
theorem D.max2{W:World→Prop}{ats:Array TypeId}{k k':IntKind}{a b:Int}(hx:ev env x=some (.int k a))(hy:ev env y=some (.int k' b)):Det C W env ⟨some d,.call ⟨.builtin .max,#[x,y],ats⟩,ty,pos,af,gd⟩ (.int k (max a b)):=⟨fun ac w he _=>by
  have e:(if b>a then b else a)=max a b:=by rw [Int.max_def];split<;>split<;>omega
  simp [execOp,resolve,invoke,builtin,Builtin.max_,Builtin.max2,he.ev hx,he.ev hy,e]⟩
end
end Go.Lx
namespace Go.Lx
class ElT (P:Program) (e:TypeId) (sz bytes:outParam Nat):Prop where
  info:∃ (i:TypeInfo) (z:Value),P.info? e=some i∧i.zero=some z∧i.size=sz∧i.bytes=bytes∧z.cells.size=sz∧0<sz
theorem ElT.mk'{P:Program}{e sz bytes:Nat}{z:Value}(h:(P.info? e).map (fun i=>(i.zero,i.size,i.bytes))=some (some z,sz,bytes))(hz:z.cells.size=sz)(hs:0<sz):ElT P e sz bytes:=⟨by
  cases hi:P.info? e with
  |none=>simp [hi] at h
  |some i=>simp [hi] at h;exact⟨i,z,rfl,h.1,h.2.1,h.2.2,hz,hs⟩⟩
def Src (w:World) (sz:Nat) (x:Value) (m:Nat) (news:List Value):Prop:=
  news.length=m*sz∧((∃ a c,x= .slice (some a) m c∧∀ j u,news[j]?=some u→w.cell? (a.add j)=some u)∨(∃ c,x= .slice none 0 c∧m=0))
section
variable {P:Program} {w:World}
theorem grown_new{w:World}{n m old:Nat}{e:TypeId}{i:TypeInfo}{z:Value}{xs news:List Value}(hzs:z.cells.size=i.size)(hxs:xs.length=n*i.size)(hl:news.length=m*i.size)(h63:n+m≤maxLen)(row:Option Nat):
    (w.drew.alloc (.cells (xs.toArray++news.toArray++Builtin.zeroCells z.cells (grownCap w (n+m) old e-(n+m))) e)).ownsRow 0 e i.size (.slice (some ⟨w.heap.size,0,none⟩) (n+m) (grownCap w (n+m) old e)) (n+m) (xs++news)∧
      w.grownBy (w.drew.alloc (.cells (xs.toArray++news.toArray++Builtin.zeroCells z.cells (grownCap w (n+m) old e-(n+m))) e)) row:=by
  have hlen:(xs++news).length=(n+m)*i.size:=by rw [List.length_append,hxs,hl,Nat.add_mul]
  have hge:=grownCap_ge w (n+m) old e
  have hcm:grownCap w (n+m) old e≤maxLen:=grownCap_le_maxLen w (n+m) old e h63
  refine⟨⟨hlen,.inr ⟨w.heap.size,_,_,rfl,Nat.zero_le _,heap_alloc_new w.drew _,hge,hcm, ?_, ?_⟩⟩,⟨rfl,rfl,rfl,by simp,fun k hk _=>RowKit.Below.heap_alloc w.drew _ k hk⟩⟩
  · simp only [Array.size_append,List.size_toArray,size_zeroCells,hzs,hxs,hl,←Nat.add_mul]
    congr 1
    omega
  · simp only [Array.toList_append,List.append_assoc]
    rw [←List.append_assoc,←hlen]
    exact List.take_left
theorem append_own(t ty e:TypeId)(sz bytes:Nat) [ht:SlT P t e] [he:ElT P e sz bytes](v:Value)(n:Nat)(xs:List Value)(hown:w.ownsRow 0 e sz v n xs)(x:Value)(m:Nat)(news:List Value)(hsrc:Src w sz x m news)(h1:∀ u∈news,u.oneCell'=true)
    (h63:n+m≤maxLen) (hbytes:(n+m)*bytes≤140737488355328):
    ∃ a' c' w',(Builtin.append_ #[t,t] ty #[v,x]).run P w= .ok (.slice a' (n+m) c') w'∧w'.ownsRow 0 e sz (.slice a' (n+m) c') (n+m) (xs++news)∧w.grownBy w' v.ownBlock∧
      w.drawn≤w'.drawn∧(∀ b,(Value.slice a' (n+m) c').ownBlock=some b→v.ownBlock=some b∨w.heap.size≤b):=by
  obtain⟨i,z,hi,hz,rfl,rfl,hzs,hsz⟩:=he.info
  obtain⟨hl,hx⟩:=hsrc
  have hsmall:n+m≤9223372036854775807:=by simp only [maxLen] at h63;omega
  have hlen:(xs++news).length=(n+m)*i.size:=by rw [List.length_append,hown.1,hl,Nat.add_mul]
  rcases hx with⟨a,c,rfl,hnews⟩|⟨c,rfl,rfl⟩
  · rcases hown.2 with⟨rfl,rfl⟩|⟨g,cap,cur,rfl,hbg,hg,hnc,hcm,hcs,htake⟩
    · have hx:xs=[]:=List.eq_nil_of_length_eq_zero (by simpa using hown.1)
      subst hx
      by_cases hm:m=0
      · subst hm
        have hn:news=[]:=List.eq_nil_of_length_eq_zero (by simpa using hl)
        subst hn
        refine⟨none,0,w, ?_,World.ownsRow_nil w 0 e i.size,⟨rfl,rfl,rfl,Nat.le_refl _,fun _ _ _=>rfl⟩,Nat.le_refl _,by simp [Value.ownBlock]⟩
        simp [Builtin.append_,run_underlying ht.und,sizeOf,typeInfo,hi,Builtin.lenOf,Builtin.firstCells,loadCells,loadCellsFrom]
      · have hr:=run_append_nil (P:=P) w t ty e i z ht.und hi hz a m c news hl hnews (by omega) (by omega) (by have hb:=hbytes;simp only [Nat.zero_add] at hb;omega)
        have hgr:=grown_new (w:=w) (n:=0) (old:=0) (e:=e) (xs:=[]) hzs (by simp) hl h63 (Value.ownBlock (.slice none 0 0))
        simp only [Nat.zero_add,List.nil_append,Array.empty_append] at hgr ⊢
        exact⟨_,_,_,hr,hgr.1,hgr.2,by simp,fun b hb=>by simp [Value.ownBlock] at hb;omega⟩
    · by_cases hroom:n+m≤cap
      · have hfit:n*i.size+news.length≤cur.size:=by rw [hl,hcs,←Nat.add_mul];exact Nat.mul_le_mul_right _ hroom
        have hr:=run_append_room (P:=P) w t ty e i ht.und hi g n cap cur hg a m c news hl hnews h1 hroom hfit
        refine⟨_,_,_,hr,⟨hlen,.inr ⟨g,cap,_,rfl,hbg,setRow_heap w g cur _ e _ hg,hroom,hcm, ?_, ?_⟩⟩,⟨rfl,rfl,rfl,by simp [World.setRow],fun k _ hk=>setRow_other w g _ k (fun e=>hk (by simp [Value.ownBlock,e]))⟩,Nat.le_refl _,fun b hb=> .inl hb⟩
        · simp only [List.size_toArray,List.length_append,List.length_take,List.length_drop,Array.length_toList]
          omega
        · rw [htake,←hlen]
          exact List.take_left
      · have holds:∀ j u,xs[j]?=some u→w.cell? ((⟨g,0,none⟩:Addr).add j)=some u:=hown.cells (g:=g) rfl
        have hr:=run_append_grow (P:=P) w t ty e i z ht.und hi hz ⟨g,0,none⟩ n cap xs hown.1 holds a m c news hl hnews (by omega) (by omega) (growslice_fits (by omega) hbytes)
        have hgr:=grown_new (w:=w) (n:=n) (old:=cap) (e:=e) hzs hown.1 hl h63 (Value.ownBlock (.slice (some ⟨g,0,none⟩) n cap))
        exact⟨_,_,_,hr,hgr.1,hgr.2,by simp,fun b hb=>by simp [Value.ownBlock] at hb;omega⟩
  · have hn:news=[]:=List.eq_nil_of_length_eq_zero (by simpa using hl)
    subst hn
    rw [List.append_nil,Nat.add_zero]
    have key:∃ a' c',v= .slice a' n c'∧n≤c':=by
      rcases hown.2 with⟨rfl,rfl⟩|⟨g,cap,cur,rfl,_,_,hnc,_⟩
      · exact⟨none,0,rfl,Nat.le_refl _⟩
      · exact⟨_,cap,rfl,hnc⟩
    obtain⟨a',c',rfl,hc⟩:=key
    refine⟨a',c',w, ?_,hown,⟨rfl,rfl,rfl,Nat.le_refl _,fun _ _ _=>rfl⟩,Nat.le_refl _,fun b hb=> .inl hb⟩
    cases a' with
    |none=>simp [Builtin.append_,run_underlying ht.und,sizeOf,typeInfo,hi,Builtin.lenOf,Builtin.firstCells,hc]
    |some q=>simp [Builtin.append_,run_underlying ht.und,sizeOf,typeInfo,hi,Builtin.lenOf,Builtin.firstCells,hc,storeCells]
end
variable {C:Cx} {A A' A1 A2 B B':List Assn} {w:World} {Q:Exit→Act→World→Prop} {S:World→Prop} {env:Env} {ops:Array Oper} {r:Sd} {i d:Nat} {o:Oper} {v:Value} {cl:Cl}
variable {ty T:TypeId} {pos:String} {af:Array Edge} {gd:Option (Nat×Bool)} {x y:Operand}
theorem Conf.appended{v v':Value}{T sz n n':Nat}{xs xs':List Value}{w':World}(h:Conf C (own T sz v n xs::A) w)(hown:w'.ownsRow 0 T sz v' n' xs')(hg:w.grownBy w' v.ownBlock)(hdr:w.drawn≤w'.drawn)(hb:∀ b,v'.ownBlock=some b→v.ownBlock=some b∨w.heap.size≤b):Conf C (own T sz v' n' xs'::A) w':=by
  have:=h.update (i:=0) (p:=own T sz v n xs) (q:=own T sz v' n' xs') rfl hg.os hg.tape hg.output hg.size hdr fun F ⟨_,hF⟩=>⟨fun b=>v'.ownBlock=some b,⟨hown,fun b=>Iff.rfl⟩,fun b hb'=>?_,fun b hb' hn=>hg.block b hb' (fun e=>hn ((hF b).2 e.symm))⟩
  · simpa using this
  · rcases hb b hb' with h1|h1
    · exact .inl ((hF b).2 h1)
    · exact .inr h1
theorem XL.append{t e sz bytes n c m g c2:Nat}{a:Option Addr}{xs news:List Value}(ho:ops[i]?=some ⟨some d,.call ⟨.builtin .append,#[x,y],#[t,t]⟩,ty,pos,af,gd⟩)(hg:gok ops env ⟨some d,.call ⟨.builtin .append,#[x,y],#[t,t]⟩,ty,pos,af,gd⟩=some true)(hdn:Nat.blt d C.n.n=true)
    [ht:SlT C.P t e] [he:ElT C.P e sz bytes] (hx:ev env x=some (.slice a n c)) (hy:ev env y=some (.slice (some ⟨g,0,none⟩) m c2)) {j j2:Nat} {T2:TypeId}
    [hl:Loc A g news T2 j] [ho2:OwnAt A (.slice a n c) e sz n xs j2] [t1:Take A (own e sz (.slice a n c) n xs) A1] [t2:Take A1 (cells g news T2) A2]
    (hm:(news.length==m*sz&&news.all (·.oneCell'))=true) (h63:n+m≤maxLen∧(n+m)*bytes≤140737488355328)
    (haf:∀ a' c',After cl S C (own e sz (.slice a' (n+m) c') (n+m) (xs++news)::A2))
    (k:∀ a' c',XL C ops Q S r ((d,.slice a' (n+m) c')::env) (own e sz (.slice a' (n+m) c') (n+m) (xs++news)::A2)):XL C ops Q S (.op cl i r) env A:=by
  obtain⟨hm1,hm2⟩:news.length=m*sz∧∀ u∈news,u.oneCell'=true:=by simpa using hm
  have p1:A.Perm (own e sz (.slice a n c) n xs::cells g news T2::A2):=t1.perm.trans (List.Perm.cons _ t2.perm)
  refine XL.chg ho hg rfl hdn fun ac w hE hc=>?_
  have hc1:=hc.perm p1
  have hsrc:Src w sz (.slice (some ⟨g,0,none⟩) m c2) m news:=⟨hm1,.inl ⟨_,c2,rfl,fun j u hu=>by rw [at_add,Nat.zero_add];exact hc1.cellAt (i:=1) rfl hu⟩⟩
  have hc2:Conf C (own e sz (.slice a n c) n xs::A2) w:=hc1.sub (List.Sublist.cons_cons _ (List.Sublist.cons _ (List.Sublist.refl _)))
  obtain⟨F,hF,_⟩:=hc2.get (i:=0) rfl
  obtain⟨a',c',w',hr,h2,h3,hdr,h4⟩:=append_own (P:=C.P) t ty e sz bytes (.slice a n c) n xs hF.1 _ m news hsrc hm2 h63.1 h63.2
  refine⟨_,_,w', ?_,hc2.appended h2 h3 hdr h4,haf a' c',k a' c'⟩
  simp [execOp,resolve,invoke,builtin,hE.ev hx,hE.ev hy,hr]
theorem Conf.nilOwn(T sz:Nat)(h:Conf C A w):Conf C (own T sz (.slice none 0 0) 0 []::A) w:=
  h.new rfl rfl rfl (Nat.le_refl _) (Nat.le_refl _) (fun _ _=>rfl) ⟨fun _=>False,⟨World.ownsRow_nil w 0 T sz,fun b=>by simp [Value.ownBlock]⟩,fun b hb=>hb.elim⟩
class CellsOf (v:Value) (cs:outParam (List Value)):Prop where eq:v.cells=cs.toArray
instance {k:IntKind} {n:Int}:CellsOf (.int k n) [.int k n]:=⟨rfl⟩
instance {s:ByteArray}:CellsOf (.string s) [.string s]:=⟨rfl⟩
instance {a:Option Addr} {n c:Nat}:CellsOf (.slice a n c) [.slice a n c]:=⟨rfl⟩
instance {r:Option Nat}:CellsOf (.map r) [.map r]:=⟨rfl⟩
instance {fn:Fn} {a b:Array Value}:CellsOf (.func fn a b) [.func fn a b]:=⟨rfl⟩
instance {cs:List Value}:CellsOf (.agg cs.toArray) cs:=⟨rfl⟩
class PutAts (cs:List Value) (o:Nat) (vs:List Value) (cs':outParam (List Value)):Prop where
  eq:(vs.zipIdx o).foldl (fun(a:List Value) (x:Value×Nat)=>a.set x.2 x.1) cs=cs'
  le:vs.length=0∨o+vs.length≤cs.length
instance {cs:List Value} {o:Nat}:PutAts cs o [] cs:=⟨rfl,.inl rfl⟩
instance {cs cs1 cs2:List Value} {o:Nat} {v:Value} {vs:List Value} [h:SetAt cs o v cs1] [k:PutAts cs1 (o+1) vs cs2]:PutAts cs o (v::vs) cs2:=⟨by simp only [List.zipIdx_cons,List.foldl_cons,h.eq,k.eq],by
  have h1:=h.lt
  have h2:=k.le
  have h3:cs1.length=cs.length:=by rw [←h.eq];simp
  simp only [List.length_cons]
  omega⟩
class PlAt (pl:List (Nat×Nat)) (f:Nat) (off m:outParam Nat):Prop where at_:pl[f]?=some (off,m)
instance {o m:Nat} {pl:List (Nat×Nat)}:PlAt ((o,m)::pl) 0 o m:=⟨rfl⟩
instance {x:Nat×Nat} {f o m:Nat} {pl:List (Nat×Nat)} [h:PlAt pl f o m]:PlAt (x::pl) (f+1) o m:=⟨by simpa using h.at_⟩
class StT (P:Program) (t:TypeId) (pl:outParam (List (Nat×Nat))) (zs:outParam (List Value)):Prop where built:∀ ps,P.built t ps=Instr.fill (pl.toArray[·]?) zs.toArray ps
theorem StT.mk'{P:Program}{t:Nat}{pl:List (Nat×Nat)}{zs:List Value}{z:Value}{fs:Array Field}(hu:P.underlying t=some (.struct fs))(hz:((P.info? t).bind (·.zero))=some z)(hzc:z.cells=zs.toArray)(hp:fs.toList.mapM (fun f=>(P.info? f.type).map fun i=>(f.offset,i.size))=some pl):StT P t pl zs:=⟨fun ps=>by
  cases hi:P.info? t with
  |none=>simp [hi] at hz
  |some i=>
    simp [hi] at hz
    simp [Program.built,hi,hz,hu,hp,hzc]⟩
class Fill (pl:List (Nat×Nat)) (zs:List Value) (ps:List (Nat×Value)) (cs:outParam (List Value)):Prop where
  eq:Instr.fill (pl.toArray[·]?) zs.toArray ps=some cs.toArray
instance {pl:List (Nat×Nat)} {zs:List Value}:Fill pl zs [] zs:=⟨rfl⟩
theorem fold_put_list:∀ (l:List Value) (k:Nat) (acc:Array Value),((l.zipIdx k).foldl (fun cs (x:Value×Nat)=>cs.setIfInBounds x.2 x.1) acc).toList=(l.zipIdx k).foldl (fun(a:List Value) (x:Value×Nat)=>a.set x.2 x.1) acc.toList
  |[],k,acc=>rfl
  |a::l,k,acc=>by
    simp only [List.zipIdx_cons,List.foldl_cons]
    rw [fold_put_list l (k+1) (acc.setIfInBounds k a),Array.toList_setIfInBounds]
theorem zipIdx_fold_shift(off:Nat):∀ (l:List Value) (k:Nat) (acc:Array Value),(l.zipIdx k).foldl (fun cs (x:Value×Nat)=>cs.setIfInBounds (off+x.2) x.1) acc=(l.zipIdx (off+k)).foldl (fun cs (x:Value×Nat)=>cs.setIfInBounds x.2 x.1) acc
  |[],_,_=>rfl
  |a::l,k,acc=>by
    simp only [List.zipIdx_cons,List.foldl_cons]
    rw [zipIdx_fold_shift off l (k+1)]
    rfl
class Len (cs:List Value) (n:outParam Nat):Prop where eq:cs.length=n
instance:Len [] 0:=⟨rfl⟩
instance {v:Value} {cs:List Value} {n:Nat} [h:Len cs n]:Len (v::cs) (n+1):=⟨by simp [h.eq]⟩
theorem Fill.step{pl:List (Nat×Nat)}{f off m:Nat}{zs zs' vs cs:List Value}{v:Value}{ps:List (Nat×Value)}(h1:PlAt pl f off m)(h2:CellsOf v vs)(h3:vs.length=m)(h7:PutAts zs off vs zs')(h8:Fill pl zs' ps cs)(hm:0<m):Fill pl zs ((f,v)::ps) cs:=⟨by
  have hsz:v.cells.size=m:=by rw [h2.eq];simp [h3]
  have hle:=h7.le
  have hpl:pl.toArray[f]?=some (off,m):=by simpa using h1.at_
  simp only [Instr.fill,hpl]
  have hc: ¬((v.cells.size≠m||decide (off+v.cells.size>zs.toArray.size))=true):=by
    simp [hsz];omega
  rw [if_neg hc]
  have e:v.cells.zipIdx.foldl (fun cs (x:Value×Nat)=>cs.setIfInBounds (off+x.2) x.1) zs.toArray=zs'.toArray:=by
    rw [h2.eq,←Array.foldl_toList,Array.toList_zipIdx]
    rw [zipIdx_fold_shift]
    apply Array.ext'
    rw [fold_put_list]
    simpa using h7.eq
  rw [←h8.eq,←e]⟩
instance {pl:List (Nat×Nat)} {f off m:Nat} {zs zs' vs cs:List Value} {v:Value} {ps:List (Nat×Value)} [h1:PlAt pl f off (m+1)] [h2:CellsOf v vs] [h3:Len vs (m+1)] [h7:PutAts zs off vs zs'] [h8:Fill pl zs' ps cs]:Fill pl zs ((f,v)::ps) cs:=Fill.step h1 h2 h3.eq h7 h8 (Nat.succ_pos m)
theorem D.build{W:World→Prop}{t:Nat}{parts:Array (Nat×Operand)}{ps:List (Nat×Value)}{zs cs:List Value}{pl:List (Nat×Nat)}(hp:evps env parts.toList=some ps) [hst:StT C.P t pl zs] [hf:Fill pl zs ps cs]:Det C W env ⟨some d,.build t parts,ty,pos,af,gd⟩ (.agg cs.toArray):=⟨fun a w he _=>by
  have hp':=he.evps _ _ hp
  have hr:=run_build (P:=C.P) w t (parts.map fun(i,x)=>(i,a.eval x)) cs.toArray (by
    rw [hst.built]
    have:(parts.map fun(i,x)=>(i,a.eval x)).toList=ps:=by rw [Array.toList_map];exact hp'
    rw [this]
    exact hf.eq)
  simp only [execOp,Sem.run_bind,hr,Result.andThen_ok,Sem.run_pure]⟩
theorem XL.cmpT0{p:Prop} [Decidable p](ho:ops[i]?=some o)(hg:gok ops env o=some true)(hd:o.dst=some d)(hdn:Nat.blt d C.n.n=true)(h:Det C (fun _=>True) env o (.bool (decide p)))(hp:p)(k:XL C ops Q S r ((d,.bool true)::env) A):XL C ops Q S (.op .v0 i r) env A:=
  XL.det0 ho hg hd hdn (by simpa [hp] using h) k
theorem XL.cmpF0{p:Prop} [Decidable p](ho:ops[i]?=some o)(hg:gok ops env o=some true)(hd:o.dst=some d)(hdn:Nat.blt d C.n.n=true)(h:Det C (fun _=>True) env o (.bool (decide p)))(hp: ¬p)(k:XL C ops Q S r ((d,.bool false)::env) A):XL C ops Q S (.op .v0 i r) env A:=
  XL.det0 ho hg hd hdn (by simpa [hp] using h) k
def RV (C:Cx) (env:Env) (A:List Assn) (r:ResultVar) (v:Value):Prop:=∀ a w,EnvOK C.n env a→Conf C A w→(match r with
  | .tmp t=>pure (a.tmps.getD t undef)
  | .cell b t=>do loadVar t (←asAddr (a.tmps.getD b undef)):Sem Value).run C.P w= .ok v w
theorem Qh{t:Nat}(h:env.lookup t=some v):RV C env A (.tmp t) v:=fun a w he _=>by simp [he.getD h]
theorem RV.cell{b t g T' sz j:Nat}{cs:List Value}(h:env.lookup b=some (.pointer (some ⟨g,0,none⟩))) [ha:Ag C.P t] [hs:Sz C.P t sz] [hl:Loc A g cs T' j](hlen:(cs.length==sz)=true):RV C env A (.cell b t) (.agg cs.toArray):=fun a w he hc=>by
  have:=run_loadCells_list (P:=C.P) w ⟨g,0,none⟩ cs (fun j u hu=>by rw [at_add,Nat.zero_add];exact hc.cellAt hl.at_ hu)
  rw [show cs.length=sz by simpa using hlen] at this
  simp [he.getD h,asAddr,loadVar,ha.agg,hs.run,this]
theorem RV.cell1{b t g T' j:Nat}{u:Value}(h:env.lookup b=some (.pointer (some ⟨g,0,none⟩))) [ha:One C.P t] [hl:Loc A g [u] T' j]:RV C env A (.cell b t) u:=fun a w he hc=>by
  simp [he.getD h,asAddr,loadVar,ha.one,hc.cellAt (o:=0) hl.at_ rfl]
theorem Res.r0{fn:Func}(h:fn.results=#[]):Res C fn env A (.tuple #[]):=Res.none h
theorem Res.r1{fn:Func}{r1:ResultVar}(h:fn.results=#[r1])(h1:RV C env A r1 v):Res C fn env A v:=fun a w he hc=>by
  have e1:=h1 a w he hc
  simp only [results,h]
  simp only [Array.mapM_eq_mapM_toList,List.mapM_cons,List.mapM_nil,Sem.run_bind,Sem.run_map]
  cases r1<;>simp_all
theorem Res.r2{fn:Func}{r1 r2:ResultVar}{v2:Value}(h:fn.results=#[r1,r2])(h1:RV C env A r1 v)(h2:RV C env A r2 v2):Res C fn env A (.tuple #[v,v2]):=fun a w he hc=>by
  have e1:=h1 a w he hc
  have e2:=h2 a w he hc
  simp only [results,h]
  simp only [Array.mapM_eq_mapM_toList,List.mapM_cons,List.mapM_nil,Sem.run_bind,Sem.run_map]
  cases r1<;>cases r2<;>simp_all
theorem Res.r3{fn:Func}{r1 r2 r3:ResultVar}{v2 v3:Value}(h:fn.results=#[r1,r2,r3])(h1:RV C env A r1 v)(h2:RV C env A r2 v2)(h3:RV C env A r3 v3):Res C fn env A (.tuple #[v,v2,v3]):=fun a w he hc=>by
  have e1:=h1 a w he hc
  have e2:=h2 a w he hc
  have e3:=h3 a w he hc
  simp only [results,h]
  simp only [Array.mapM_eq_mapM_toList,List.mapM_cons,List.mapM_nil,Sem.run_bind,Sem.run_map]
  cases r1<;>cases r2<;>cases r3<;>simp_all
end Go.Lx
namespace Go.Lx
variable {C:Cx} {A A' A1 A2 B B':List Assn} {w:World} {Q:Exit→Act→World→Prop} {S:World→Prop} {env:Env} {ops:Array Oper} {r:Sd} {i d:Nat} {o:Oper} {v:Value} {cl:Cl}
variable {ty T:TypeId} {pos:String} {af:Array Edge} {gd:Option (Nat×Bool)} {x y:Operand}
theorem Conf.cellsOwn{g n sz:Nat}{cs:List Value}{T:TypeId}(h:Conf C (cells g cs T::A) w)(hl:(cs.length==n*sz&&decide (n≤1000000))=true):Conf C (own T sz (.slice (some ⟨g,0,none⟩) n n) n cs::A) w:=by
  obtain⟨hl1,hl2⟩:cs.length=n*sz∧n≤1000000:=by simpa using hl
  have:=h.update (i:=0) (p:=cells g cs T) (q:=own T sz (.slice (some ⟨g,0,none⟩) n n) n cs) rfl rfl rfl rfl (Nat.le_refl _) (Nat.le_refl _) fun F ⟨h1,hF⟩=>⟨F,⟨⟨hl1,.inr ⟨g,n,cs.toArray,rfl,Nat.zero_le _,h1,Nat.le_refl _,by unfold maxLen;omega,by simpa using hl1,by simp [←hl1]⟩⟩,fun b=>by rw [hF b];simp [Value.ownBlock,eq_comm]⟩,fun b hb=> .inl hb,fun _ _ _=>rfl⟩
  simpa using this
theorem XL.slice0{e sz:Nat}(ho:ops[i]?=some ⟨some d,.buildSlice T 0 #[],ty,pos,af,gd⟩)(hg:gok ops env ⟨some d,.buildSlice T 0 #[],ty,pos,af,gd⟩=some true)(hdn:Nat.blt d C.n.n=true)
    [ht:SlT C.P T e] [hs:Sz C.P e sz] (haf:∀ g,After cl S C (own e sz (.slice (some ⟨g,0,none⟩) 0 0) 0 []::A):=by intro g;infer_instance)
    (k:∀ g,XL C ops Q S r ((d,.slice (some ⟨g,0,none⟩) 0 0)::env) (own e sz (.slice (some ⟨g,0,none⟩) 0 0) 0 []::A)):XL C ops Q S (.op cl i r) env A:=by
  refine XL.chg ho hg rfl hdn fun a w he hc=>?_
  refine⟨_,_,_, ?_,(hc.alloc [] e).cellsOwn (n:=0) (sz:=sz) (by simp),haf _,k _⟩
  simp [execOp,Instr.buildSlice,run_underlying ht.und,hs.run,newRow,Instr.fill,Array.range_zero']
def lits {α:Type} (val:α→Value):Nat→List α→List (Nat×Value)
  |_,[]=>[]
  |k,x::xs=>(k,val x)::lits val (k+1) xs
theorem fill_lits{α:Type}(val:α→Value)(f:α→List Value)(sz:Nat)(hvf:∀ x,(val x).cells=(f x).toArray)(hf:∀ x,(f x).length=sz):∀ (xs:List α) (k:Nat) (acc:Array Value),acc.size=(k+xs.length)*sz→
    Instr.fill (fun i=>some (i*sz,sz)) acc (lits val k xs)=some (acc.toList.take (k*sz)++xs.flatMap f).toArray
  |[],k,acc,h=>by
    simp only [lits,Instr.fill,List.flatMap_nil,List.append_nil]
    rw [List.take_of_length_le (by simp at h ⊢;omega)]
  |x::xs,k,acc,h=>by
    have hle:(k+(x::xs).length)*sz=k*sz+sz+xs.length*sz:=by simp only [List.length_cons,Nat.add_mul];omega
    have h1: ¬(((f x).toArray.size≠sz||decide (k*sz+(f x).toArray.size>acc.size))=true):=by simp [hf];omega
    simp only [lits,Instr.fill,hvf,if_neg h1]
    have e:(f x).toArray.zipIdx.foldl (fun cs (p:Value×Nat)=>cs.setIfInBounds (k*sz+p.2) p.1) acc=(acc.toList.take (k*sz)++f x++acc.toList.drop (k*sz+sz)).toArray:=by
      rw [←Array.foldl_toList,Array.toList_zipIdx,zipIdx_fold_shift]
      apply Array.ext'
      rw [fold_put_list]
      exact fold_set_seg (f x) (k*sz) acc.toList sz (hf x) (by simp;omega)
    rw [e,fill_lits val f sz hvf hf xs (k+1) _ (by simp [hf];rw [hle] at h;rw [Nat.add_mul,Nat.add_mul];omega)]
    have e2:(k+1)*sz=(acc.toList.take (k*sz)++f x).length:=by simp [hf,Nat.add_mul];omega
    congr 2
    rw [e2,List.take_left]
    simp
where
  fold_set_seg:∀ (l:List Value) (k:Nat) (acc:List Value) (sz:Nat),l.length=sz→k+sz≤acc.length→(l.zipIdx k).foldl (fun(a:List Value) (x:Value×Nat)=>a.set x.2 x.1) acc=acc.take k++l++acc.drop (k+sz)
  |[],k,acc,sz,h,_=>by simp at h;subst h;simp
  |a::l,k,acc,sz,h,hk=>by
    simp only [List.length_cons] at h
    simp only [List.zipIdx_cons,List.foldl_cons]
    rw [fold_set_seg l (k+1) (acc.set k a) l.length rfl (by simp;omega)]
    have:=list_seg_step acc k a l (by omega)
    rw [←h]
    simpa using this
theorem XL.sliceL{α:Type}{e sz len:Nat}{parts:Array (Nat×Operand)}(val:α→Value)(f:α→List Value)(xs:List α)(hvf:∀ x,(val x).cells=(f x).toArray)(hf:∀ x,(f x).length=sz)(ho:ops[i]?=some ⟨some d,.buildSlice T len parts,ty,pos,af,gd⟩)(hg:gok ops env ⟨some d,.buildSlice T len parts,ty,pos,af,gd⟩=some true)(hdn:Nat.blt d C.n.n=true)
    [ht:SlT C.P T e] [hs:Sz C.P e sz] {zs:List Value} [hz:Zc C.P e zs] (hlen:xs.length=len) (hv:evps env parts.toList=some (lits val 0 xs)) (hsm:(decide (len*sz≤1000000)&&decide (len≤1000000)&& !(len*sz==0))=true)
    (haf:∀ g,After cl S C (own e sz (.slice (some ⟨g,0,none⟩) len len) len (xs.flatMap f)::A)) (k:∀ g,XL C ops Q S r ((d,.slice (some ⟨g,0,none⟩) len len)::env) (own e sz (.slice (some ⟨g,0,none⟩) len len) len (xs.flatMap f)::A)):XL C ops Q S (.op cl i r) env A:=by
  subst hlen
  obtain⟨⟨h1,h2⟩,h3⟩:(xs.length*sz≤1000000∧xs.length≤1000000)∧ ¬xs.length*sz=0:=by simpa using hsm
  refine XL.chg ho hg rfl hdn fun a w he hc=>?_
  obtain⟨z,hrun,hcs⟩:=hz.run
  have hl:=flat_len f sz hf xs
  refine⟨_,_,_, ?_,(hc.alloc (xs.flatMap f) e).cellsOwn (n:=xs.length) (sz:=sz) (by simp [hl];omega),haf _,k _⟩
  have h1': ¬xs.length*sz>2^24:=by omega
  have hp:List.map (fun x=>(x.1,a.eval x.2)) parts.toList=lits val 0 xs:=he.evps _ _ hv
  have hfl:=fill_lits val f sz hvf hf xs 0 ((Array.range (xs.length*sz)).map (zs.toArray[· %zs.toArray.size]!)) (by simp)
  simp only [Nat.zero_mul,List.take_zero,List.nil_append] at hfl
  simp only [execOp]
  have hrun2:(Instr.buildSlice T xs.length (parts.map fun(i,x)=>(i,a.eval x))).run C.P w= .ok (.slice (some ⟨w.heap.size,0,none⟩) xs.length xs.length) (w.alloc (.cells (xs.flatMap f).toArray e)):=by
    simp [Instr.buildSlice,run_underlying ht.und,hs.run,h1',h3,hrun,hcs,newRow]
    rw [hp]
    simp at hfl
    simp [hfl]
  simp [hrun2]
def putAt (xs:List Value) (o:Nat) (cs:List Value):List Value:=xs.take o++cs++xs.drop (o+cs.length)
theorem putAt_flat{α:Type}(f:α→List Value)(sz:Nat)(hf:∀ x,(f x).length=sz)(x:α):∀ (l:List α) (k:Nat),k<l.length→putAt (l.flatMap f) (k*sz) (f x)=(l.set k x).flatMap f
  |[],k,h=>by simp at h
  |y::ys,0,_=>by
    unfold putAt
    simp only [Nat.zero_mul,List.take_zero,List.nil_append,Nat.zero_add,List.set_cons_zero,List.flatMap_cons]
    rw [hf x,←hf y,List.drop_left]
  |y::ys,k+1,h=>by
    have ih:=putAt_flat f sz hf x ys k (by simpa using h)
    unfold putAt at ih ⊢
    simp only [List.set_cons_succ,List.flatMap_cons]
    rw [←ih,hf x]
    have e1:(k+1)*sz=(f y).length+k*sz:=by rw [hf,Nat.add_mul];omega
    rw [e1,List.take_append,List.drop_append]
    rw [List.take_of_length_le (Nat.le_add_right _ _),List.drop_of_length_le (by omega)]
    have e2:(f y).length+k*sz-(f y).length=k*sz:=by omega
    have e3:(f y).length+k*sz+sz-(f y).length=k*sz+sz:=by omega
    rw [e2,e3]
    simp
class OwnA (A:List Assn) (a:Option Addr) (n c:outParam Nat) (T:outParam TypeId) (sz:outParam Nat) (xs:outParam (List Value)) (i:outParam Nat):Prop where at_:A[i]?=some (own T sz (.slice a n c) n xs)
instance {A:List Assn} {a:Option Addr} {n c:Nat} {T:TypeId} {sz:Nat} {xs:List Value}:OwnA (own T sz (.slice a n c) n xs::A) a n c T sz xs 0:=⟨rfl⟩
instance (priority:=low) {A:List Assn} {p:Assn} {a:Option Addr} {n c:Nat} {T:TypeId} {sz:Nat} {xs:List Value} {i:Nat} [h:OwnA A a n c T sz xs i]:OwnA (p::A) a n c T sz xs (i+1):=⟨by simpa using h.at_⟩
theorem Conf.putOwn{a:Option Addr}{n c sz j k:Nat}{xs cs:List Value}(h:Conf C A w)(hi:A[j]?=some (own T sz (.slice a n c) n xs))(hk:k+cs.length≤xs.length)(h0:0<cs.length)(h1:∀ u∈cs,u.oneCell'=true):
    ∃ w',(storeCells (el a k) cs 0).run C.P w= .ok () w'∧Conf C (A.set j (own T sz (.slice a n c) n (putAt xs k cs))) w':=by
  obtain⟨F,⟨⟨hl,ho⟩,hF⟩,_⟩:=h.get hi
  rcases ho with⟨he,hn⟩|⟨g,cap,cur,he,_,hg,hnc,hcm,hcs,htake⟩
  · subst hn
    exfalso
    simp only [Nat.zero_mul] at hl
    omega
  · cases he
    have hle:n*sz≤cur.size:=by rw [hcs];exact Nat.mul_le_mul_right _ hnc
    have hel:el (some ⟨g,0,none⟩) k=⟨g,k,none⟩:=by simp [el,at_add]
    have hst:=run_storeCells_at C.P g k T cs 0 cur w hg (by omega) h1
    simp only [Nat.add_zero] at hst
    refine⟨_,hel▸hst, ?_⟩
    refine h.update hi rfl rfl rfl (by simp [World.setRow]) (Nat.le_refl _) fun F' ⟨_,hF'⟩=>⟨F',⟨⟨?_,.inr ⟨g,c,_,rfl,Nat.zero_le _,setRow_heap w g cur _ T _ hg,hnc,hcm, ?_, ?_⟩⟩,hF'⟩,fun b hb=> .inl hb,fun b hb hn=>setRow_other w g _ b (fun e=>hn ((hF' b).2 (by simp [Value.ownBlock,e])))⟩
    · unfold putAt
      simp only [List.length_append,List.length_take,List.length_drop]
      omega
    · simp only [List.size_toArray,List.length_append,List.length_take,List.length_drop,Array.length_toList]
      omega
    · have hx:xs=cur.toList.take (n*sz):=htake.symm
      unfold putAt
      rw [hx]
      apply List.ext_getElem?
      intro t
      have hcl:cur.toList.length=cur.size:=by simp
      have hlx:k+cs.length≤n*sz:=by omega
      by_cases ht:t<n*sz
      · rw [List.getElem?_take,if_pos ht]
        simp only [List.getElem?_append,List.length_append,List.length_take,List.getElem?_take,List.getElem?_drop,hcl]
        by_cases h1:t<k
        · have e1:t<min k cur.size:=by omega
          have e2:t<min k (min (n*sz) cur.size):=by omega
          have e3:t<min k cur.size+cs.length:=by omega
          have e4:t<min k (min (n*sz) cur.size)+cs.length:=by omega
          simp [e1,e2,e3,e4,h1,ht]
        · by_cases h2:t<k+cs.length
          · have e1: ¬t<min k cur.size:=by omega
            have e2: ¬t<min k (min (n*sz) cur.size):=by omega
            have e3:t<min k cur.size+cs.length:=by omega
            have e4:t<min k (min (n*sz) cur.size)+cs.length:=by omega
            simp only [if_neg e1,if_neg e2,if_pos e3,if_pos e4]
            congr 1
            omega
          · have e3: ¬t<min k cur.size+cs.length:=by omega
            have e4: ¬t<min k (min (n*sz) cur.size)+cs.length:=by omega
            have e5:k+cs.length+(t-(min k (min (n*sz) cur.size)+cs.length))<n*sz:=by omega
            simp only [if_neg e3,if_neg e4,if_pos e5]
            congr 1
            omega
      · rw [List.getElem?_eq_none (by simp;omega),List.getElem?_eq_none (by simp;omega)]
theorem XL.storeE{a:Option Addr}{n c sz sz' j k0:Nat}{T':TypeId}{xs cs:List Value}{u:Value}(xs':List Value)(ho:ops[i]?=some ⟨none,.store T x y,ty,pos,af,gd⟩)(hg:gok ops env ⟨none,.store T x y,ty,pos,af,gd⟩=some true)(hx:ev env x=some (.pointer (some (el a k0))))(hy:ev env y=some u)
    [hs:Sz C.P T sz'] [hu:CellsOf u cs] (hc1:(cs.length==sz'&&cs.all (·.oneCell')&&decide (0<sz'))=true) [hl:OwnA A a n c T' sz xs j] (hk:k0+sz'≤n*sz) (hp:putAt xs k0 cs=xs')
    [hupd:Upd A j (own T' sz (.slice a n c) n xs') A'] [haf:After cl S C A'] (k:XL C ops Q S r env A'):XL C ops Q S (.op cl i r) env A:=by
  subst hp
  obtain⟨⟨h1,h2⟩,h3⟩:(cs.length=sz'∧∀ u∈cs,u.oneCell'=true)∧0<sz':=by simpa using hc1
  refine XL.chg0 ho hg rfl fun ac w he hc=>?_
  obtain⟨F,⟨⟨hlen,_⟩,_⟩,_⟩:=hc.get hl.at_
  obtain⟨w',hr,hc'⟩:=hc.putOwn (k:=k0) (cs:=cs) hl.at_ (by omega) (by omega) h2
  refine⟨A',w', ?_,by rw [←hupd.eq];exact hc',haf,k⟩
  simp [execOp,he.ev hx,he.ev hy,Instr.storeAt,Instr.sureAddr,storeVar,hu.eq,hs.run,h1,hr]
theorem XL.appendR{t e sz bytes n c m c2:Nat}{a a2:Option Addr}{xs news:List Value}(ho:ops[i]?=some ⟨some d,.call ⟨.builtin .append,#[x,y],#[t,t]⟩,ty,pos,af,gd⟩)(hg:gok ops env ⟨some d,.call ⟨.builtin .append,#[x,y],#[t,t]⟩,ty,pos,af,gd⟩=some true)(hdn:Nat.blt d C.n.n=true)
    [ht:SlT C.P t e] [he:ElT C.P e sz bytes] (hx:ev env x=some (.slice a n c)) (hy:ev env y=some (.slice a2 m c2)) {j:Nat}
    [ho2:OwnAt A (.slice a n c) e sz n xs j] [t1:Take A (own e sz (.slice a n c) n xs) A1]
    (hsrc:∀ w,Conf C A w→Rd w sz a2 m c2 news) (h1:∀ u∈news,u.oneCell'=true) (h63:n+m≤maxLen∧(n+m)*bytes≤140737488355328)
    (haf:∀ a' c',After cl S C (own e sz (.slice a' (n+m) c') (n+m) (xs++news)::A1))
    (k:∀ a' c',XL C ops Q S r ((d,.slice a' (n+m) c')::env) (own e sz (.slice a' (n+m) c') (n+m) (xs++news)::A1)):XL C ops Q S (.op cl i r) env A:=by
  refine XL.chg ho hg rfl hdn fun ac w hE hc=>?_
  have hc2:=hc.perm t1.perm
  have hrd:=hsrc w hc
  have hs:Src w sz (.slice a2 m c2) m news:=by
    refine⟨hrd.len, ?_⟩
    cases a2 with
    |none=>
      have:m=0:=by
        rcases Nat.eq_zero_or_pos m with h|h
        · exact h
        · have:=hrd.sm h;simp at this
      subst this
      exact .inr ⟨c2,rfl,rfl⟩
    |some p=>exact .inl ⟨p,c2,rfl,fun j u hu=>hrd.cell j u hu⟩
  obtain⟨F,hF,_⟩:=hc2.get (i:=0) rfl
  obtain⟨a',c',w',hr,h2,h3,hdr,h4⟩:=append_own (P:=C.P) t ty e sz bytes (.slice a n c) n xs hF.1 _ m news hs h1 h63.1 h63.2
  refine⟨_,_,w', ?_,hc2.appended h2 h3 hdr h4,haf a' c',k a' c'⟩
  simp [execOp,resolve,invoke,builtin,hE.ev hx,hE.ev hy,hr]
namespace D
variable {W:World→Prop} {t u:TypeId} {ds:Option Tmp}
theorem conv{t2:TypeId}{k k':IntKind}{m:Int} [h1:IntT C.P t k'] [h2:IntT C.P t2 k](hx:ev env x=some (.int k' m)):Det C W env ⟨ds,.convert t t2 x,ty,pos,af,gd⟩ (.int k (k.wrap m)):=⟨fun ac w he _=>by
  simp [execOp,he.ev hx,convert,run_underlying h1.und,run_underlying h2.und,Conv.intToInt]⟩
theorem eqNilS{e n c:Nat}{a:Option Addr} [h:SlT C.P t e](hx:ev env x=some (.slice a n c))(hy:ev env y=some (.slice none 0 0)):Det C W env ⟨ds,.binOp .eql t x y u,ty,pos,af,gd⟩ (.bool a.isNone):=⟨fun ac w he _=>by
  simp [execOp,he.ev hx,he.ev hy,eqGuard,binOp,run_equal_slice_nil w t e a n c h.und]⟩
theorem rem{k:IntKind}{a b:Int}(hx:ev env x=some (.int k a))(hy:ev env y=some (.int k b))(hb:b≠0):Det C W env ⟨ds,.binOp .rem t x y u,ty,pos,af,gd⟩ (.int k (a.tmod b)):=⟨fun ac w he _=>by
  simp [execOp,he.ev hx,he.ev hy,eqGuard,binOp,Op.intDiv,hb]⟩
theorem quo{k:IntKind}{a b:Int}(hx:ev env x=some (.int k a))(hy:ev env y=some (.int k b))(hb:b≠0):Det C W env ⟨ds,.binOp .quo t x y u,ty,pos,af,gd⟩ (.int k (k.wrap (a.tdiv b))):=⟨fun ac w he _=>by
  simp [execOp,he.ev hx,he.ev hy,eqGuard,binOp,Op.intDiv,hb]⟩
end D
def cellsI (ks:List IntKind) (as:List Int):List Value:=List.zipWith Value.int ks as
class EqS (P:Program) (t:TypeId) (ks:outParam (List IntKind)):Prop where
  guard:P.eqGuardType P.depth t=false
  eq:∀ (as bs:List Int) (w:World),as.length=ks.length→bs.length=ks.length→(Op.equalIn 10000 t (.agg (cellsI ks as).toArray) (.agg (cellsI ks bs).toArray)).run P w= .ok (decide (as=bs)) w
theorem eqFields_ints{P:Program}(d:Nat)(xs ys:Array Value)(w:World):∀ (fs:List Field) (ks:List IntKind) (i:Nat) (as bs:List Int),(fs.zipIdx i).map (fun(p:Field×Nat)=>(p.1.name != "_" &&p.1.offset==p.2,P.underlying p.1.type))=ks.map (fun k=>(true,some (TypeDesc.int k)))→
    as.length=ks.length→bs.length=ks.length→(∀ j,(cellsI ks as)[j]?=xs[i+j]?∨ks.length≤j)→(∀ j,(cellsI ks bs)[j]?=ys[i+j]?∨ks.length≤j)→(Op.eqFields (d+1) xs ys fs).run P w= .ok (decide (as=bs)) w
  |[],ks,i,as,bs,h,ha,hb,_,_=>by
    have:ks=[]:=by cases ks with
      |nil=>rfl
      |cons k ks=>simp at h
    subst this
    have h1:as=[]:=List.length_eq_zero_iff.1 ha
    have h2:bs=[]:=List.length_eq_zero_iff.1 hb
    subst h1 h2
    simp [Op.eqFields]
  |f::fs,ks,i,as,bs,h,ha,hb,hx,hy=>by
    cases ks with
    |nil=>simp at h
    |cons k ks=>cases as with
      |nil=>simp at ha
      |cons a as=>cases bs with
        |nil=>simp at hb
        |cons b bs=>
          simp only [List.zipIdx_cons,List.map_cons,List.cons.injEq,Prod.mk.injEq,Bool.and_eq_true,bne_iff_ne,beq_iff_eq] at h
          obtain⟨⟨⟨hn,ho⟩,hu⟩,hr⟩:=h
          have hx0:xs[i]?=some (.int k a):=by
            have:=(hx 0).resolve_right (by simp)
            simpa [cellsI] using this.symm
          have hy0:ys[i]?=some (.int k b):=by
            have:=(hy 0).resolve_right (by simp)
            simpa [cellsI] using this.symm
          have ih:=eqFields_ints (P:=P) d xs ys w fs ks (i+1) as bs hr (by simpa using ha) (by simpa using hb)
            (fun j=>by
              rcases hx (j+1) with h1|h1
              · left;rw [show i+1+j=i+(j+1) by omega,←h1];simp [cellsI]
              · right;simp at h1;omega)
            (fun j=>by
              rcases hy (j+1) with h1|h1
              · left;rw [show i+1+j=i+(j+1) by omega,←h1];simp [cellsI]
              · right;simp at h1;omega)
          have hpx:(part f.type xs f.offset).run P w= .ok (.int k a) w:=by simp [part,isAgg,run_underlying hu,ho,hx0]
          have hpy:(part f.type ys f.offset).run P w= .ok (.int k b) w:=by simp [part,isAgg,run_underlying hu,ho,hy0]
          simp only [Op.eqFields,hn,ne_eq,not_false_eq_true,if_true,Sem.run_bind,hpx,hpy,Result.andThen_ok,run_equalIn_int w d f.type k k a b hu]
          by_cases e:a=b
          · subst e
            simp [ih]
          · simp [e]
theorem EqS.mk'{P:Program}{t:Nat}{fs:Array Field}{ks:List IntKind}(hu:P.underlying t=some (.struct fs))(hs:P.stoodInHeld t=false)(hg:P.eqGuardType P.depth t=false)
    (hk:(fs.toList.zipIdx 0).map (fun(p:Field×Nat)=>(p.1.name != "_" &&p.1.offset==p.2,P.underlying p.1.type))=ks.map (fun k=>(true,some (TypeDesc.int k)))):EqS P t ks:=⟨hg,fun as bs w ha hb=>by
  have hf:P.fieldsOf t=fs:=by simp [Program.fieldsOf,hu]
  rw [run_equalIn_struct w 9999 t _ _ (by rw [hf];exact hu) hs,hf]
  exact eqFields_ints 9998 _ _ w fs.toList ks 0 as bs hk ha hb (fun j=> .inl (by simp)) (fun j=> .inl (by simp))⟩
namespace D
variable {W:World→Prop} {t u:TypeId} {ds:Option Tmp} {k0 k1 k2 k3:IntKind} {a0 a1 a2 a3 b0 b1 b2 b3:Int}
theorem eqS{ks:List IntKind}(as bs:List Int) [h:EqS C.P t ks](ha:as.length=ks.length)(hb:bs.length=ks.length)(hx:ev env x=some (.agg (cellsI ks as).toArray))(hy:ev env y=some (.agg (cellsI ks bs).toArray)):Det C W env ⟨ds,.binOp .eql t x y u,ty,pos,af,gd⟩ (.bool (decide (as=bs))):=⟨fun ac w he _=>by
  simp only [execOp,he.ev hx,he.ev hy,Sem.run_bind,run_eqGuard_agg w .eql t x y _ _ h.guard,Result.andThen_ok,run_eql_struct,h.eq as bs w ha hb,Sem.run_pure]⟩
theorem neS{ks:List IntKind}(as bs:List Int) [h:EqS C.P t ks](ha:as.length=ks.length)(hb:bs.length=ks.length)(hx:ev env x=some (.agg (cellsI ks as).toArray))(hy:ev env y=some (.agg (cellsI ks bs).toArray)):Det C W env ⟨ds,.binOp .neq t x y u,ty,pos,af,gd⟩ (.bool (decide (¬as=bs))):=⟨fun ac w he _=>by
  simp only [execOp,he.ev hx,he.ev hy,Sem.run_bind,run_eqGuard_agg w .neq t x y _ _ h.guard,Result.andThen_ok,run_neq_struct,h.eq as bs w ha hb,Sem.run_pure,decide_not]⟩
theorem eqS2 [h:EqS C.P t [k0,k1]](hx:ev env x=some (.agg #[.int k0 a0,.int k1 a1]))(hy:ev env y=some (.agg #[.int k0 b0,.int k1 b1])):Det C W env ⟨ds,.binOp .eql t x y u,ty,pos,af,gd⟩ (.bool (decide (a0=b0∧a1=b1))):=by
  have:=eqS (C:=C) (W:=W) (env:=env) (ty:=ty) (pos:=pos) (af:=af) (gd:=gd) (ds:=ds) (u:=u) (x:=x) (y:=y) [a0,a1] [b0,b1] (h:=h) rfl rfl hx hy
  simpa using this
theorem neS2 [h:EqS C.P t [k0,k1]](hx:ev env x=some (.agg #[.int k0 a0,.int k1 a1]))(hy:ev env y=some (.agg #[.int k0 b0,.int k1 b1])):Det C W env ⟨ds,.binOp .neq t x y u,ty,pos,af,gd⟩ (.bool (decide (¬(a0=b0∧a1=b1)))):=by
  have:=neS (C:=C) (W:=W) (env:=env) (ty:=ty) (pos:=pos) (af:=af) (gd:=gd) (ds:=ds) (u:=u) (x:=x) (y:=y) [a0,a1] [b0,b1] (h:=h) rfl rfl hx hy
  simpa using this
end D
end Go.Lx
