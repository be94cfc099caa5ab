import Derived.Test.YtakoppmiegjjlaaGreatDoorF2
import Derived.Test.YtakoppmiegjjlaaGreatDoorF4
import Derived.KernelRfl
set_option linter.unusedVariables false
set_option linter.unusedSimpArgs false
set_option maxRecDepth 100000
namespace Go.Lx
inductive Lf where
  |I (k:IntKind)
  |S
  |B
def Lf.desc:Lf→TypeDesc
  | .I k=> .int k
  | .S=> .string
  | .B=> .bool
def Lf.fit:Lf→Value→Prop
  | .I k,v=>∃ a,v= .int k a
  | .S,v=>∃ a,v= .string a
  | .B,v=>∃ a,v= .bool a
def Fits:List Lf→List Value→Prop
  |[],[]=>True
  |l::ls,c::cs=>l.fit c∧Fits ls cs
  |_,_=>False
def eqv:Value→Value→Bool
  | .int _ a,.int _ b=>decide (a=b)
  | .string a,.string b=>decide (a=b)
  | .bool a,.bool b=>decide (a=b)
  |_,_=>false
def eqvs:List Value→List Value→Bool
  |[],[]=>true
  |a::as9,b::bs=>eqv a b&&eqvs as9 bs
  |_,_=>false
theorem Fits.length:∀ {ls:List Lf} {cs:List Value},Fits ls cs→cs.length=ls.length
  |[],[],_=>rfl
  |l::ls,c::cs,h=>by simp [Fits.length h.2]
  |[],c::cs,h=>h.elim
  |l::ls,[],h=>h.elim
theorem fits_append:∀ {l1 l2:List Lf} {cs:List Value},Fits (l1++l2) cs→∃ c1 c2,cs=c1++c2∧Fits l1 c1∧Fits l2 c2
  |[],l2,cs,h=>⟨[],cs,rfl,trivial,h⟩
  |l::l1,l2,[],h=>h.elim
  |l::l1,l2,c::cs,h=>by
    obtain⟨c1,c2,rfl,h1,h2⟩:=fits_append h.2
    exact⟨c::c1,c2,rfl,⟨h.1,h1⟩,h2⟩
theorem eqvs_append:∀ {a b c d:List Value},a.length=b.length→eqvs (a++c) (b++d)=(eqvs a b&&eqvs c d)
  |[],[],c,d,_=>by simp [eqvs]
  |x::a,y::b,c,d,h=>by
    simp only [List.cons_append,eqvs,eqvs_append (a:=a) (b:=b) (by simpa using h),Bool.and_assoc]
  |[],y::b,_,_,h=>by simp at h
  |x::a,[],_,_,h=>by simp at h
class EqC (P:Program) (t:TypeId) (n:outParam Nat) (ls:outParam (List Lf)):Prop where
  guard:P.eqGuardType P.depth t=false
  eq:∀ (d:Nat) (cs ds:List Value) (w:World),Fits ls cs→Fits ls ds→(Op.equalIn (d+n) t (.agg cs.toArray) (.agg ds.toArray)).run P w= .ok (eqvs cs ds) w
theorem beq_bytes(x y:ByteArray):(x==y)=decide (x=y):=by
  obtain⟨x⟩:=x
  obtain⟨y⟩:=y
  show(x==y)=decide (ByteArray.mk x=ByteArray.mk y)
  simp only [ByteArray.mk.injEq]
  by_cases e:x=y
  · subst e;simp
  · simp [e]
theorem leaf_eq{P:Program}(d:Nat)(t:TypeId)(l:Lf)(h:P.underlying t=some l.desc)(a b:Value)(w:World)(ha:l.fit a)(hb:l.fit b):(Op.equalIn (d+1) t a b).run P w= .ok (eqv a b) w:=by
  cases l with
  |I k=>
    obtain⟨x,rfl⟩:=ha
    obtain⟨y,rfl⟩:=hb
    rw [run_equalIn_int w d t k k x y h]
    congr 1
  |S=>
    obtain⟨x,rfl⟩:=ha
    obtain⟨y,rfl⟩:=hb
    rw [run_equalIn_string w d t x y h]
    congr 1
    rw [←beq_toListBytes]
    exact beq_bytes x y
  |B=>
    obtain⟨x,rfl⟩:=ha
    obtain⟨y,rfl⟩:=hb
    rw [run_equalIn_bool' w d t x y h]
    congr 1
inductive FieldsC (P:Program):List Field→Nat→Nat→List Lf→Prop where
  |nil {i n:Nat}:FieldsC P [] i n []
  |leaf {f:Field} {fs:List Field} {i n:Nat} {ls:List Lf} (l:Lf) (hn:(f.name != "_" &&f.offset==i)=true) (hu:P.underlying f.type=some l.desc) (r:FieldsC P fs (i+1) n ls):FieldsC P (f::fs) i n (l::ls)
  |sub {f:Field} {fs:List Field} {i n m:Nat} {l1 ls:List Lf} (hn:(f.name != "_" &&f.offset==i)=true) (he:EqC P f.type m l1) (hm:m≤n) (hs:Sz P f.type l1.length) (ha:Ag P f.type) (r:FieldsC P fs (i+l1.length) n ls):FieldsC P (f::fs) i n (l1++ls)
theorem eqFields_of{P:Program}{n:Nat}(d:Nat):∀ {fs:List Field} {i:Nat} {ls:List Lf},FieldsC P fs i n ls→∀ (pa pb cs ds:List Value) (w:World),pa.length=i→pb.length=i→Fits ls cs→Fits ls ds→
    (Op.eqFields (d+(n+1)) (pa++cs).toArray (pb++ds).toArray fs).run P w= .ok (eqvs cs ds) w:=by
  intro fs i ls h
  induction h with
  |nil=>
    intro pa pb cs ds w _ _ hc hd
    cases cs with
    |nil=>cases ds with
      |nil=>simp [Op.eqFields,eqvs]
      |cons _ _=>exact hd.elim
    |cons _ _=>exact hc.elim
  | @leaf f fs i n ls l hn hu r ih=>
    intro pa pb cs ds w ha hb hc hd
    simp only [Bool.and_eq_true,bne_iff_ne,beq_iff_eq] at hn
    obtain⟨hn,ho⟩:=hn
    cases cs with
    |nil=>exact hc.elim
    |cons c cs=>cases ds with
      |nil=>exact hd.elim
      |cons e ds=>
        have ih':=ih (pa++[c]) (pb++[e]) cs ds w (by simp [ha]) (by simp [hb]) hc.2 hd.2
        simp only [List.append_assoc,List.singleton_append] at ih'
        have one:(isAgg f.type).run P w= .ok false w:=by cases l<;>simp [isAgg,run_underlying hu,Lf.desc]
        have hpx:(part f.type (pa++c::cs).toArray f.offset).run P w= .ok c w:=by simp [part,one,ho,←ha]
        have hpy:(part f.type (pb++e::ds).toArray f.offset).run P w= .ok e w:=by simp [part,one,ho,←hb]
        simp only [Op.eqFields,hn,ne_eq,not_false_eq_true,if_true,Sem.run_bind,hpx,hpy,Result.andThen_ok]
        rw [show d+(n+1)=d+n+1 by omega,leaf_eq (d+n) f.type l hu c e w hc.1 hd.1,←show d+(n+1)=d+n+1 by omega]
        simp only [Result.andThen_ok,eqvs]
        cases eqv c e
        · simp
        · simpa using ih'
  | @sub f fs i n m l1 ls hn he hm hs hag r ih=>
    intro pa pb cs ds w ha hb hc hd
    simp only [Bool.and_eq_true,bne_iff_ne,beq_iff_eq] at hn
    obtain⟨hn,ho⟩:=hn
    obtain⟨c1,c2,rfl,f1,f2⟩:=fits_append hc
    obtain⟨d1,d2,rfl,g1,g2⟩:=fits_append hd
    have ih':=ih (pa++c1) (pb++d1) c2 d2 w (by simp [ha,f1.length]) (by simp [hb,g1.length]) f2 g2
    simp only [List.append_assoc] at ih'
    have ex:∀ (p c r:List Value),(p++(c++r)).toArray.extract p.length (p.length+c.length)=c.toArray:=fun p c r=>by
      apply Array.ext'
      simp
    have hpx:(part f.type (pa++(c1++c2)).toArray f.offset).run P w= .ok (.agg c1.toArray) w:=by
      have:=ex pa c1 c2
      rw [ha,f1.length] at this
      simp [part,hag.agg,hs.run,ho] at this ⊢
      exact this
    have hpy:(part f.type (pb++(d1++d2)).toArray f.offset).run P w= .ok (.agg d1.toArray) w:=by
      have:=ex pb d1 d2
      rw [hb,g1.length] at this
      simp [part,hag.agg,hs.run,ho] at this ⊢
      exact this
    have heq:=he.eq (d+(n+1)-m) c1 d1 w f1 g1
    rw [show d+(n+1)-m+m=d+(n+1) by omega] at heq
    simp only [Op.eqFields,hn,ne_eq,not_false_eq_true,if_true,Sem.run_bind,hpx,hpy,Result.andThen_ok,heq]
    rw [eqvs_append (by rw [f1.length,g1.length])]
    cases eqvs c1 d1
    · simp
    · simpa using ih'
theorem EqC.mk'{P:Program}{t n:Nat}{fs:Array Field}{ls:List Lf}(hu:P.underlying t=some (.struct fs))(hs:P.stoodInHeld t=false)(hg:P.eqGuardType P.depth t=false)(hf:FieldsC P fs.toList 0 n ls):EqC P t (n+2) ls:=⟨hg,fun d cs ds w hc hd=>by
  have hfo:P.fieldsOf t=fs:=by simp [Program.fieldsOf,hu]
  rw [show d+(n+2)=d+(n+1)+1 by omega,run_equalIn_struct w (d+(n+1)) t _ _ (by rw [hfo];exact hu) hs,hfo]
  exact eqFields_of d hf [] [] cs ds w rfl rfl hc hd⟩
class FitC (ls:List Lf) (cs:List Value):Prop where fit:Fits ls cs
instance:FitC [] []:=⟨trivial⟩
instance {k:IntKind} {a:Int} {ls:List Lf} {cs:List Value} [h:FitC ls cs]:FitC (.I k::ls) (.int k a::cs):=⟨⟨_,rfl⟩,h.fit⟩
namespace D
variable {C:Cx} {env:Env} {x y:Operand} {ty:TypeId} {pos:String} {af:Array Edge} {gd:Option (Nat×Bool)}
variable {W:World→Prop} {t u:TypeId} {ds:Option Tmp} {n:Nat} {ls:List Lf}
theorem eqG{cs es:List Value}(p:Prop) [Decidable p] [h:EqC C.P t n ls](hx:ev env x=some (.agg cs.toArray))(hy:ev env y=some (.agg es.toArray))(hn:(decide (n≤10000))=true) [f1:FitC ls cs] [f2:FitC ls es](hp:eqvs cs es=decide p):Det C W env ⟨ds,.binOp .eql t x y u,ty,pos,af,gd⟩ (.bool (decide p)):=⟨fun ac w he _=>by
  have hn':n≤10000:=of_decide_eq_true hn
  have h1:=h.eq (10000-n) cs es w f1.fit f2.fit
  rw [show 10000-n+n=10000 by omega] at h1
  simp only [execOp,he.ev hx,he.ev hy,Sem.run_bind,run_eqGuard_agg w .eql t x y _ _ h.guard,Result.andThen_ok,run_eql_struct,h1,Sem.run_pure,hp]⟩
theorem neG{cs es:List Value}(p:Prop) [Decidable p] [h:EqC C.P t n ls](hx:ev env x=some (.agg cs.toArray))(hy:ev env y=some (.agg es.toArray))(hn:(decide (n≤10000))=true) [f1:FitC ls cs] [f2:FitC ls es](hp:eqvs cs es=decide p):Det C W env ⟨ds,.binOp .neq t x y u,ty,pos,af,gd⟩ (.bool (decide (¬p))):=⟨fun ac w he _=>by
  have hn':n≤10000:=of_decide_eq_true hn
  have h1:=h.eq (10000-n) cs es w f1.fit f2.fit
  rw [show 10000-n+n=10000 by omega] at h1
  simp only [execOp,he.ev hx,he.ev hy,Sem.run_bind,run_eqGuard_agg w .neq t x y _ _ h.guard,Result.andThen_ok,run_neq_struct,h1,Sem.run_pure,hp,decide_not]⟩
theorem eqS4{k0 k1 k2 k3:IntKind}{a0 a1 a2 a3 b0 b1 b2 b3:Int} [h:EqC C.P t n [.I k0,.I k1,.I k2,.I k3]](hx:ev env x=some (.agg #[.int k0 a0,.int k1 a1,.int k2 a2,.int k3 a3]))(hy:ev env y=some (.agg #[.int k0 b0,.int k1 b1,.int k2 b2,.int k3 b3]))(hn:(decide (n≤10000))=true):Det C W env ⟨ds,.binOp .eql t x y u,ty,pos,af,gd⟩ (.bool (decide (a0=b0∧a1=b1∧a2=b2∧a3=b3))):=
  eqG (cs:=[.int k0 a0,.int k1 a1,.int k2 a2,.int k3 a3]) (es:=[.int k0 b0,.int k1 b1,.int k2 b2,.int k3 b3]) _ hx hy hn (by simp [eqvs,eqv])
theorem neS4{k0 k1 k2 k3:IntKind}{a0 a1 a2 a3 b0 b1 b2 b3:Int} [h:EqC C.P t n [.I k0,.I k1,.I k2,.I k3]](hx:ev env x=some (.agg #[.int k0 a0,.int k1 a1,.int k2 a2,.int k3 a3]))(hy:ev env y=some (.agg #[.int k0 b0,.int k1 b1,.int k2 b2,.int k3 b3]))(hn:(decide (n≤10000))=true):Det C W env ⟨ds,.binOp .neq t x y u,ty,pos,af,gd⟩ (.bool (decide (¬(a0=b0∧a1=b1∧a2=b2∧a3=b3)))):=
  neG (cs:=[.int k0 a0,.int k1 a1,.int k2 a2,.int k3 a3]) (es:=[.int k0 b0,.int k1 b1,.int k2 b2,.int k3 b3]) _ hx hy hn (by simp [eqvs,eqv])
end D
end Go.Lx
namespace Go.Lx
open Go.Proofs
theorem eqc49:EqC Tryz.prog 49 2 [.I .i64,.I .i64]:=EqC.mk' Tryz.underlying49 (by kernel_rfl) (by kernel_rfl) (.leaf (.I .i64) (by kernel_rfl) Tryz.underlying3 (.leaf (.I .i64) (by kernel_rfl) Tryz.underlying3 .nil))
theorem eqc103:EqC Tryz.prog 103 2 [.I .i64,.I .i64]:=EqC.mk' Tryz.underlying103 (by kernel_rfl) (by kernel_rfl) (.leaf (.I .i64) (by kernel_rfl) Tryz.underlying3 (.leaf (.I .i64) (by kernel_rfl) Tryz.underlying3 .nil))
theorem eqc105:EqC Tryz.prog 105 4 [.I .i64,.I .i64,.I .i64,.I .i64]:=EqC.mk' Tryz.underlying105 (by kernel_rfl) (by kernel_rfl) (.sub (l1:=[.I .i64,.I .i64]) (m:=2) (n:=2) (by kernel_rfl) eqc103 (by decide) (inferInstance:Sz Tryz.prog 103 2) (inferInstance:Ag Tryz.prog 103) (.sub (l1:=[.I .i64,.I .i64]) (m:=2) (n:=2) (by kernel_rfl) eqc49 (by decide) (inferInstance:Sz Tryz.prog 49 2) (inferInstance:Ag Tryz.prog 49) .nil))
instance:EqC Tryz.prog 105 4 [.I .i64,.I .i64,.I .i64,.I .i64]:=eqc105
theorem eqc152:EqC Tryz.prog 152 4 [.I .i64,.I .i64,.I .i64,.I .i64]:=EqC.mk' Tryz.underlying152 (by kernel_rfl) (by kernel_rfl) (.leaf (.I .i64) (by kernel_rfl) Tryz.underlying3 (.leaf (.I .i64) (by kernel_rfl) Tryz.underlying3 (.sub (l1:=[.I .i64,.I .i64]) (m:=2) (n:=2) (by kernel_rfl) eqc49 (by decide) (inferInstance:Sz Tryz.prog 49 2) (inferInstance:Ag Tryz.prog 49) .nil)))
instance:EqC Tryz.prog 152 4 [.I .i64,.I .i64,.I .i64,.I .i64]:=eqc152
end Go.Lx
namespace Go.Lx
section
variable {P:Program} {w:World}
theorem encY_arr(l:Bs):(encY l).toArray=(ByteArray.mk l.toArray).data.map fun b=>Value.int .u8 (b.toNat:Int):=by
  rw [encY_map]
  simp
theorem append_str(t u ty e:TypeId){sz bytes:Nat}(hs1:sz=1)(hb1:bytes=1) [ht:SlT P t e] [hu:StrT P u] [he:ElT P e sz bytes](v:Value)(n:Nat)(xs:List Value)(hown:w.ownsRow 0 e sz v n xs)(l:Bs)(h63:n+l.length≤maxLen)(hbytes:n+l.length≤140737488355328):
    ∃ a' c' w',(Builtin.append_ #[t,u] ty #[v,.string ⟨l.toArray⟩]).run P w= .ok (.slice a' (n+l.length) c') w'∧w'.ownsRow 0 e sz (.slice a' (n+l.length) c') (n+l.length) (xs++encY l)∧w.grownBy w' v.ownBlock∧
      w.drawn≤w'.drawn∧(∀ b,(Value.slice a' (n+l.length) c').ownBlock=some b→v.ownBlock=some b∨w.heap.size≤b):=by
  obtain⟨i,z,hi,hz,rfl,rfl,hzs,hsz⟩:=he.info
  have hsmall:n+l.length≤9223372036854775807:=by simp only [maxLen] at h63;omega
  have hl:(encY l).length=l.length*i.size:=by rw [encY_len,hs1,Nat.mul_one]
  have hlen:(xs++encY l).length=(n+l.length)*i.size:=by rw [List.length_append,hown.1,hl,Nat.add_mul]
  have hss:=str_size l
  have h1:=encY_one l
  rcases hown.2 with⟨rfl,rfl⟩|⟨g,cap,cur,rfl,hbg,hg,hnc,hcm,hcs,htake⟩
  · have hx:xs=[]:=List.eq_nil_of_length_eq_zero (by simpa using hown.1)
    subst hx
    by_cases hm:l.length=0
    · have hn:l=[]:=List.eq_nil_of_length_eq_zero hm
      subst hn
      refine⟨none,0,w, ?_,World.ownsRow_nil w 0 e i.size,⟨rfl,rfl,rfl,Nat.le_refl _,fun _ _ _=>rfl⟩,Nat.le_refl _,by simp [Value.ownBlock]⟩
      have e0:(ByteArray.mk #[])=ByteArray.empty:=rfl
      have e1:(ByteArray.mk #[]).size=0:=rfl
      simp [Builtin.append_,run_underlying ht.und,run_underlying hu.und,sizeOf,typeInfo,hi,Builtin.lenOf,Builtin.firstCells,e0,e1]
    · have hr:=run_append_nil_string (P:=P) w t u ty e i z ht.und hu.und hi hz ⟨l.toArray⟩ (by rw [hss];omega) (by rw [hss];omega) (by rw [hss,hb1];omega)
      have hgr:=grown_new (w:=w) (n:=0) (old:=0) (e:=e) (xs:=[]) hzs (by simp) hl h63 (Value.ownBlock (.slice none 0 0))
      rw [hss,←encY_arr] at hr
      simp only [Nat.zero_add,List.nil_append,Array.empty_append] at hgr ⊢
      exact⟨_,_,_,hr,hgr.1,hgr.2,by simp,fun b hb=>by simp [Value.ownBlock] at hb;omega⟩
  · by_cases hroom:n+l.length≤cap
    · have hfit:n*i.size+(encY l).length≤cur.size:=by rw [hl,hcs,←Nat.add_mul];exact Nat.mul_le_mul_right _ hroom
      have hr:=Lib.run_append_room_string (P:=P) w t u ty e i ht.und hu.und hi hs1 g n cap cur hg ⟨l.toArray⟩ (by rw [hss];exact hroom) (by rw [hss];rw [hs1,Nat.mul_one,encY_len] at hfit;exact hfit)
      rw [hss,encY_str] at hr
      have htake':cur.toList.take n=xs:=by rw [←htake,hs1,Nat.mul_one]
      refine⟨_,_,_,hr,⟨hlen,.inr ⟨g,cap,_,rfl,hbg,setRow_heap w g cur _ e _ hg,hroom,hcm, ?_, ?_⟩⟩,⟨rfl,rfl,rfl,by simp [World.setRow],fun k _ hk=>setRow_other w g _ k (fun e=>hk (by simp [Value.ownBlock,e]))⟩,Nat.le_refl _,fun b hb=> .inl hb⟩
      · simp only [List.size_toArray,List.length_append,List.length_take,List.length_drop,Array.length_toList]
        rw [encY_len]
        rw [hs1,Nat.mul_one,encY_len] at hfit
        omega
      · rw [htake',←hlen]
        exact List.take_left
    · have holds:∀ j u,xs[j]?=some u→w.cell? ((⟨g,0,none⟩:Addr).add j)=some u:=hown.cells (g:=g) rfl
      have hr:=Lib.run_append_grow_string (P:=P) w t u ty e i z ht.und hu.und hi hz ⟨g,0,none⟩ n cap xs hown.1 holds ⟨l.toArray⟩ (by rw [hss];omega) (by rw [hss];omega) (by rw [hss];exact growslice_fits (by omega) (by rw [hb1,Nat.mul_one];exact hbytes))
      rw [hss,encY_str] at hr
      have hgr:=grown_new (w:=w) (n:=n) (old:=cap) (e:=e) hzs hown.1 hl h63 (Value.ownBlock (.slice (some ⟨g,0,none⟩) n cap))
      exact⟨_,_,_,hr,hgr.1,hgr.2,by simp,fun b hb=>by simp [Value.ownBlock] at hb;omega⟩
end
variable {C:Cx} {A A' A1 A2 B B':List Assn} {w:World} {Q:Exit→Act→World→Prop} {S:World→Prop} {env:Env} {ops:Array Oper} {r:Sd} {i d:Nat} {o:Oper} {v:Value} {cl:Cl}
variable {ty T:TypeId} {pos:String} {af:Array Edge} {gd:Option (Nat×Bool)} {x y:Operand}
theorem XL.appendS{t u e n c:Nat}{a:Option Addr}{xs:List Value}(l:Bs)(ho:ops[i]?=some ⟨some d,.call ⟨.builtin .append,#[x,y],#[t,u]⟩,ty,pos,af,gd⟩)(hg:gok ops env ⟨some d,.call ⟨.builtin .append,#[x,y],#[t,u]⟩,ty,pos,af,gd⟩=some true)(hdn:Nat.blt d C.n.n=true)
    [ht:SlT C.P t e] [hu:StrT C.P u] [he:ElT C.P e 1 1] (hx:ev env x=some (.slice a n c)) (hy:ev env y=some (.string ⟨l.toArray⟩)) {j:Nat}
    [ho2:OwnAt A (.slice a n c) e 1 n xs j] [t1:Take A (own e 1 (.slice a n c) n xs) A1]
    (h63:n+l.length≤140737488355328)
    (haf:∀ a' c',After cl S C (own e 1 (.slice a' (n+l.length) c') (n+l.length) (xs++encY l)::A1))
    (k:∀ a' c',XL C ops Q S r ((d,.slice a' (n+l.length) c')::env) (own e 1 (.slice a' (n+l.length) c') (n+l.length) (xs++encY l)::A1)):XL C ops Q S (.op cl i r) env A:=by
  refine XL.chg ho hg rfl hdn fun ac w hE hc=>?_
  have hc2:=hc.perm t1.perm
  obtain⟨F,hF,_⟩:=hc2.get (i:=0) rfl
  obtain⟨a',c',w',hr,h2,h3,hdr,h4⟩:=append_str (P:=C.P) t u ty e rfl rfl (.slice a n c) n xs hF.1 l (by unfold maxLen;omega) h63
  refine⟨_,_,w', ?_,hc2.appended h2 h3 hdr h4,haf a' c',k a' c'⟩
  simp [execOp,resolve,invoke,builtin,hE.ev hx,hE.ev hy,hr]
def iterA (g:Nat) (l:Bs) (p:Nat):Assn where
  holds w F:=w.heap[g]?=some (.stringIter ⟨l.toArray⟩ p)∧∀ b,F b↔b=g
  loc:=fun⟨h,hF⟩ hk=>⟨(hk g ((hF g).2 rfl)).trans h,hF⟩
  dom:=fun⟨h,hF⟩ hb=>by
    rw [(hF _).1 hb]
    exact(Array.getElem?_eq_some_iff.1 h).1
class IterA (A:List Assn) (g:Nat) (l:outParam Bs) (p:outParam Nat) (i:outParam Nat):Prop where at_:A[i]?=some (iterA g l p)
instance {A:List Assn} {g:Nat} {l:Bs} {p:Nat}:IterA (iterA g l p::A) g l p 0:=⟨rfl⟩
theorem XL.rangeS{t:TypeId}{l:Bs} [ht:StrT C.P t](ho:ops[i]?=some ⟨some d,.range t x,ty,pos,af,gd⟩)(hg:gok ops env ⟨some d,.range t x,ty,pos,af,gd⟩=some true)(hdn:Nat.blt d C.n.n=true)
    (hx:ev env x=some (.string ⟨l.toArray⟩)) (haf:∀ g,After cl S C (iterA g l 0::A)) (k:∀ g,XL C ops Q S r ((d,.pointer (some ⟨g,0,none⟩))::env) (iterA g l 0::A)):XL C ops Q S (.op cl i r) env A:=by
  refine XL.chg ho hg rfl hdn fun ac w he hc=>?_
  refine⟨_,_,w.iter ⟨l.toArray⟩ 0,by simp [execOp,he.ev hx,run_range_string w t _ ht.und], ?_,haf w.heap.size,k w.heap.size⟩
  exact hc.new (q:=iterA w.heap.size l 0) rfl rfl rfl (by simp [World.iter]) (Nat.le_refl _) (fun b hb=>RowKit.Below.heap_alloc w _ b hb) ⟨fun b=>b=w.heap.size,⟨World.iter_heap w _ 0,fun b=>Iff.rfl⟩,fun b hb=>by rw [hb];exact Nat.le_refl _⟩
theorem decode_low(l:Bs)(p:Nat)(b:UInt8)(hb:l[p]?=some b):(b.toNat<128→Utf8.decode ⟨l.toArray⟩ p=(b.toNat,1))∧(128≤b.toNat→128≤(Utf8.decode ⟨l.toArray⟩ p).1):=by
  obtain⟨hp,he⟩:=List.getElem?_eq_some_iff.1 hb
  have hp':p<(ByteArray.mk l.toArray).size:=by rw [str_size];exact hp
  have e:(ByteArray.mk l.toArray)[p]'hp'=b:=by rw [str_get];exact he
  refine⟨fun h=>?_,fun h=>?_⟩
  · have:=decode_ascii ⟨l.toArray⟩ p hp' (by rw [e];exact h)
    rw [this,e]
  · have e0:(ByteArray.mk l.toArray).get! (p+0)=b:=by
      show(ByteArray.mk l.toArray).get! p=b
      simp [ByteArray.get!,hb]
    have hn: ¬b.toNat<128:=by omega
    have hre:128≤Utf8.runeError:=by decide
    unfold Utf8.decode
    simp only [e0,hn,if_false]
    repeat' split
    all_goals first|exact hre|(rename_i h1;first|(dsimp only;omega)|(simp at h1;dsimp only;omega))
theorem run_next(w:World)(P:Program)(g:Nat)(l:Bs)(p:Nat)(ty:TypeId)(hg:w.heap[g]?=some (.stringIter ⟨l.toArray⟩ p))(h:p<l.length):
    (Instr.next (.pointer (some ⟨g,0,none⟩)) true ty).run P w= .ok (.tuple #[.bool true,.int .i64 (p:Int),.int .i32 ((Utf8.decode ⟨l.toArray⟩ p).1:Int)]) {w with heap:=w.heap.setIfInBounds g (.stringIter ⟨l.toArray⟩ (p+(Utf8.decode ⟨l.toArray⟩ p).2))}:=by
  simp [Instr.next,getObj,setObj,Sem.run,hg,str_size,h,goInt]
theorem XL.next{g p j:Nat}{l:Bs}{b:UInt8} [hl:IterA A g l p j](ho:ops[i]?=some ⟨some d,.next y true,ty,pos,af,gd⟩)(hg:gok ops env ⟨some d,.next y true,ty,pos,af,gd⟩=some true)(hdn:Nat.blt d C.n.n=true)
    (hy:ev env y=some (.pointer (some ⟨g,0,none⟩))) (hb:l[p]?=some b) {D:Nat→List Assn} [hupd:∀ q,Upd A j (iterA g l q) (D q)]
    (k:∀ c q:Nat,(b.toNat<128→c=b.toNat∧q=p+1)→(128≤b.toNat→128≤c)→After cl S C (D q)∧XL C ops Q S r ((d,.tuple #[.bool true,.int .i64 (p:Int),.int .i32 (c:Int)])::env) (D q)):XL C ops Q S (.op cl i r) env A:=by
  obtain⟨hp,_⟩:=List.getElem?_eq_some_iff.1 hb
  have hd:=decode_low l p b hb
  refine XL.chg ho hg rfl hdn fun ac w he hc=>?_
  obtain⟨F,⟨hh,hF⟩,_⟩:=hc.get hl.at_
  obtain⟨haf,hk⟩:=k (Utf8.decode ⟨l.toArray⟩ p).1 (p+(Utf8.decode ⟨l.toArray⟩ p).2) (fun h=>by rw [hd.1 h];exact⟨rfl,rfl⟩) hd.2
  refine⟨_,_,_,by simp [execOp,he.ev hy,run_next w C.P g l p ty hh hp];rfl, ?_,haf,hk⟩
  have hgs:=(Array.getElem?_eq_some_iff.1 hh).1
  rw [←(hupd _).eq]
  exact hc.update hl.at_ rfl rfl rfl (by simp) (Nat.le_refl _) fun F' ⟨h1,h2⟩=>⟨F',⟨by simp [hgs],h2⟩,fun b hb=> .inl hb,fun b hb hn=>by
    have:b≠g:=fun e=>hn ((h2 b).2 e)
    simp [Array.getElem?_setIfInBounds,Ne.symm this]⟩
theorem XL.nextEnd{g p j:Nat}{l:Bs} [hl:IterA A g l p j](ho:ops[i]?=some ⟨some d,.next y true,ty,pos,af,gd⟩)(hg:gok ops env ⟨some d,.next y true,ty,pos,af,gd⟩=some true)(hdn:Nat.blt d C.n.n=true)
    (hy:ev env y=some (.pointer (some ⟨g,0,none⟩))) (hb:l.length≤p) (haf:After cl S C A) (k:XL C ops Q S r ((d,.tuple #[.bool false])::env) A):XL C ops Q S (.op cl i r) env A:=by
  refine XL.chg ho hg rfl hdn fun ac w he hc=>?_
  obtain⟨F,⟨hh,hF⟩,_⟩:=hc.get hl.at_
  have: ¬p<l.length:=by omega
  exact⟨_,_,w,by simp [execOp,he.ev hy,Instr.next,getObj,Sem.run,hh,str_size,this],hc,haf,k⟩
end Go.Lx
