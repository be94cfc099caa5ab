import Derived.Test.YtakoppmiegjjlaaGreatDoorF6
import Derived.Test.YtakoppmiegjjlaaGreatDoorProg
import Derived.Test.YtakoppmiegjjlaaGreatDoorF3
import Derived.Shelf.SlMaps.Clone
import Derived.Lib.Builder
import Derived.Lib.UnsafeStr
set_option linter.unusedVariables false
set_option linter.unusedSimpArgs false
namespace Go.Proofs
open Go.Shelf
def Tryz.keysT_ren:Go.Shelf.Ren:=⟨fun|7=>63|10=>126|n=>n,fun|23=>107|26=>9|3=>9|28=>146|0=>0|27=>145|33=>64|4=>4|n=>n,fun|n=>n⟩
theorem Tryz.keysT:Go.Proofs.SlLaysZ.n7 Tryz.prog Tryz.keysT_ren:={
  mixed:=by kernel_rfl
  f7:=⟨Tryz.f63.name,by decide,Tryz.func63.trans (congrArg some (by kernel_rfl))⟩
  f10:=⟨Tryz.f126.name,by decide,Tryz.func126.trans (congrArg some (by kernel_rfl))⟩
  t0:=Tryz.underlying0
  a0:=Tryz.isAgg0
  z0:=Tryz.sizeOf0
  v0:=Tryz.zeroValue0
  t4:=Tryz.underlying4
  a4:=Tryz.isAgg4
  z4:=Tryz.sizeOf4
  v4:=Tryz.zeroValue4
  t23:=Tryz.underlying107
  a23:=Tryz.isAgg107
  z23:=Tryz.sizeOf107
  v23:=Tryz.zeroValue107
  t26:=Tryz.underlying9
  a26:=Tryz.isAgg9
  z26:=Tryz.sizeOf9
  v26:=Tryz.zeroValue9
  t27:=Tryz.underlying145
  a27:=Tryz.isAgg145
  z27:=Tryz.sizeOf145
  v27:=Tryz.zeroValue145
  t28:=Tryz.underlying146
  a28:=Tryz.isAgg146
  z28:=Tryz.sizeOf146
  v28:=Tryz.zeroValue146
  t33:=Tryz.underlying64
  a33:=Tryz.isAgg64
  z33:=Tryz.sizeOf64
  v33:=Tryz.zeroValue64}
def Tryz.sortedT_ren:Go.Shelf.Ren:=⟨fun|6=>62|8=>124|9=>125|11=>198|13=>200|12=>199|23=>251|24=>252|14=>242|15=>243|16=>244|17=>245|18=>246|19=>247|20=>248|21=>249|22=>250|25=>294|26=>295|27=>296|28=>297|29=>298|30=>159|31=>325|n=>n,fun|26=>9|28=>146|24=>76|0=>0|3=>3|37=>284|48=>186|50=>27|4=>4|40=>326|39=>325|45=>306|5=>5|9=>9|51=>367|55=>370|57=>388|58=>389|33=>64|n=>n,fun|n=>n⟩
theorem Tryz.sortedT:Go.Proofs.SlLaysZ.n6 Tryz.prog Tryz.sortedT_ren:={
  mixed:=by kernel_rfl
  f6:=⟨Tryz.f62.name,by decide,Tryz.func62.trans (congrArg some (by kernel_rfl))⟩
  f8:=⟨Tryz.f124.name,by decide,Tryz.func124.trans (congrArg some (by kernel_rfl))⟩
  f11:=⟨Tryz.f198.name,by decide,Tryz.func198.trans (congrArg some (by kernel_rfl))⟩
  t0:=Tryz.underlying0
  a0:=Tryz.isAgg0
  z0:=Tryz.sizeOf0
  v0:=Tryz.zeroValue0
  t24:=Tryz.underlying76
  a24:=Tryz.isAgg76
  z24:=Tryz.sizeOf76
  v24:=Tryz.zeroValue76
  t26:=Tryz.underlying9
  a26:=Tryz.isAgg9
  z26:=Tryz.sizeOf9
  v26:=Tryz.zeroValue9
  t28:=Tryz.underlying146
  a28:=Tryz.isAgg146
  z28:=Tryz.sizeOf146
  v28:=Tryz.zeroValue146
  i26:=by kernel_rfl}
def Tryz.sortT_ren:Go.Shelf.Ren:=⟨fun|6=>125|8=>200|9=>199|19=>251|20=>252|21=>242|22=>243|23=>244|24=>245|25=>246|26=>247|27=>248|28=>249|29=>250|36=>294|31=>295|32=>296|37=>297|38=>298|39=>159|41=>325|n=>n,fun|27=>76|29=>9|3=>3|32=>284|26=>76|0=>0|44=>186|46=>27|4=>4|36=>326|35=>325|41=>306|5=>5|9=>9|53=>367|57=>370|63=>388|64=>389|n=>n,fun|n=>n⟩
theorem Tryz.sortT:Go.Proofs.SlLaysM.n6 Tryz.prog Tryz.sortT_ren:={
  mixed:=by kernel_rfl
  f6:=⟨Tryz.f125.name,by decide,Tryz.func125.trans (congrArg some (by kernel_rfl))⟩
  f8:=Tryz.func200.trans (congrArg some (by kernel_rfl))
  f9:=⟨Tryz.f199.name,by decide,Tryz.func199.trans (congrArg some (by kernel_rfl))⟩
  f19:=Tryz.func251.trans (congrArg some (by kernel_rfl))
  f20:=Tryz.func252.trans (congrArg some (by kernel_rfl))
  f21:=⟨Tryz.f242.name,by decide,Tryz.func242.trans (congrArg some (by kernel_rfl))⟩
  f22:=⟨Tryz.f243.name,by decide,Tryz.func243.trans (congrArg some (by kernel_rfl))⟩
  f23:=⟨Tryz.f244.name,by decide,Tryz.func244.trans (congrArg some (by kernel_rfl))⟩
  f24:=⟨Tryz.f245.name,by decide,Tryz.func245.trans (congrArg some (by kernel_rfl))⟩
  f25:=⟨Tryz.f246.name,by decide,Tryz.func246.trans (congrArg some (by kernel_rfl))⟩
  f26:=⟨Tryz.f247.name,by decide,Tryz.func247.trans (congrArg some (by kernel_rfl))⟩
  f27:=⟨Tryz.f248.name,by decide,Tryz.func248.trans (congrArg some (by kernel_rfl))⟩
  f28:=⟨Tryz.f249.name,by decide,Tryz.func249.trans (congrArg some (by kernel_rfl))⟩
  f29:=⟨Tryz.f250.name,by decide,Tryz.func250.trans (congrArg some (by kernel_rfl))⟩
  f31:=Tryz.func295.trans (congrArg some (by kernel_rfl))
  f32:=Tryz.func296.trans (congrArg some (by kernel_rfl))
  f36:=⟨Tryz.f294.name,by decide,Tryz.func294.trans (congrArg some (by kernel_rfl))⟩
  f37:=⟨Tryz.f297.name,by decide,Tryz.func297.trans (congrArg some (by kernel_rfl))⟩
  f38:=⟨Tryz.f298.name,by decide,Tryz.func298.trans (congrArg some (by kernel_rfl))⟩
  f39:=⟨Tryz.f159.name,by decide,Tryz.func159.trans (congrArg some (by kernel_rfl))⟩
  f41:=⟨Tryz.f325.name,by decide,Tryz.func325.trans (congrArg some (by kernel_rfl))⟩
  t0:=Tryz.underlying0
  a0:=Tryz.isAgg0
  z0:=Tryz.sizeOf0
  v0:=Tryz.zeroValue0
  t3:=Tryz.underlying3
  a3:=Tryz.isAgg3
  z3:=Tryz.sizeOf3
  v3:=Tryz.zeroValue3
  t4:=Tryz.underlying4
  a4:=Tryz.isAgg4
  z4:=Tryz.sizeOf4
  v4:=Tryz.zeroValue4
  t5:=Tryz.underlying5
  a5:=Tryz.isAgg5
  z5:=Tryz.sizeOf5
  v5:=Tryz.zeroValue5
  t9:=Tryz.underlying9
  a9:=Tryz.isAgg9
  z9:=Tryz.sizeOf9
  v9:=Tryz.zeroValue9
  t26:=Tryz.underlying76
  a26:=Tryz.isAgg76
  z26:=Tryz.sizeOf76
  v26:=Tryz.zeroValue76
  t27:=Tryz.underlying76
  a27:=Tryz.isAgg76
  z27:=Tryz.sizeOf76
  v27:=Tryz.zeroValue76
  t29:=Tryz.underlying9
  a29:=Tryz.isAgg9
  z29:=Tryz.sizeOf9
  v29:=Tryz.zeroValue9
  t32:=Tryz.underlying284
  a32:=Tryz.isAgg284
  z32:=Tryz.sizeOf284
  v32:=Tryz.zeroValue284
  t35:=Tryz.underlying325
  a35:=Tryz.isAgg325
  z35:=Tryz.sizeOf325
  v35:=Tryz.zeroValue325
  t36:=Tryz.underlying326
  a36:=Tryz.isAgg326
  z36:=Tryz.sizeOf326
  v36:=Tryz.zeroValue326
  t41:=Tryz.underlying306
  a41:=Tryz.isAgg306
  z41:=Tryz.sizeOf306
  v41:=Tryz.zeroValue306
  t44:=Tryz.underlying186
  a44:=Tryz.isAgg186
  z44:=Tryz.sizeOf186
  v44:=Tryz.zeroValue186
  t46:=Tryz.underlying27
  a46:=Tryz.isAgg27
  z46:=Tryz.sizeOf27
  v46:=Tryz.zeroValue27
  t53:=Tryz.underlying367
  a53:=Tryz.isAgg367
  z53:=Tryz.sizeOf367
  v53:=Tryz.zeroValue367
  t57:=Tryz.underlying370
  a57:=Tryz.isAgg370
  z57:=Tryz.sizeOf370
  v57:=Tryz.zeroValue370
  t63:=Tryz.underlying388
  a63:=Tryz.isAgg388
  z63:=Tryz.sizeOf388
  v63:=Tryz.zeroValue388
  t64:=Tryz.underlying389
  a64:=Tryz.isAgg389
  z64:=Tryz.sizeOf389
  v64:=Tryz.zeroValue389}
def Tryz.sortI_ren:Go.Shelf.Ren:=⟨fun|5=>166|8=>200|7=>227|19=>251|20=>252|10=>268|11=>269|12=>270|13=>271|14=>272|15=>273|16=>274|17=>275|18=>276|30=>310|31=>295|32=>296|33=>311|34=>312|35=>313|40=>327|n=>n,fun|23=>32|25=>3|3=>3|32=>284|22=>32|0=>0|44=>186|46=>27|4=>4|36=>326|35=>325|41=>306|5=>5|9=>9|53=>367|57=>370|63=>388|64=>389|n=>n,fun|n=>n⟩
theorem Tryz.sortI:Go.Proofs.SlLaysM.n5 Tryz.prog Tryz.sortI_ren:={
  mixed:=by kernel_rfl
  f5:=⟨Tryz.f166.name,by decide,Tryz.func166.trans (congrArg some (by kernel_rfl))⟩
  f7:=⟨Tryz.f227.name,by decide,Tryz.func227.trans (congrArg some (by kernel_rfl))⟩
  f8:=Tryz.func200.trans (congrArg some (by kernel_rfl))
  f10:=⟨Tryz.f268.name,by decide,Tryz.func268.trans (congrArg some (by kernel_rfl))⟩
  f11:=⟨Tryz.f269.name,by decide,Tryz.func269.trans (congrArg some (by kernel_rfl))⟩
  f12:=⟨Tryz.f270.name,by decide,Tryz.func270.trans (congrArg some (by kernel_rfl))⟩
  f13:=⟨Tryz.f271.name,by decide,Tryz.func271.trans (congrArg some (by kernel_rfl))⟩
  f14:=⟨Tryz.f272.name,by decide,Tryz.func272.trans (congrArg some (by kernel_rfl))⟩
  f15:=⟨Tryz.f273.name,by decide,Tryz.func273.trans (congrArg some (by kernel_rfl))⟩
  f16:=⟨Tryz.f274.name,by decide,Tryz.func274.trans (congrArg some (by kernel_rfl))⟩
  f17:=⟨Tryz.f275.name,by decide,Tryz.func275.trans (congrArg some (by kernel_rfl))⟩
  f18:=⟨Tryz.f276.name,by decide,Tryz.func276.trans (congrArg some (by kernel_rfl))⟩
  f19:=Tryz.func251.trans (congrArg some (by kernel_rfl))
  f20:=Tryz.func252.trans (congrArg some (by kernel_rfl))
  f30:=⟨Tryz.f310.name,by decide,Tryz.func310.trans (congrArg some (by kernel_rfl))⟩
  f31:=Tryz.func295.trans (congrArg some (by kernel_rfl))
  f32:=Tryz.func296.trans (congrArg some (by kernel_rfl))
  f33:=⟨Tryz.f311.name,by decide,Tryz.func311.trans (congrArg some (by kernel_rfl))⟩
  f34:=⟨Tryz.f312.name,by decide,Tryz.func312.trans (congrArg some (by kernel_rfl))⟩
  f35:=⟨Tryz.f313.name,by decide,Tryz.func313.trans (congrArg some (by kernel_rfl))⟩
  f40:=⟨Tryz.f327.name,by decide,Tryz.func327.trans (congrArg some (by kernel_rfl))⟩
  t0:=Tryz.underlying0
  a0:=Tryz.isAgg0
  z0:=Tryz.sizeOf0
  v0:=Tryz.zeroValue0
  t3:=Tryz.underlying3
  a3:=Tryz.isAgg3
  z3:=Tryz.sizeOf3
  v3:=Tryz.zeroValue3
  t4:=Tryz.underlying4
  a4:=Tryz.isAgg4
  z4:=Tryz.sizeOf4
  v4:=Tryz.zeroValue4
  t5:=Tryz.underlying5
  a5:=Tryz.isAgg5
  z5:=Tryz.sizeOf5
  v5:=Tryz.zeroValue5
  t9:=Tryz.underlying9
  a9:=Tryz.isAgg9
  z9:=Tryz.sizeOf9
  v9:=Tryz.zeroValue9
  t22:=Tryz.underlying32
  a22:=Tryz.isAgg32
  z22:=Tryz.sizeOf32
  v22:=Tryz.zeroValue32
  t23:=Tryz.underlying32
  a23:=Tryz.isAgg32
  z23:=Tryz.sizeOf32
  v23:=Tryz.zeroValue32
  t25:=Tryz.underlying3
  a25:=Tryz.isAgg3
  z25:=Tryz.sizeOf3
  v25:=Tryz.zeroValue3
  t32:=Tryz.underlying284
  a32:=Tryz.isAgg284
  z32:=Tryz.sizeOf284
  v32:=Tryz.zeroValue284
  t35:=Tryz.underlying325
  a35:=Tryz.isAgg325
  z35:=Tryz.sizeOf325
  v35:=Tryz.zeroValue325
  t36:=Tryz.underlying326
  a36:=Tryz.isAgg326
  z36:=Tryz.sizeOf326
  v36:=Tryz.zeroValue326
  t41:=Tryz.underlying306
  a41:=Tryz.isAgg306
  z41:=Tryz.sizeOf306
  v41:=Tryz.zeroValue306
  t44:=Tryz.underlying186
  a44:=Tryz.isAgg186
  z44:=Tryz.sizeOf186
  v44:=Tryz.zeroValue186
  t46:=Tryz.underlying27
  a46:=Tryz.isAgg27
  z46:=Tryz.sizeOf27
  v46:=Tryz.zeroValue27
  t53:=Tryz.underlying367
  a53:=Tryz.isAgg367
  z53:=Tryz.sizeOf367
  v53:=Tryz.zeroValue367
  t57:=Tryz.underlying370
  a57:=Tryz.isAgg370
  z57:=Tryz.sizeOf370
  v57:=Tryz.zeroValue370
  t63:=Tryz.underlying388
  a63:=Tryz.isAgg388
  z63:=Tryz.sizeOf388
  v63:=Tryz.zeroValue388
  t64:=Tryz.underlying389
  a64:=Tryz.isAgg389
  z64:=Tryz.sizeOf389
  v64:=Tryz.zeroValue389}
end Go.Proofs
namespace Go.Lx
open Go.Proofs
section
variable {β:Type} {C:Cx} {A A' As:List Assn} {Q:Exit→Act→World→Prop} {S:World→Prop} {env:Env} {ops:Array Oper} {r:Sd} {i d g j:Nat} {v:Value} {cl:Cl} {x y z:Operand} {t u kt e:TypeId} {op:Op} {f:β→Value} {l:List (Int×β)}
variable {ty:TypeId} {pos:String} {af:Array Edge} {gd:Option (Nat×Bool)}
namespace Z
theorem sne [Nc cl]{l m:Bs}(hn:nx C.n.n ops env i=some (d,.binOp .neq t x y u))(hx:ev env x=some (.string ⟨l.toArray⟩))(hy:ev env y=some (.string ⟨m.toArray⟩))(k:l=m→XL C ops Q S r ((d,.bool false)::env) A)(k':l≠m→XL C ops Q S r ((d,.bool true)::env) A):XL C ops Q S (.op cl i r) env A:=by
  by_cases h:l=m
  · exact XL.dt hn (fun ty pos af gd=>by have:=D.strNe (C:=C) (W:=fun _=>True) (env:=env) (ty:=ty) (pos:=pos) (af:=af) (gd:=gd) (ds:=some d) (t:=t) (u:=u) hx hy;rwa [decide_eq_false (fun g=>g h)] at this) (k h)
  · exact XL.dt hn (fun ty pos af gd=>by have:=D.strNe (C:=C) (W:=fun _=>True) (env:=env) (ty:=ty) (pos:=pos) (af:=af) (gd:=gd) (ds:=some d) (t:=t) (u:=u) hx hy;rwa [decide_eq_true h] at this) (k' h)
theorem seq [Nc cl]{l m:Bs}(hn:nx C.n.n ops env i=some (d,.binOp .eql t x y u))(hx:ev env x=some (.string ⟨l.toArray⟩))(hy:ev env y=some (.string ⟨m.toArray⟩))(k:l=m→XL C ops Q S r ((d,.bool true)::env) A)(k':l≠m→XL C ops Q S r ((d,.bool false)::env) A):XL C ops Q S (.op cl i r) env A:=by
  by_cases h:l=m
  · exact XL.dt hn (fun ty pos af gd=>by have:=D.strEq (C:=C) (W:=fun _=>True) (env:=env) (ty:=ty) (pos:=pos) (af:=af) (gd:=gd) (ds:=some d) (t:=t) (u:=u) hx hy;rwa [decide_eq_true h] at this) (k h)
  · exact XL.dt hn (fun ty pos af gd=>by have:=D.strEq (C:=C) (W:=fun _=>True) (env:=env) (ty:=ty) (pos:=pos) (af:=af) (gd:=gd) (ds:=some d) (t:=t) (u:=u) hx hy;rwa [decide_eq_false h] at this) (k' h)
end Z
end
end Go.Lx
namespace Go.Lx
def tk (s:Bs):Value:= .string ⟨s.toArray⟩
theorem tk_inj{a b:Bs}(h:tk a=tk b):a=b:=by
  unfold tk at h
  injection h with h
  injection h with h
  simpa using congrArg Array.toList h
theorem ba_beq(k a:Bs):((⟨k.toArray⟩:ByteArray)==⟨a.toArray⟩)=decide (k=a):=by
  have h:((⟨k.toArray⟩:ByteArray)==⟨a.toArray⟩)=(k.toArray==a.toArray):=rfl
  rw [h,Bool.eq_iff_iff]
  simp
theorem sameT(k a:Bs):Instr.sameNow .string (tk k) (tk a)=some (decide (k=a)):=by
  simp [Instr.sameNow,tk,ba_beq]
section
variable {β:Type}
def getT:List (Bs×β)→Bs→Option β
  |[],_=>none
  |(a,b)::l,k=>if a=k then some b else getT l k
def setT:List (Bs×β)→Bs→β→List (Bs×β)
  |[],k,v=>[(k,v)]
  |(a,b)::l,k,v=>if a=k then(k,v)::l else(a,b)::setT l k v
def delT:List (Bs×β)→Bs→List (Bs×β)
  |[],_=>[]
  |(a,b)::l,k=>if a=k then l else(a,b)::delT l k
def keyT (l:List (Bs×β)):List Bs:=l.map (·.1)
theorem getT_set(k:Bs)(v:β):∀ (l:List (Bs×β)) (j:Bs),getT (setT l k v) j=if j=k then some v else getT l j
  |[],j=>by
    simp only [setT,getT]
    by_cases h:j=k
    · rw [if_pos h,if_pos h.symm]
    · rw [if_neg h,if_neg (Ne.symm h)]
  |(a,b)::l,j=>by
    simp only [setT]
    by_cases ha:a=k
    · rw [if_pos ha]
      simp only [getT]
      by_cases h:j=k
      · rw [if_pos h,if_pos h.symm]
      · rw [if_neg h,if_neg (Ne.symm h),if_neg (fun e=>h (e.symm.trans ha))]
    · rw [if_neg ha]
      simp only [getT,getT_set k v l j]
      by_cases hj:a=j
      · rw [if_pos hj,if_pos hj,if_neg (fun e=>ha (hj.trans e))]
      · rw [if_neg hj,if_neg hj]
theorem key_setT(k:Bs)(v:β):∀ (l:List (Bs×β)) (j:Bs),j∈keyT (setT l k v)↔j=k∨j∈keyT l
  |[],j=>by simp [setT,keyT]
  |(a,b)::l,j=>by
    have ih:=key_setT k v l j
    simp only [setT]
    by_cases ha:a=k
    · rw [if_pos ha];subst ha;simp [keyT]
    · rw [if_neg ha]
      simp only [keyT,List.map_cons,List.mem_cons] at ih ⊢
      rw [ih]
      constructor
      · rintro(h|h|h)<;>simp [h]
      · rintro(h|h|h)<;>simp [h]
theorem nodup_setT(k:Bs)(v:β):∀ (l:List (Bs×β)),(keyT l).Nodup→(keyT (setT l k v)).Nodup
  |[],_=>by simp [setT,keyT]
  |(a,b)::l,h=>by
    simp only [keyT,List.map_cons,List.nodup_cons] at h
    simp only [setT]
    by_cases ha:a=k
    · rw [if_pos ha];subst ha;simpa [keyT] using h
    · rw [if_neg ha]
      simp only [keyT,List.map_cons,List.nodup_cons]
      refine⟨fun hm=>?_,nodup_setT k v l h.2⟩
      rcases(key_setT k v l a).1 hm with h1|h1
      · exact ha h1
      · exact h.1 h1
theorem getT_none:∀ (l:List (Bs×β)) (k:Bs),getT l k=none↔k∉keyT l
  |[],k=>by simp [getT,keyT]
  |(a,b)::l,k=>by
    have ih:=getT_none l k
    simp only [getT,keyT,List.map_cons,List.mem_cons,not_or] at ih ⊢
    by_cases h:a=k
    · simp [h]
    · rw [if_neg h,ih];exact⟨fun g=>⟨Ne.symm h,g⟩,fun g=>g.2⟩
def kvT (f:β→Value) (p:Bs×β):Value×Value:=(tk p.1,f p.2)
def mapT (f:β→Value) (g:Nat) (l:List (Bs×β)):Assn where
  holds w F:=(∃ es clock,w.heap[g]?=some (.map es clock)∧es.toList.map kvE=l.map (kvT f)∧MapKept.Stamped es clock)∧∀ b,F b↔b=g
  loc:=fun⟨⟨es,c,h,h2⟩,hF⟩ hk=>⟨⟨es,c,(hk g ((hF g).2 rfl)).trans h,h2⟩,hF⟩
  dom:=fun⟨⟨es,c,h,_⟩,hF⟩ hb=>by rw [(hF _).1 hb];exact(Array.getElem?_eq_some_iff.1 h).1
class MapTAt (A:List Assn) (g:Nat) (β:outParam Type) (f:outParam (β→Value)) (l:outParam (List (Bs×β))) (i:outParam Nat):Prop where at_:A[i]?=some (mapT f g l)
instance {f:β→Value} {g:Nat} {l:List (Bs×β)} {A:List Assn}:MapTAt (mapT f g l::A) g β f l 0:=⟨rfl⟩
instance (priority:=low) {f:β→Value} {g i:Nat} {l:List (Bs×β)} {A:List Assn} {q:Assn} [h:MapTAt A g β f l i]:MapTAt (q::A) g β f l (i+1):=⟨by simpa using h.at_⟩
theorem find_mapT(f:β→Value)(k:Bs):∀ (es:List MapEntry) (l:List (Bs×β)) (n:Nat),es.map kvE=l.map (kvT f)→
    (Instr.findNow (.string) (tk k) es n=some none∧getT l k=none∧(∀ v,l.map (kvT f)++[(tk k,f v)]=(setT l k v).map (kvT f))∧delT l k=l)∨
    ∃ j b,Instr.findNow (.string) (tk k) es n=some (some (n+j,f b))∧getT l k=some b∧j<es.length∧(∃ e,es[j]?=some e∧e.key=tk k)∧(∀ v (h:MapEntry→MapEntry),(∀ e,kvE (h e)=(tk k,f v))→(es.modify j h).map kvE=(setT l k v).map (kvT f))∧(es.eraseIdx j).map kvE=(delT l k).map (kvT f)
  |[],[],n,_=> .inl ⟨rfl,rfl,fun v=>rfl,rfl⟩
  |[],_::_,_,h=>by simp at h
  |_::_,[],_,h=>by simp at h
  |e::es,(a,b)::l,n,h=>by
    simp only [List.map_cons,List.cons.injEq] at h
    obtain⟨h1,h2⟩:=h
    have hk:e.key=tk a:=congrArg Prod.fst h1
    have hv:e.val=f b:=congrArg Prod.snd h1
    by_cases hak:a=k
    · subst hak
      refine .inr ⟨0,b, ?_,by simp [getT],by simp,⟨e,rfl,hk⟩,fun v g hg=>?_, ?_⟩
      · simp [Instr.findNow,sameT,hk,hv]
      · simp [setT,hg,h2,kvT]
      · simp [delT,h2]
    · have hka: ¬k=a:=Ne.symm hak
      have hf:∀ r,Instr.findNow (.string) (tk k) es (n+1)=r→Instr.findNow (.string) (tk k) (e::es) n=r:=fun r hr=>by
        simp [Instr.findNow,sameT,hk,hka,hr]
      rcases find_mapT f k es l (n+1) h2 with⟨g1,g2,g3,g4⟩|⟨j,b',g1,g2,g3,⟨e',g4,g5⟩,g6,g7⟩
      · refine .inl ⟨hf _ g1,by simp only [getT];rw [if_neg hak];exact g2,fun v=>?_,by simp only [delT];rw [if_neg hak,g4]⟩
        simp only [setT]
        rw [if_neg hak,List.map_cons,List.map_cons,List.cons_append,g3]
      · refine .inr ⟨j+1,b',(hf _ g1).trans (by rw [Nat.add_right_comm,Nat.add_assoc]),by simp only [getT];rw [if_neg hak];exact g2,by simp;omega,⟨e',by simpa using g4,g5⟩,fun v h hh=>?_, ?_⟩
        · simp only [setT]
          rw [if_neg hak,List.modify_succ_cons,List.map_cons,List.map_cons,g6 v h hh,h1]
        · simp only [delT]
          rw [if_neg hak,List.eraseIdx_cons_succ,List.map_cons,List.map_cons,g7,h1]
theorem key_notT{f:β→Value}{l:List (Bs×β)}{k:Bs}{es:List MapEntry}(hes:es.map kvE=l.map (kvT f))(hn:getT l k=none){x:MapEntry}(hx:x∈es)(he:x.key=tk k):False:=by
  have h1:kvE x∈es.map kvE:=List.mem_map.2 ⟨x,hx,rfl⟩
  rw [hes] at h1
  obtain⟨p,hp,h2⟩:=List.mem_map.1 h1
  have h3:(tk p.1)=x.key:=congrArg Prod.fst h2
  rw [he] at h3
  have h4:=tk_inj h3
  subst h4
  exact(getT_none l _).1 hn (List.mem_map.2 ⟨p,hp,rfl⟩)
theorem run_checkKeyT{P:Program}{t:TypeId}(ht:P.underlying t=some .string)(em:Bool)(k:Bs)(w:World):(Instr.checkKey em 10000 t (tk k)).run P w= .ok () w:=by
  have:∀ d,(Instr.checkKey em (d+1) t (tk k)).run P w= .ok () w:=fun d=>by
    unfold Instr.checkKey tk
    simp [run_underlying ht]
  exact this 9999
theorem sameBits_txt(k:Bs):Instr.sameBits 10000 (tk k) (tk k)=true:=by
  have:∀ d,Instr.sameBits (d+1) (tk k) (tk k)=true:=fun d=>by
    unfold Instr.sameBits tk
    simp [ba_beq]
  exact this 9999
section
variable {C:Cx} {A A':List Assn} {w:World} {g i:Nat} {f:β→Value} {l:List (Bs×β)}
theorem Conf.mapTAt [h:MapTAt A g β f l i](hc:Conf C A w):∃ es clock,w.heap[g]?=some (.map es clock)∧es.toList.map kvE=l.map (kvT f)∧MapKept.Stamped es clock:=by
  obtain⟨F,hF,_⟩:=hc.get h.at_
  exact hF.1
theorem Conf.setMapT [h:MapTAt A g β f l i]{l':List (Bs×β)} [hu:Upd A i (mapT f g l') A'](hc:Conf C A w){es:Array MapEntry}{clock:Nat}(he:es.toList.map kvE=l'.map (kvT f))(hst:MapKept.Stamped es clock):Conf C A' (w.putObj g (.map es clock)):=by
  rw [←hu.eq]
  obtain⟨F,hF,_⟩:=hc.get h.at_
  obtain⟨⟨es0,c0,h0,_⟩,_⟩:=hF
  have hlt:=(Array.getElem?_eq_some_iff.1 h0).1
  refine hc.update h.at_ rfl rfl rfl (by simp [World.putObj]) (Nat.le_refl _) fun F' ⟨_,hF'⟩=>⟨F',⟨⟨es,clock,by simp [World.putObj,hlt],he,hst⟩,hF'⟩,fun b hb=> .inl hb,fun b hb hn=>?_⟩
  have hne: ¬g=b:=fun e=>hn ((hF' b).2 e.symm)
  simp [World.putObj,hne]
end
end
section
variable {β:Type} {C:Cx} {A A' As:List Assn} {Q:Exit→Act→World→Prop} {S:World→Prop} {env:Env} {ops:Array Oper} {r:Sd} {i d g j:Nat} {v:Value} {cl:Cl} {x y z:Operand} {t u kt e:TypeId} {op:Op} {f:β→Value} {l:List (Bs×β)}
variable {ty:TypeId} {pos:String} {af:Array Edge} {gd:Option (Nat×Bool)}
def lkW (f:β→Value) (z:Value) (l:List (Bs×β)) (k:Bs):Value:=match getT l k with
  |some b=>f b
  |none=>z
theorem run_lookupT{P:Program}{w:World} [ht:MpT P t kt e] [hk:StrT P kt]{z0:Value} [hz:Zr P e z0]{es:Array MapEntry}{clock:Nat}(hb:w.heap[g]?=some (.map es clock))(he:es.toList.map kvE=l.map (kvT f))(k:Bs)(ok:Bool):
    (Instr.lookup t (.map (some g)) (tk k) ok).run P w= .ok (if ok then .tuple #[lkW f z0 l k,.bool (getT l k).isSome] else lkW f z0 l k) w:=by
  have h1:∀ em,(Instr.checkKey em 10000 kt (tk k)).run P w= .ok () w:=fun em=>run_checkKeyT hk.und em k w
  have hg:(getObj g).run P w= .ok (.map es clock) w:=MapKept.run_getObj_map hb
  rcases find_mapT f k es.toList l 0 he with⟨g1,g2,_⟩|⟨j,b,g1,g2,_⟩
  · have h2:(Instr.findKey kt (tk k) es.toList).run P w= .ok none w:=by simp [Instr.findKey,run_underlying hk.und,g1]
    cases ok<;>simp [Instr.lookup,run_underlying ht.und,hg,h1,h2,hz.run,lkW,g2]
  · have h2:(Instr.findKey kt (tk k) es.toList).run P w= .ok (some (0+j,f b)) w:=by simp [Instr.findKey,run_underlying hk.und,g1]
    cases ok<;>simp [Instr.lookup,run_underlying ht.und,hg,h1,h2,lkW,g2]
theorem XL.makeMapT(f:β→Value)(ho:ops[i]?=some ⟨some d,.makeMap t none,ty,pos,af,gd⟩)(hg:gok ops env ⟨some d,.makeMap t none,ty,pos,af,gd⟩=some true)(hdn:Nat.blt d C.n.n=true)(haf:∀ g,After cl S C (mapT f g []::A))
    (k:∀ g,XL C ops Q S r ((d,.map (some g))::env) (mapT f g []::A)):XL C ops Q S (.op cl i r) env A:=by
  refine XL.chg ho hg rfl hdn fun a w he hc=>?_
  refine⟨_,_,w.alloc (.map #[] 0), ?_,hc.new (q:=mapT f w.heap.size []) rfl rfl rfl (by simp) (Nat.le_refl _) (fun b hb=>RowKit.Below.heap_alloc w _ b hb) ⟨fun b=>b=w.heap.size,⟨⟨#[],0,heap_alloc_new w _,rfl,MapKept.stamped_empty 0⟩,fun b=>Iff.rfl⟩,fun b hb=>by rw [hb];exact Nat.le_refl _⟩,haf _,k _⟩
  have hm:(Instr.makeMap t none).run C.P w= .ok (.map (some w.heap.size)) (w.alloc (.map #[] 0)):=rfl
  simp [execOp,hm]
theorem XL.mapSetT{k:Bs}(b:β)(ho:ops[i]?=some ⟨none,.mapUpdate t x y z,ty,pos,af,gd⟩)(hg:gok ops env ⟨none,.mapUpdate t x y z,ty,pos,af,gd⟩=some true) [ht:MpT C.P t kt e] [hk:StrT C.P kt](hx:ev env x=some (.map (some g)))(hy:ev env y=some (tk k))
    [hl:MapTAt A g β f l j] (hz:ev env z=some (f b)) [hu:Upd A j (mapT f g (setT l k b)) A'] [haf:After cl S C A'] (kk:XL C ops Q S r env A'):XL C ops Q S (.op cl i r) env A:=by
  refine XL.chg0 ho hg rfl fun a w he hc=>?_
  obtain⟨es,clock,hb,hes,hst⟩:=hc.mapTAt (g:=g)
  have h1:∀ em,(Instr.checkKey em 10000 kt (tk k)).run C.P w= .ok () w:=fun em=>run_checkKeyT hk.und em k w
  have hg:(getObj g).run C.P w= .ok (.map es clock) w:=MapKept.run_getObj_map hb
  have hset:∀ o,(setObj g o).run C.P w= .ok () (w.putObj g o):=fun o=>MapKept.run_setObj_map o hb
  rcases find_mapT f k es.toList l 0 hes with⟨g1,g2,g3,_⟩|⟨jj,b',g1,g2,g3,⟨e',g4,g5⟩,g6,_⟩
  · have h2:(Instr.findKey kt (tk k) es.toList).run C.P w= .ok none w:=by simp [Instr.findKey,run_underlying hk.und,g1]
    refine⟨A',w.putObj g (.map (es.push ⟨tk k,f b,clock⟩) (clock+1)), ?_,hc.setMapT (l':=setT l k b) ?_ (MapKept.stamped_push hst (fun x hx e=>key_notT hes g2 hx e)),haf,kk⟩
    · simp [execOp,he.ev hx,he.ev hy,he.ev hz,Instr.mapUpdate,run_underlying ht.und,hg,h1,h2,hset]
    · rw [Array.toList_push,List.map_append,hes,←g3 b]
      rfl
  · have h2:(Instr.findKey kt (tk k) es.toList).run C.P w= .ok (some (0+jj,f b')) w:=by simp [Instr.findKey,run_underlying hk.und,g1]
    have h3:(es[jj]?.map (·.key)).getD (tk k)=tk k:=by
      have:es[jj]?=some e':=by rw [←Array.getElem?_toList];exact g4
      rw [this]
      exact g5
    have h4:(Instr.keyThatStays (tk k) (tk k)).run C.P w= .ok (tk k) w:=by
      simp [Instr.keyThatStays,sameBits_txt]
    refine⟨A',w.putObj g (.map (es.modify jj fun e=>{e with key:=tk k,val:=f b}) clock), ?_,hc.setMapT (l':=setT l k b) ?_ (MapKept.stamped_modify hst jj _ (fun _ _=>rfl) (fun e _ hje=>by
      have:es[jj]?=some e':=by rw [←Array.getElem?_toList];exact g4
      rw [this] at hje
      cases hje
      exact g5.symm)),haf,kk⟩
    · simp [execOp,he.ev hx,he.ev hy,he.ev hz,Instr.mapUpdate,run_underlying ht.und,hg,h1,h2,h3,h4,hset]
    · rw [Array.toList_modify]
      exact g6 b _ (fun e=>rfl)
namespace Z
theorem lkOkT [Rl cl C S A As]{k:Bs}{z0:Value}(hn:nx C.n.n ops env i=some (d,.lookup t x y true)) [ht:MpT C.P t kt e] [hk:StrT C.P kt] [hz:Zr C.P e z0](hx:ev env x=some (.map (some g)))(hy:ev env y=some (tk k)) [hl:MapTAt As g β f l j]
    (kk:XL C ops Q S r ((d,.tuple #[lkW f z0 l k,.bool (getT l k).isSome])::env) A):XL C ops Q S (.op cl i r) env A:=
  XL.ld hn (fun ty pos af gd=>⟨fun a w he hw=>by
    obtain⟨es,clock,hb,hes,hst⟩:=hw.mapTAt (g:=g)
    have:=run_lookupT (P:=C.P) (t:=t) (z0:=z0) hb hes k true
    simp [execOp,he.ev hx,he.ev hy,this]⟩) kk
end Z
end
end Go.Lx
