import Derived.Test.YtakoppmiegjjlaaGreatDoorF6
import Derived.Test.YtakoppmiegjjlaaGreatDoorF7
import Derived.Test.YtakoppmiegjjlaaGreatDoorF4
import Derived.Test.YtakoppmiegjjlaaGreatDoorF10
import Derived.Test.YtakoppmiegjjlaaGreatDoorF2
set_option linter.unusedVariables false
set_option linter.unusedSimpArgs false
set_option maxRecDepth 20000
set_option maxHeartbeats 4000000
namespace Go.Lx
open Go.Proofs Go.Shelf Go.Maps
section
variable {β:Type} {P:Program} {f:β→Value} {l:List (Bs×β)}
theorem rd_noS{P:Program}{k:TypeId}(hk:P.underlying k=some .string){e:MapEntry}{s:Bs}(he:e.key=tk s)(hn:s.length≤maxLen):Go.WideElems.rd P k noRdS e=some (.string s,.nil):=by
  unfold Go.WideElems.rd noRdS
  rw [he]
  simp [keyOf,hk,mapKey,tk,ByteArray.size,hn]
theorem mapT_key{es:List MapEntry}(hes:es.map kvE=l.map (kvT f)){x:MapEntry}(hx:x∈es):∃ p∈l,x.key=tk p.1:=by
  have h1:kvE x∈es.map kvE:=List.mem_map.2 ⟨x,hx,rfl⟩
  rw [hes] at h1
  obtain⟨p,hp,h2⟩:=List.mem_map.1 h1
  exact⟨p,hp,(congrArg Prod.fst h2).symm⟩
theorem map_strs{k:TypeId}(hk:P.underlying k=some .string):∀ (es:List MapEntry) (l:List (Bs×β)),es.map kvE=l.map (kvT f)→(∀ p∈l,p.1.length≤maxLen)→(es.map (Go.WideElems.rg P k noRdS)).map (fun p=>Go.strOf p.1)=keyT l
  |[],[],_,_=>rfl
  |[],_::_,h,_=>by simp at h
  |_::_,[],h,_=>by simp at h
  |e::es,p::l,h,hi=>by
    simp only [List.map_cons,List.cons.injEq] at h
    have he:e.key=tk p.1:=congrArg Prod.fst h.1
    have hr:=Go.WideElems.rg_of (rd_noS hk he (hi p List.mem_cons_self))
    have ih:=map_strs hk es l h.2 (fun q hq=>hi q (List.mem_cons_of_mem _ hq))
    simp only [List.map_cons,keyT] at ih ⊢
    rw [hr,ih]
    rfl
theorem owns_mapT{w:World}{k:TypeId}{g:Nat}(hk:P.underlying k=some .string){es:Array MapEntry}{clock:Nat}(hb:w.heap[g]?=some (.map es clock))(hes:es.toList.map kvE=l.map (kvT f))(hst:MapKept.Stamped es clock)(hi:∀ p∈l,p.1.length≤maxLen)(hl:l.length≤maxLen):
    ∃ D:DataW Unit,w.ownsMap P k noRdS g l.length D∧(strKeys D).Perm (keyT l)∧Maps.size D=l.length:=by
  have hlen:es.toList.length=l.length:=by have:=congrArg List.length hes;simpa using this
  have hsz:es.size=l.length:=by simpa using hlen
  refine⟨_,⟨es,clock,hb,⟨by omega,hst,fun x hx=>?_⟩,Nat.le_of_eq hsz,rfl⟩, ?_, ?_⟩
  · obtain⟨p,hp,he⟩:=mapT_key hes hx
    exact⟨_,rd_noS hk he (hi p hp)⟩
  · show((List.foldr DataW.insert [] (es.toList.map (Go.WideElems.rg P k noRdS))).map fun p=>Go.strOf p.1).Perm (keyT l)
    rw [←map_strs hk es.toList l hes hi]
    exact(WideShapes.sorted_perm _).map _
  · have:=(WideShapes.sorted_perm (es.toList.map (Go.WideElems.rg P k noRdS))).length_eq
    simp [Maps.size,hsz] at this ⊢
    omega
theorem sortedKeysT_row{ρ1 ρ2 ρ3:Ren}(L1:SlLaysZ.n10 P ρ1)(L2:SlLaysZ.n6 P ρ2)(L3:SlLaysM.n6 P ρ3)(h3:ρ3.f 6=ρ2.f 9)(he9:∀ args w,(callFunc (ρ2.f 9) args).run P w= .ok (.enter (ρ2.f 9) args) w)(hk:P.underlying (ρ1.t 26)=some .string)
    (w:World) (H:Nat→Prop) (g gm:Nat) (hc:w.cell? ⟨g,0,none⟩=some (.map (some gm))) {es:Array MapEntry} {clock:Nat} (hb:w.heap[gm]?=some (.map es clock)) (hes:es.toList.map kvE=l.map (kvT f)) (hst:MapKept.Stamped es clock) (hi:∀ p∈l,p.1.length≤maxLen) (hl:l.length≤1000000):
    Spec P (ρ2.f 6) #[.func (.func (ρ1.f 10)) #[] #[.pointer (some ⟨g,0,none⟩)]] w H (fun v A=>∃ (a:Option Addr) (c:Nat) (ss:List Bs),v= .slice a ss.length c∧ss.Perm (keyT l)∧ss.Pairwise (· ≤ ·)∧A=[own (ρ2.t 26) 1 (.slice a ss.length c) ss.length (encT ss)]):=by
  obtain⟨D,hD,hp,hs⟩:=owns_mapT (P:=P) hk hb hes hst hi (by unfold maxLen;omega)
  have hg:g<w.heap.size:=by
    cases h:w.heap[g]? with
    |none=>simp [World.cell?,h] at hc
    |some o=>exact(Array.getElem?_eq_some_iff.1 h).1
  have hseq:SeqGives Fence.wide 2 P (ρ1.f 10) #[.pointer (some ⟨g,0,none⟩)] encStr (fun ss=>ss.Perm (strKeys D)) (Maps.size D) w:=
    AnyZ.keys_gives L1 Fence.wide 2 trivial rfl (by omega) g gm l.length D w hg hc hD
  have hsort:AnyZ.SortsIn P ρ2 Fence.wide 4:=by
    refine⟨fun blk off cap ss W hH hblk hsz=>callsIn_wide.2 ?_,fun p cap W=>callsIn_wide.2 ?_⟩
    · rw [←h3];exact AnyM.slices_Sort_string L3 blk off cap ss W hH hblk hsz
    · rw [←h3];exact AnyM.slices_Sort_string_none L3 p cap W
  have cS:=AnyZ.sorted_in L2 Fence.wide 5 trivial trivial trivial trivial rfl (by omega) hsort he9 (ρ1.f 10) #[.pointer (some ⟨g,0,none⟩)] trivial (L1.f10.enters rfl) (fun ss=>ss.Perm (strKeys D)) (Maps.size D) (by rw [hs];unfold maxLen;omega) (by rw [hs];omega) w hseq
  refine Calls.mono (callsIn_wide.1 cS) ?_
  rintro e w' ⟨v,ss,rfl,hS,hrow,hnil,hB⟩
  have tr:∀ a b c:Bs,decide (a≤b)=true→decide (b≤c)=true→decide (a≤c)=true:=fun a b c h1 h2=>by simp only [decide_eq_true_eq] at *;exact List.le_trans h1 h2
  have tto:∀ a b:Bs,(decide (a≤b)||decide (b≤a))=true:=fun a b=>by simp only [Bool.or_eq_true,decide_eq_true_eq];exact List.le_total a b
  obtain⟨ds,hds⟩:∃ ds,ss.mergeSort (fun x y=>decide (x≤y))=ds:=⟨_,rfl⟩
  have hpm:ds.Perm ss:=by rw [←hds];exact List.mergeSort_perm ss _
  have hpw:ds.Pairwise (· ≤ ·):=by
    rw [←hds]
    exact(List.pairwise_mergeSort tr tto ss).imp (fun h=>of_decide_eq_true h)
  have hln:=hpm.length_eq
  rw [hds] at hrow
  have henc:ds.map encStr=encT ds:=by
    show ds.map encStr=List.flatMap encT1 ds
    rw [List.map_eq_flatMap]
    rfl
  rw [henc,←hln] at hrow
  have hv:∃ a c,v= .slice a ds.length c:=by
    rcases hrow.2 with⟨rfl,hz⟩|⟨gb,cap,cur,rfl,_⟩
    · exact⟨none,0,by rw [hz]⟩
    · exact⟨_,_,rfl⟩
  obtain⟨a,c,rfl⟩:=hv
  refine⟨_,_,rfl,⟨a,c,ds,rfl,hpm.trans (hS.trans hp),hpw,rfl⟩, ?_⟩
  have hr0:w'.ownsRow 0 (ρ2.t 26) 1 (.slice a ds.length c) ds.length (encT ds):=by
    refine⟨hrow.1, ?_⟩
    rcases hrow.2 with h|⟨gb,cap,cur,h1,h2,h4⟩
    · exact .inl h
    · exact .inr ⟨gb,cap,cur,h1,Nat.zero_le _,h4⟩
  refine⟨hB.os,hB.tape,hB.output,hB.size,trivial,fun b hb _=>hB.block b hb,⟨fun b=>(Value.slice a ds.length c).ownBlock=some b,⟨fun b=>(Value.slice a ds.length c).ownBlock=some b,fun _=>False,⟨hr0,fun b=>Iff.rfl⟩,fun _ h=>h,fun _ _ h=>h,fun b=>by simp⟩,fun b hb=>?_⟩⟩
  rcases hrow.2 with⟨h,_⟩|⟨gb,cap,cur,h,h2,_⟩
  · rw [h] at hb;cases hb
  · rw [h] at hb
    have:gb=b:=by simpa [Value.ownBlock] using hb
    subst this
    exact .inr h2
end
section
variable {β:Type} {f:β→Value} {l:List (Bs×β)} {C:Cx} {A:List Assn} {g i:Nat}
def MapTOf (f:β→Value) (w:World) (g:Nat) (l:List (Bs×β)):Prop:=∃ es clock,w.heap[g]?=some (.map es clock)∧es.toList.map kvE=l.map (kvT f)∧MapKept.Stamped es clock
theorem Conf.mapTOf{w:World} [h:MapTAt A g β f l i](hc:Conf C A w):MapTOf f w g l:=hc.mapTAt
end
namespace Z
section
variable {β:Type} {C:Cx} {A As:List Assn} {Q:Exit→Act→World→Prop} {S:World→Prop} {env:Env} {ops:Array Oper} {r:Sd} {i d g:Nat} {cl:Cl} {x y:Operand} {t kt e:TypeId}
end
end Z
end Go.Lx
namespace Go.Lx
open Go.Proofs
structure Ft where
  a:Option Addr
  l:List Int
  c:Nat
def Ft.tl (f:Ft):Ft:=match f.l with
  |[]=>f
  |_::r=>⟨subA f.a 1 1 f.c,r,f.c-1⟩
def fateL:List Int→Int
  |[]=>0
  |x::_=>x%4
theorem fate_eq(x:Int):Int.tmod (Int.tmod x 4+4) 4=x%4:=by
  rcases Int.le_total 0 x with h|h
  · rw [Int.tmod_eq_emod_of_nonneg h,Int.tmod_eq_emod_of_nonneg (by omega)];omega
  · obtain⟨y,rfl⟩:∃ y,x= -y:=⟨-x,by omega⟩
    rw [Int.neg_tmod,Int.tmod_eq_emod_of_nonneg (a:=y) (by omega),Int.tmod_eq_emod_of_nonneg (by omega)];omega
theorem fate_lo(x:Int): -4<Int.tmod x 4∧Int.tmod x 4<4:=by
  rcases Int.le_total 0 x with h|h
  · rw [Int.tmod_eq_emod_of_nonneg h];omega
  · obtain⟨y,rfl⟩:∃ y,x= -y:=⟨-x,by omega⟩
    rw [Int.neg_tmod,Int.tmod_eq_emod_of_nonneg (a:=y) (by omega)];omega
def Ft.rd (f:Ft) (w:World) (H:Nat→Prop):Prop:=RdX w H 1 f.a f.l.length f.c (encN f.l)
theorem Ft.rd_tl{f:Ft}{w:World}{H:Nat→Prop}(h:f.rd w H):f.tl.rd w H:=by
  obtain⟨a,l,c⟩:=f
  cases l with
  |nil=>exact h
  |cons x r=>
    have h1:RdX w H 1 a (r.length+1) c (encN (x::r)):=h
    have hc:=h1.rd.le
    have hs:=h1.rd.sub (l:=1) (h:=r.length+1) (m:=c) (by omega) hc (Nat.le_refl _) (Nat.le_refl _)
    have e:((encN (x::r)).drop (1*1)).take ((r.length+1-1)*1)=encN r:=by
      show((Value.int .i64 x::encN r).drop 1).take ((r.length+1-1)*1)=encN r
      rw [List.drop_succ_cons,List.drop_zero,List.take_of_length_le]
      have:=flat_len encN1 1 (fun _=>rfl) r
      show(encN r).length≤_
      unfold encN;omega
    rw [e] at hs
    refine⟨hs,fun j v hj hb=>?_⟩
    obtain⟨b,rfl⟩:∃ b,a=some b:=by
      have:=h1.rd.sm (by omega)
      cases a with
      |none=>simp at this
      |some b=>exact⟨b,rfl⟩
    have e2:(el (subA (some b) 1 1 c) j).block=(el (some b) 0).block:=by
      unfold subA
      split<;>simp [el,Addr.add]<;>split<;>rfl
    refine h1.out 0 (.int .i64 x) rfl ?_
    rw [←e2]
    exact hb
theorem bkNext_spec(w:World)(H:Nat→Prop)(g gm:Nat)(q u:Int)(f:Ft)(hown:Sep [cells g [.map (some gm),Zj q,Zj u,.slice f.a f.l.length f.c,Zl] 110] w H)(hf:f.rd w H):Spec Tryz.prog 186 #[.pointer (some ⟨g,0,none⟩)] w H (fun v A=>v=Zj (fateL f.l)∧A=[cells g [.map (some gm),Zj q,Zj u,.slice f.tl.a f.tl.l.length f.tl.c,Zl] 110]):=by
  obtain⟨a,l,c⟩:=f
  refine Spec.enter Tryz.func186 rfl Tryz.ntmps186 rfl hown ?_
  ((refine Zt ?_<;>repeat' first|refine Z.p rfl ?_|refine Qf ?_)<;>refine X.seq ?_<;>((refine Zt ?_<;>repeat' first|refine Z.p rfl ?_|(refine Za 5 ?_;(rcases l with _|⟨x,r⟩<;>first|(have hr:0<r.length+1:=Nat.succ_pos _;refine Z.cf rfl (show¬(((r.length+1:Nat):Int)=0) by omega) ?_)|refine Z.ct rfl (show((0:Nat):Int)=0 from rfl) ?_))|refine Z.fa rfl rfl rfl ?_|refine Z.l1 rfl rfl rfl ?_|refine Z.lN rfl rfl rfl ?_|refine Z.lP rfl rfl rfl ?_|refine Z.ln rfl rfl ?_|refine Z.lnL rfl rfl ?_|refine Z.lnS rfl rfl ?_|refine Qf ?_)<;>(first|(refine Zu ?_;(refine Zt ?_<;>repeat' first|refine Z.p rfl ?_|refine Qf ?_)<;>(apply X.r1 Tryz.results186 (Qh rfl);(focus(first|exact⟨rfl,(rfl:[cells g [.map (some gm),Zj q,Zj u,.slice ((⟨a,[],c⟩:Ft)).a ((⟨a,[],c⟩:Ft)).l.length ((⟨a,[],c⟩:Ft)).c,Zl] 110]=_)⟩|exact⟨rfl,(rfl:[cells g [.map (some gm),Zj q,Zj u,.slice (subA a 1 1 c) (r.length+1-1) (c-1),Zl] 110]=_)⟩));exact Zd))|refine Zm ?_))<;>(first|refine Ex.then ?_|refine N.next ?_<;>((refine Zt ?_<;>repeat' first|refine Z.p rfl ?_|(refine Za 4 ?_;(refine Z.ix 0 rfl rfl rfl rfl (show 0<r.length+1 by omega) (hf.rd.sm (show 0<r.length+1 by omega)) ?_))|(refine Za 5 ?_;(refine Z.la rfl rfl (fun w hw=>Rd.intAt (hf.now hw) (show(x::r)[0]?=some x from rfl)) ?_))|refine Z.fa rfl rfl rfl ?_|refine Z.l1 rfl rfl rfl ?_|refine Z.lN rfl rfl rfl ?_|refine Z.lP rfl rfl rfl ?_|refine Qf ?_)<;>(refine Zt ?_<;>repeat' first|refine Z.p rfl ?_|(refine Za 5 ?_;(refine XL.dt rfl (fun _ _ _ _=>D.sliceL (l:=1) rfl rfl (show 1≤r.length+1 by omega)) ?_))|refine Z.fa rfl rfl rfl ?_|refine Z.l1 rfl rfl rfl ?_|refine Z.lN rfl rfl rfl ?_|refine Z.lP rfl rfl rfl ?_|refine Qj rfl rfl rfl rfl rfl ?_|refine Qk rfl rfl rfl rfl rfl rfl ?_|refine XL.storeP rfl rfl rfl rfl rfl rfl ?_|refine Qf ?_)<;>(refine Zt ?_<;>repeat' first|refine Z.p rfl ?_|(refine Za 1 ?_;(refine Z.rem rfl rfl rfl (by decide) ?_))|(refine Za 2 ?_;(have hlo:=fate_lo x;refine Z.g rfl (by omega) ?_))|(refine Za 3 ?_;(refine Z.rem rfl rfl rfl (by decide) ?_;rw [fate_eq]))|refine Qf ?_)<;>(apply X.r1 Tryz.results186 (Qh rfl);(focus(first|exact⟨rfl,(rfl:[cells g [.map (some gm),Zj q,Zj u,.slice ((⟨a,[],c⟩:Ft)).a ((⟨a,[],c⟩:Ft)).l.length ((⟨a,[],c⟩:Ft)).c,Zl] 110]=_)⟩|exact⟨rfl,(rfl:[cells g [.map (some gm),Zj q,Zj u,.slice (subA a 1 1 c) (r.length+1-1) (c-1),Zl] 110]=_)⟩));exact Zd))))
theorem bkFails_spec(w:World)(H:Nat→Prop)(g gm:Nat)(q u:Int)(f:Ft)(hown:Sep [cells g [.map (some gm),Zj q,Zj u,.slice f.a f.l.length f.c,Zl] 110] w H)(hf:f.rd w H):Spec Tryz.prog 163 #[.pointer (some ⟨g,0,none⟩)] w H (fun v A=>v= .bool (decide (fateL f.l≠0))∧A=[cells g [.map (some gm),Zj q,Zj u,.slice f.tl.a f.tl.l.length f.tl.c,Zl] 110]):=by
  refine Spec.enter Tryz.func163 rfl Tryz.ntmps163 rfl hown ?_
  ((refine Zt ?_<;>repeat' first|refine Z.p rfl ?_|refine Qf ?_)<;>(refine Zt ?_<;>repeat' first|refine Z.p rfl ?_|(refine Za 1 ?_;((refine Qo [cells g [.map (some gm),Zj q,Zj u,.slice f.a f.l.length f.c,Zl] 110] rfl rfl rfl rfl (fun w F hF hm hw=>bkNext_spec w F g gm q u f hF (hf.call hw hm)) (Zs ?_))))|(refine Za 2 ?_;(refine Z.cs rfl (fun h1=>?_) (fun h1=>?_)))|refine Qf ?_)<;>(apply X.r1 Tryz.results163 (Qh rfl);(focus(first|exact⟨by rw [decide_eq_true h1],rfl⟩|exact⟨by rw [decide_eq_false h1],rfl⟩));exact Zd))
theorem may_spec19(w:World)(g:Nat)(s:Bs)(r:Bool)(hs:s=[]∨(1≤s.length∧s.length≤64∧∀ b∈s,b∈letB)):Spec Tryz.prog 106 #[.pointer (some ⟨g,0,none⟩),Zi s,.bool r] w (fun _=>False) (fun v A=>v=Zj (if s≠[]∧r=true then 0 else 1)∧A=[]):=by
  refine Zn Tryz.func106 Tryz.ntmps106 ?_
  ((refine Zt ?_<;>repeat' first|refine Z.p rfl ?_|refine Qf ?_)<;>refine X.seq ?_<;>(refine X.block ?_<;>((refine Zt ?_<;>repeat' first|refine Z.p rfl ?_|(refine Za 1 ?_;(refine Z.eqP rfl rfl rfl ?_))|refine Qf ?_)<;>(first|(refine Zu ?_;(refine Zt ?_<;>repeat' first|refine Z.p rfl ?_|refine Qf ?_)<;>(apply X.r1 Tryz.results106 (Qh rfl);(focus(refine⟨?_,rfl⟩;first|(rw [if_pos ⟨h0,rfl⟩];done)|(rw [if_neg (fun h=>bF h.2)];done)|(rw [if_neg (fun h=>h0 h.1)];done)));exact Zd))|(refine Zf ?_;(refine Zt ?_<;>repeat' first|refine Z.p rfl ?_|(refine Za 1 ?_;((refine XL.call rfl rfl rfl rfl (fun w hw=>named_spec w s hs) (Zs ?_));(by_cases h0:s≠[]<;>first|rw [decide_eq_true h0]|rw [decide_eq_false h0])<;>(cases r)))|refine Z.pk rfl rfl rfl rfl ?_|refine Qf ?_)<;>(first|(refine Zu ?_;(refine Zt ?_<;>repeat' first|refine Z.p rfl ?_|refine Qf ?_)<;>(apply X.r1 Tryz.results106 (Qh rfl);(focus(refine⟨?_,rfl⟩;first|(rw [if_pos ⟨h0,rfl⟩];done)|(rw [if_neg (fun h=>bF h.2)];done)|(rw [if_neg (fun h=>h0 h.1)];done)));exact Zd))|refine Zm ?_))))<;>(first|refine N.block ?_|refine Ql ?_|refine Ex.out rfl ?_))<;>(first|refine Ex.then ?_|refine N.next ?_<;>((refine Zt ?_<;>repeat' first|refine Z.p rfl ?_|refine Qf ?_)<;>(apply X.r1 Tryz.results106 (Qh rfl);(focus(refine⟨?_,rfl⟩;first|(rw [if_pos ⟨h0,rfl⟩];done)|(rw [if_neg (fun h=>bF h.2)];done)|(rw [if_neg (fun h=>h0 h.1)];done)));exact Zd))))
def getS (o:Option Bs) (fate:Int) (at_ n:Nat):Bs×Int:=if fate≠0 then([],34) else match o with
  |none=>([],15)
  |some d=>if at_>d.length then([],31) else((d.drop at_).take n,0)
def findS (o:Option Bs) (fate:Int):Bs×Int:=if fate≠0 then([],34) else match o with
  |none=>([],15)
  |some d=>(d,0)
instance mpTSS:MpT Tryz.prog 107 9 9:=⟨Tryz.underlying107⟩
instance zrStr:Zr Tryz.prog 9 (.string ByteArray.empty):=Zr.mk' (by kernel_rfl)
theorem bkFind_spec(w:World)(H:Nat→Prop)(g gm:Nat)(q u:Int)(f:Ft)(es:List (Bs×Bs))(s:Bs)(hown:Sep [cells g [.map (some gm),Zj q,Zj u,.slice f.a f.l.length f.c,Zl] 110,mapT tk gm es] w H)(hf:f.rd w H):Spec Tryz.prog 183 #[.pointer (some ⟨g,0,none⟩),Zi s] w H (fun v A=>∃ r e,v= .tuple #[Zi r,Zj e]∧findS (getT es s) (fateL f.l)=(r,e)∧A=[cells g [.map (some gm),Zj q,Zj u,.slice f.tl.a f.tl.l.length f.tl.c,Zl] 110,mapT tk gm es]):=by
  refine Spec.enter Tryz.func183 rfl Tryz.ntmps183 rfl hown ?_
  ((refine Zt ?_<;>repeat' first|refine Z.p rfl ?_|refine Qf ?_)<;>refine X.seq ?_<;>((refine Zt ?_<;>repeat' first|refine Z.p rfl ?_|(refine Za 1 ?_;((refine Qo [cells g [.map (some gm),Zj q,Zj u,.slice f.a f.l.length f.c,Zl] 110] rfl rfl rfl rfl (fun w F hF hm hw=>bkFails_spec w F g gm q u f hF (hf.call hw hm)) (Zs ?_));(by_cases h0:fateL f.l≠0<;>first|rw [decide_eq_true h0]|rw [decide_eq_false h0])))|refine Qf ?_)<;>(first|(refine Zu ?_;(refine Zt ?_<;>repeat' first|refine Z.p rfl ?_|refine Qf ?_)<;>(apply X.r2 Tryz.results183 (Qh rfl) (Qh rfl);(focus(first|exact⟨[],34,rfl,(by unfold findS;rw [if_pos h0]),rfl⟩|exact⟨[],15,rfl,(by unfold findS;rw [if_neg h0]),rfl⟩|exact⟨_,0,rfl,(by unfold findS;rw [if_neg h0]),rfl⟩));exact Zd))|refine Zm ?_))<;>(first|refine Ex.then ?_|refine N.next ?_<;>((refine Zt ?_<;>repeat' first|refine Z.p rfl ?_|(refine Za 5 ?_;(refine Z.lkOkT rfl rfl rfl ?_;(obtain⟨o,ho⟩:∃ o,getT es s=o:=⟨_,rfl⟩);unfold lkW;rw [ho];cases o))|refine Z.fa rfl rfl rfl ?_|refine Z.l1 rfl rfl rfl ?_|refine Z.lN rfl rfl rfl ?_|refine Z.lP rfl rfl rfl ?_|refine Qf ?_)<;>refine X.seq ?_<;>((refine Zt ?_<;>repeat' first|refine Z.p rfl ?_|refine Qf ?_)<;>(first|(refine Zu ?_;(refine Zt ?_<;>repeat' first|refine Z.p rfl ?_|refine Qf ?_)<;>(apply X.r2 Tryz.results183 (Qh rfl) (Qh rfl);(focus(first|exact⟨[],34,rfl,(by unfold findS;rw [if_pos h0]),rfl⟩|exact⟨[],15,rfl,(by unfold findS;rw [if_neg h0]),rfl⟩|exact⟨_,0,rfl,(by unfold findS;rw [if_neg h0]),rfl⟩));exact Zd))|refine Zm ?_))<;>(first|refine Ex.then ?_|refine N.next ?_<;>((refine Zt ?_<;>repeat' first|refine Z.p rfl ?_|refine Qf ?_)<;>(apply X.r2 Tryz.results183 (Qh rfl) (Qh rfl);(focus(first|exact⟨[],34,rfl,(by unfold findS;rw [if_pos h0]),rfl⟩|exact⟨[],15,rfl,(by unfold findS;rw [if_neg h0]),rfl⟩|exact⟨_,0,rfl,(by unfold findS;rw [if_neg h0]),rfl⟩));exact Zd))))))
theorem take_min(d:Bs)(a n:Nat):(d.drop a).take (min n (d.length-a))=(d.drop a).take n:=by
  rw [←List.length_drop,List.take_eq_take_iff];simp
theorem getS_io{o:Option Bs}{f:Int}{a n:Nat}(h:f≠0):getS o f a n=([],34):=if_pos h
theorem getS_none{f:Int}{a n:Nat}(h: ¬f≠0):getS none f a n=([],15):=if_neg h
theorem getS_far{d:Bs}{f:Int}{a n:Nat}(h: ¬f≠0)(h2:a>d.length):getS (some d) f a n=([],31):=(if_neg h).trans (if_pos h2)
theorem getS_some{d:Bs}{f:Int}{a n:Nat}(h: ¬f≠0)(h2:a≤d.length):getS (some d) f a n=((d.drop a).take (a+min n (d.length-a)-a),0):=by
  unfold getS
  rw [if_neg h]
  dsimp only
  rw [if_neg (by omega),show a+min n (d.length-a)-a=min n (d.length-a) from by omega,take_min]
theorem Get_spec(w:World)(H:Nat→Prop)(g gm:Nat)(q u:Int)(f:Ft)(es:List (Bs×Bs))(s:Bs)(at_ n:Nat)(hat:at_≤1000000000)(hn:n≤1000000000)(hs:1≤s.length∧s.length≤64∧∀ b∈s,b∈letB)(hd:∀ k d,getT es k=some d→d.length≤1000000)(hown:Sep [cells g [.map (some gm),Zj q,Zj u,.slice f.a f.l.length f.c,Zl] 110,mapT tk gm es] w H)(hf:f.rd w H):Spec Tryz.prog 103 #[.pointer (some ⟨g,0,none⟩),Zi s,Zj ((at_:Nat):Int),Zj ((n:Nat):Int)] w H (fun v A=>∃ r e,v= .tuple #[Zi r,Zj e]∧getS (getT es s) (fateL f.l) at_ n=(r,e)∧A=[cells g [.map (some gm),Zj q,Zj u,.slice f.tl.a f.tl.l.length f.tl.c,Zl] 110,mapT tk gm es]):=by
  have hne:s≠[]:=by rintro rfl;simp at hs
  refine Spec.enter Tryz.func103 rfl Tryz.ntmps103 rfl hown ?_
  ((refine Zt ?_<;>repeat' first|refine Z.p rfl ?_|refine Qf ?_)<;>refine X.seq ?_<;>((refine Zt ?_<;>repeat' first|refine Z.p rfl ?_|(refine Za 3 ?_;(refine Z.ct rfl (by omega) ?_))|(refine Za 6 ?_;(refine Z.ct rfl (by omega) ?_))|(refine Za 8 ?_;((refine XL.call rfl rfl rfl rfl (fun w hw=>may_spec19 w g s true (.inr hs)) (Zs ?_));rw [if_pos ⟨hne,rfl⟩]))|refine Z.pk rfl rfl rfl rfl ?_|refine Qf ?_)<;>(refine Zt ?_<;>repeat' first|refine Z.p rfl ?_|(refine Za 1 ?_;(refine Z.cf rfl (by decide) ?_))|refine Qf ?_)<;>(first|(refine Zu ?_;(refine Zt ?_<;>repeat' first|refine Z.p rfl ?_|refine Qf ?_)<;>(apply X.r2 Tryz.results103 (Qh rfl) (Qh rfl);(focus(first|exact⟨[],34,rfl,getS_io h0,rfl⟩|exact⟨[],15,rfl,getS_none h0,rfl⟩|exact⟨[],31,rfl,getS_far h0 (by omega),rfl⟩|exact⟨_,0,rfl,getS_some h0 (by omega),rfl⟩));exact Zd))|refine Zm ?_))<;>(first|refine Ex.then ?_|refine N.next ?_<;>((refine Zt ?_<;>repeat' first|refine Z.p rfl ?_|(refine Za 2 ?_;((refine Qo [cells g [.map (some gm),Zj q,Zj u,.slice f.a f.l.length f.c,Zl] 110,mapT tk gm es] rfl rfl rfl rfl (fun w F hF hm hw=>bkFind_spec w F g gm q u f es s hF (hf.call hw hm)) ?_;rintro v B' ⟨r,e,rfl,hfs,rfl⟩;refine Qg ?_);(obtain⟨o,ho⟩:∃ o,getT es s=o:=⟨_,rfl⟩);rw [ho] at hfs ⊢;unfold findS at hfs;(by_cases h0:fateL f.l≠0<;>first|(rw [if_pos h0] at hfs;cases hfs)|(rw [if_neg h0] at hfs;rcases o with _|d<;>cases hfs<;>first|(have hdl:=hd s _ ho)|skip))))|refine Qf ?_)<;>refine X.seq ?_<;>(refine X.block ?_<;>((refine Zt ?_<;>repeat' first|refine Z.p rfl ?_|(refine Za 1 ?_;(first|refine Z.cf rfl (show¬((0:Int)≠0) by decide) ?_|refine Z.ct rfl (by decide) ?_))|refine Qf ?_)<;>(first|(refine Zu ?_;(refine Zt ?_<;>repeat' first|refine Z.p rfl ?_|refine Qf ?_)<;>(apply X.r2 Tryz.results103 (Qh rfl) (Qh rfl);(focus(first|exact⟨[],34,rfl,getS_io h0,rfl⟩|exact⟨[],15,rfl,getS_none h0,rfl⟩|exact⟨[],31,rfl,getS_far h0 (by omega),rfl⟩|exact⟨_,0,rfl,getS_some h0 (by omega),rfl⟩));exact Zd))|(refine Zf ?_;(refine Zt ?_<;>repeat' first|refine Z.p rfl ?_|(refine Za 2 ?_;(refine Z.lnL rfl rfl ?_))|(refine Za 3 ?_;(refine Z.cs rfl (fun h1=>?_) (fun h1=>?_)))|refine Qf ?_)<;>(first|(refine Zu ?_;(refine Zt ?_<;>repeat' first|refine Z.p rfl ?_|refine Qf ?_)<;>(apply X.r2 Tryz.results103 (Qh rfl) (Qh rfl);(focus(first|exact⟨[],34,rfl,getS_io h0,rfl⟩|exact⟨[],15,rfl,getS_none h0,rfl⟩|exact⟨[],31,rfl,getS_far h0 (by omega),rfl⟩|exact⟨_,0,rfl,getS_some h0 (by omega),rfl⟩));exact Zd))|refine Zm ?_))))<;>(first|refine N.block ?_|refine Ql ?_|refine Ex.out rfl ?_))<;>(first|refine Ex.then ?_|refine N.next ?_<;>((refine Zt ?_<;>repeat' first|refine Z.p rfl ?_|(refine Za 5 ?_;(refine Z.lnL rfl rfl ?_))|(refine Za 7 ?_;(refine Z.g rfl (by omega) ?_))|(refine Za 8 ?_;(refine Z.mn rfl rfl rfl ?_))|(refine Za 9 ?_;(have hle:at_≤r.length:=(by omega);rw [show min ((n:Nat):Int) (((r.length:Nat):Int)-((at_:Nat):Int))=((min n (r.length-at_):Nat):Int) from(by omega)];refine Z.g rfl (by omega) ?_))|(refine Za 10 ?_;(refine XL.dt rfl (fun _ _ _ _=>D.cutLH (l:=r) (a:=at_) (h:=at_+min n (r.length-at_)) rfl rfl rfl (by omega) (by omega) (by omega)) ?_))|refine Qf ?_)<;>(apply X.r2 Tryz.results103 (Qh rfl) (Qh rfl);(focus(first|exact⟨[],34,rfl,getS_io h0,rfl⟩|exact⟨[],15,rfl,getS_none h0,rfl⟩|exact⟨[],31,rfl,getS_far h0 (by omega),rfl⟩|exact⟨_,0,rfl,getS_some h0 (by omega),rfl⟩));exact Zd))))))
end Go.Lx
namespace Go.Lx
def bl (x:Nat):Nat:=if h:x=0 then 0 else bl (x/2)+1
termination_by x
decreasing_by omega
theorem bl_zero:bl 0=0:=by unfold bl;rfl
theorem bl_pos{x:Nat}(h:x≠0):bl x=bl (x/2)+1:=by rw [bl,dif_neg h]
theorem bl_le:∀ (k x:Nat),bl x≤k↔x<2^k
  |0,x=>by
    by_cases h:x=0
    · subst h;simp [bl_zero]
    · rw [bl_pos h];simp;exact h
  |k+1,x=>by
    by_cases h:x=0
    · subst h;rw [bl_zero];simp [Nat.pow_pos]
    · rw [bl_pos h,Nat.pow_succ]
      have:=bl_le k (x/2)
      omega
theorem bl_shift:∀ (k x:Nat),2^k≤x→bl x=bl (x/2^k)+k
  |0,x,_=>by simp
  |k+1,x,h=>by
    have hp:0<2^k:=Nat.pow_pos (by decide)
    rw [Nat.pow_succ] at h
    rw [bl_pos (by omega),bl_shift k (x/2) (by omega),Nat.div_div_eq_div_mul,Nat.pow_succ,Nat.mul_comm 2]
    omega
def vsz (x:Nat):Nat:=min (max ((bl x+6)/7) 1) 9
theorem vsz_le{x n:Nat}(h1:1≤n)(h9:n<9):vsz x≤n↔x<128^n:=by
  have e:(128:Nat)^n=2^(7*n):=by rw [Nat.pow_mul]
  rw [e,←bl_le]
  unfold vsz
  omega
theorem vsz_bd(x:Nat):1≤vsz x∧vsz x≤9:=by unfold vsz;omega
def hd (n:Nat):Nat:=255-255/2^(n-1)
def fixB (x:Nat):Nat→Bs
  |0=>[]
  |n+1=>UInt8.ofNat (x/256^n)::fixB x n
theorem fixB_len(x:Nat):∀ n,(fixB x n).length=n
  |0=>rfl
  |n+1=>by simp [fixB,fixB_len x n]
def varB (x:Nat):Bs:=UInt8.ofNat (hd (vsz x)+x/256^(vsz x-1))::fixB x (vsz x-1)
theorem varB_len(x:Nat):(varB x).length=vsz x:=by
  have:=vsz_bd x
  simp [varB,fixB_len];omega
def numS (x0:Nat) (l:Bs):Nat:=l.foldl (fun x b=>256*x+b.toNat) x0
def num (l:Bs):Nat:=numS 0 l
theorem numS_eq:∀ (l:Bs) (x0:Nat),numS x0 l=x0*256^l.length+num l
  |[],x0=>by simp [numS,num]
  |b::l,x0=>by
    have h1:=numS_eq l (256*x0+b.toNat)
    have h2:=numS_eq l (256*0+b.toNat)
    unfold num
    show numS (256*x0+b.toNat) l=_+numS (256*0+b.toNat) l
    rw [h1,h2]
    simp only [List.length_cons,Nat.pow_succ]
    rw [Nat.mul_zero,Nat.zero_add,Nat.add_mul,Nat.mul_comm 256 x0,Nat.mul_assoc,Nat.mul_comm 256 (256^l.length),Nat.add_assoc]
theorem num_lt:∀ l:Bs,num l<256^l.length
  |[]=>by simp [num,numS]
  |b::l=>by
    have h:=num_lt l
    have hb:=b.toNat_lt
    show numS (256*0+b.toNat) l<_
    rw [numS_eq]
    simp only [List.length_cons,Nat.pow_succ,Nat.mul_zero,Nat.zero_add]
    have h3:b.toNat*256^l.length≤255*256^l.length:=Nat.mul_le_mul_right _ (by omega)
    omega
theorem num_cons(b:UInt8)(l:Bs):num (b::l)=b.toNat*256^l.length+num l:=by
  show numS (256*0+b.toNat) l=_
  rw [numS_eq];simp
theorem num_snoc(l:Bs)(b:UInt8):num (l++[b])=256*num l+b.toNat:=by simp [num,numS]
theorem num_fixB(x:Nat):∀ n,num (fixB x n)=x%256^n
  |0=>by simp [fixB,num,numS,Nat.mod_one]
  |n+1=>by
    rw [fixB,num_cons,num_fixB x n,fixB_len]
    have e:(UInt8.ofNat (x/256^n)).toNat=x/256^n%256:=by simp
    rw [e,Nat.pow_succ,Nat.mod_mul,Nat.mul_comm,Nat.add_comm]
theorem fixB_num:∀ (l:Bs),fixB (num l) l.length=l
  |[]=>rfl
  |b::l=>by
    have hp:0<256^l.length:=Nat.pow_pos (by decide)
    have hl:=num_lt l
    rw [num_cons]
    simp only [List.length_cons,fixB]
    congr 1
    · rw [Nat.add_comm,Nat.add_mul_div_right _ _ hp,Nat.div_eq_of_lt hl,Nat.zero_add];simp
    · have key:∀ (n:Nat) (y z:Nat),y%256^n=z%256^n→fixB y n=fixB z n:=by
        intro n
        induction n with
        |zero=>intros;rfl
        |succ n ih=>
          intro y z h
          simp only [fixB]
          have h1:y%256^n=z%256^n:=by
            have:=congrArg (· %256^n) h
            simpa [Nat.pow_succ,Nat.mod_mul_right_mod] using this
          rw [ih y z h1]
          congr 1
          have h2:y/256^n%256=z/256^n%256:=by
            have e:∀ a,a%256^(n+1)/256^n=a/256^n%256:=fun a=>by rw [Nat.pow_succ,Nat.mod_mul_right_div_self]
            rw [←e,←e,h]
          apply UInt8.toNat_inj.1
          simpa using h2
      rw [key l.length _ (num l) (by rw [Nat.add_comm,Nat.add_mul_mod_self_right])]
      exact fixB_num l
def wid (b:UInt8):Nat:=9-bl (255-b.toNat)
theorem wid_bd(b:UInt8):1≤wid b∧wid b≤9:=by
  have:bl (255-b.toNat)≤8:=(bl_le 8 _).2 (by have:=b.toNat_lt;omega)
  unfold wid;omega
theorem wid_range{b:UInt8}{n:Nat}(h:wid b=n):hd n≤b.toNat∧b.toNat<hd n+2^(8-n)+(if n=9 then 1 else 0)∧(n=9→b.toNat=255):=by
  have hb:=b.toNat_lt
  have h9:=wid_bd b
  have h1:=bl_le (9-n) (255-b.toNat)
  have h2:=bl_le (8-n) (255-b.toNat)
  unfold wid at h
  have hx:bl (255-b.toNat)≤8:=(bl_le 8 _).2 (by omega)
  have h3:255-b.toNat<2^(9-n):=h1.1 (by omega)
  have h4:n=9∨ ¬255-b.toNat<2^(8-n):=by
    by_cases e:n=9
    · exact .inl e
    · exact .inr fun h'=>by have:=h2.2 h';omega
  have hn:n=1∨n=2∨n=3∨n=4∨n=5∨n=6∨n=7∨n=8∨n=9:=by unfold wid at h9;omega
  rcases hn with rfl|rfl|rfl|rfl|rfl|rfl|rfl|rfl|rfl<;>simp [hd] at * <;>omega
theorem wid_of{b:UInt8}{n:Nat}(hn:1≤n∧n≤8)(h1:hd n≤b.toNat)(h2:b.toNat<hd n+2^(8-n)):wid b=n:=by
  have hb:=b.toNat_lt
  have k1:=bl_le (9-n) (255-b.toNat)
  have k2:=bl_le (8-n) (255-b.toNat)
  unfold wid
  have e:n=1∨n=2∨n=3∨n=4∨n=5∨n=6∨n=7∨n=8:=by omega
  rcases e with rfl|rfl|rfl|rfl|rfl|rfl|rfl|rfl<;>simp [hd] at * <;>omega
theorem wid_255{b:UInt8}(h:b.toNat=255):wid b=9:=by unfold wid;rw [h];rw [bl_zero]
def fewF:Bs→Option (Nat×Nat)
  |[]=>none
  |b::r=>if r.length+1<wid b then none else if vsz (numS (b.toNat-hd (wid b)) (r.take (wid b-1)))=wid b then some (numS (b.toNat-hd (wid b)) (r.take (wid b-1)),wid b) else none
theorem hd_le(n:Nat)(h:1≤n∧n≤9):hd n+2^(8-n)≤256:=by
  have e:n=1∨n=2∨n=3∨n=4∨n=5∨n=6∨n=7∨n=8∨n=9:=by omega
  rcases e with rfl|rfl|rfl|rfl|rfl|rfl|rfl|rfl|rfl<;>decide
theorem top_lt{x n:Nat}(hn:1≤n∧n≤8)(h:x<128^n):x/256^(n-1)<2^(8-n):=by
  rw [Nat.div_lt_iff_lt_mul (Nat.pow_pos (by decide))]
  have e:(2:Nat)^(8-n)*256^(n-1)=128^n:=by
    have e2:n=1∨n=2∨n=3∨n=4∨n=5∨n=6∨n=7∨n=8:=by omega
    rcases e2 with rfl|rfl|rfl|rfl|rfl|rfl|rfl|rfl<;>decide
  rw [e];exact h
theorem varB_top{x:Nat}(hx:x<18446744073709551616):(vsz x=9∧x/256^(vsz x-1)=0)∨(vsz x≤8∧x/256^(vsz x-1)<2^(8-vsz x)):=by
  have hb:=vsz_bd x
  by_cases h:vsz x=9
  · refine .inl ⟨h, ?_⟩
    rw [h]
    exact Nat.div_eq_of_lt hx
  · refine .inr ⟨by omega,top_lt ⟨hb.1,by omega⟩ ((vsz_le hb.1 (by omega)).1 (Nat.le_refl _))⟩
theorem varB_first{x:Nat}(hx:x<18446744073709551616):(UInt8.ofNat (hd (vsz x)+x/256^(vsz x-1))).toNat=hd (vsz x)+x/256^(vsz x-1)∧wid (UInt8.ofNat (hd (vsz x)+x/256^(vsz x-1)))=vsz x:=by
  have hb:=vsz_bd x
  have hh:=hd_le (vsz x) hb
  rcases varB_top hx with⟨h9,h0⟩|⟨h8,ht⟩
  · rw [h0,h9]
    exact⟨by decide,wid_255 (by decide)⟩
  · have e:(UInt8.ofNat (hd (vsz x)+x/256^(vsz x-1))).toNat=hd (vsz x)+x/256^(vsz x-1):=by
      generalize x/256^(vsz x-1)=q at *
      simp;omega
    exact⟨e,wid_of ⟨hb.1,h8⟩ (by rw [e];exact Nat.le_add_right _ _) (by rw [e];exact Nat.add_lt_add_left ht _)⟩
theorem fewF_varB{x:Nat}(hx:x<18446744073709551616)(t:Bs):fewF (varB x++t)=some (x,vsz x):=by
  have hb:=vsz_bd x
  obtain⟨e1,e2⟩:=varB_first hx
  unfold varB
  rw [List.cons_append,fewF,e2,e1,if_neg (by simp [fixB_len];omega)]
  have e3:numS (hd (vsz x)+x/256^(vsz x-1)-hd (vsz x)) ((fixB x (vsz x-1)++t).take (vsz x-1))=x:=by
    rw [List.take_left' (fixB_len _ _),numS_eq,num_fixB,fixB_len,Nat.add_sub_cancel_left,Nat.mul_comm]
    exact Nat.div_add_mod x (256^(vsz x-1))
  rw [e3,if_pos rfl]
theorem fewF_some{t:Bs}{x n:Nat}(h:fewF t=some (x,n)):n≤t.length∧x<18446744073709551616∧vsz x=n∧t.take n=varB x:=by
  cases t with
  |nil=>cases h
  |cons b r=>
    rw [fewF] at h
    split at h
    · cases h
    · split at h
      · rename_i h1 h2
        injection h with h
        obtain⟨h3,h4⟩:=Prod.mk.inj h
        subst h4
        rw [h3] at h2
        have hw:=wid_bd b
        have hr:=wid_range (b:=b) rfl
        have hl:(r.take (wid b-1)).length=wid b-1:=by rw [List.length_take];omega
        have hnl:=num_lt (r.take (wid b-1))
        rw [hl] at hnl
        rw [numS_eq,hl] at h3
        have hp:0<256^(wid b-1):=Nat.pow_pos (by decide)
        have hdiv:x/256^(wid b-1)=b.toNat-hd (wid b):=by rw [←h3,Nat.add_comm,Nat.add_mul_div_right _ _ hp,Nat.div_eq_of_lt hnl,Nat.zero_add]
        have hbt:b.toNat-hd (wid b)<2^(8-wid b)∨(wid b=9∧b.toNat-hd (wid b)=0):=by
          by_cases e:wid b=9
          · refine .inr ⟨e, ?_⟩
            rw [hr.2.2 e,e];decide
          · rw [if_neg e] at hr;exact .inl (by omega)
        refine⟨by simp;omega, ?_,h2, ?_⟩
        · have hpw:(2:Nat)^(8-wid b)*256^(wid b-1)≤18446744073709551616:=by
            have e2:wid b=1∨wid b=2∨wid b=3∨wid b=4∨wid b=5∨wid b=6∨wid b=7∨wid b=8∨wid b=9:=by omega
            rcases e2 with e|e|e|e|e|e|e|e|e<;>rw [e]<;>decide
          rcases hbt with hbt|⟨e,hbt⟩
          · have h5:(b.toNat-hd (wid b))*256^(wid b-1)≤(2^(8-wid b)-1)*256^(wid b-1):=Nat.mul_le_mul_right _ (by omega)
            rw [show(2^(8-wid b)-1)*256^(wid b-1)=2^(8-wid b)*256^(wid b-1)-256^(wid b-1) by rw [Nat.sub_mul,Nat.one_mul]] at h5
            have h6:256^(wid b-1)≤2^(8-wid b)*256^(wid b-1):=Nat.le_mul_of_pos_left _ (Nat.pow_pos (by decide))
            omega
          · rw [hbt] at h3
            rw [e] at hnl hpw h3
            omega
        · obtain⟨m,hm⟩:∃ m,wid b=m+1:=⟨wid b-1,by omega⟩
          unfold varB
          rw [h2,hdiv]
          have e1:UInt8.ofNat (hd (wid b)+(b.toNat-hd (wid b)))=b:=by
            rw [show hd (wid b)+(b.toNat-hd (wid b))=b.toNat by omega]
            simp
          rw [e1]
          have e2:fixB x (wid b-1)=r.take (wid b-1):=by
            have:=fixB_num (r.take (wid b-1))
            rw [hl] at this
            rw [←this]
            have key:∀ (k:Nat) (y z:Nat),fixB (y*256^k+z) k=fixB z k:=by
              intro k
              suffices∀ (k:Nat) (j y z:Nat),j≤k→fixB (y*256^k+z) j=fixB z j from fun y z=>this k k y z (Nat.le_refl _)
              intro k j
              induction j with
              |zero=>intros;rfl
              |succ j ih=>
                intro y z hj
                simp only [fixB]
                rw [ih y z (by omega)]
                congr 1
                apply UInt8.toNat_inj.1
                have e:y*256^k+z=z+y*256^(k-j-1)*256*256^j:=by
                  have:256^k=256^(k-j-1)*256*256^j:=by
                    rw [←Nat.pow_succ,←Nat.pow_add];congr 1;omega
                  rw [this,Nat.add_comm];simp [Nat.mul_assoc]
                rw [e]
                simp [Nat.add_mul_div_right _ _ (Nat.pow_pos (show 0<256 by decide))]
            rw [←h3]
            exact key _ _ _
          rw [e2,hm]
          simp
      · cases h
end Go.Lx
