import Derived.Test.YtakoppmiegjjlaaGreatDoorF4
import Derived.Test.YtakoppmiegjjlaaGreatDoorF5
import Derived.MapKept
import Derived.Test.YtakoppmiegjjlaaGreatDoorF3
import Derived.Shelf.SlIter.Nil
import Derived.Shelf.SortM.Plain
import Derived.Shelf.SortM.SortNone
set_option linter.unusedVariables false
set_option linter.unusedSimpArgs false
set_option maxRecDepth 20000
set_option maxHeartbeats 4000000
namespace Go.Lx
open Go.Proofs
def nameC (c:Nat):Prop:=(97≤c∧c≤122)∨(48≤c∧c≤57)∨c=45
instance (c:Nat):Decidable (nameC c):=by unfold nameC;infer_instance
def VolOK (s:Bs):Prop:=(∀ b∈s,nameC b.toNat)∧1≤s.length∧s.length≤32
instance (s:Bs):Decidable (VolOK s):=by unfold VolOK;infer_instance
theorem plain_spec(c:Nat)(w:World):Spec Tryz.prog 86 #[.int .i32 c] w (fun _=>False) (fun v A=>v= .bool (decide (nameC c))∧A=[]):=by
  refine Zn Tryz.func86 Tryz.ntmps86 ?_
  ((refine Zt ?_<;>repeat' first|refine Z.p rfl ?_|refine Qf ?_)<;>(refine Zt ?_<;>repeat' first|refine Z.p rfl ?_|refine Z.ct rfl (by omega) ?_|refine Z.cf rfl (by omega) ?_|refine Z.cs rfl (fun _=>?_) (fun _=>?_)|refine Z.pk rfl rfl rfl rfl ?_|refine Qf ?_)<;>(apply X.r1 Tryz.results86 (Qh rfl);(focus(refine⟨congrArg Value.bool ?_,rfl⟩;first|rw [decide_eq_true (by unfold nameC;omega)]|rw [decide_eq_false (by unfold nameC;omega)]));exact Zd))
theorem vol_bad{s:Bs}{i:Nat}{b:UInt8}(hb:s[i]?=some b)(h: ¬nameC b.toNat): ¬VolOK s:=fun hv=>h (hv.1 b (List.mem_of_getElem? hb))
theorem vol_ok{s:Bs}{i:Nat}(hi:s.length≤i)(h:∀ j b,j<i→s[j]?=some b→nameC b.toNat):∀ b∈s,nameC b.toNat:=fun b hb=>by
  obtain⟨j,hj⟩:=List.mem_iff_getElem?.1 hb
  exact h j b (by have:=(List.getElem?_eq_some_iff.1 hj).1;omega) hj
theorem Volume_spec(s:Bs)(w:World):Spec Tryz.prog 38 #[Zi s] w (fun _=>False) (fun v A=>v=Zj (if VolOK s then 0 else 1)∧A=[]):=by
  refine Zn Tryz.func38 Tryz.ntmps38 ?_
  ((refine Zt ?_<;>repeat' first|refine Z.p rfl ?_|refine Qf ?_)<;>refine X.seq ?_<;>((refine Zt ?_<;>repeat' first|refine Z.p rfl ?_|(refine Za 1 ?_;(refine Qn rfl rfl rfl rfl (D.strEq (m:=[]) rfl rfl) (fun h0=>?_) (fun h0=>?_)))|(refine Za 5 ?_;(first|refine XL.skipF rfl rfl rfl rfl ?_|refine Qn rfl rfl rfl rfl (D.int rfl rfl rfl) (fun h1=>?_) (fun h1=>?_)))|refine Z.ln rfl rfl ?_|refine Z.lnL rfl rfl ?_|refine Z.lnS rfl rfl ?_|refine Z.pk rfl rfl rfl rfl ?_|refine Qf ?_)<;>(first|(refine Zu ?_;(refine Zt ?_<;>repeat' first|refine Z.p rfl ?_|refine Qf ?_)<;>(apply X.r1 Tryz.results38 (Qh rfl);(focus(refine⟨congrArg (Value.int IntKind.i64) ?_,rfl⟩;first|(rw [if_pos ⟨vol_ok hil hno,hlen⟩];done)|(rw [if_neg (vol_bad hb (fun h=>hm (hcb.2 h)))];done)|(rw [if_neg (fun hv:VolOK s=>by have:=hv.2;rw [h0] at this;simp at this)];done)|(rw [if_neg (fun hv:VolOK s=>by have:=hv.2;omega)])));exact Zd))|refine Zm ?_))<;>(first|refine Ex.then ?_|refine N.next ?_<;>(refine X.seq ?_<;>((refine Zt ?_<;>repeat' first|refine Z.p rfl ?_|(refine Za 1 ?_;(have hlen:1≤s.length∧s.length≤32:=(by cases s with|nil=>exact absurd rfl h0|cons b r=>simp only [List.length_cons] at *;omega);refine XL.rangeS rfl rfl rfl rfl (fun _=>by infer_instance) (fun g=>?_)))|refine Qf ?_)<;>refine X.block ?_<;>((refine Qs (ι:=Nat) (fun i=>[(13,.pointer (some ⟨g,0,none⟩))]) (fun i=>[iterA g s i]) (fun i=>i≤s.length∧∀ j b,j<i→s[j]?=some b→nameC b.toNat) (fun i=>s.length-i) (0) ?_ Zb Zd ?_;(focus(exact⟨Nat.zero_le _,fun j b hj=>by omega⟩));rintro i ⟨hi,hno⟩;(dsimp only at *))<;>((refine Zt ?_<;>repeat' first|refine Z.p rfl ?_|(refine Za 0 ?_;((rcases Nat.lt_or_ge i s.length with hil|hil<;>first|(obtain⟨b,hb⟩:∃ b,s[i]?=some b:=⟨s[i],List.getElem?_eq_getElem hil⟩;refine XL.next rfl rfl rfl rfl hb (fun c q h2 h3=>?_);refine⟨by infer_instance, ?_⟩)|(refine XL.nextEnd rfl rfl rfl rfl hil (by infer_instance) ?_))))|refine Qf ?_)<;>refine X.seq ?_<;>((first|refine Zp ?_|refine Zq ?_))<;>(first|refine Ex.then ?_|refine N.next ?_<;>(refine X.block ?_<;>((refine Zt ?_<;>repeat' first|refine Z.p rfl ?_|refine Qf ?_)<;>(refine Zt ?_<;>repeat' first|(refine Za 2 ?_;(have hq:nameC c→q=i+1:=(fun h8=>by have h9:=hcb.1 h8;unfold nameC at h9;exact(h2 (by omega)).2);(first|(have hq':=hq hm;subst hq')|have hskip:=hi);(apply Qm rfl rfl rfl rfl;exact D.not rfl)))|refine Z.p rfl ?_|(refine Za 1 ?_;((refine XL.call rfl rfl rfl rfl (fun w hw=>plain_spec c w) (Zs ?_));have hcb:nameC c↔nameC b.toNat:=(by rcases Nat.lt_or_ge b.toNat 128 with h|h;rw [(h2 h).1];have:=h3 h;unfold nameC;omega);(by_cases hm:nameC c<;>first|rw [decide_eq_true hm]|rw [decide_eq_false hm])))|refine Qf ?_)<;>(first|(refine Zu ?_;(refine Zt ?_<;>repeat' first|refine Z.p rfl ?_|refine Qf ?_)<;>(apply X.r1 Tryz.results38 (Qh rfl);(focus(refine⟨congrArg (Value.int IntKind.i64) ?_,rfl⟩;first|(rw [if_pos ⟨vol_ok hil hno,hlen⟩];done)|(rw [if_neg (vol_bad hb (fun h=>hm (hcb.2 h)))];done)|(rw [if_neg (fun hv:VolOK s=>by have:=hv.2;rw [h0] at this;simp at this)];done)|(rw [if_neg (fun hv:VolOK s=>by have:=hv.2;omega)])));exact Zd))|refine Zm ?_))<;>(first|refine N.block ?_|refine Ql ?_|refine Ex.out rfl ?_))))<;>(first|refine Ex.then ?_|((refine Qp ((i+1)) ?_ ?_ Zb Zd;(focus(exact⟨by omega,fun j y hj hy=>by rcases Nat.lt_or_ge j i with h|h;exact hno j y h hy;(obtain rfl:j=i:=by omega);rw [hb] at hy;cases hy;exact hcb.1 hm⟩));(focus(first|omega|(dsimp only;omega)))))))<;>(first|refine N.block ?_|refine Ql ?_|refine Ex.out rfl ?_))<;>(first|refine Ex.then ?_|refine N.next ?_<;>((refine Zt ?_<;>repeat' first|refine Z.p rfl ?_|refine Qf ?_)<;>(apply X.r1 Tryz.results38 (Qh rfl);(focus(refine⟨congrArg (Value.int IntKind.i64) ?_,rfl⟩;first|(rw [if_pos ⟨vol_ok hil hno,hlen⟩];done)|(rw [if_neg (vol_bad hb (fun h=>hm (hcb.2 h)))];done)|(rw [if_neg (fun hv:VolOK s=>by have:=hv.2;rw [h0] at this;simp at this)];done)|(rw [if_neg (fun hv:VolOK s=>by have:=hv.2;omega)])));exact Zd))))))
theorem refVolume_spec(s:Bs)(hs:s.length≤1000000000)(w:World):Spec Tryz.prog 19 #[Zi s] w (fun _=>False) (fun v A=>v= .bool (decide (VolOK s))∧A=[]):=by
  refine Zn Tryz.func19 Tryz.ntmps19 ?_
  ((refine Zt ?_<;>repeat' first|refine Z.p rfl ?_|refine Qf ?_)<;>refine X.seq ?_<;>((refine Zt ?_<;>repeat' first|refine Z.p rfl ?_|refine Qf ?_)<;>refine X.block ?_<;>((refine Qs (ι:=Nat) (fun i=>[(0,Zi s),(3,Zj i)]) (fun _=>[]) (fun i=>i≤s.length∧∀ j b,j<i→s[j]?=some b→nameC b.toNat) (fun i=>s.length-i) (0) ?_ Zb Zd ?_;(focus(exact⟨Nat.zero_le _,fun j b hj=>by omega⟩));rintro i ⟨hi,hno⟩;(dsimp only at *))<;>(refine X.seq ?_<;>((refine Zt ?_<;>repeat' first|refine Z.p rfl ?_|(refine Za 3 ?_;(first|refine Qn rfl rfl rfl rfl (D.int rfl rfl rfl) (fun h1=>?_) (fun h1=>?_)))|refine Z.ln rfl rfl ?_|refine Z.lnL rfl rfl ?_|refine Z.lnS rfl rfl ?_|refine Qf ?_)<;>(first|refine Zp ?_|refine Zq ?_))<;>(first|refine Ex.then ?_|refine N.next ?_<;>(refine X.seq ?_<;>(refine X.block ?_<;>((refine Zt ?_<;>repeat' first|refine Z.p rfl ?_|(refine Za 2 ?_;(have hil:i<s.length:=(by omega);obtain⟨b,hb⟩:∃ b,s[i]?=some b:=(⟨s[i],List.getElem?_eq_getElem hil⟩);(apply Qm rfl rfl rfl rfl;exact D.idx i rfl rfl rfl hb)))|(refine Za 7 ?_;((first|refine XL.skipF rfl rfl rfl rfl ?_|(apply Qm rfl rfl rfl rfl;exact D.idx i rfl rfl rfl hb))))|(refine Za 13 ?_;((first|refine XL.skipF rfl rfl rfl rfl ?_|(apply Qm rfl rfl rfl rfl;exact D.idx i rfl rfl rfl hb))))|(refine Za 18 ?_;((first|refine XL.skipF rfl rfl rfl rfl ?_|(apply Qm rfl rfl rfl rfl;exact D.idx i rfl rfl rfl hb))))|(refine Za 25 ?_;((first|refine XL.skipF rfl rfl rfl rfl ?_|(apply Qm rfl rfl rfl rfl;exact D.idx i rfl rfl rfl hb))))|refine Z.ct rfl (by omega) ?_|refine Z.cf rfl (by omega) ?_|refine Z.cs rfl (fun _=>?_) (fun _=>?_)|refine Z.pk rfl rfl rfl rfl ?_|refine Qf ?_)<;>(first|(refine Zu ?_;(refine Zt ?_<;>repeat' first|refine Z.p rfl ?_|refine Qf ?_)<;>(apply X.r1 Tryz.results19 (Qh rfl);(focus(refine⟨congrArg Value.bool ?_,rfl⟩;first|(rw [decide_eq_false (vol_bad hb (by unfold nameC;omega))];done)|(rw [decide_eq_true (show VolOK s from⟨vol_ok (by omega) hno,by omega,by omega⟩)];done)|(rw [decide_eq_false (fun hv:VolOK s=>by have:=hv.2;omega)])));exact Zd))|refine Zm ?_))<;>(first|refine N.block ?_|refine Ql ?_|refine Ex.out rfl ?_))<;>(first|refine Ex.then ?_|refine N.next ?_<;>(refine Zx ?_<;>repeat' first|refine Z.p rfl ?_|refine Z.g rfl (by omega) ?_|refine Z.w rfl ?_|refine XL.nil ?_)))))<;>(first|refine Ex.then ?_|((refine Qp ((i+1)) ?_ ?_ Zb Zd;(focus(exact⟨by omega,fun j y hj hy=>by rcases Nat.lt_or_ge j i with h|h;exact hno j y h hy;(obtain rfl:j=i:=by omega);rw [hb] at hy;cases hy;unfold nameC;omega⟩));(focus(first|omega|(dsimp only;omega)))))))<;>(first|refine N.block ?_|refine Ql ?_|refine Ex.out rfl ?_))<;>(first|refine Ex.then ?_|refine N.next ?_<;>((refine Zt ?_<;>repeat' first|refine Z.p rfl ?_|refine Z.ln rfl rfl ?_|refine Z.lnL rfl rfl ?_|refine Z.lnS rfl rfl ?_|refine Z.ct rfl (by omega) ?_|refine Z.cf rfl (by omega) ?_|refine Z.cs rfl (fun _=>?_) (fun _=>?_)|refine Z.pk rfl rfl rfl rfl ?_|refine Qf ?_)<;>(apply X.r1 Tryz.results19 (Qh rfl);(focus(refine⟨congrArg Value.bool ?_,rfl⟩;first|(rw [decide_eq_false (vol_bad hb (by unfold nameC;omega))];done)|(rw [decide_eq_true (show VolOK s from⟨vol_ok (by omega) hno,by omega,by omega⟩)];done)|(rw [decide_eq_false (fun hv:VolOK s=>by have:=hv.2;omega)])));exact Zd))))
end Go.Lx
namespace Go.Lx
section
variable {β:Type}
def getM:List (Int×β)→Int→Option β
  |[],_=>none
  |(a,b)::l,k=>if a=k then some b else getM l k
def setM:List (Int×β)→Int→β→List (Int×β)
  |[],k,v=>[(k,v)]
  |(a,b)::l,k,v=>if a=k then(k,v)::l else(a,b)::setM l k v
def delM:List (Int×β)→Int→List (Int×β)
  |[],_=>[]
  |(a,b)::l,k=>if a=k then l else(a,b)::delM l k
def keyM (l:List (Int×β)):List Int:=l.map (·.1)
theorem getM_set(k:Int)(v:β):∀ (l:List (Int×β)) (j:Int),getM (setM l k v) j=if j=k then some v else getM l j
  |[],j=>by
    simp only [setM,getM]
    by_cases h:j=k
    · rw [if_pos h,if_pos h.symm]
    · rw [if_neg h,if_neg (Ne.symm h)]
  |(a,b)::l,j=>by
    simp only [setM]
    by_cases ha:a=k
    · rw [if_pos ha]
      simp only [getM]
      by_cases h:j=k
      · rw [if_pos h,if_pos h.symm]
      · rw [if_neg h,if_neg (Ne.symm h),if_neg (fun e=>h (e.symm.trans ha))]
    · rw [if_neg ha]
      simp only [getM,getM_set k v l j]
      by_cases hj:a=j
      · rw [if_pos hj,if_pos hj,if_neg (fun e=>ha (hj.trans e))]
      · rw [if_neg hj,if_neg hj]
theorem key_set(k:Int)(v:β):∀ (l:List (Int×β)) (j:Int),j∈keyM (setM l k v)↔j=k∨j∈keyM l
  |[],j=>by simp [setM,keyM]
  |(a,b)::l,j=>by
    have ih:=key_set k v l j
    simp only [setM]
    by_cases ha:a=k
    · rw [if_pos ha];subst ha;simp [keyM]
    · rw [if_neg ha]
      simp only [keyM,List.map_cons,List.mem_cons] at ih ⊢
      rw [ih]
      constructor
      · rintro(h|h|h)<;>simp [h]
      · rintro(h|h|h)<;>simp [h]
theorem nodup_set(k:Int)(v:β):∀ (l:List (Int×β)),(keyM l).Nodup→(keyM (setM l k v)).Nodup
  |[],_=>by simp [setM,keyM]
  |(a,b)::l,h=>by
    simp only [keyM,List.map_cons,List.nodup_cons] at h
    simp only [setM]
    by_cases ha:a=k
    · rw [if_pos ha];subst ha;simpa [keyM] using h
    · rw [if_neg ha]
      simp only [keyM,List.map_cons,List.nodup_cons]
      refine⟨fun hm=>?_,nodup_set k v l h.2⟩
      rcases(key_set k v l a).1 hm with h1|h1
      · exact ha h1
      · exact h.1 h1
theorem getM_none:∀ (l:List (Int×β)) (k:Int),getM l k=none↔k∉keyM l
  |[],k=>by simp [getM,keyM]
  |(a,b)::l,k=>by
    have ih:=getM_none l k
    simp only [getM,keyM,List.map_cons,List.mem_cons,not_or] at ih ⊢
    by_cases h:a=k
    · simp [h]
    · rw [if_neg h,ih];exact⟨fun g=>⟨Ne.symm h,g⟩,fun g=>g.2⟩
theorem key_del(k:Int):∀ (l:List (Int×β)),(keyM l).Nodup→(∀ j,j∈keyM (delM l k)↔j≠k∧j∈keyM l)∧(keyM (delM l k)).Nodup
  |[],_=>by simp [delM,keyM]
  |(a,b)::l,h=>by
    simp only [keyM,List.map_cons,List.nodup_cons] at h
    obtain⟨ih1,ih2⟩:=key_del k l h.2
    simp only [delM]
    by_cases ha:a=k
    · rw [if_pos ha]
      subst ha
      refine⟨fun j=>?_,h.2⟩
      simp only [keyM,List.map_cons,List.mem_cons]
      constructor
      · intro hj;exact⟨fun e=>h.1 (e▸hj),.inr hj⟩
      · rintro⟨h1,h2|h2⟩
        · exact absurd h2 h1
        · exact h2
    · rw [if_neg ha]
      refine⟨fun j=>?_, ?_⟩
      · have:=ih1 j
        simp only [keyM,List.map_cons,List.mem_cons] at this ⊢
        rw [this]
        constructor
        · rintro(h|h)
          · exact⟨fun e=>ha (h▸e),.inl h⟩
          · exact⟨h.1,.inr h.2⟩
        · rintro⟨h1,h2|h2⟩
          · exact .inl h2
          · exact .inr ⟨h1,h2⟩
      · simp only [keyM,List.map_cons,List.nodup_cons]
        exact⟨fun hm=>h.1 ((ih1 a).1 hm).2,ih2⟩
theorem getM_del(k:Int):∀ (l:List (Int×β)),(keyM l).Nodup→∀ j,getM (delM l k) j=if j=k then none else getM l j
  |[],_,j=>by simp [delM,getM]
  |(a,b)::l,h,j=>by
    simp only [keyM,List.map_cons,List.nodup_cons] at h
    have ih:=getM_del k l h.2 j
    simp only [delM]
    by_cases ha:a=k
    · rw [if_pos ha]
      subst ha
      by_cases hj:j=a
      · rw [if_pos hj,hj];exact(getM_none l a).2 h.1
      · rw [if_neg hj];simp only [getM];rw [if_neg (Ne.symm hj)]
    · rw [if_neg ha]
      simp only [getM,ih]
      by_cases hj:a=j
      · rw [if_pos hj,if_pos hj,if_neg (fun e=>ha (hj.trans e))]
      · rw [if_neg hj,if_neg hj]
def getI (l:List (Int×Int)) (k:Int):Int:=(getM l k).getD 0
def kvE (e:MapEntry):Value×Value:=(e.key,e.val)
def kvM (f:β→Value) (p:Int×β):Value×Value:=(.int .i64 p.1,f p.2)
def mapA (f:β→Value) (g:Nat) (l:List (Int×β)):Assn where
  holds w F:=(∃ es clock,w.heap[g]?=some (.map es clock)∧es.toList.map kvE=l.map (kvM f)∧MapKept.Stamped es clock)∧∀ b,F b↔b=g
  loc:=fun⟨⟨es,c,h,h2⟩,hF⟩ hk=>⟨⟨es,c,(hk g ((hF g).2 rfl)).trans h,h2⟩,hF⟩
  dom:=fun⟨⟨es,c,h,_⟩,hF⟩ hb=>by rw [(hF _).1 hb];exact(Array.getElem?_eq_some_iff.1 h).1
class MapAt (A:List Assn) (g:Nat) (β:outParam Type) (f:outParam (β→Value)) (l:outParam (List (Int×β))) (i:outParam Nat):Prop where at_:A[i]?=some (mapA f g l)
instance {f:β→Value} {g:Nat} {l:List (Int×β)} {A:List Assn}:MapAt (mapA f g l::A) g β f l 0:=⟨rfl⟩
instance (priority:=low) {f:β→Value} {g i:Nat} {l:List (Int×β)} {A:List Assn} {q:Assn} [h:MapAt A g β f l i]:MapAt (q::A) g β f l (i+1):=⟨by simpa using h.at_⟩
class MpT (P:Program) (t:TypeId) (k e:outParam TypeId):Prop where und:P.underlying t=some (.map k e)
theorem find_map(f:β→Value)(k:Int):∀ (es:List MapEntry) (l:List (Int×β)) (n:Nat),es.map kvE=l.map (kvM f)→
    (Instr.findNow (.int .i64) (.int .i64 k) es n=some none∧getM l k=none∧(∀ v,l.map (kvM f)++[(.int .i64 k,f v)]=(setM l k v).map (kvM f))∧delM l k=l)∨
    ∃ j b,Instr.findNow (.int .i64) (.int .i64 k) es n=some (some (n+j,f b))∧getM l k=some b∧j<es.length∧(∃ e,es[j]?=some e∧e.key= .int .i64 k)∧(∀ v (h:MapEntry→MapEntry),(∀ e,kvE (h e)=(.int .i64 k,f v))→(es.modify j h).map kvE=(setM l k v).map (kvM f))∧(es.eraseIdx j).map kvE=(delM l k).map (kvM f)
  |[],[],n,_=> .inl ⟨rfl,rfl,fun v=>rfl,rfl⟩
  |[],_::_,_,h=>by simp at h
  |_::_,[],_,h=>by simp at h
  |e::es,(a,b)::l,n,h=>by
    simp only [List.map_cons,List.cons.injEq] at h
    obtain⟨h1,h2⟩:=h
    have hk:e.key= .int .i64 a:=congrArg Prod.fst h1
    have hv:e.val=f b:=congrArg Prod.snd h1
    by_cases hak:a=k
    · subst hak
      refine .inr ⟨0,b, ?_,by simp [getM],by simp,⟨e,rfl,hk⟩,fun v g hg=>?_, ?_⟩
      · simp [Instr.findNow,Instr.sameNow,hk,hv]
      · simp [setM,hg,h2,kvM]
      · simp [delM,h2]
    · have hka: ¬k=a:=Ne.symm hak
      have hf:∀ r,Instr.findNow (.int .i64) (.int .i64 k) es (n+1)=r→Instr.findNow (.int .i64) (.int .i64 k) (e::es) n=r:=fun r hr=>by
        have:(k==a)=false:=by simpa using hka
        simp [Instr.findNow,Instr.sameNow,hk,this,hr]
      rcases find_map f k es l (n+1) h2 with⟨g1,g2,g3,g4⟩|⟨j,b',g1,g2,g3,⟨e',g4,g5⟩,g6,g7⟩
      · refine .inl ⟨hf _ g1,by simp only [getM];rw [if_neg hak];exact g2,fun v=>?_,by simp only [delM];rw [if_neg hak,g4]⟩
        simp only [setM]
        rw [if_neg hak,List.map_cons,List.map_cons,List.cons_append,g3]
      · refine .inr ⟨j+1,b',(hf _ g1).trans (by rw [Nat.add_right_comm,Nat.add_assoc]),by simp only [getM];rw [if_neg hak];exact g2,by simp;omega,⟨e',by simpa using g4,g5⟩,fun v h hh=>?_, ?_⟩
        · simp only [setM]
          rw [if_neg hak,List.modify_succ_cons,List.map_cons,List.map_cons,g6 v h hh,h1]
        · simp only [delM]
          rw [if_neg hak,List.eraseIdx_cons_succ,List.map_cons,List.map_cons,g7,h1]
theorem key_not{f:β→Value}{l:List (Int×β)}{k:Int}{es:List MapEntry}(hes:es.map kvE=l.map (kvM f))(hn:getM l k=none){x:MapEntry}(hx:x∈es)(he:x.key= .int .i64 k):False:=by
  have h1:kvE x∈es.map kvE:=List.mem_map.2 ⟨x,hx,rfl⟩
  rw [hes] at h1
  obtain⟨p,hp,h2⟩:=List.mem_map.1 h1
  have h3:(Value.int .i64 p.1)=x.key:=congrArg Prod.fst h2
  rw [he] at h3
  cases h3
  exact(getM_none l _).1 hn (List.mem_map.2 ⟨p,hp,rfl⟩)
theorem run_checkKeyI{P:Program}{t:TypeId}{k:IntKind}(ht:P.underlying t=some (.int k))(em:Bool)(n:Int)(w:World):(Instr.checkKey em 10000 t (.int .i64 n)).run P w= .ok () w:=by
  have:∀ d,(Instr.checkKey em (d+1) t (.int .i64 n)).run P w= .ok () w:=fun d=>by
    unfold Instr.checkKey
    simp [run_underlying ht]
  exact this 9999
theorem sameBits_int(k:Int):Instr.sameBits 10000 (.int .i64 k) (.int .i64 k)=true:=by
  have:∀ d,Instr.sameBits (d+1) (.int .i64 k) (.int .i64 k)=true:=fun d=>by
    unfold Instr.sameBits
    simp
  exact this 9999
section
variable {C:Cx} {A A':List Assn} {w:World} {g i:Nat} {f:β→Value} {l:List (Int×β)}
theorem Conf.mapAt [h:MapAt A g β f l i](hc:Conf C A w):∃ es clock,w.heap[g]?=some (.map es clock)∧es.toList.map kvE=l.map (kvM f)∧MapKept.Stamped es clock:=by
  obtain⟨F,hF,_⟩:=hc.get h.at_
  exact hF.1
theorem Conf.setMap [h:MapAt A g β f l i]{l':List (Int×β)} [hu:Upd A i (mapA f g l') A'](hc:Conf C A w){es:Array MapEntry}{clock:Nat}(he:es.toList.map kvE=l'.map (kvM f))(hst:MapKept.Stamped es clock):Conf C A' (w.putObj g (.map es clock)):=by
  rw [←hu.eq]
  obtain⟨F,hF,_⟩:=hc.get h.at_
  obtain⟨⟨es0,c0,h0,_⟩,_⟩:=hF
  have hlt:=(Array.getElem?_eq_some_iff.1 h0).1
  refine hc.update h.at_ rfl rfl rfl (by simp [World.putObj]) (Nat.le_refl _) fun F' ⟨_,hF'⟩=>⟨F',⟨⟨es,clock,by simp [World.putObj,hlt],he,hst⟩,hF'⟩,fun b hb=> .inl hb,fun b hb hn=>?_⟩
  have hne: ¬g=b:=fun e=>hn ((hF' b).2 e.symm)
  simp [World.putObj,hne]
end
end
section
variable {β:Type} {C:Cx} {A A' As:List Assn} {Q:Exit→Act→World→Prop} {S:World→Prop} {env:Env} {ops:Array Oper} {r:Sd} {i d g j:Nat} {v:Value} {cl:Cl} {x y z:Operand} {t u kt e:TypeId} {op:Op} {f:β→Value} {l:List (Int×β)}
variable {ty:TypeId} {pos:String} {af:Array Edge} {gd:Option (Nat×Bool)}
def lkV (f:β→Value) (z:Value) (l:List (Int×β)) (k:Int):Value:=match getM l k with
  |some b=>f b
  |none=>z
theorem lkV_int(l:List (Int×Int))(k:Int):lkV (Value.int .i64) (.int .i64 0) l k= .int .i64 (getI l k):=by
  unfold lkV getI
  cases getM l k<;>rfl
theorem run_lookupM{P:Program}{w:World} [ht:MpT P t kt e] [hk:IntT P kt .i64]{z0:Value} [hz:Zr P e z0]{es:Array MapEntry}{clock:Nat}(hb:w.heap[g]?=some (.map es clock))(he:es.toList.map kvE=l.map (kvM f))(k:Int)(ok:Bool):
    (Instr.lookup t (.map (some g)) (.int .i64 k) ok).run P w= .ok (if ok then .tuple #[lkV f z0 l k,.bool (getM l k).isSome] else lkV f z0 l k) w:=by
  have h1:∀ em,(Instr.checkKey em 10000 kt (.int .i64 k)).run P w= .ok () w:=fun em=>run_checkKeyI hk.und em k w
  have hg:(getObj g).run P w= .ok (.map es clock) w:=MapKept.run_getObj_map hb
  rcases find_map f k es.toList l 0 he with⟨g1,g2,_⟩|⟨j,b,g1,g2,_⟩
  · have h2:(Instr.findKey kt (.int .i64 k) es.toList).run P w= .ok none w:=by simp [Instr.findKey,run_underlying hk.und,g1]
    cases ok<;>simp [Instr.lookup,run_underlying ht.und,hg,h1,h2,hz.run,lkV,g2]
  · have h2:(Instr.findKey kt (.int .i64 k) es.toList).run P w= .ok (some (0+j,f b)) w:=by simp [Instr.findKey,run_underlying hk.und,g1]
    cases ok<;>simp [Instr.lookup,run_underlying ht.und,hg,h1,h2,lkV,g2]
theorem XL.chgN{o:Oper}(ho:ops[i]?=some o)(hg:gok ops env o=some true)(hd:o.dst=none)
    (h:∀ a w,EnvOK C.n env a→Conf C A w→∃ v A' w',(execOp a.eval o).run C.P w= .ok (.value v) w'∧Conf C A' w'∧After cl S C A'∧XL C ops Q S r env A'):XL C ops Q S (.op cl i r) env A:=by
  refine⟨fun a w he hc=>?_⟩
  obtain⟨v,A',w',hr,hc',haf,k⟩:=h a w he hc
  have key:=k.go _ w' he hc'
  rcases haf.ok with rfl|⟨rfl,hS⟩
  · unfold wpT wpOp
    simp only [ho,gok_wanted hg he,if_true,Oper.wp,hr,Oper.upon,hd]
    exact .inl key
  · unfold wpT wpOp
    simp only [ho,gok_wanted hg he,if_true,Oper.wp,hr,Oper.upon,hd]
    exact .inl ⟨hS w' hc',key⟩
theorem XL.makeMap(f:β→Value)(ho:ops[i]?=some ⟨some d,.makeMap t none,ty,pos,af,gd⟩)(hg:gok ops env ⟨some d,.makeMap t none,ty,pos,af,gd⟩=some true)(hdn:Nat.blt d C.n.n=true)(haf:∀ g,After cl S C (mapA f g []::A))
    (k:∀ g,XL C ops Q S r ((d,.map (some g))::env) (mapA f g []::A)):XL C ops Q S (.op cl i r) env A:=by
  refine XL.chg ho hg rfl hdn fun a w he hc=>?_
  refine⟨_,_,w.alloc (.map #[] 0), ?_,hc.new (q:=mapA f w.heap.size []) rfl rfl rfl (by simp) (Nat.le_refl _) (fun b hb=>RowKit.Below.heap_alloc w _ b hb) ⟨fun b=>b=w.heap.size,⟨⟨#[],0,heap_alloc_new w _,rfl,MapKept.stamped_empty 0⟩,fun b=>Iff.rfl⟩,fun b hb=>by rw [hb];exact Nat.le_refl _⟩,haf _,k _⟩
  have hm:(Instr.makeMap t none).run C.P w= .ok (.map (some w.heap.size)) (w.alloc (.map #[] 0)):=rfl
  simp [execOp,hm]
theorem XL.mapSet{k:Int}(b:β)(ho:ops[i]?=some ⟨none,.mapUpdate t x y z,ty,pos,af,gd⟩)(hg:gok ops env ⟨none,.mapUpdate t x y z,ty,pos,af,gd⟩=some true) [ht:MpT C.P t kt e] [hk:IntT C.P kt .i64](hx:ev env x=some (.map (some g)))(hy:ev env y=some (.int .i64 k))
    [hl:MapAt A g β f l j] (hz:ev env z=some (f b)) [hu:Upd A j (mapA f g (setM l k b)) A'] [haf:After cl S C A'] (kk:XL C ops Q S r env A'):XL C ops Q S (.op cl i r) env A:=by
  refine XL.chg0 ho hg rfl fun a w he hc=>?_
  obtain⟨es,clock,hb,hes,hst⟩:=hc.mapAt (g:=g)
  have h1:∀ em,(Instr.checkKey em 10000 kt (.int .i64 k)).run C.P w= .ok () w:=fun em=>run_checkKeyI hk.und em k w
  have hg:(getObj g).run C.P w= .ok (.map es clock) w:=MapKept.run_getObj_map hb
  have hset:∀ o,(setObj g o).run C.P w= .ok () (w.putObj g o):=fun o=>MapKept.run_setObj_map o hb
  rcases find_map f k es.toList l 0 hes with⟨g1,g2,g3,_⟩|⟨jj,b',g1,g2,g3,⟨e',g4,g5⟩,g6,_⟩
  · have h2:(Instr.findKey kt (.int .i64 k) es.toList).run C.P w= .ok none w:=by simp [Instr.findKey,run_underlying hk.und,g1]
    refine⟨A',w.putObj g (.map (es.push ⟨.int .i64 k,f b,clock⟩) (clock+1)), ?_,hc.setMap (l':=setM l k b) ?_ (MapKept.stamped_push hst (fun x hx e=>key_not hes g2 hx e)),haf,kk⟩
    · simp [execOp,he.ev hx,he.ev hy,he.ev hz,Instr.mapUpdate,run_underlying ht.und,hg,h1,h2,hset]
    · rw [Array.toList_push,List.map_append,hes,←g3 b]
      rfl
  · have h2:(Instr.findKey kt (.int .i64 k) es.toList).run C.P w= .ok (some (0+jj,f b')) w:=by simp [Instr.findKey,run_underlying hk.und,g1]
    have h3:(es[jj]?.map (·.key)).getD (.int .i64 k)= .int .i64 k:=by
      have:es[jj]?=some e':=by rw [←Array.getElem?_toList];exact g4
      rw [this]
      exact g5
    have h4:(Instr.keyThatStays (.int .i64 k) (.int .i64 k)).run C.P w= .ok (.int .i64 k) w:=by
      simp [Instr.keyThatStays,sameBits_int]
    refine⟨A',w.putObj g (.map (es.modify jj fun e=>{e with key:= .int .i64 k,val:=f b}) clock), ?_,hc.setMap (l':=setM l k b) ?_ (MapKept.stamped_modify hst jj _ (fun _ _=>rfl) (fun e _ hje=>by
      have:es[jj]?=some e':=by rw [←Array.getElem?_toList];exact g4
      rw [this] at hje
      cases hje
      exact g5.symm)),haf,kk⟩
    · simp [execOp,he.ev hx,he.ev hy,he.ev hz,Instr.mapUpdate,run_underlying ht.und,hg,h1,h2,h3,h4,hset]
    · rw [Array.toList_modify]
      exact g6 b _ (fun e=>rfl)
theorem XL.mapDel{k:Int}{ats:TypeId}(ho:ops[i]?=some ⟨none,.call ⟨.builtin .delete,#[x,y],#[t,ats]⟩,ty,pos,af,gd⟩)(hg:gok ops env ⟨none,.call ⟨.builtin .delete,#[x,y],#[t,ats]⟩,ty,pos,af,gd⟩=some true) [ht:MpT C.P t kt e] [hk:IntT C.P kt .i64](hx:ev env x=some (.map (some g)))(hy:ev env y=some (.int .i64 k))
    [hl:MapAt A g β f l j] [hu:Upd A j (mapA f g (delM l k)) A'] [haf:After cl S C A'] (kk:XL C ops Q S r env A'):XL C ops Q S (.op cl i r) env A:=by
  refine XL.chgN ho hg rfl fun a w he hc=>?_
  obtain⟨es,clock,hb,hes,hst⟩:=hc.mapAt (g:=g)
  have h1:∀ em,(Instr.checkKey em 10000 kt (.int .i64 k)).run C.P w= .ok () w:=fun em=>run_checkKeyI hk.und em k w
  have hg:(getObj g).run C.P w= .ok (.map es clock) w:=MapKept.run_getObj_map hb
  have hset:∀ o,(setObj g o).run C.P w= .ok () (w.putObj g o):=fun o=>MapKept.run_setObj_map o hb
  rcases find_map f k es.toList l 0 hes with⟨g1,g2,g3,g4⟩|⟨jj,b',g1,g2,g3,_,_,g7⟩
  · have h2:(Instr.findKey kt (.int .i64 k) es.toList).run C.P w= .ok none w:=by simp [Instr.findKey,run_underlying hk.und,g1]
    refine⟨.tuple #[],A',w.putObj g (.map es clock), ?_,hc.setMap (l':=delM l k) (by rw [g4];exact hes) hst,haf,kk⟩
    simp [execOp,resolve,invoke,builtin,Builtin.delete_,he.ev hx,he.ev hy,run_underlying ht.und,hg,h1,h2,hset]
  · have h2:(Instr.findKey kt (.int .i64 k) es.toList).run C.P w= .ok (some (0+jj,f b')) w:=by simp [Instr.findKey,run_underlying hk.und,g1]
    refine⟨.tuple #[],A',w.putObj g (.map (es.eraseIdxIfInBounds jj) clock), ?_,hc.setMap (l':=delM l k) ?_ (MapKept.stamped_erase hst jj),haf,kk⟩
    · simp [execOp,resolve,invoke,builtin,Builtin.delete_,he.ev hx,he.ev hy,run_underlying ht.und,hg,h1,h2,hset]
    · rw [←g7]
      congr 1
      unfold Array.eraseIdxIfInBounds
      have:jj<es.size:=by simpa using g3
      simp [this]
namespace Z
theorem ix [Nc cl]{ad:Option Addr}{n c ee sz:Nat}{kk:IntKind}{jj:Int}(m:Nat)(hn:nx C.n.n ops env i=some (d,.indexAddr t x y)) [h:SlT C.P t ee] [hs:Sz C.P ee sz](hx:ev env x=some (.slice ad n c))(hy:ev env y=some (.int kk jj))(hj:jj=(m:Int))(hm:m<n)(hsome:ad.isSome=true)
    (k:XL C ops Q S r ((d,.pointer (some (el ad (m*sz))))::env) A):XL C ops Q S (.op cl i r) env A:=XL.dt hn (fun ty pos af gd=>D.indexAddr m hx hy hj hm hsome) k
theorem la [Rl cl C S A As]{p:Addr}(hn:nx C.n.n ops env i=some (d,.load t x)) [h1:One C.P t](hx:ev env x=some (.pointer (some p)))(hv:∀ w,Conf C As w→w.cell? p=some v)(k:XL C ops Q S r ((d,v)::env) A):XL C ops Q S (.op cl i r) env A:=
  XL.ld hn (fun ty pos af gd=>D.load1 hx hv) k
theorem lb [Rl cl C S A As]{p:Addr}{sz:Nat}{cs:List Value}(hn:nx C.n.n ops env i=some (d,.load t x)) [h1:Ag C.P t] [hs:Sz C.P t sz](hx:ev env x=some (.pointer (some p)))(hlen:(cs.length==sz)=true)(hv:∀ w,Conf C As w→∀ j u,cs[j]?=some u→w.cell? (p.add j)=some u)(k:XL C ops Q S r ((d,.agg cs.toArray)::env) A):XL C ops Q S (.op cl i r) env A:=
  XL.ld hn (fun ty pos af gd=>D.loadN hx hlen hv) k
theorem lk [Rl cl C S A As]{k:Int}{z0:Value}(hn:nx C.n.n ops env i=some (d,.lookup t x y false)) [ht:MpT C.P t kt e] [hk:IntT C.P kt .i64] [hz:Zr C.P e z0](hx:ev env x=some (.map (some g)))(hy:ev env y=some (.int .i64 k)) [hl:MapAt As g β f l j]
    (kk:XL C ops Q S r ((d,lkV f z0 l k)::env) A):XL C ops Q S (.op cl i r) env A:=
  XL.ld hn (fun ty pos af gd=>⟨fun a w he hw=>by
    obtain⟨es,clock,hb,hes,hst⟩:=hw.mapAt (g:=g)
    have:=run_lookupM (P:=C.P) (t:=t) (z0:=z0) hb hes k false
    simp [execOp,he.ev hx,he.ev hy,this]⟩) kk
theorem lkI [Rl cl C S A As]{k:Int}{l:List (Int×Int)}(hn:nx C.n.n ops env i=some (d,.lookup t x y false)) [ht:MpT C.P t kt e] [hk:IntT C.P kt .i64] [hz:Zr C.P e (.int .i64 0)](hx:ev env x=some (.map (some g)))(hy:ev env y=some (.int .i64 k)) [hl:MapAt As g Int (Value.int .i64) l j]
    (kk:XL C ops Q S r ((d,.int .i64 (getI l k))::env) A):XL C ops Q S (.op cl i r) env A:=Z.lk hn hx hy (by rw [lkV_int];exact kk)
theorem lnM [Rl cl C S A As](hn:nx C.n.n ops env i=some (d,.call ⟨.builtin .len,#[x],#[t]⟩)) [ht:MpT C.P t kt e](hx:ev env x=some (.map (some g))) [hl:MapAt As g β f l j]
    (kk:XL C ops Q S r ((d,.int .i64 l.length)::env) A):XL C ops Q S (.op cl i r) env A:=
  XL.ld hn (fun ty pos af gd=>⟨fun a w he hw=>by
    obtain⟨es,clock,hb,hes,hst⟩:=hw.mapAt (g:=g)
    have hlen:es.size=l.length:=by have:=congrArg List.length hes;simpa using this
    have hg:(getObj g).run C.P w= .ok (.map es clock) w:=MapKept.run_getObj_map hb
    simp [execOp,resolve,invoke,builtin,Builtin.len_,he.ev hx,run_underlying ht.und,hg,goInt,hlen]⟩) kk
end Z
end
end Go.Lx
namespace Go.Lx
open Go.Proofs Go.Shelf Go.Maps
def noRdS:Value→Option (DataW Unit×List MemPlace):=fun _=>some (.nil,[])
theorem sortedNone_row{P:Program}{ρ1 ρ2 ρ3:Ren}(L1:SlLaysZ.n10 P ρ1)(L2:SlLaysZ.n6 P ρ2)(L3:SlLaysM.n6 P ρ3)(h3:ρ3.f 6=ρ2.f 9)(he9:∀ args w,(callFunc (ρ2.f 9) args).run P w= .ok (.enter (ρ2.f 9) args) w)
    (w:World) (H:Nat→Prop) (g gm:Nat) (hc:w.cell? ⟨g,0,none⟩=some (.map (some gm))) {es:Array MapEntry} {clock:Nat} (hb:w.heap[gm]?=some (.map es clock)) (hes:es.toList=[]):
    Spec P (ρ2.f 6) #[.func (.func (ρ1.f 10)) #[] #[.pointer (some ⟨g,0,none⟩)]] w H (fun v A=>v= .slice none 0 0∧A=[]):=by
  obtain rfl:es=#[]:=by apply Array.ext';simpa using hes
  have hD:w.ownsMap P (ρ1.t 26) noRdS gm 0 (.map []:DataW Unit):=⟨#[],clock,hb,⟨by simp,MapKept.stamped_empty clock,fun x hx=>by simp at hx⟩,Nat.le_refl _,rfl⟩
  have hg:g<w.heap.size:=by
    cases h:w.heap[g]? with
    |none=>simp [World.cell?,h] at hc
    |some o=>exact(Array.getElem?_eq_some_iff.1 h).1
  have hseq:SeqGives Fence.wide 2 P (ρ1.f 10) #[.pointer (some ⟨g,0,none⟩)] encStr (fun ss=>ss.Perm (strKeys (.map []:DataW Unit))) (Maps.size (.map []:DataW Unit)) w:=
    AnyZ.keys_gives L1 Fence.wide 2 trivial rfl (by omega) g gm 0 (.map []) w hg hc hD
  have hsort:AnyZ.SortsIn P ρ2 Fence.wide 4:=by
    refine⟨fun blk off cap ss W hH hblk hsz=>callsIn_wide.2 ?_,fun p cap W=>callsIn_wide.2 ?_⟩
    · rw [←h3];exact AnyM.slices_Sort_string L3 blk off cap ss W hH hblk hsz
    · rw [←h3];exact AnyM.slices_Sort_string_none L3 p cap W
  have cS:=AnyZ.sorted_in L2 Fence.wide 5 trivial trivial trivial trivial rfl (by omega) hsort he9 (ρ1.f 10) #[.pointer (some ⟨g,0,none⟩)] trivial (L1.f10.enters rfl) (fun ss=>ss.Perm (strKeys (.map []:DataW Unit))) (Maps.size (.map []:DataW Unit)) (by decide) (by decide) w hseq
  refine Calls.mono (callsIn_wide.1 cS) ?_
  rintro e w' ⟨v,ss,rfl,hS,hrow,hnil,hB⟩
  have hss:ss=[]:=List.Perm.eq_nil hS
  have hv:=hnil.2 hss
  exact⟨v,[],rfl,⟨hv,rfl⟩,hB.os,hB.tape,hB.output,hB.size,trivial,fun b hb _=>hB.block b hb,fun _=>False,fun _ h=>h,fun _ h=>h.elim⟩
end Go.Lx
