import Derived.Test.YtakoppmiegjjlaaGreatDoorF39
import Derived.Test.YtakoppmiegjjlaaGreatDoorF38
import Derived.Test.YtakoppmiegjjlaaGreatDoorF43
import Derived.Test.YtakoppmiegjjlaaGreatDoorF4
import Derived.Test.YtakoppmiegjjlaaGreatDoorF11
import Derived.Test.YtakoppmiegjjlaaGreatDoorF20
set_option linter.unusedVariables false
set_option linter.unusedSimpArgs false
set_option maxRecDepth 20000
set_option maxHeartbeats 4000000
namespace Go.Lx
open Go.Proofs
inductive BegR (look:Bs→Option Bs) (v:Bs) (st:Ck) (upto:Int):List Int→List Int→Ck→Int→Int→List Int→Prop
  |nil {fs:List Int}:BegR look v st upto [] fs st 0 0 fs
  |skip {q:Int} {l fs fs':List Int} {s:Ck} {n e:Int}:(q>upto∨q<st.sq)→BegR look v st upto l fs s n e fs'→BegR look v st upto (q::l) fs s n e fs'
  |gone {q:Int} {l fs fs':List Int} {s c:Ck} {n e e1:Int}: ¬(q>upto∨q<st.sq)→CkpR look fs v q c e1→(goneP e1∨e1=0∧c.k≠st.k)→BegR look v st upto l (gotL fs v 2 q) s n e fs'→BegR look v st upto (q::l) fs s n e fs'
  |err {q:Int} {l fs:List Int} {c:Ck} {e1:Int}: ¬(q>upto∨q<st.sq)→CkpR look fs v q c e1→e1≠0→ ¬goneP e1→BegR look v st upto (q::l) fs zK 0 e1 (gotL fs v 2 q)
  |take {q:Int} {l fs:List Int} {c:Ck}: ¬(q>upto∨q<st.sq)→CkpR look fs v q c 0→c.k=st.k→BegR look v st upto (q::l) fs {c with sz:=max c.sz st.sz} q 0 (gotL fs v 2 q)
theorem gone0: ¬goneP 0:=by decide
inductive FolR (look:Bs→Option Bs) (v:Bs) (data:List Int) (upto:Int):List Int→Ck→Ck→Int→Prop
  |stop {fs:List Int} {s:Ck}:(s.sq+1∉data∨s.sq+1>upto)→FolR look v data upto fs s s 0
  |gone {fs:List Int} {s:Ck} {o:Dob} {e:Int}:s.sq+1∈data→s.sq+1≤upto→ObjR look fs v (s.sq+1) o e→goneP e→FolR look v data upto fs s s 0
  |err {fs:List Int} {s:Ck} {o:Dob} {e:Int}:s.sq+1∈data→s.sq+1≤upto→ObjR look fs v (s.sq+1) o e→e≠0→ ¬goneP e→FolR look v data upto fs s zK e
  |bad {fs:List Int} {s d:Ck} {o:Dob} {e:Int}:s.sq+1∈data→s.sq+1≤upto→ObjR look fs v (s.sq+1) o 0→FoldR s [o] d e→e≠0→FolR look v data upto fs s s 0
  |step {fs:List Int} {s d t:Ck} {o:Dob} {e:Int}:s.sq+1∈data→s.sq+1≤upto→ObjR look fs v (s.sq+1) o 0→FoldR s [o] d 0→FolR look v data upto (gotL fs v 1 (s.sq+1)) d t e→FolR look v data upto fs s t e
end Go.Lx
namespace Go.Lx
open Go.Proofs
theorem folded0_spec(w:World)(g:Nat)(s:Bs)(k sz upto:Int):Spec Tryz.prog 42 #[.pointer (some ⟨g,0,none⟩),Zi s,.agg #[.int .u64 k,Zj 1,Zj 0,Zj 0,Zj sz,Zl,Zl,.string ByteArray.empty],Zl,Zj upto] w (fun _=>False) (fun v A=>v= .tuple #[.agg #[.int .u64 k,Zj 1,Zj 0,Zj 0,Zj sz,Zl,Zl,.string ByteArray.empty],Zj 0]∧A=[]):=by
  refine Zn Tryz.func42 Tryz.ntmps42 ?_
  ((refine Zt ?_<;>repeat' first|refine Z.p rfl ?_|(refine Za 0 ?_;(refine Qr rfl rfl rfl rfl (k:=fun g7=>?_)))|(refine Za 1 ?_;(refine XL.alloc rfl rfl rfl (k:=fun g10=>?_)))|refine Qf ?_)<;>refine X.seq ?_<;>((refine Zt ?_<;>repeat' first|refine Z.p rfl ?_|(refine Za 3 ?_;(refine Z.g rfl (by omega) ?_))|(refine Za 4 ?_;((refine XL.call rfl rfl rfl rfl (fun w hw=>nmRun0_spec w (0+1)) (Zs ?_))))|refine Z.fa rfl rfl rfl ?_|refine Z.l1 rfl rfl rfl ?_|refine Z.lN rfl rfl rfl ?_|refine Z.lP rfl rfl rfl ?_|refine Z.ln rfl rfl ?_|refine Z.lnL rfl rfl ?_|refine Z.lnS rfl rfl ?_|refine Qf ?_)<;>refine X.block ?_<;>((refine Qs (ι:=Nat) (fun i=>[(7,.pointer (some ⟨g7,0,none⟩)),(10,.pointer (some ⟨g10,0,none⟩)),(22,Zj 0),(23,Zj 0)]) (fun _=>[cells g10 [.int .u64 0,Zj 0,Zj 0,Zj 0,Zj 0,Zl,Zl,.string ByteArray.empty] 31,cells g7 [.int .u64 k,Zj 1,Zj 0,Zj 0,Zj sz,Zl,Zl,.string ByteArray.empty] 31]) (fun i=>True) (fun i=>0) (0) ?_ Zb Zd ?_;(focus(trivial));rintro i hi)<;>((refine Zt ?_<;>repeat' first|(refine Za 0 ?_;(refine Z.cf rfl (by decide) ?_))|refine Qf ?_)<;>refine X.seq ?_<;>((first|refine Zp ?_|refine Zq ?_))<;>(first|refine Ex.then ?_|refine N.next ?_<;>(refine X.seq ?_<;>(refine X.block ?_<;>((refine Zt ?_<;>repeat' first|refine Z.p rfl ?_|fail "op indexAddr"|refine Z.l1 rfl rfl rfl ?_|refine Z.lN rfl rfl rfl ?_|refine Z.lP rfl rfl rfl ?_|refine Qf ?_)<;>refine X.seq ?_<;>((refine Zt ?_<;>repeat' first|refine Z.p rfl ?_|refine Z.ct rfl (by omega) ?_|refine Z.cf rfl (by omega) ?_|refine Z.cs rfl (fun _=>?_) (fun _=>?_)|refine Qf ?_)<;>(first|(refine Zu ?_;refine Qq ?_)|refine Zm ?_))<;>(first|refine Ex.then ?_|refine N.next ?_<;>((refine Zt ?_<;>repeat' first|refine Z.p rfl ?_|fail "op call"|refine XL.alloc rfl rfl rfl (k:=fun g=>?_)|refine Qj rfl rfl rfl rfl rfl ?_|refine Qk rfl rfl rfl rfl rfl rfl ?_|refine XL.storeP rfl rfl rfl rfl rfl rfl ?_|refine Qf ?_)<;>refine X.seq ?_<;>(refine X.block ?_<;>((refine Zt ?_<;>repeat' first|refine Z.p rfl ?_|fail "op call"|refine Qf ?_)<;>(first|(refine Zu ?_;(refine Zt ?_<;>repeat' first|refine Z.p rfl ?_|refine Z.l1 rfl rfl rfl ?_|refine Z.lN rfl rfl rfl ?_|refine Z.lP rfl rfl rfl ?_|refine Qj rfl rfl rfl rfl rfl ?_|refine Qk rfl rfl rfl rfl rfl rfl ?_|refine XL.storeP rfl rfl rfl rfl rfl rfl ?_|refine Qf ?_)<;>(apply X.r2 Tryz.results42 (RV.of rfl) (Qh rfl);(focus(exact⟨rfl,rfl⟩));exact Zd))|(refine Zf ?_;(refine Zt ?_<;>repeat' first|refine Z.p rfl ?_|refine Z.ct rfl (by omega) ?_|refine Z.cf rfl (by omega) ?_|refine Z.cs rfl (fun _=>?_) (fun _=>?_)|refine Qf ?_)<;>(first|(refine Zu ?_;(refine Zt ?_<;>repeat' first|refine Z.p rfl ?_|refine Z.bd rfl rfl ?_|refine Qj rfl rfl rfl rfl rfl ?_|refine Qk rfl rfl rfl rfl rfl rfl ?_|refine XL.storeP rfl rfl rfl rfl rfl rfl ?_|refine Qf ?_)<;>(apply X.r2 Tryz.results42 (RV.of rfl) (Qh rfl);(focus(exact⟨rfl,rfl⟩));exact Zd))|refine Zm ?_))))<;>(first|refine N.block ?_|refine Ql ?_|refine Ex.out rfl ?_))<;>(first|refine Ex.then ?_|refine N.next ?_<;>((refine Zt ?_<;>repeat' first|refine Z.p rfl ?_|refine Z.l1 rfl rfl rfl ?_|refine Z.lN rfl rfl rfl ?_|refine Z.lP rfl rfl rfl ?_|refine XL.slice1 rfl rfl rfl rfl rfl rfl (by intro g;infer_instance) (fun g_=>?_)|fail "op call"|refine XL.alloc rfl rfl rfl (k:=fun g=>?_)|refine Qj rfl rfl rfl rfl rfl ?_|refine Qk rfl rfl rfl rfl rfl rfl ?_|refine XL.storeP rfl rfl rfl rfl rfl rfl ?_|refine Qf ?_)<;>refine X.seq ?_<;>((refine Zt ?_<;>repeat' first|refine Z.p rfl ?_|refine Z.ct rfl (by omega) ?_|refine Z.cf rfl (by omega) ?_|refine Z.cs rfl (fun _=>?_) (fun _=>?_)|refine Qf ?_)<;>(first|(refine Zu ?_;refine Qq ?_)|refine Zm ?_))<;>(first|refine Ex.then ?_|refine N.next ?_<;>(refine Zx ?_<;>repeat' first|refine Z.l1 rfl rfl rfl ?_|refine Z.lN rfl rfl rfl ?_|refine Z.lP rfl rfl rfl ?_|refine Qj rfl rfl rfl rfl rfl ?_|refine Qk rfl rfl rfl rfl rfl rfl ?_|refine XL.storeP rfl rfl rfl rfl rfl rfl ?_|refine XL.nil ?_)))))))<;>(first|refine N.block ?_|refine Ql ?_|refine Ex.out rfl ?_))<;>(first|refine Ex.then ?_|refine N.next ?_<;>(refine Zx ?_<;>repeat' first|refine Z.p rfl ?_|refine Z.g rfl (by omega) ?_|refine Z.w rfl ?_|refine XL.nil ?_)))))<;>(first|refine Ex.then ?_|((refine Qp (0) ?_ ?_ Zb Zd;(focus(trivial));(focus(first|omega|(dsimp only;omega)))))))<;>(first|refine N.block ?_|refine Ql ?_|refine Ex.out rfl ?_))<;>(first|refine Ex.then ?_|refine N.next ?_<;>((refine Zt ?_<;>repeat' first|refine Z.p rfl ?_|refine Z.l1 rfl rfl rfl ?_|refine Z.lN rfl rfl rfl ?_|refine Z.lP rfl rfl rfl ?_|refine Qj rfl rfl rfl rfl rfl ?_|refine Qk rfl rfl rfl rfl rfl rfl ?_|refine XL.storeP rfl rfl rfl rfl rfl rfl ?_|refine Qf ?_)<;>(apply X.r2 Tryz.results42 (RV.of rfl) (Qh rfl);(focus(exact⟨rfl,rfl⟩));exact Zd))))
end Go.Lx
namespace Go.Lx
open Go.Proofs
def bkL (l:List Int):List (Nat×Int):=(l.zipIdx.map fun p=>(p.2,p.1)).reverse
def encI (x:Nat×Int):List Value:=[.int .i64 ((x.1:Nat):Int),.int .i64 x.2]
theorem bkL_len(l:List Int):(bkL l).length=l.length:=by simp [bkL]
theorem bkL_get{l:List Int}{j m:Nat}{x:Int}(h:l[j]?=some x)(hm:j+1+m=l.length):(bkL l)[m]?=some (j,x):=by
  unfold bkL
  have hj:=(List.getElem?_eq_some_iff.1 h).1
  rw [List.getElem?_reverse (by simp;omega)]
  simp only [List.length_map,List.length_zipIdx,List.getElem?_map,List.getElem?_zipIdx]
  rw [show l.length-1-m=j from by omega,h]
  simp
theorem bkL_split{l:List Int}{j m:Nat}{x:Int}(h:l[j]?=some x)(hm:j+1+m=l.length):bkL l=(bkL l).take m++(j,x)::(bkL l).drop (m+1):=by
  have h1:=bkL_get h hm
  obtain⟨hi,he⟩:=List.getElem?_eq_some_iff.1 h1
  rw [←he,List.getElem_cons_drop hi,List.take_append_drop]
theorem bkL_step{l:List Int}{j m:Nat}{x:Int}(h:l[j]?=some x)(hm:j+1+m=l.length):(bkL l).take m++[(j,x)]=(bkL l).take (m+1):=by
  rw [List.take_add_one,bkL_get h hm];rfl
theorem Rd.bd''{w:World}{sz:Nat}{a:Option Addr}{n c:Nat}{cs:List Value}(h:Rd w sz a n c cs):n≤9223372036854775807:=by
  have h1:=h.le
  have h2:=h.mx
  unfold maxLen at h2
  omega
theorem cell_later'{P:Program}{w w1:World}{F H:Nat→Prop}{g o:Nat}{v:Value}(h:w.cell? ⟨g,o,none⟩=some v∧ ¬F g)(hc:Conf ⟨P,0,w,F⟩ [] w1)(hH:∀ b,H b→F b∨w.heap.size≤b):w1.cell? ⟨g,o,none⟩=some v∧ ¬H g:=
  ⟨hc.cell0 h.1 h.2,fun hb=>by
    have:=World.block_lt_of_cell? w _ h.1
    rcases hH g hb with h1|h1
    · exact h.2 h1
    · simp only at this;omega⟩
theorem RdX.later'{P:Program}{w w1:World}{F H:Nat→Prop}{sz n c:Nat}{a:Option Addr}{cs:List Value}(h:RdX w F sz a n c cs)(hc:Conf ⟨P,0,w,F⟩ [] w1)(hH:∀ b,H b→F b∨w.heap.size≤b):RdX w1 H sz a n c cs:=
  RdX.call h hc (A':=[]) ⟨hH,fun _=>False,fun _ h=>h,fun _ _ h=>h⟩
theorem RdX.nilX(w:World)(F:Nat→Prop)(sz:Nat):RdX w F sz none 0 0 []:=⟨Rd.nil w sz,fun j v hj=>by simp at hj⟩
theorem Backward_spec(w:World)(v:Value)(h1:v.oneCell'=true):Spec Tryz.prog 93 #[v] w (fun _=>False) (fun r A=>∃ g,r= .func (.func 168) #[] #[.pointer (some ⟨g,0,none⟩)]∧A=[cells g [v] 32]):=by
  refine Zn Tryz.func93 Tryz.ntmps93 ?_
  ((refine Zt ?_<;>repeat' first|refine Z.p rfl ?_|(refine Za 0 ?_;(refine XL.box1 rfl rfl rfl rfl h1 (by intro g;infer_instance) (fun g0=>?_)))|refine Qf ?_)<;>(refine Zt ?_<;>repeat' first|refine Z.p rfl ?_|refine Z.mf rfl rfl rfl ?_|refine Qf ?_)<;>(apply X.r1 Tryz.results93 (Qh rfl);(focus(exact⟨g0,rfl,rfl⟩));exact Zd))
theorem back_iter(w:World)(F:Nat→Prop)(g:Nat)(a:Option Addr)(c:Nat)(l:List Int)(hg:w.cell? ⟨g,0,none⟩=some (.slice a l.length c)∧ ¬F g)(hr:RdX w F 1 a l.length c (encN l)):Iter Tryz.prog 168 [.pointer (some ⟨g,0,none⟩)] encI (bkL l) w F:=by
  intro l_ J Jx w1 H hc1 hHo hs hround
  have hg1:=cell_later' hg hc1 hHo
  have hr1:=hr.later' hc1 hHo
  have hb:=hr1.rd.bd''
  have htake:(bkL l).take l.length=bkL l:=List.take_of_length_le (by rw [bkL_len];exact Nat.le_refl _)
  refine Spec.enter Tryz.func168 rfl Tryz.ntmps168 rfl hs ?_
  ((refine Zt ?_<;>repeat' first|refine Z.p rfl ?_|(refine Za 0 ?_;(refine Z.la rfl rfl (fun w hw=>hw.cell0 hg1.1 hg1.2) ?_))|(refine Za 2 ?_;(rw [show J []=J ((bkL l).take 0) from rfl];refine Z.g rfl (by omega) ?_))|refine Z.ln rfl rfl ?_|refine Z.lnL rfl rfl ?_|refine Z.lnS rfl rfl ?_|refine Qf ?_)<;>refine X.block ?_<;>((refine Qs (ι:=Nat×Nat) (fun p=>[(0,.func (.yield l_) #[] #[]),(1,.pointer (some ⟨g,0,none⟩)),(3,Zj (((p.1:Nat):Int)-1))]) (fun p=>[J ((bkL l).take p.2)]) (fun p=>p.1+p.2=l.length) (fun p=>p.1) ((l.length,0)) ?_ Zb Zd ?_;(focus(exact Nat.add_zero _));rintro⟨j,m⟩ hi;(dsimp only at *))<;>(refine X.seq ?_<;>((refine Zt ?_<;>repeat' first|refine Z.p rfl ?_|(refine Za 1 ?_;(first|refine Z.cs rfl (fun h0=>?_) (fun h0=>?_)<;>first|(have hj1:1≤j:=(by omega);obtain⟨k,rfl⟩:∃ k,j=k+1:=⟨j-1,(Nat.sub_add_cancel hj1).symm⟩;obtain⟨x,hx⟩:∃ x,l[k]?=some x:=⟨l[k]'(by omega),List.getElem?_eq_getElem (by omega)⟩)|(obtain rfl:j=0:=(by omega);obtain rfl:m=l.length:=(by omega);rw [htake])))|refine Qf ?_)<;>(first|refine Zp ?_|refine Zq ?_))<;>(first|refine Ex.then ?_|refine N.next ?_<;>(refine X.seq ?_<;>(refine X.block ?_<;>(refine X.seq ?_<;>(refine X.textY ?_<;>
    (refine Y.part 6 0 [6,7] (by kernel_rfl) rfl (Sd.tx_eq 6 0) ?_)<;>
    (repeat' first|(refine Za 1 ?_;(rw [show((k+1:Nat):Int)-1=((k:Nat):Int) from(by omega)];refine Z.p rfl ?_))|refine Z.p rfl ?_|(refine Za 2 ?_;(refine Z.la rfl rfl (fun w hw=>hw.cell0 hg1.1 hg1.2) ?_))|(refine Za 4 ?_;(refine Z.ix k rfl rfl rfl rfl (by omega) (hr1.rd.sm (by omega)) ?_))|(refine Za 5 ?_;(refine Z.la rfl rfl (fun w hw=>Rd.intAt (hr1.now hw) hx) ?_))|refine XL.nil ?_)<;>
    (refine N.rest ?_)<;>
    ((refine Y.yield [J ((bkL l).take m)] rfl rfl rfl rfl rfl rfl (fun w F hF hm hw=>(hround _ (k,x) _ w F (bkL_split hx (by omega)) hF hm.out hw.head)) ?_;rintro v B' (⟨rfl,rfl⟩|⟨rfl,rfl⟩)<;>refine Y.app ?_))<;>
    (refine Y.part 1 7 [] (by kernel_rfl) rfl (Sd.tx_eq 1 7) ?_)<;>
    (repeat' first|(refine Za 7 ?_;(rw [bkL_step hx (by omega)];refine Z.p rfl ?_))|refine XL.nil ?_)<;>
    (refine N.rest ?_)<;>
    (refine Y.nil ?_))<;>(first|refine Ex.then ?_|refine N.next ?_<;>((first|(refine Zu ?_;(apply X.r0 Tryz.results168;(focus(first|exact Or.inr ⟨(bkL l).take (m+1),rfl⟩|exact Or.inl rfl));exact Zd))|refine Zm ?_))))<;>(first|refine N.block ?_|refine Ql ?_|refine Ex.out rfl ?_))<;>(first|refine Ex.then ?_|refine N.next ?_<;>(refine Zx ?_<;>repeat' first|refine Z.p rfl ?_|(refine Za 1 ?_;(refine Z.g rfl (by omega) ?_;rw [show((k:Nat):Int)-1=((k:Nat):Int)-1 from rfl]))|refine XL.nil ?_)))))<;>(first|refine Ex.then ?_|((refine Qp ((k,m+1)) ?_ ?_ Zb Zd;(focus(dsimp only;omega));(focus(first|omega|(dsimp only;omega)))))))<;>(first|refine N.block ?_|refine Ql ?_|refine Ex.out rfl ?_))<;>((repeat(first|refine Rt.then ?_|refine Rt.block ?_|refine Rt.scope ?_));(first|apply N.done (Res.r0 Tryz.results168)|apply N.doneM (Res.r0 Tryz.results168));(focus(first|exact Or.inr ⟨(bkL l).take (m+1),rfl⟩|exact Or.inl rfl));exact fun w h=>h.takes)
theorem begun0_spec(w:World)(g:Nat)(s:Bs)(k sz upto:Int):Spec Tryz.prog 41 #[.pointer (some ⟨g,0,none⟩),Zi s,.agg #[.int .u64 k,Zj 1,Zj 0,Zj 0,Zj sz,Zl,Zl,.string ByteArray.empty],Zl,Zj upto] w (fun _=>False) (fun v A=>v= .tuple #[.agg #[.int .u64 k,Zj 1,Zj 0,Zj 0,Zj sz,Zl,Zl,.string ByteArray.empty],Zj 0,Zj 0]∧A=[]):=by
  refine Zn Tryz.func41 Tryz.ntmps41 ?_
  ((refine Zt ?_<;>repeat' first|(refine Za 0 ?_;(refine XL.box1 rfl rfl rfl rfl rfl (k:=fun g5=>?_)))|(refine Za 1 ?_;(refine XL.box1 rfl rfl rfl rfl rfl (k:=fun g6=>?_)))|(refine Za 2 ?_;(refine Qr rfl rfl rfl rfl (k:=fun g7=>?_)))|(refine Za 3 ?_;(refine XL.box1 rfl rfl rfl rfl rfl (k:=fun g9=>?_)))|(refine Za 4 ?_;(refine XL.alloc rfl rfl rfl (k:=fun g10=>?_)))|(refine Za 5 ?_;(refine XL.alloc rfl rfl rfl (k:=fun g11=>?_)))|(refine Za 6 ?_;(refine XL.alloc rfl rfl rfl (k:=fun g12=>?_)))|refine Qf ?_)<;>refine X.seq ?_<;>((refine Zt ?_<;>repeat' first|refine Z.p rfl ?_|(refine Za 1 ?_;((refine XL.call rfl rfl rfl rfl (fun w hw=>Backward_spec w _ rfl) ?_;rintro v B' ⟨gp,rfl,rfl⟩;refine Qg ?_)))|refine Qf ?_)<;>refine X.block ?_<;>(((first|refine X.rangeF (α:=Nat×Int) (ι:=Unit) (κ:=Unit) (gf:=168) (lb:=[.pointer (some ⟨gp,0,none⟩)]) (encs:=encI) (xs:=bkL []) ([]) (fun pre r=>True) (fun _ r=>[]) (fun _=>False) (fun _=> .ret) (fun r=>[]) rfl rfl rfl (fun _=>rfl) rfl (()) (trivial) rfl (fun w F hF hm hw=>back_iter w F gp none 0 [] (hm.cell (g:=gp) (k:=0) rfl) (RdX.nilX w F 1)) ?_ ?_ ?_);(focus((rintro pre x post i_ l_ D_ r_ W_ F_ R_ hxs hi hF hm hRt hRf;(exact absurd (congrArg List.length hxs) (by rw [show(bkL []).length=0 from rfl];simp)))));rotate_left;(focus((rintro k_ D_ hk;(exact hk.elim))));(rintro i_ D_ hi;(try dsimp only [List.cons_append,List.nil_append]);(skip))))<;>(first|refine N.block ?_|refine Ql ?_|refine Ex.out rfl ?_))<;>(first|refine Ex.then ?_|refine N.next ?_<;>((refine Zt ?_<;>repeat' first|refine Z.l1 rfl rfl rfl ?_|refine Z.lN rfl rfl rfl ?_|refine Z.lP rfl rfl rfl ?_|refine Qj rfl rfl rfl rfl rfl ?_|refine Qk rfl rfl rfl rfl rfl rfl ?_|refine XL.storeP rfl rfl rfl rfl rfl rfl ?_|refine Qf ?_)<;>(refine X.ret ?_;(repeat(first|refine Rt.then ?_|refine Rt.block ?_|refine Rt.scope ?_));(first|apply Rt.done (Res.r3 Tryz.results41 (by first|exact RV.cell rfl rfl|exact RV.cell1 rfl) (by first|exact RV.cell rfl rfl|exact RV.cell1 rfl) (by first|exact RV.cell rfl rfl|exact RV.cell1 rfl))|apply Rt.doneM (Res.r3 Tryz.results41 (by first|exact RV.cell rfl rfl|exact RV.cell1 rfl) (by first|exact RV.cell rfl rfl|exact RV.cell1 rfl) (by first|exact RV.cell rfl rfl|exact RV.cell1 rfl)));(focus(exact⟨rfl,rfl⟩));exact fun w h=>h.takes))))
end Go.Lx
