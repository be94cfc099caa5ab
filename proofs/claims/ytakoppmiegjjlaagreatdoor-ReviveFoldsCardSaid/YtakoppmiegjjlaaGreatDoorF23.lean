import Derived.Test.YtakoppmiegjjlaaGreatDoorF4
import Derived.Test.YtakoppmiegjjlaaGreatDoorF22
set_option linter.unusedVariables false
set_option linter.unusedSimpArgs false
set_option maxRecDepth 20000
set_option maxHeartbeats 2000000
namespace Go.Lx
open Go.Proofs
def prt (f t:Int) (x:Ext):Ext:=⟨f,t-f,x.q,x.p+f-x.a⟩
def ahE (s:Sp) (l1 P:List Ext):List Ext:=l1++(P.filter fun x=>decide (x.a<s.1)).map fun x=>prt x.a s.1 x
def inF (s:Sp) (P:List Ext):List Ext:=P.map fun x=>prt (max x.a s.1) (min (x.a+x.n) (s.1+s.2)) x
def beE (s:Sp) (l3 P:List Ext):List Ext:=(P.filter fun x=>decide (x.a+x.n>s.1+s.2)).reverse.map (fun x=>prt (s.1+s.2) (x.a+x.n) x)++l3
theorem ahE_snoc{s:Sp}{l1 P:List Ext}{x:Ext}:ahE s l1 (P++[x])=if x.a<s.1 then ahE s l1 P++[prt x.a s.1 x] else ahE s l1 P:=by
  unfold ahE
  rw [List.filter_append]
  split<;>rename_i h<;>simp [h]
theorem inF_snoc{s:Sp}{P:List Ext}{x:Ext}:inF s (P++[x])=inF s P++[prt (max x.a s.1) (min (x.a+x.n) (s.1+s.2)) x]:=by simp [inF]
theorem beE_snoc{s:Sp}{l3 P:List Ext}{x:Ext}:beE s l3 (P++[x])=if x.a+x.n>s.1+s.2 then prt (s.1+s.2) (x.a+x.n) x::beE s l3 P else beE s l3 P:=by
  unfold beE
  rw [List.filter_append]
  split<;>rename_i h<;>simp [h]
theorem aro_len(s:Sp)(l P:List Ext)(k m i:Nat)(hP:P.length≤l.length):(ahE s (l.take k) (P.take i)).length≤l.length+l.length∧(inF s (P.take i)).length≤l.length∧(beE s (l.drop m) (P.take i)).length≤l.length+l.length:=by
  have h1:=List.length_filter_le (fun x:Ext=>decide (x.a<s.1)) (P.take i)
  have h2:=List.length_filter_le (fun x:Ext=>decide (x.a+x.n>s.1+s.2)) (P.take i)
  simp only [ahE,inF,beE,List.length_append,List.length_map,List.length_reverse,List.length_take,List.length_drop] at *
  omega
structure Parts (l:List Ext) (s:Sp) (k m:Nat):Prop where
  km:k≤m
  ml:m≤l.length
  lo:∀ j x,j<k→l[j]?=some x→x.a+x.n≤s.1
  mid:∀ j x,k≤j→l[j]?=some x→s.1<x.a+x.n
  in_:∀ j x,k≤j→j<m→l[j]?=some x→x.a<s.1+s.2
  hi:∀ x,l[m]?=some x→s.1+s.2≤x.a
def midL (l:List Ext) (k m:Nat):List Ext:=(l.drop k).take (m-k)
structure AroI where
  i:Nat
  pa:Option Addr
  nA:Nat
  ca:Nat
  pi:Option Addr
  nI:Nat
  ci:Nat
  pb:Option Addr
  nB:Nat
  cb:Nat
theorem viewA{s:Sp}(a:Option Addr)(c:Nat)(l:List Ext)(k:Nat)(h1:k≤l.length)(h2:l.length≤c):∀ w',Rd w' 4 a l.length c (encE l)→Rd w' 4 (subA a 4 0 k) k k (encE (ahE s (l.take k) [])):=fun w' h=>by
  have:=Rd.subT (f:=encE1) (l:=0) (h:=k) (m:=k) (fun _=>rfl) h (Nat.zero_le _) (Nat.le_refl _) (by omega) h1
  simpa [ahE,encE] using this
theorem viewB{s:Sp}(a:Option Addr)(c:Nat)(l:List Ext)(m:Nat)(h1:m≤l.length):∀ w',Rd w' 4 a l.length c (encE l)→Rd w' 4 (subA a 4 m c) (l.length-m) (c-m) (encE (beE s (l.drop m) [])):=fun w' h=>by
  have:=Rd.subT (f:=encE1) (l:=m) (h:=l.length) (m:=c) (fun _=>rfl) h h1 h.le (Nat.le_refl _) (Nat.le_refl _)
  rw [List.take_of_length_le (by simp)] at this
  simpa [beE,encE] using this
theorem viewM(a:Option Addr)(c:Nat)(l:List Ext)(k m:Nat)(h1:k≤m)(h2:m≤l.length):∀ w',Rd w' 4 a l.length c (encE l)→Rd w' 4 (subA a 4 k c) (m-k) (c-k) (encE (midL l k m)):=fun w' h=>
  Rd.subT (f:=encE1) (l:=k) (h:=m) (m:=c) (fun _=>rfl) h h1 (Nat.le_trans h2 h.le) (Nat.le_refl _) h2
theorem mid_get{l P:List Ext}{k m i:Nat}{x:Ext}(h:midL l k m=P)(hx:P[i]?=some x):l[k+i]?=some x:=by
  rw [←h] at hx
  unfold midL at hx
  rw [List.getElem?_take] at hx
  split at hx
  · rw [List.getElem?_drop] at hx;exact hx
  · cases hx
def valE (x:Ext):Value:= .agg #[.int .i64 x.a,.int .i64 x.n,.int .i64 x.q,.int .i64 x.p]
theorem mid_first{lo:Int}{l P:List Ext}{s:Sp}{k m i:Nat}{x:Ext}(hr:Rise lo l)(hP:Parts l s k m)(h:midL l k m=P)(hx:P[i]?=some x)(hlt:x.a<s.1):i=0:=by
  rcases Nat.eq_zero_or_pos i with h0|h0
  · exact h0
  · have hxl:=mid_get h hx
    have hl:=(List.getElem?_eq_some_iff.1 hxl).1
    obtain⟨y,hy⟩:=Qt (l:=l) (k:=k+i-1) (by omega)
    have h1:=hP.mid (k+i-1) y (by omega) hy
    have h2:=hr.idx (by omega:k+i-1<k+i) hy hxl
    omega
theorem two_mem{w:World}{s1 s2:Sle}(h1:Rd w 4 s1.a s1.l.length s1.c (encE s1.l))(h2:Rd w 4 s2.a s2.l.length s2.c (encE s2.l)):∀ s∈[s1,s2],Rd w 4 s.a s.l.length s.c (encE s.l):=fun s hs=>by
  rcases List.mem_cons.1 hs with rfl|hs
  · exact h1
  · rcases List.mem_cons.1 hs with rfl|hs
    · exact h2
    · cases hs
theorem around_spec(w:World)(gm:Nat)(a:Option Addr)(c:Nat)(l:List Ext)(s:Sp)(hm:w.cell? ⟨gm,0,none⟩=some (.slice a l.length c))(hl:Rd w 4 a l.length c (encE l))(hr:Rise 0 l)(hs:mayS s)(hbd:l.length≤200000):
    Spec Tryz.prog 208 #[.pointer (some ⟨gm,0,none⟩),.agg #[Zj s.1,Zj s.2]] w (fun _=>False) (fun v A=>∃ k m pa ca pi ci pb cb,Parts l s k m∧v= .tuple #[.slice pa (ahE s (l.take k) (midL l k m)).length ca,.slice pi (inF s (midL l k m)).length ci,.slice pb (beE s (l.drop m) (midL l k m)).length cb]∧
      A=[vw 4 a l.length c (encE l) 105 4 pa (ahE s (l.take k) (midL l k m)).length ca (encE (ahE s (l.take k) (midL l k m))),own 105 4 (.slice pi (inF s (midL l k m)).length ci) (inF s (midL l k m)).length (encE (inF s (midL l k m))),vw 4 a l.length c (encE l) 105 4 pb (beE s (l.drop m) (midL l k m)).length cb (encE (beE s (l.drop m) (midL l k m)))]):=by
  have hs':=hs
  unfold mayS at hs'
  have hle:=hl.le
  refine Zn Tryz.func208 Tryz.ntmps208 ?_
  ((refine Zt ?_<;>repeat' first|refine Z.p rfl ?_|(refine Za 0 ?_;(refine Qr rfl rfl rfl rfl (k:=fun gs=>?_)))|refine Qf ?_)<;>(refine X.sd (.a 0 (.a 1 (.a 2 (.b 3 (.a 4 (.b 5 (.c 6 (.a 7 (.a 8 (.a 9 (.a 10 (.a 11 .n)))))))))))) mixed (by kernel_rfl) ?_<;>repeat' first|refine Z.p rfl ?_|(refine Za 3 ?_;((apply XL.det1 rfl rfl rfl rfl;exact D.load1 rfl (fun w hw=>hw.cell0 hm (fun h=>h)))))|(refine Za 6 ?_;((refine XL.call rfl rfl rfl rfl (fun w hw=>Search_spec w a c l 0 s.1 (by omega) (hl.conf0 hw) hr (by omega)) ?_;rintro v B' ⟨k,b,rfl,hk,hlo,hmid,rfl⟩;refine Qg ?_)))|refine Z.fa rfl rfl rfl ?_|refine Z.l1 rfl rfl rfl ?_|refine Z.lN rfl rfl rfl ?_|refine Z.lP rfl rfl rfl ?_|refine Qf ?_)<;>(refine Zt ?_<;>repeat' first|refine Z.p rfl ?_|refine Qf ?_)<;>refine X.seq ?_<;>(refine X.block ?_<;>((refine Qs (ι:=Nat) (fun m=>[(0,.pointer (some ⟨gm,0,none⟩)),(3,.pointer (some ⟨gs,0,none⟩)),(4,Zl),(5,Zl),(6,Zl),(7,Zj k),(9,Zj m)]) (fun _=>[cells gs [Zj s.1,Zj s.2] 103]) (fun m=>k≤m∧m≤l.length∧∀ j x,k≤j→j<m→l[j]?=some x→x.a<s.1+s.2) (fun m=>l.length-m) (k) ?_ Zb Zd ?_;(focus(exact⟨Nat.le_refl _,hk,fun j x h1 h2=>by omega⟩));rintro m ⟨hkm,hml,hin⟩)<;>(refine X.seq ?_<;>((refine X.sd (.a 0 (.a 1 (.a 2 (.a 3 (.b 4 (.a 5 (.a 6 (.a 7 (.a 8 (.a 9 (.a 10 (.b 11 (.a 12 (.a 13 (.a 14 (.a 15 (.b 16 (.b 17 (.c 18 (.a 19 (.a 20 .n))))))))))))))))))))) mixed (by kernel_rfl) ?_<;>repeat' first|refine XL.skipC rfl rfl rfl rfl ?_|refine Z.p rfl ?_|(refine Za 4 ?_;((apply XL.det1 rfl rfl rfl rfl;exact D.load1 rfl (fun w hw=>hw.cell0 hm (fun h=>h)))))|(refine Za 6 ?_;(first|refine XL.split0 rfl rfl rfl rfl (D.int rfl rfl rfl) (fun h1=>?_) (fun h1=>?_)))|(refine Za 11 ?_;((apply XL.det1 rfl rfl rfl rfl;exact D.load1 rfl (fun w hw=>hw.cell0 hm (fun h=>h)))))|(refine Za 13 ?_;(have hmlt:m<l.length:=(by omega);obtain⟨x,hx⟩:=Qt hmlt;(apply XL.det0 rfl rfl rfl rfl;exact D.indexAddr m rfl rfl rfl hmlt (hl.sm (by omega)))))|(refine Za 16 ?_;((apply XL.det1 rfl rfl rfl rfl;exact D.load1 rfl (fun w hw=>by have:=Rd.extE (Rd.conf0 hl hw) hx 0 _ rfl;simpa [el_add] using this))))|(refine Za 18 ?_;((refine XL.call rfl rfl rfl rfl (fun w hw=>End_spec _ _ w) ?_;rintro v B' ⟨rfl,rfl⟩;refine Qg ?_);rw [may_end hs]))|(refine Za 19 ?_;(first|refine XL.split0 rfl rfl rfl rfl (D.int rfl rfl rfl) (fun h2=>?_) (fun h2=>?_)))|refine Z.fa rfl rfl rfl ?_|refine Z.ln rfl rfl ?_|refine Z.lnL rfl rfl ?_|refine Z.lnS rfl rfl ?_|refine Z.l1 rfl rfl rfl ?_|refine Z.lN rfl rfl rfl ?_|refine Z.lP rfl rfl rfl ?_|refine Z.pk rfl rfl rfl rfl ?_|refine Qf ?_)<;>(first|refine Zp ?_|refine Zq ?_))<;>(first|refine Ex.then ?_|refine N.next ?_<;>(refine X.block ?_<;>(refine Zx ?_<;>repeat' first|refine Z.p rfl ?_|refine Z.g rfl (by omega) ?_|refine Z.w rfl ?_|refine XL.nil ?_)<;>(first|refine N.block ?_|refine Ql ?_|refine Ex.out rfl ?_))))<;>(first|refine Ex.then ?_|((refine Qp ((m+1)) ?_ ?_ Zb Zd;(focus(exact⟨by omega,by omega,fun j y h3 h4 hy=>by by_cases e:j=m;subst e;rw [hx] at hy;cases hy;omega;exact hin j y h3 (by omega) hy⟩));(focus(first|omega|(dsimp only;omega)))))))<;>(first|refine N.block ?_|refine Ql ?_|refine Ex.out rfl ?_))<;>(first|refine Ex.then ?_|refine N.next ?_<;>((refine X.sd (.a 0 (.a 1 (.a 2 (.b 3 (.a 4 (.a 5 (.a 6 (.a 7 (.a 8 (.a 9 (.b 10 (.a 11 (.a 12 (.a 13 (.a 14 .n))))))))))))))) mixed (by kernel_rfl) ?_<;>repeat' first|refine Z.p rfl ?_|(refine Za 3 ?_;(have hP:Parts l s k m:=⟨hkm,hml,hlo,hmid,hin,fun y hy=>by first|(have:=(List.getElem?_eq_some_iff.1 hy).1;omega)|(rw [hx] at hy;cases hy;omega)⟩;(apply XL.det1 rfl rfl rfl rfl;exact D.load1 rfl (fun w hw=>hw.cell0 hm (fun h=>h)))))|(refine Za 6 ?_;((apply XL.det0 rfl rfl rfl rfl;exact D.sliceHM (h:=k) (m:=k) rfl rfl rfl (by omega))))|(refine Za 10 ?_;((apply XL.det1 rfl rfl rfl rfl;exact D.load1 rfl (fun w hw=>hw.cell0 hm (fun h=>h)))))|(refine Za 12 ?_;((apply XL.det0 rfl rfl rfl rfl;exact D.sliceL (l:=m) rfl rfl (by omega))))|refine Z.fa rfl rfl rfl ?_|refine Qf ?_)<;>refine X.seq ?_<;>((refine Zt ?_<;>repeat' first|refine Z.p rfl ?_|(refine Za 3 ?_;((apply Qu rfl rfl rfl rfl;exact D.load1 rfl (fun w hw=>hw.cell0 hm (fun h=>h)))))|(refine Za 6 ?_;((apply Qm rfl rfl rfl rfl;exact D.sliceLH (l:=k) (h:=m) rfl rfl rfl (by omega))))|(refine Za 7 ?_;(obtain⟨P,hPe⟩:∃ P,midL l k m=P:=(⟨_,rfl⟩);have hPl:P.length=m-k:=(by rw [←hPe];simp [midL];omega);have vA:=viewA (s:=s) a c l k (by omega) (by omega);have vB:=viewB (s:=s) a c l m (by omega);have vM:=viewM a c l k m (by omega) (by omega);rw [hPe] at vM;refine XL.mem (B:=[vw 4 a l.length c (encE l) 105 4 (subA a 4 0 k) k k (encE (ahE s (l.take k) (P.take 0))),own 105 4 (Zl) 0 (encE (inF s (P.take 0))),vw 4 a l.length c (encE l) 105 4 (subA a 4 m c) (l.length-m) (c-m) (encE (beE s (l.drop m) (P.take 0))),cells gs [Zj s.1,Zj s.2] 103]) (fun w h=>(((h.vwNew vB).nilOwn 105 4).vwNew vA)) ?_;(apply Qm rfl rfl rfl rfl;exact D.len rfl)))|refine Z.fa rfl rfl rfl ?_|refine Qf ?_)<;>refine X.block ?_<;>((refine Qs (ι:=AroI) (fun x=>[(3,.pointer (some ⟨gs,0,none⟩)),(4,.slice x.pa x.nA x.ca),(5,.slice x.pi x.nI x.ci),(6,.slice x.pb x.nB x.cb),(65,.slice (subA a 4 k c) (m-k) (c-k)),(66,Zj (m-k:Nat)),(67,Zj x.i)]) (fun x=>[vw 4 a l.length c (encE l) 105 4 x.pa x.nA x.ca (encE (ahE s (l.take k) (P.take x.i))),own 105 4 (.slice x.pi x.nI x.ci) x.nI (encE (inF s (P.take x.i))),vw 4 a l.length c (encE l) 105 4 x.pb x.nB x.cb (encE (beE s (l.drop m) (P.take x.i))),cells gs [Zj s.1,Zj s.2] 103]) (fun x=>x.i≤m-k∧x.nA=(ahE s (l.take k) (P.take x.i)).length∧x.nI=(inF s (P.take x.i)).length∧x.nB=(beE s (l.drop m) (P.take x.i)).length∧(x.i=0→x.ca=x.nA)) (fun x=>m-k-x.i) (⟨0,subA a 4 0 k,k,k,none,0,0,subA a 4 m c,l.length-m,c-m⟩) ?_ Zb Zd ?_;(focus(exact⟨Nat.zero_le _,by simp [ahE];omega,by simp [inF],by simp [beE],fun _=>rfl⟩));rintro⟨i,pa,nA,ca,pi,nI,ci,pb,nB,cb⟩ ⟨hi,hnA,hnI,hnB,hca⟩;(dsimp only at *))<;>((refine Zt ?_<;>repeat' first|(refine Za 0 ?_;(first|refine Qn rfl rfl rfl rfl (D.int rfl rfl rfl) (fun h5=>?_) (fun h5=>?_)))|refine Qf ?_)<;>refine X.seq ?_<;>((first|refine Zp ?_|refine Zq ?_))<;>(first|refine Ex.then ?_|refine N.next ?_<;>(refine X.seq ?_<;>(refine X.block ?_<;>((refine Zt ?_<;>repeat' first|(refine Za 0 ?_;(have hil:i<P.length:=(by omega);have bds:=aro_len s l P k m i (by omega);obtain⟨x,hx⟩:=Qt hil;have hxl:l[k+i]?=some x:=(mid_get hPe hx);have hxi:=(hr.mem (List.mem_of_getElem? hxl)).1;have hxi':=hxi;unfold inE at hxi';have hx1:=hP.mid (k+i) x (by omega) hxl;have hx2:=hP.in_ (k+i) x (by omega) (by omega) hxl;(apply Qu rfl rfl rfl rfl;exact D.indexAddr i rfl rfl rfl (by omega) (by have:=(hl.subT (f:=encE1) (fun _=>rfl) (l:=k) (h:=m) (m:=c) (by omega) (by omega) (by omega) (by omega)).sm (by omega);exact this))))|(refine Za 1 ?_;((apply Qu rfl rfl rfl rfl;exact D.loadN rfl rfl (fun w hw j u hu=>Rd.extE (vM w (hl.conf0 hw)) hx j u hu))))|refine XL.alloc rfl rfl rfl (k:=fun g=>?_)|refine Qj rfl rfl rfl rfl rfl ?_|refine Qk rfl rfl rfl rfl rfl rfl ?_|refine XL.storeP rfl rfl rfl rfl rfl rfl ?_|refine Qf ?_)<;>refine X.seq ?_<;>((refine Zt ?_<;>repeat' first|(refine Za 5 ?_;(first|refine Qn rfl rfl rfl rfl (D.int rfl rfl rfl) (fun h6=>?_) (fun h6=>?_)))|refine Z.fa rfl rfl rfl ?_|refine Z.l1 rfl rfl rfl ?_|refine Z.lN rfl rfl rfl ?_|refine Z.lP rfl rfl rfl ?_|refine Qf ?_)<;>(first|(refine Zu ?_;refine Zx ?_<;>repeat' first|refine Z.p rfl ?_|(refine Za 7 ?_;((refine XL.call rfl rfl rfl rfl (fun w hw=>part_spec x x.a s.1 ⟨hxi,by omega⟩ w) (Zs ?_))))|(refine Za 8 ?_;((refine XL.sliceL valE encE1 [prt x.a s.1 x] (fun _=>rfl) (fun _=>rfl) rfl rfl rfl rfl rfl rfl (fun _=>by infer_instance) (fun gl=>?_))))|(refine Za 9 ?_;(have hi0:i=0:=(mid_first hr hP hPe hx h6);have hcn:=(hca hi0).symm;subst hcn;(refine XL.appendN (n:=nA) (m:=1) rfl rfl rfl rfl rfl (by omega) (fun w hw=>hw.vrd (a:=pa) (hl.conf0 hw)) (fun w hw=>hw.rd (a:=some ⟨gl,0,none⟩)) (by unfold maxLen;omega) (fun _ _=>by infer_instance) (fun g2 c2=>?_));refine XL.mem (fun w h=>h.vwOwn (sz0:=4) (a0:=a) (n0:=l.length) (c0:=c) (xs0:=encE l)) ?_;rw [show encE (ahE s (l.take k) (P.take i))++[prt x.a s.1 x].flatMap encE1=encE (ahE s (l.take k) (P.take (i+1))) from(by rw [take_succ_snoc hx,ahE_snoc,if_pos h6];simp [encE])]))|refine Z.l1 rfl rfl rfl ?_|refine Z.lN rfl rfl rfl ?_|refine Z.lP rfl rfl rfl ?_|refine Z.fa rfl rfl rfl ?_|refine XL.nil ?_)|refine Zm ?_))<;>(first|refine Ex.then ?_|refine N.next ?_<;>((refine X.sd (.a 0 (.b 1 (.a 2 (.a 3 (.b 4 (.a 5 (.b 6 (.a 7 (.a 8 (.b 9 (.b 11 (.c 10 (.c 12 (.a 13 (.c 14 (.c 15 (.f 16 (.a 17 .n)))))))))))))))))) mixed (by kernel_rfl) ?_<;>repeat' first|(refine Za 0 ?_;((first|(have hAh:ahE s (l.take k) (P.take (i+1))=ahE s (l.take k) (P.take i):=(by rw [take_succ_snoc hx,ahE_snoc,if_neg h6]))|(have hAh:ahE s (l.take k) (P.take (i+1))=ahE s (l.take k) (P.take i)++[prt x.a s.1 x]:=(by rw [take_succ_snoc hx,ahE_snoc,if_pos h6])));(apply XL.det0 rfl rfl rfl rfl;exact D.move rfl)))|refine Z.p rfl ?_|(refine Za 10 ?_;((refine XL.call rfl rfl rfl rfl (fun w hw=>End_spec _ _ w) ?_;rintro v B' ⟨rfl,rfl⟩;refine Qg ?_);rw [D.wrap64_fit (by omega)]))|(refine Za 12 ?_;((refine XL.call rfl rfl rfl rfl (fun w hw=>End_spec _ _ w) ?_;rintro v B' ⟨rfl,rfl⟩;refine Qg ?_);rw [may_end hs]))|(refine Za 14 ?_;((refine XL.call rfl rfl rfl rfl (fun w hw=>part_spec x _ _ ⟨hxi,by omega⟩ w) ?_;rintro v B' ⟨rfl,rfl⟩;refine Qg ?_)))|(refine Za 16 ?_;((refine XL.append rfl rfl rfl rfl rfl rfl ?_ ?_ (fun a' c'=>?_);(focus(skip;unfold maxLen;omega));(focus(intro _ _;infer_instance)));rw [show encE (inF s (P.take i))++[Value.int IntKind.i64 (max x.a s.1),Value.int IntKind.i64 (min (x.a+x.n) (s.1+s.2)-max x.a s.1),Value.int IntKind.i64 x.q,Value.int IntKind.i64 (x.p+max x.a s.1-x.a)]=encE (inF s (P.take (i+1))) from(by rw [take_succ_snoc hx,inF_snoc];simp [encE,encE1,prt])]))|refine Z.l1 rfl rfl rfl ?_|refine Z.lN rfl rfl rfl ?_|refine Z.lP rfl rfl rfl ?_|refine Z.fa rfl rfl rfl ?_|refine Z.mx rfl rfl rfl ?_|refine Z.mn rfl rfl rfl ?_|refine XL.slice1 rfl rfl rfl rfl rfl rfl (by intro g;infer_instance) (fun g_=>?_)|refine Qf ?_)<;>(refine X.sd (.a 0 (.b 1 (.b 3 (.c 2 (.c 4 (.a 5 .n)))))) mixed (by kernel_rfl) ?_<;>repeat' first|(refine Za 2 ?_;((refine XL.call rfl rfl rfl rfl (fun w hw=>End_spec _ _ w) ?_;rintro v B' ⟨rfl,rfl⟩;refine Qg ?_);rw [D.wrap64_fit (by omega)]))|(refine Za 4 ?_;((refine XL.call rfl rfl rfl rfl (fun w hw=>End_spec _ _ w) ?_;rintro v B' ⟨rfl,rfl⟩;refine Qg ?_);rw [may_end hs]))|(refine Za 5 ?_;(first|refine XL.split0 rfl rfl rfl rfl (D.int rfl rfl rfl) (fun h7=>?_) (fun h7=>?_)))|refine Z.fa rfl rfl rfl ?_|refine Z.l1 rfl rfl rfl ?_|refine Z.lN rfl rfl rfl ?_|refine Z.lP rfl rfl rfl ?_|refine Qf ?_)<;>(first|(refine Zu ?_;refine X.draw (.b 0 (.b 1 (.a 3 (.b 4 (.a 8 (.c 2 (.c 5 (.c 6 (.c 7 (.c 9 (.c 10 (.a 11 .n)))))))))))) mixed (by kernel_rfl) ?_<;>repeat' first|(refine Za 8 ?_;(subst hnB;(apply XL.det0 rfl rfl rfl rfl;exact D.move rfl)))|refine Z.p rfl ?_|(refine Za 2 ?_;((refine XL.call rfl rfl rfl rfl (fun w hw=>End_spec _ _ w) ?_;rintro v B' ⟨rfl,rfl⟩;refine Qg ?_);rw [may_end hs]))|(refine Za 5 ?_;((refine XL.call rfl rfl rfl rfl (fun w hw=>End_spec _ _ w) ?_;rintro v B' ⟨rfl,rfl⟩;refine Qg ?_);rw [D.wrap64_fit (by omega)]))|(refine Za 6 ?_;((refine XL.call rfl rfl rfl rfl (fun w hw=>part_spec x _ _ ⟨hxi,by omega⟩ w) ?_;rintro v B' ⟨rfl,rfl⟩;refine Qg ?_)))|(refine Za 7 ?_;((refine XL.sliceL valE encE1 [prt (s.1+s.2) (x.a+x.n) x] (fun _=>rfl) (fun _=>rfl) rfl rfl rfl rfl rfl rfl (fun _=>by infer_instance) (fun gl2=>?_))))|(refine Za 9 ?_;((refine XL.sliceL valL encL1 [⟨some ⟨gl2,0,none⟩,1,[prt (s.1+s.2) (x.a+x.n) x]⟩,⟨pb,cb,beE s (l.drop m) (P.take i)⟩] (fun _=>rfl) (fun _=>rfl) rfl rfl rfl rfl rfl rfl (fun _=>by infer_instance) (fun gl3=>?_))))|(refine Za 10 ?_;(have hsum:sumL [⟨some ⟨gl2,0,none⟩,1,[prt (s.1+s.2) (x.a+x.n) x]⟩,⟨pb,cb,beE s (l.drop m) (P.take i)⟩]≤1000000:=(by simp only [sumL,List.length_cons,List.length_nil];omega);(refine XL.call rfl rfl rfl rfl (fun w hw=>Concat_spec w _ _ [⟨some ⟨gl2,0,none⟩,1,[prt (s.1+s.2) (x.a+x.n) x]⟩,⟨pb,cb,beE s (l.drop m) (P.take i)⟩] (hw.rd (a:=some ⟨gl3,0,none⟩)) (two_mem (hw.rd (a:=some ⟨gl2,0,none⟩)) (hw.vrd (a:=pb) (hl.conf0 hw))) (by simp) hsum) ?_;rintro v B' ⟨a9,c9,rfl,rfl⟩;refine Qg ?_);rw [show([⟨some ⟨gl2,0,none⟩,1,[prt (s.1+s.2) (x.a+x.n) x]⟩,⟨pb,cb,beE s (l.drop m) (P.take i)⟩]:List Sle).flatMap (·.l)=beE s (l.drop m) (P.take (i+1)) from(by rw [take_succ_snoc hx,beE_snoc,if_pos h7];simp)]))|refine Z.l1 rfl rfl rfl ?_|refine Z.lN rfl rfl rfl ?_|refine Z.lP rfl rfl rfl ?_|refine Z.fa rfl rfl rfl ?_|refine XL.nil ?_)|refine Zm ?_))))<;>(first|refine N.block ?_|refine Ql ?_|refine Ex.out rfl ?_))<;>(first|refine Ex.then ?_|refine N.next ?_<;>(refine Zx ?_<;>repeat' first|refine Z.p rfl ?_|(refine Za 0 ?_;(have hIn:(inF s (P.take (i+1))).length=nI+1:=(by rw [take_succ_snoc hx,inF_snoc];simp [hnI]);(first|(have hBh:beE s (l.drop m) (P.take (i+1))=beE s (l.drop m) (P.take i):=(by rw [take_succ_snoc hx,beE_snoc,if_neg h7]);rw [←hBh])|(refine XL.mem (fun w h=>h.vwOwn (sz0:=4) (a0:=a) (n0:=l.length) (c0:=c) (xs0:=encE l)) ?_));(first|rw [←hAh]|skip);(apply Qm rfl rfl rfl rfl;exact D.add64 rfl rfl (by omega))))|refine XL.nil ?_)))))<;>(first|refine Ex.then ?_|(first|(refine Qp (⟨i+1,pa,nA,ca,a',nI+1,c',pb,nB,cb⟩) ?_ ?_ Zb Zd;(focus(exact⟨by dsimp only;omega,by first|(rw [hAh];exact hnA)|(rw [hAh,List.length_append,←hnA];rfl),hIn.symm,by first|rfl|(rw [hBh];exact hnB),fun h=>absurd h (Nat.succ_ne_zero i)⟩));(focus(first|omega|(dsimp only;omega))))|(refine Qp (⟨i+1,some ⟨g2,0,none⟩,nA+1,c2,a',nI+1,c',pb,nB,cb⟩) ?_ ?_ Zb Zd;(focus(exact⟨by dsimp only;omega,by first|(rw [hAh];exact hnA)|(rw [hAh,List.length_append,←hnA];rfl),hIn.symm,by first|rfl|(rw [hBh];exact hnB),fun h=>absurd h (Nat.succ_ne_zero i)⟩));(focus(first|omega|(dsimp only;omega))))|(refine Qp (⟨i+1,pa,nA,ca,a',nI+1,c',a9,(beE s (l.drop m) (P.take (i+1))).length,c9⟩) ?_ ?_ Zb Zd;(focus(exact⟨by dsimp only;omega,by first|(rw [hAh];exact hnA)|(rw [hAh,List.length_append,←hnA];rfl),hIn.symm,by first|rfl|(rw [hBh];exact hnB),fun h=>absurd h (Nat.succ_ne_zero i)⟩));(focus(first|omega|(dsimp only;omega))))|(refine Qp (⟨i+1,some ⟨g2,0,none⟩,nA+1,c2,a',nI+1,c',a9,(beE s (l.drop m) (P.take (i+1))).length,c9⟩) ?_ ?_ Zb Zd;(focus(exact⟨by dsimp only;omega,by first|(rw [hAh];exact hnA)|(rw [hAh,List.length_append,←hnA];rfl),hIn.symm,by first|rfl|(rw [hBh];exact hnB),fun h=>absurd h (Nat.succ_ne_zero i)⟩));(focus(first|omega|(dsimp only;omega)))))))<;>(first|refine N.block ?_|refine Ql ?_|refine Ex.out rfl ?_))<;>(first|refine Ex.then ?_|refine N.next ?_<;>((refine Zt ?_<;>repeat' first|(refine Za 0 ?_;(have hPt:P.take i=P:=(List.take_of_length_le (by omega));rw [hPt] at hnA hnI hnB ⊢;subst hPe;subst hnA;subst hnI;subst hnB;(apply Qm rfl rfl rfl rfl;exact D.move rfl)))|refine Z.p rfl ?_|refine Qf ?_)<;>(apply X.r3 Tryz.results208 (Qh rfl) (Qh rfl) (Qh rfl);(focus(exact⟨k,m,pa,ca,pi,ci,pb,cb,hP,rfl,rfl⟩));exact Zd))))))
end Go.Lx
namespace Go.Lx
theorem inF_rise(s:Sp)(hs:mayS s):∀ (P:List Ext) (lo:Int),Rise lo P→(∀ x∈P,s.1<x.a+x.n∧x.a<s.1+s.2)→Rise (max lo s.1) (inF s P)
  |[],lo,_,_=>trivial
  |x::P,lo,h,hx=>by
    have h1:=hx x (List.mem_cons_self ..)
    have h2:=h.2.1
    have h3:=h.1
    have ih:=inF_rise s hs P (x.a+x.n) h.2.2 (fun y hy=>hx y (List.mem_cons_of_mem _ hy))
    unfold mayS at hs
    refine⟨?_, ?_,ih.weak ?_⟩
    · show max lo s.1≤max x.a s.1
      omega
    · unfold inE at h2 ⊢
      simp only [prt]
      omega
    · simp only [prt]
      omega
theorem inF_at(s:Sp)(P:List Ext)(t:Int)(p:Int×Int):atE (inF s P) t p↔atE P t p∧s.1≤t∧t<s.1+s.2:=by
  unfold atE inF
  constructor
  · rintro⟨y,hy,h1,h2,h3⟩
    obtain⟨x,hx,rfl⟩:=List.mem_map.1 hy
    simp only [prt] at h1 h2 h3
    exact⟨⟨x,hx,by omega,by omega,by rw [h3];congr 1;omega⟩,by omega,by omega⟩
  · rintro⟨⟨x,hx,h1,h2,h3⟩,h4,h5⟩
    refine⟨_,List.mem_map.2 ⟨x,hx,rfl⟩, ?_, ?_, ?_⟩
    · simp only [prt];omega
    · simp only [prt];omega
    · simp only [prt];rw [h3];congr 1;omega
theorem inF_end(s:Sp):∀ (P:List Ext) (lo:Int),lo≤s.1+s.2→endE lo (inF s P)≤s.1+s.2
  |[],lo,h=>h
  |x::P,lo,h=>inF_end s P _ (by simp only [prt];omega)
theorem inF_nf(s:Sp):∀ (P:List Ext) (lo:Int),Rise lo P→(∀ x∈P,s.1<x.a+x.n∧x.a<s.1+s.2)→NF P→NF (inF s P)
  |[],_,_,_,_=>trivial
  |[x],_,_,_,_=>trivial
  |x::y::P,lo,h,hx,hn=>by
    refine⟨fun hf=>hn.1 ?_,inF_nf s (y::P) _ h.2.2 (fun z hz=>hx z (List.mem_cons_of_mem _ hz)) hn.2⟩
    have h1:=hx x (List.mem_cons_self ..)
    have h2:=hx y (List.mem_cons_of_mem _ (List.mem_cons_self ..))
    have h3:=h.2.2.1
    have h4:=h.2.1
    have h5:=h.2.2.2.1
    unfold inE at h4 h5
    unfold Fol at hf ⊢
    simp only [prt] at hf
    omega
theorem ah_rise(s:Sp)(hs:mayS s):∀ (P:List Ext) (lo:Int),Rise lo P→(∀ x∈P,s.1<x.a+x.n)→Rise lo ((P.filter fun x=>decide (x.a<s.1)).map fun x=>prt x.a s.1 x)
  |[],lo,_,_=>trivial
  |x::P,lo,h,hx=>by
    have h1:=hx x (List.mem_cons_self ..)
    have h2:=h.2.1
    have ih:=ah_rise s hs P (x.a+x.n) h.2.2 (fun y hy=>hx y (List.mem_cons_of_mem _ hy))
    unfold mayS at hs
    unfold inE at h2
    by_cases q:x.a<s.1
    · have hnone:P.filter (fun x=>decide (x.a<s.1))=[]:=by
        rw [List.filter_eq_nil_iff]
        intro y hy
        have:=(h.2.2.mem hy).2
        simp
        omega
      simp only [List.filter_cons,q,decide_true,if_true,hnone,List.map_cons,List.map_nil]
      refine⟨h.1, ?_,trivial⟩
      unfold inE
      simp only [prt]
      omega
    · simp only [List.filter_cons,q,decide_false,Bool.false_eq_true,if_false]
      exact ih.weak (by have:=h.1;omega)
theorem be_rise(s:Sp)(hs:mayS s):∀ (P:List Ext) (lo:Int),Rise lo P→(∀ x∈P,x.a<s.1+s.2)→∀ (l3:List Ext),Rise (endE lo P) l3→(∀ x∈l3,s.1+s.2≤x.a)→Rise (s.1+s.2) (beE s l3 P)
  |[],lo,_,_,l3,h3,h4=>by
    simp only [beE,List.filter_nil,List.reverse_nil,List.map_nil,List.nil_append]
    cases l3 with
    |nil=>trivial
    |cons y l3=>exact⟨h4 y (List.mem_cons_self ..),h3.2⟩
  |x::P,lo,h,hx,l3,h3,h4=>by
    have h1:=hx x (List.mem_cons_self ..)
    have h2:=h.2.1
    have ih:=be_rise s hs P (x.a+x.n) h.2.2 (fun y hy=>hx y (List.mem_cons_of_mem _ hy)) l3 h3 h4
    unfold mayS at hs
    unfold inE at h2
    by_cases q:x.a+x.n>s.1+s.2
    · have hP:P=[]:=by
        cases P with
        |nil=>rfl
        |cons y P=>
          have:=h.2.2.1
          have:=hx y (List.mem_cons_of_mem _ (List.mem_cons_self ..))
          omega
      subst hP
      simp only [beE,List.filter_cons,q,decide_true,if_true,List.filter_nil,List.reverse_cons,List.reverse_nil,List.nil_append,List.map_cons,List.map_nil,List.cons_append]
      refine⟨by simp only [prt];omega, ?_, ?_⟩
      · unfold inE
        simp only [prt]
        omega
      · simp only [prt]
        have:s.1+s.2+(x.a+x.n-(s.1+s.2))=x.a+x.n:=by omega
        rw [this]
        exact h3
    · have e:beE s l3 (x::P)=beE s l3 P:=by simp [beE,List.filter_cons,q]
      rw [e]
      exact ih
theorem split3{l:List Ext}{k m:Nat}(h1:k≤m)(h2:m≤l.length):l=l.take k++midL l k m++l.drop m:=by
  unfold midL
  rw [List.append_assoc]
  conv=>lhs;rw [←List.take_append_drop k l]
  congr 1
  conv=>lhs;rw [←List.take_append_drop (m-k) (l.drop k)]
  rw [List.drop_drop,show k+(m-k)=m by omega]
structure Aro (l:List Ext) (s:Sp) (A I B:List Ext):Prop where
  riseA:Rise 0 A
  endA:endE 0 A≤s.1
  riseI:Rise s.1 I
  endI:endE s.1 I≤s.1+s.2
  riseB:Rise (s.1+s.2) B
  atA:∀ t p,atE A t p↔atE l t p∧t<s.1
  atI:∀ t p,atE I t p↔atE l t p∧s.1≤t∧t<s.1+s.2
  atB:∀ t p,atE B t p↔atE l t p∧s.1+s.2≤t
  nfI:NF l→NF I
theorem mem_take_idx{l:List Ext}{k:Nat}{x:Ext}(h:x∈l.take k):∃ j,j<k∧l[j]?=some x:=by
  obtain⟨j,hj⟩:=List.mem_iff_getElem?.1 h
  rw [List.getElem?_take] at hj
  split at hj
  · exact⟨j,by assumption,hj⟩
  · cases hj
theorem mem_drop_idx{l:List Ext}{m:Nat}{x:Ext}(h:x∈l.drop m):∃ j,m≤j∧l[j]?=some x:=by
  obtain⟨j,hj⟩:=List.mem_iff_getElem?.1 h
  rw [List.getElem?_drop] at hj
  exact⟨m+j,by omega,hj⟩
theorem mem_mid_idx{l:List Ext}{k m:Nat}{x:Ext}(h:x∈midL l k m):∃ j,k≤j∧j<m∧l[j]?=some x:=by
  obtain⟨i,hi⟩:=List.mem_iff_getElem?.1 h
  have:=mid_get rfl hi
  unfold midL at hi
  rw [List.getElem?_take] at hi
  split at hi
  · exact⟨k+i,by omega,by omega,this⟩
  · cases hi
theorem endE_le{b:Int}:∀ (l:List Ext) (lo:Int),lo≤b→(∀ x∈l,x.a+x.n≤b)→endE lo l≤b
  |[],lo,h,_=>h
  |x::l,lo,_,h=>endE_le l _ (h x (List.mem_cons_self ..)) (fun y hy=>h y (List.mem_cons_of_mem _ hy))
theorem aro_of{l:List Ext}{s:Sp}{k m:Nat}(hP:Parts l s k m)(hr:Rise 0 l)(hs:mayS s):Aro l s (ahE s (l.take k) (midL l k m)) (inF s (midL l k m)) (beE s (l.drop m) (midL l k m)):=by
  have hsp:=split3 hP.km hP.ml
  have hr':=hr
  rw [hsp] at hr'
  obtain⟨hr12,hr3⟩:=rise_append.1 hr'
  obtain⟨hr1,hr2⟩:=rise_append.1 hr12
  have m1:∀ x∈l.take k,x.a+x.n≤s.1:=fun x hx=>by
    obtain⟨j,hj,h⟩:=mem_take_idx hx
    exact hP.lo j x hj h
  have m2:∀ x∈midL l k m,s.1<x.a+x.n∧x.a<s.1+s.2:=fun x hx=>by
    obtain⟨j,h1,h2,h⟩:=mem_mid_idx hx
    exact⟨hP.mid j x h1 h,hP.in_ j x h1 h2 h⟩
  have m3:∀ x∈l.drop m,s.1+s.2≤x.a:=fun x hx=>by
    obtain⟨j,h1,h⟩:=mem_drop_idx hx
    have hj:=(List.getElem?_eq_some_iff.1 h).1
    obtain⟨y,hy⟩:=Qt (l:=l) (k:=m) (by omega)
    have h2:=hP.hi y hy
    by_cases e:j=m
    · subst e;rw [h] at hy;cases hy;exact h2
    · have h3:=hr.idx (by omega:m<j) hy h
      have h4:=(hr.mem (List.mem_of_getElem? hy)).1
      unfold inE at h4
      omega
  have hs':=hs
  unfold mayS at hs'
  have e1:endE 0 (l.take k)≤s.1:=endE_le _ _ (by omega) m1
  have hat:∀ t p,atE l t p↔atE (l.take k) t p∨atE (midL l k m) t p∨atE (l.drop m) t p:=fun t p=>by
    conv=>lhs;rw [hsp]
    rw [atE_append,atE_append,or_assoc]
  refine⟨rise_append.2 ⟨hr1,ah_rise s hs _ _ hr2 (fun x hx=>(m2 x hx).1)⟩, ?_, ?_,inF_end s _ _ (by omega),be_rise s hs _ _ hr2 (fun x hx=>(m2 x hx).2) _ (by rw [endE_append] at hr3;exact hr3) m3,fun t p=>?_,fun t p=>?_,fun t p=>?_,fun hn=>?_⟩
  · refine endE_le _ _ (by omega) (fun x hx=>?_)
    rcases List.mem_append.1 hx with hx|hx
    · exact m1 x hx
    · obtain⟨y,hy,rfl⟩:=List.mem_map.1 hx
      simp only [prt]
      omega
  · exact(inF_rise s hs _ _ hr2 m2).weak (by omega)
  · rw [hat t p]
    unfold ahE
    rw [atE_append]
    constructor
    · rintro(h|⟨y,hy,h1,h2,h3⟩)
      · have hh:=h
        obtain⟨x,hx,h4,h5,_⟩:=h
        have:=m1 x hx
        exact⟨.inl hh,by omega⟩
      · obtain⟨x,hx,rfl⟩:=List.mem_map.1 hy
        obtain⟨hx,hlt⟩:=List.mem_filter.1 hx
        have hlt:x.a<s.1:=by simpa using hlt
        have:=m2 x hx
        simp only [prt] at h1 h2 h3
        exact⟨.inr (.inl ⟨x,hx,by omega,by omega,by rw [h3];congr 1;omega⟩),by omega⟩
    · rintro⟨h|⟨x,hx,h1,h2,h3⟩|⟨x,hx,h1,_⟩,ht⟩
      · exact .inl h
      · refine .inr ⟨prt x.a s.1 x,List.mem_map.2 ⟨x,List.mem_filter.2 ⟨hx,by simp;omega⟩,rfl⟩, ?_, ?_, ?_⟩
        · simp only [prt];omega
        · simp only [prt];omega
        · simp only [prt];rw [h3];congr 1;omega
      · have:=m3 x hx
        omega
  · rw [inF_at,hat t p]
    constructor
    · rintro⟨h,h1⟩;exact⟨.inr (.inl h),h1⟩
    · rintro⟨⟨x,hx,h1,h2,_⟩|h|⟨x,hx,h1,h2,_⟩,h3⟩
      · have:=m1 x hx;omega
      · exact⟨h,h3⟩
      · have:=m3 x hx;omega
  · rw [hat t p]
    unfold beE
    rw [atE_append]
    constructor
    · rintro(⟨y,hy,h1,h2,h3⟩|h)
      · obtain⟨x,hx,rfl⟩:=List.mem_map.1 hy
        obtain⟨hx,hlt⟩:=List.mem_filter.1 (List.mem_reverse.1 hx)
        have:=m2 x hx
        simp only [prt] at h1 h2 h3
        exact⟨.inr (.inl ⟨x,hx,by omega,by omega,by rw [h3];congr 1;omega⟩),by omega⟩
      · have hh:=h
        obtain⟨x,hx,h4,h5,_⟩:=h
        have:=m3 x hx
        exact⟨.inr (.inr hh),by omega⟩
    · rintro⟨⟨x,hx,h1,h2,_⟩|⟨x,hx,h1,h2,h3⟩|h,ht⟩
      · have:=m1 x hx
        omega
      · refine .inl ⟨prt (s.1+s.2) (x.a+x.n) x,List.mem_map.2 ⟨x,List.mem_reverse.2 (List.mem_filter.2 ⟨hx,by simp;omega⟩),rfl⟩, ?_, ?_, ?_⟩
        · simp only [prt];omega
        · simp only [prt];omega
        · simp only [prt];rw [h3];congr 1;omega
      · exact .inr h
  · refine inF_nf s _ _ hr2 m2 (nf_mid hn)
where
  nf_app:∀ {a b:List Ext},NF (a++b)→NF b
    |[],_,h=>h
    |x::a,b,h=>nf_app h.tail
  nf_take:∀ {a:List Ext} {n:Nat},NF a→NF (a.take n)
    |[],n,_=>by simp [NF]
    |x::a,0,_=>trivial
    |[x],n+1,_=>by simp [NF]
    |x::y::a,1,_=>by simp [NF]
    |x::y::a,n+2,h=>⟨h.1,nf_take (a:=y::a) (n:=n+1) h.2⟩
  nf_mid {l:List Ext} {k m:Nat} (h:NF l):NF (midL l k m):=nf_take (nf_app (a:=l.take k) (by rw [List.take_append_drop];exact h))
end Go.Lx
namespace Go.Lx
abbrev Sig:=Int→Option (Int×Int)
structure IsMap (l:List Ext) (σ:Sig):Prop where
  rise:Rise 0 l
  nf:NF l
  at_:∀ t p,atE l t p↔σ t=some p
structure IsFind (σ:Sig) (s:Sp) (I:List Ext):Prop where
  rise:Rise s.1 I
  nf:NF I
  at_:∀ t p,atE I t p↔σ t=some p∧s.1≤t∧t<s.1+s.2
def updE (σ:Sig) (x:Ext):Sig:=fun t=>if x.a≤t∧t<x.a+x.n then some (x.q,x.p+(t-x.a)) else σ t
def cutE (σ:Sig) (s:Sp):Sig:=fun t=>if s.1≤t∧t<s.1+s.2 then none else σ t
def noneS:Sig:=fun _=>none
theorem IsMap.empty:IsMap [] noneS:=⟨trivial,trivial,fun t p=>by simp [noneS,atE]⟩
theorem IsMap.unique{l m:List Ext}{σ:Sig}(h:IsMap l σ)(k:IsMap m σ):l=m:=ext_unique l m h.rise k.rise h.nf k.nf (fun t p=>by rw [h.at_,k.at_])
theorem IsFind.unique{σ:Sig}{s:Sp}{l m:List Ext}(h:IsFind σ s l)(k:IsFind σ s m):l=m:=ext_unique l m h.rise k.rise h.nf k.nf (fun t p=>by rw [h.at_,k.at_])
theorem IsMap.find{l I A K:List Ext}{σ:Sig}{s:Sp}(h:IsMap l σ)(hA:Aro l s A I K):IsFind σ s I:=⟨hA.riseI,hA.nfI h.nf,fun t p=>by rw [hA.atI,h.at_]⟩
theorem IsMap.laid{l l2 xs A I K:List Ext}{σ σ':Sig}{s:Sp}(h:IsMap l σ)(hA:Aro l s A I K)(hJ:JnI 0 (A++xs++K) (A++xs++K).length l2)(hx:∀ t p,atE xs t p→s.1≤t∧t<s.1+s.2)
    (hin:∀ t p,s.1≤t→t<s.1+s.2→(σ' t=some p↔atE xs t p)) (hout:∀ t,¬(s.1≤t∧t<s.1+s.2)→σ' t=σ t):IsMap l2 σ':=by
  refine⟨hJ.rise,hJ.nf,fun t p=>?_⟩
  rw [hJ.at_,List.take_length,atE_append,atE_append,hA.atA,hA.atB,h.at_]
  by_cases ht:s.1≤t∧t<s.1+s.2
  · rw [hin t p ht.1 ht.2]
    constructor
    · rintro((⟨_,h1⟩|h1)|⟨_,h1⟩)
      · omega
      · exact h1
      · omega
    · exact fun h1=> .inl (.inr h1)
  · rw [hout t ht]
    constructor
    · rintro((⟨h1,_⟩|h1)|⟨h1,_⟩)
      · exact h1
      · exact absurd (hx t p h1) ht
      · exact h1
    · intro h1
      by_cases h2:t<s.1
      · exact .inl (.inl ⟨h1,h2⟩)
      · exact .inr ⟨h1,by omega⟩
theorem IsMap.put{l l2 A I K:List Ext}{σ:Sig}{x:Ext}(h:IsMap l σ)(hA:Aro l (x.a,x.n) A I K)(hJ:JnI 0 (A++[x]++K) (A++[x]++K).length l2):IsMap l2 (updE σ x):=by
  refine h.laid hA hJ (fun t p ht=>?_) (fun t p h1 h2=>?_) (fun t ht=>?_)
  · rw [atE_one] at ht;exact⟨ht.1,ht.2.1⟩
  · simp only at h1 h2
    rw [atE_one,updE,if_pos ⟨h1,h2⟩]
    simp [h1,h2,eq_comm]
  · simp only at ht
    rw [updE,if_neg ht]
theorem IsMap.cut{l l2 A I K:List Ext}{σ:Sig}{s:Sp}(h:IsMap l σ)(hA:Aro l s A I K)(hJ:JnI 0 (A++[]++K) (A++[]++K).length l2):IsMap l2 (cutE σ s):=by
  refine h.laid hA hJ (fun t p ht=>absurd ht atE_nil) (fun t p h1 h2=>?_) (fun t ht=>by rw [cutE,if_neg ht])
  rw [cutE,if_pos ⟨h1,h2⟩]
  simp [atE_nil]
def FindsP:Sig→List Ext→List Ext→Prop
  |_,[],L=>L=[]
  |σ,x::xs,L=>∃ I L',IsFind σ (x.a,x.n) I∧L=I++L'∧FindsP (updE σ x) xs L'
def FindsC:Sig→List Sp→List Ext→Prop
  |_,[],L=>L=[]
  |σ,s::ss,L=>∃ I L',IsFind σ s I∧L=I++L'∧FindsC (cutE σ s) ss L'
theorem FindsP.snoc:∀ {xs:List Ext} {σ:Sig} {L I:List Ext} {x:Ext},FindsP σ xs L→IsFind (xs.foldl updE σ) (x.a,x.n) I→FindsP σ (xs++[x]) (L++I)
  |[],σ,L,I,x,h,hI=>by
    simp only [FindsP] at h
    subst h
    exact⟨I,[],hI,by simp,rfl⟩
  |y::xs,σ,L,I,x,⟨I1,L',h1,h2,h3⟩,hI=>by
    subst h2
    exact⟨I1,L'++I,h1,by simp,FindsP.snoc h3 hI⟩
theorem FindsC.snoc:∀ {xs:List Sp} {σ:Sig} {L I:List Ext} {x:Sp},FindsC σ xs L→IsFind (xs.foldl cutE σ) x I→FindsC σ (xs++[x]) (L++I)
  |[],σ,L,I,x,h,hI=>by
    simp only [FindsC] at h
    subst h
    exact⟨I,[],hI,by simp,rfl⟩
  |y::xs,σ,L,I,x,⟨I1,L',h1,h2,h3⟩,hI=>by
    subst h2
    exact⟨I1,L'++I,h1,by simp,FindsC.snoc h3 hI⟩
def movS (σ:Sig) (x:Ext) (q p:Int):Sig:=fun t=>if x.a≤t∧t<x.a+x.n∧σ t=some (x.q,x.p+(t-x.a)) then some (q,p+(t-x.a)) else σ t
def movX (x:Ext) (q p:Int) (y:Ext):Ext:=if y.q=x.q∧y.p=x.p+y.a-x.a then⟨y.a,y.n,q,p+y.a-x.a⟩ else y
def movN (x:Ext):List Ext→Int
  |[]=>0
  |y::l=>(if y.q=x.q∧y.p=x.p+y.a-x.a then y.n else 0)+movN x l
theorem movX_an(x:Ext)(q p:Int)(y:Ext):(movX x q p y).a=y.a∧(movX x q p y).n=y.n:=by unfold movX;split<;>exact⟨rfl,rfl⟩
theorem mov_rise{x:Ext}{q p:Int}(hx:mayE x)(hp:plS q p):∀ {I:List Ext} {lo:Int},x.a≤lo→Rise lo I→endE lo I≤x.a+x.n→Rise lo (I.map (movX x q p))∧endE lo (I.map (movX x q p))=endE lo I
  |[],_,_,_,_=>⟨trivial,rfl⟩
  |y::I,lo,hlo,⟨h1,h2,h3⟩,he=>by
    obtain⟨ha,hn⟩:=movX_an x q p y
    have h2':=h2
    unfold inE at h2'
    have ih:=mov_rise (I:=I) (lo:=y.a+y.n) hx hp (by omega) h3 he
    refine⟨⟨by rw [ha];exact h1, ?_,by rw [ha,hn];exact ih.1⟩,by simp only [List.map_cons,endE,ha,hn];exact ih.2⟩
    have h4:=h3.le_end
    simp only [endE] at he
    unfold movX
    split
    · unfold mayE mayS plS at hx
      unfold plS at hp
      unfold inE
      dsimp only at hx ⊢
      omega
    · exact h2
theorem IsMap.move{l l2 A I K:List Ext}{σ:Sig}{x:Ext}{q p:Int}(h:IsMap l σ)(hA:Aro l (x.a,x.n) A I K)(hJ:JnI 0 (A++I.map (movX x q p)++K) (A++I.map (movX x q p)++K).length l2):IsMap l2 (movS σ x q p):=by
  have key:∀ t s,x.a≤t→t<x.a+x.n→(movS σ x q p t=some s↔atE (I.map (movX x q p)) t s):=by
    intro t s h1 h2
    have hI:∀ u,σ t=some u↔atE I t u:=fun u=>by rw [hA.atI,h.at_];simp [h1,h2]
    constructor
    · intro hm
      unfold movS at hm
      split at hm
      · rename_i hc
        obtain⟨y,hy,y1,y2,y3⟩:=(hI _).1 hc.2.2
        simp only [Prod.mk.injEq] at y3
        refine⟨movX x q p y,List.mem_map.2 ⟨y,hy,rfl⟩,by rw [(movX_an x q p y).1];exact y1,by rw [(movX_an x q p y).1,(movX_an x q p y).2];exact y2, ?_⟩
        cases hm
        unfold movX
        rw [if_pos ⟨by omega,by omega⟩]
        simp only [Prod.mk.injEq,true_and]
        omega
      · rename_i hc
        obtain⟨y,hy,y1,y2,y3⟩:=(hI _).1 hm
        refine⟨movX x q p y,List.mem_map.2 ⟨y,hy,rfl⟩,by rw [(movX_an x q p y).1];exact y1,by rw [(movX_an x q p y).1,(movX_an x q p y).2];exact y2, ?_⟩
        unfold movX
        rw [if_neg]
        · exact y3
        · rintro⟨e1,e2⟩
          refine hc ⟨h1,h2, ?_⟩
          rw [hm,y3,e1]
          congr 2
          omega
    · rintro⟨z,hz,z1,z2,z3⟩
      obtain⟨y,hy,rfl⟩:=List.mem_map.1 hz
      rw [(movX_an x q p y).1] at z1
      rw [(movX_an x q p y).1,(movX_an x q p y).2] at z2
      have hσ:σ t=some (y.q,y.p+(t-y.a)):=(hI _).2 ⟨y,hy,z1,z2,rfl⟩
      unfold movS
      by_cases e:y.q=x.q∧y.p=x.p+y.a-x.a
      · rw [if_pos ⟨h1,h2,by rw [hσ,e.1];congr 2;omega⟩]
        unfold movX at z3
        rw [if_pos e] at z3
        rw [z3]
        dsimp only
        congr 2
        omega
      · unfold movX at z3
        rw [if_neg e] at z3
        rw [if_neg,hσ,z3]
        rintro⟨_,_,e2⟩
        rw [hσ] at e2
        simp only [Option.some.injEq,Prod.mk.injEq] at e2
        exact e ⟨e2.1,by omega⟩
  refine h.laid hA hJ (fun t s ht=>?_) (fun t s h1 h2=>key t s h1 h2) (fun t ht=>?_)
  · obtain⟨z,hz,z1,z2,_⟩:=ht
    obtain⟨y,hy,rfl⟩:=List.mem_map.1 hz
    rw [(movX_an x q p y).1] at z1
    rw [(movX_an x q p y).1,(movX_an x q p y).2] at z2
    exact((hA.atI t (y.q,y.p+(t-y.a))).1 ⟨y,hy,z1,z2,rfl⟩).2
  · unfold movS
    rw [if_neg]
    rintro⟨h1,h2,_⟩
    exact ht ⟨h1,h2⟩
theorem movN_take(x:Ext):∀ (l:List Ext) (i:Nat) (y:Ext),l[i]?=some y→movN x (l.take (i+1))=movN x (l.take i)+(if y.q=x.q∧y.p=x.p+y.a-x.a then y.n else 0)
  |z::l,0,y,h=>by
    simp at h
    subst h
    simp [movN]
  |z::l,i+1,y,h=>by
    have:=movN_take x l i y (by simpa using h)
    simp only [List.take_succ_cons,movN]
    omega
def sumE:List Ext→Int
  |[]=>0
  |x::l=>x.n+sumE l
theorem sumE_take:∀ (l:List Ext) (i:Nat) (y:Ext),l[i]?=some y→sumE (l.take (i+1))=sumE (l.take i)+y.n
  |z::l,0,y,h=>by
    simp at h
    subst h
    simp [sumE]
  |z::l,i+1,y,h=>by
    have:=sumE_take l i y (by simpa using h)
    simp only [List.take_succ_cons,sumE]
    omega
theorem sumE_le:∀ {l:List Ext} {lo:Int},Rise lo l→0≤sumE l∧lo+sumE l≤endE lo l
  |[],lo,_=>⟨Int.le_refl _,by simp [sumE,endE]⟩
  |x::l,lo,⟨h1,h2,h3⟩=>by
    have ih:=sumE_le h3
    unfold inE at h2
    simp only [sumE,endE]
    omega
theorem movN_le(x:Ext):∀ {l:List Ext} {lo:Int},Rise lo l→0≤movN x l∧movN x l≤sumE l
  |[],lo,_=>⟨Int.le_refl _,Int.le_refl _⟩
  |y::l,lo,⟨h1,h2,h3⟩=>by
    have ih:=movN_le x h3
    unfold inE at h2
    simp only [sumE,movN]
    split<;>omega
theorem Rise.endTop:∀ {l:List Ext} {lo:Int},Rise lo l→lo≤65536→endE lo l≤65536
  |[],lo,_,h=>h
  |x::l,lo,⟨h1,h2,h3⟩,_=>by
    unfold inE at h2
    exact Rise.endTop (l:=l) h3 (by omega)
theorem Rise.take:∀ {l:List Ext} {lo:Int} (i:Nat),Rise lo l→Rise lo (l.take i)
  |[],_,_,_=>by simp [Rise]
  |x::l,lo,0,_=>trivial
  |x::l,lo,i+1,⟨h1,h2,h3⟩=>⟨h1,h2,Rise.take i h3⟩
end Go.Lx
