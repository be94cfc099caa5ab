import Derived.Test.YtakoppmiegjjlaaGreatDoorF4
import Derived.Test.YtakoppmiegjjlaaGreatDoorF14
import Derived.Test.YtakoppmiegjjlaaGreatDoorF13
set_option linter.unusedVariables false
set_option linter.unusedSimpArgs false
set_option maxRecDepth 20000
set_option maxHeartbeats 4000000
namespace Go.Lx
open Go.Proofs
end Go.Lx
namespace Go.Lx
open Go.Proofs
theorem OFixed_spec(w:World)(H:Nat→Prop)(g:Nat)(a:Option Addr)(c:Nat)(l:Bs)(x n:Nat)(hown:Sep [cells g [.slice a (List.length l) c] 244,own 5 1 (.slice a (List.length l) c) (List.length l) (encY l)] w H)(hn:1≤n∧n≤8)(hbd:l.length≤1000000000):Spec Tryz.prog 151 #[.pointer (some ⟨g,0,none⟩),.int .u64 x,Zj n] w H (fun v A=>∃ a' c' o,v=Zj 0∧o=l++fixB x n∧A=[cells g [.slice a' (List.length o) c'] 244,own 5 1 (.slice a' (List.length o) c') (List.length o) (encY o)]):=by
  refine Spec.enter Tryz.func151 rfl Tryz.ntmps151 rfl hown ?_
  ((refine Zt ?_<;>repeat' first|refine Z.p rfl ?_|refine Qf ?_)<;>refine X.seq ?_<;>(refine X.block ?_<;>((refine Zt ?_<;>repeat' first|refine Z.p rfl ?_|refine Z.eqP rfl rfl rfl ?_|refine Qf ?_)<;>(first|(refine Zu ?_;(refine Zt ?_<;>repeat' first|refine Z.p rfl ?_|refine Qf ?_)<;>(apply X.r1 Tryz.results151 (Qh rfl);(focus(exact⟨a1,c1,o,rfl,ho,rfl⟩));exact Zd))|(refine Zf ?_;(refine Zt ?_<;>repeat' first|refine Z.p rfl ?_|refine Z.ct rfl (by omega) ?_|refine Z.cf rfl (by omega) ?_|refine Z.cs rfl (fun _=>?_) (fun _=>?_)|refine Z.pk rfl rfl rfl rfl ?_|refine Qf ?_)<;>(first|(refine Zu ?_;(refine Zt ?_<;>repeat' first|refine Z.p rfl ?_|refine Qf ?_)<;>(apply X.r1 Tryz.results151 (Qh rfl);(focus(exact⟨a1,c1,o,rfl,ho,rfl⟩));exact Zd))|refine Zm ?_))))<;>(first|refine N.block ?_|refine Ql ?_|refine Ex.out rfl ?_))<;>(first|refine Ex.then ?_|refine N.next ?_<;>((refine Zt ?_<;>repeat' first|refine Z.p rfl ?_|(refine Za 3 ?_;((refine Qo [cells g [.slice a (List.length l) c] 244,own 5 1 (.slice a (List.length l) c) (List.length l) (encY l)] rfl rfl rfl rfl (fun w F hF hm hw=>put_spec w F g a c l x n hF hn.2 hbd) ?_;rintro v B' ⟨a1,c1,o,rfl,ho,rfl⟩;refine Qg ?_)))|refine Qf ?_)<;>(refine Zt ?_<;>repeat' first|refine Z.p rfl ?_|refine Qf ?_)<;>(apply X.r1 Tryz.results151 (Qh rfl);(focus(exact⟨a1,c1,o,rfl,ho,rfl⟩));exact Zd))))
theorem or_hd:∀ n:Nat,n<10→1≤n→∀ v:Nat,v<2^(8-n)→n≤8→v|||hd n=hd n+v:=by decide+kernel
theorem hd_lt(n:Nat):hd n<256:=Nat.lt_of_le_of_lt (Nat.sub_le _ _) (by decide)
theorem var_set(l:Bs){x:Nat}(hx:x<18446744073709551616)(h8:vsz x≤8):(l++fixB x (vsz x)).set l.length (UInt8.ofNat (hd (vsz x)+x/256^(vsz x-1)))=l++varB x:=by
  have hb:=vsz_bd x
  obtain⟨m,hm⟩:∃ m,vsz x=m+1:=⟨vsz x-1,by omega⟩
  rw [List.set_append_right _ _ (Nat.le_refl _),Nat.sub_self]
  unfold varB
  rw [hm]
  simp [fixB]
theorem var_get(l:Bs){x:Nat}(hx:x<18446744073709551616)(h8:vsz x≤8):(l++fixB x (vsz x))[l.length]?=some (UInt8.ofNat (x/256^(vsz x-1))):=by
  have hb:=vsz_bd x
  obtain⟨m,hm⟩:∃ m,vsz x=m+1:=⟨vsz x-1,by omega⟩
  rw [List.getElem?_append_right (Nat.le_refl _),Nat.sub_self,hm]
  simp [fixB]
theorem var_9{x:Nat}(hx:x<18446744073709551616)(h9:vsz x=9):varB x=255::fixB x 8:=by
  unfold varB
  rw [h9]
  have:x/256^(9-1)=0:=Nat.div_eq_of_lt hx
  rw [this]
  rfl
theorem OVar_spec(w:World)(H:Nat→Prop)(g:Nat)(a al:Option Addr)(c cl:Nat)(l:Bs)(xs:List Nat)(hown:Sep [cells g [.slice a (List.length l) c] 244,own 5 1 (.slice a (List.length l) c) (List.length l) (encY l)] w H)(hl:RdX w H 1 al xs.length cl (encW xs))(hx:∀ x∈xs,x<18446744073709551616)(hbd:l.length+9*xs.length≤1000000000):Spec Tryz.prog 218 #[.pointer (some ⟨g,0,none⟩),.slice al xs.length cl] w H (fun v A=>∃ a' c' o,v= .tuple #[]∧o=l++xs.flatMap varB∧A=[cells g [.slice a' (List.length o) c'] 244,own 5 1 (.slice a' (List.length o) c') (List.length o) (encY o)]):=by
  refine Spec.enter Tryz.func218 rfl Tryz.ntmps218 rfl hown ?_
  (refine X.seq ?_<;>((refine Zt ?_<;>repeat' first|refine Z.p rfl ?_|refine Z.eqP rfl rfl rfl ?_|refine Qf ?_)<;>(first|(refine Zu ?_;(apply X.r0 Tryz.results218;(focus(exact⟨a1,c1,o,rfl,by rw [ho,List.take_of_length_le (by omega)],rfl⟩));exact Zd))|refine Zm ?_))<;>(first|refine Ex.then ?_|refine N.next ?_<;>((refine Zt ?_<;>repeat' first|refine Z.p rfl ?_|refine Z.ln rfl rfl ?_|refine Z.lnL rfl rfl ?_|refine Z.lnS rfl rfl ?_|refine Qf ?_)<;>refine X.block ?_<;>((refine Qs (ι:=Nat×Option Addr×Nat×Bs) (fun y=>[(0,.pointer (some ⟨g,0,none⟩)),(10,.slice al xs.length cl),(11,Zj xs.length),(12,Zj y.1)]) (fun y=>[cells g [.slice y.2.1 (List.length y.2.2.2) y.2.2.1] 244,own 5 1 (.slice y.2.1 (List.length y.2.2.2) y.2.2.1) (List.length y.2.2.2) (encY y.2.2.2)]) (fun y=>y.1≤xs.length∧y.2.2.2=l++(xs.take y.1).flatMap varB∧y.2.2.2.length≤l.length+9*y.1) (fun y=>xs.length-y.1) ((0,a,c,l)) ?_ Zb Zd ?_;(focus(exact⟨Nat.zero_le _,by simp,by simp⟩));rintro⟨i,a1,c1,o⟩ ⟨hi,ho,hol⟩;(dsimp only at *))<;>((refine Zt ?_<;>repeat' first|(refine Za 0 ?_;(first|refine Qn rfl rfl rfl rfl (D.int rfl rfl rfl) (fun h1=>?_) (fun h1=>?_)))|refine Qf ?_)<;>refine X.seq ?_<;>((first|refine Zp ?_|refine Zq ?_))<;>(first|refine Ex.then ?_|refine N.next ?_<;>(refine X.seq ?_<;>(refine X.block ?_<;>((refine Zt ?_<;>repeat' first|refine Z.p rfl ?_|(refine Za 0 ?_;(have hil:i<xs.length:=(by omega);obtain⟨x,hxi⟩:∃ x,xs[i]?=some x:=(⟨xs[i],List.getElem?_eq_getElem hil⟩);have hxl:=hx x (List.mem_of_getElem? hxi);have hfm:(xs.take (i+1)).flatMap varB=(xs.take i).flatMap varB++varB x:=(by rw [List.take_add_one,hxi];simp);have hvb:=vsz_bd x;have hvl:=varB_len x;(apply Qm rfl rfl rfl rfl;exact D.indexAddr i rfl rfl rfl hil (hl.rd.sm (by omega)))))|(refine Za 1 ?_;((apply Qu rfl rfl rfl rfl;exact D.load1 rfl (fun w hw=>Rd.wordAt (hl.now hw) hxi))))|refine Qf ?_)<;>(refine Zt ?_<;>repeat' first|refine Z.p rfl ?_|(refine Za 1 ?_;((refine XL.call rfl rfl rfl rfl (fun w hw=>Size_spec x hxl w) (Zs ?_))))|refine Qf ?_)<;>refine X.seq ?_<;>((refine Zt ?_<;>repeat' first|refine Z.p rfl ?_|(refine Za 1 ?_;(first|refine Qn rfl rfl rfl rfl (D.int rfl rfl rfl) (fun h2=>?_) (fun h2=>?_)))|refine Qf ?_)<;>(first|(refine Zu ?_;(refine Zt ?_<;>repeat' first|refine Z.p rfl ?_|(refine Za 5 ?_;(refine XL.slice1 rfl rfl rfl rfl rfl rfl (by intro g;infer_instance) (fun gq=>?_)))|(refine Za 6 ?_;((refine XL.append rfl rfl rfl rfl rfl rfl ?_ ?_ (fun a' c'=>?_);(focus(skip;unfold maxLen;omega));(focus(intro _ _;infer_instance)));rw [show encY o++[.int .u8 255]=encY (o++[(255:UInt8)]) from encY_snoc o 255,show o.length+1=(o++[(255:UInt8)]).length from(by simp)]))|refine Z.fa rfl rfl rfl ?_|refine Z.l1 rfl rfl rfl ?_|refine Z.lN rfl rfl rfl ?_|refine Z.lP rfl rfl rfl ?_|refine Qj rfl rfl rfl rfl rfl ?_|refine Qk rfl rfl rfl rfl rfl rfl ?_|refine XL.storeP rfl rfl rfl rfl rfl rfl ?_|refine Qf ?_)<;>(refine Zt ?_<;>repeat' first|refine Z.p rfl ?_|(refine Za 2 ?_;((refine Qo [cells g [.slice a' (List.length (o++[255])) c'] 244,own 5 1 (.slice a' (List.length (o++[255])) c') (List.length (o++[255])) (encY (o++[255]))] rfl rfl rfl rfl (fun w F hF hm hw=>put_spec w F g a' c' (o++[255]) x 8 hF (by decide) (by simp;omega)) ?_;rintro v B' ⟨a2,c2,o2,rfl,ho2,rfl⟩;refine Qg ?_);have ho2':o2=o++varB x:=(by rw [ho2,var_9 hxl (by omega)];simp)))|refine Qf ?_)<;>refine Qq ?_)|refine Zm ?_))<;>(first|refine Ex.then ?_|refine N.next ?_<;>((refine Zt ?_<;>repeat' first|refine Z.p rfl ?_|refine Z.fa rfl rfl rfl ?_|refine Z.l1 rfl rfl rfl ?_|refine Z.lN rfl rfl rfl ?_|refine Z.lP rfl rfl rfl ?_|refine Z.ln rfl rfl ?_|refine Z.lnL rfl rfl ?_|refine Z.lnS rfl rfl ?_|refine Qf ?_)<;>(refine Zt ?_<;>repeat' first|refine Z.p rfl ?_|(refine Za 3 ?_;((refine Qo [cells g [.slice a1 (List.length o) c1] 244,own 5 1 (.slice a1 (List.length o) c1) (List.length o) (encY o)] rfl rfl rfl rfl (fun w F hF hm hw=>put_spec w F g a1 c1 o x (vsz x) hF (by omega) (by omega)) ?_;rintro v B' ⟨a2,c2,o2,rfl,ho2,rfl⟩;refine Qg ?_);have h8:vsz x≤8:=(by omega);have ho2l:o2.length=o.length+vsz x:=(by rw [ho2];simp [fixB_len]);have hget:=var_get o hxl h8;rw [←ho2] at hget;have htop:=top_lt ⟨hvb.1,h8⟩ ((vsz_le hvb.1 (by omega)).1 (Nat.le_refl (vsz x)));have hpow:2^(8-vsz x)≤256:=(by have:=hd_le (vsz x) hvb;omega);have hb0:(UInt8.ofNat (x/256^(vsz x-1))).toNat=x/256^(vsz x-1):=(by simp;exact Nat.lt_of_lt_of_le htop hpow);have hor:=or_hd (vsz x) (by omega) hvb.1 _ htop h8;have hsum:hd (vsz x)+x/256^(vsz x-1)<256:=(Nat.lt_of_lt_of_le (Nat.add_lt_add_left htop _) (hd_le _ hvb));refine XL.fact (fun w h=>(h.rd (a:=a2)).sm (by omega)) (fun hsome=>?_)))|refine Qf ?_)<;>refine X.draw (.a 0 (.a 1 (.a 2 (.b 3 (.a 4 (.a 5 (.b 6 (.a 7 (.c 8 (.a 9 (.a 10 (.f 11 .n)))))))))))) mixed (by kernel_rfl) ?_<;>repeat' first|refine Z.p rfl ?_|(refine Za 5 ?_;((apply XL.det0 rfl rfl rfl rfl;exact D.indexAddr o.length rfl rfl rfl (by omega) hsome)))|(refine Za 6 ?_;((apply XL.det1 rfl rfl rfl rfl;exact D.load1 rfl (fun w hw=>Rd.byteAt (hw.rd (a:=a2)) hget));rw [hb0]))|(refine Za 8 ?_;((refine XL.call rfl rfl rfl rfl (fun w hw=>head_spec (vsz x) hvb w) (Zs ?_))))|(refine Za 9 ?_;((apply XL.det0 rfl rfl rfl rfl;exact D.orN rfl rfl rfl ⟨Nat.lt_of_lt_of_le htop hpow,hd_lt _⟩);rw [hor,show((hd (vsz x)+x/256^(vsz x-1):Nat):Int)=((UInt8.ofNat (hd (vsz x)+x/256^(vsz x-1))).toNat:Int) from(by have:(UInt8.ofNat (hd (vsz x)+x/256^(vsz x-1))).toNat=hd (vsz x)+x/256^(vsz x-1):=(varB_first hxl).1;rw [this])]))|(refine Za 10 ?_;((apply XL.det0 rfl rfl rfl rfl;exact D.indexAddr o.length rfl rfl rfl (by omega) hsome)))|(refine Za 11 ?_;((refine XL.storeE (encY (o2.set o.length (UInt8.ofNat (hd (vsz x)+x/256^(vsz x-1))))) rfl rfl rfl rfl rfl (by omega) (encY_set o2 o.length _ (by omega)) ?_);obtain⟨o3,ho3⟩:∃ o3,o2.set o.length (UInt8.ofNat (hd (vsz x)+x/256^(vsz x-1)))=o3:=(⟨_,rfl⟩);have ho3l:o2.length=o3.length:=(by rw [←ho3,List.length_set]);rw [ho3,ho3l]))|refine Z.fa rfl rfl rfl ?_|refine Z.l1 rfl rfl rfl ?_|refine Z.lN rfl rfl rfl ?_|refine Z.lP rfl rfl rfl ?_|refine XL.nil ?_)))<;>(first|refine N.block ?_|refine Ql ?_|refine Ex.out rfl ?_))<;>(first|refine Ex.then ?_|refine N.next ?_<;>(refine Zx ?_<;>repeat' first|refine Z.p rfl ?_|refine Z.g rfl (by omega) ?_|refine Z.w rfl ?_|refine XL.nil ?_)))))<;>(first|refine Ex.then ?_|(first|(refine Qp ((i+1,a2,c2,o2)) ?_ ?_ Zb Zd;(focus(exact⟨by dsimp only;omega,by dsimp only;rw [ho2',ho,hfm,List.append_assoc],by dsimp only;rw [ho2'];simp only [List.length_append];omega⟩));(focus(first|omega|(dsimp only;omega))))|(refine Qp ((i+1,a2,c2,o3)) ?_ ?_ Zb Zd;(focus(exact⟨by dsimp only;omega,by dsimp only;rw [←ho3,ho2,var_set o hxl h8,ho,hfm,List.append_assoc],by dsimp only;omega⟩));(focus(first|omega|(dsimp only;omega)))))))<;>(first|refine N.block ?_|refine Ql ?_|refine Ex.out rfl ?_))))<;>((repeat(first|refine Rt.then ?_|refine Rt.block ?_|refine Rt.scope ?_));(first|apply N.done (Res.r0 Tryz.results218)|apply N.doneM (Res.r0 Tryz.results218));(focus(exact⟨a1,c1,o,rfl,by rw [ho,List.take_of_length_le (by omega)],rfl⟩));exact fun w h=>h.takes)
theorem ORaw_spec(w:World)(H:Nat→Prop)(g:Nat)(a al:Option Addr)(c cl:Nat)(l:Bs)(xs:List Bs)(hown:Sep [cells g [.slice a (List.length l) c] 244,own 5 1 (.slice a (List.length l) c) (List.length l) (encY l)] w H)(hl:RdX w H 1 al xs.length cl (encT xs))(hbd:l.length+xs.flatten.length≤1000000000∧xs.length≤1000000000):Spec Tryz.prog 150 #[.pointer (some ⟨g,0,none⟩),.slice al xs.length cl] w H (fun v A=>∃ a' c' o,v= .tuple #[]∧o=l++xs.flatten∧A=[cells g [.slice a' (List.length o) c'] 244,own 5 1 (.slice a' (List.length o) c') (List.length o) (encY o)]):=by
  refine Spec.enter Tryz.func150 rfl Tryz.ntmps150 rfl hown ?_
  (refine X.seq ?_<;>((refine Zt ?_<;>repeat' first|refine Z.p rfl ?_|refine Z.eqP rfl rfl rfl ?_|refine Qf ?_)<;>(first|(refine Zu ?_;(apply X.r0 Tryz.results150;(focus(exact⟨a1,c1,o,rfl,by rw [ho,List.take_of_length_le (by omega)],rfl⟩));exact Zd))|refine Zm ?_))<;>(first|refine Ex.then ?_|refine N.next ?_<;>((refine Zt ?_<;>repeat' first|refine Z.p rfl ?_|refine Z.ln rfl rfl ?_|refine Z.lnL rfl rfl ?_|refine Z.lnS rfl rfl ?_|refine Qf ?_)<;>refine X.block ?_<;>((refine Qs (ι:=Nat×Option Addr×Nat×Bs) (fun y=>[(0,.pointer (some ⟨g,0,none⟩)),(8,.slice al xs.length cl),(9,Zj xs.length),(10,Zj y.1)]) (fun y=>[cells g [.slice y.2.1 (List.length y.2.2.2) y.2.2.1] 244,own 5 1 (.slice y.2.1 (List.length y.2.2.2) y.2.2.1) (List.length y.2.2.2) (encY y.2.2.2)]) (fun y=>y.1≤xs.length∧y.2.2.2=l++(xs.take y.1).flatten) (fun y=>xs.length-y.1) ((0,a,c,l)) ?_ Zb Zd ?_;(focus(exact⟨Nat.zero_le _,by simp⟩));rintro⟨i,a1,c1,o⟩ ⟨hi,ho⟩;(dsimp only at *))<;>((refine Zt ?_<;>repeat' first|(refine Za 0 ?_;(first|refine Qn rfl rfl rfl rfl (D.int rfl rfl rfl) (fun h1=>?_) (fun h1=>?_)))|refine Qf ?_)<;>refine X.seq ?_<;>((first|refine Zp ?_|refine Zq ?_))<;>(first|refine Ex.then ?_|refine N.next ?_<;>(refine X.seq ?_<;>(refine X.block ?_<;>((refine Zt ?_<;>repeat' first|refine Z.p rfl ?_|(refine Za 0 ?_;(have hil:i<xs.length:=(by omega);obtain⟨x,hxi⟩:∃ x,xs[i]?=some x:=(⟨xs[i],List.getElem?_eq_getElem hil⟩);have hfm:(xs.take (i+1)).flatten=(xs.take i).flatten++x:=(by rw [List.take_add_one,hxi];simp);have hol:o.length+x.length≤1000000000:=(by have e:=congrArg (fun z:List Bs=>z.flatten.length) (List.take_append_drop (i+1) xs);rw [List.flatten_append,hfm] at e;simp only [List.length_append] at e;rw [ho];simp only [List.length_append];omega);(apply Qm rfl rfl rfl rfl;exact D.indexAddr i rfl rfl rfl hil (hl.rd.sm (by omega)))))|(refine Za 1 ?_;((apply Qu rfl rfl rfl rfl;exact D.load1 rfl (fun w hw=>Rd.strAt (hl.now hw) hxi))))|refine Qf ?_)<;>refine Zx ?_<;>repeat' first|refine Z.p rfl ?_|(refine Za 6 ?_;((refine XL.appendS x rfl rfl rfl rfl rfl (by omega) (fun _ _=>by infer_instance) (fun a' c'=>?_));rw [encY_append o x,show o.length+x.length=(o++x).length from(by simp)]))|refine Z.fa rfl rfl rfl ?_|refine Z.l1 rfl rfl rfl ?_|refine Z.lN rfl rfl rfl ?_|refine Z.lP rfl rfl rfl ?_|refine Qj rfl rfl rfl rfl rfl ?_|refine Qk rfl rfl rfl rfl rfl rfl ?_|refine XL.storeP rfl rfl rfl rfl rfl rfl ?_|refine XL.nil ?_)<;>(first|refine N.block ?_|refine Ql ?_|refine Ex.out rfl ?_))<;>(first|refine Ex.then ?_|refine N.next ?_<;>(refine Zx ?_<;>repeat' first|refine Z.p rfl ?_|refine Z.g rfl (by omega) ?_|refine Z.w rfl ?_|refine XL.nil ?_)))))<;>(first|refine Ex.then ?_|((refine Qp ((i+1,a',c',o++x)) ?_ ?_ Zb Zd;(focus(exact⟨by dsimp only;omega,by dsimp only;rw [ho,hfm,List.append_assoc]⟩));(focus(first|omega|(dsimp only;omega)))))))<;>(first|refine N.block ?_|refine Ql ?_|refine Ex.out rfl ?_))))<;>((repeat(first|refine Rt.then ?_|refine Rt.block ?_|refine Rt.scope ?_));(first|apply N.done (Res.r0 Tryz.results150)|apply N.doneM (Res.r0 Tryz.results150));(focus(exact⟨a1,c1,o,rfl,by rw [ho,List.take_of_length_le (by omega)],rfl⟩));exact fun w h=>h.takes)
def textB (s:Bs):Bs:=varB s.length++s
theorem OText_spec(w:World)(H:Nat→Prop)(g:Nat)(a al:Option Addr)(c cl:Nat)(l:Bs)(x:Bs)(hown:Sep [cells g [.slice a (List.length l) c] 244,own 5 1 (.slice a (List.length l) c) (List.length l) (encY l)] w H)(hl:RdX w H 1 al 1 cl (encT [x]))(hbd:l.length+x.length≤100000000):Spec Tryz.prog 153 #[.pointer (some ⟨g,0,none⟩),.slice al (1:Nat) cl] w H (fun v A=>∃ a' c' o,v= .tuple #[]∧o=l++textB x∧A=[cells g [.slice a' (List.length o) c'] 244,own 5 1 (.slice a' (List.length o) c') (List.length o) (encY o)]):=by
  have hvl:=varB_len x.length
  have hvb:=vsz_bd x.length
  refine Spec.enter Tryz.func153 rfl Tryz.ntmps153 rfl hown ?_
  ((refine Zt ?_<;>repeat' first|refine Z.p rfl ?_|refine Z.ln rfl rfl ?_|refine Z.lnL rfl rfl ?_|refine Z.lnS rfl rfl ?_|refine Qf ?_)<;>refine X.block ?_<;>((refine Qs (ι:=Nat×Option Addr×Nat×Bs) (fun y=>[(0,.pointer (some ⟨g,0,none⟩)),(6,.slice al (1:Nat) cl),(7,Zj ((1:Nat):Int)),(8,Zj y.1)]) (fun y=>[cells g [.slice y.2.1 (List.length y.2.2.2) y.2.2.1] 244,own 5 1 (.slice y.2.1 (List.length y.2.2.2) y.2.2.1) (List.length y.2.2.2) (encY y.2.2.2)]) (fun y=>y.1=0∧y.2.2.2=l∨y.1=1∧y.2.2.2=l++textB x) (fun y=>1-y.1) ((0,a,c,l)) ?_ Zb Zd ?_;(focus(exact .inl ⟨rfl,rfl⟩));rintro⟨i,a1,c1,o⟩ hio;(dsimp only at *))<;>((refine Zt ?_<;>repeat' first|(refine Za 0 ?_;(first|refine Qn rfl rfl rfl rfl (D.int rfl rfl rfl) (fun h1=>?_) (fun h1=>?_)))|refine Qf ?_)<;>refine X.seq ?_<;>((first|refine Zp ?_|refine Zq ?_))<;>(first|refine Ex.then ?_|refine N.next ?_<;>(refine X.seq ?_<;>(refine X.block ?_<;>((refine Zt ?_<;>repeat' first|refine Z.p rfl ?_|(refine Za 0 ?_;(obtain⟨rfl,rfl⟩:i=0∧o=l:=(by rcases hio with h|h;exact h;omega);(apply Qm rfl rfl rfl rfl;exact D.indexAddr 0 rfl rfl rfl (by decide) (hl.rd.sm (by decide)))))|(refine Za 1 ?_;((apply Qu rfl rfl rfl rfl;exact D.load1 rfl (fun w hw=>Rd.strAt (hl.now hw) (x:=x) rfl))))|refine Qf ?_)<;>(refine Zt ?_<;>repeat' first|refine Z.p rfl ?_|(refine Za 3 ?_;((apply Qm rfl rfl rfl rfl;exact D.convN rfl rfl);rw [Nat.mod_eq_of_lt (show x.length<2^IntKind.u64.bits from Nat.lt_of_le_of_lt (show x.length≤100000000 by omega) (by decide))]))|(refine Za 4 ?_;((refine XL.sliceL (fun n:Nat=> .int .u64 (n:Int)) encW1 [x.length] (fun _=>rfl) (fun _=>rfl) rfl rfl rfl rfl rfl rfl (fun _=>by infer_instance) (fun gq=>?_))))|(refine Za 5 ?_;((refine Qo [cells g [.slice a1 (List.length o) c1] 244,own 5 1 (.slice a1 (List.length o) c1) (List.length o) (encY o)] rfl rfl rfl rfl (fun w F hF hm hw=>OVar_spec w F g a1 (some ⟨gq,0,none⟩) c1 1 o [x.length] hF (hm.own (a:=some ⟨gq,0,none⟩)) (fun z hz=>by rw [List.mem_singleton] at hz;omega) (by simp;omega)) ?_;rintro v B' ⟨a2,c2,o2,rfl,ho2,rfl⟩;refine Qg ?_);have ho2l:o2.length=o.length+vsz x.length:=(by rw [ho2];simp [hvl])))|refine Z.ln rfl rfl ?_|refine Z.lnL rfl rfl ?_|refine Z.lnS rfl rfl ?_|refine Qf ?_)<;>refine Zx ?_<;>repeat' first|refine Z.p rfl ?_|(refine Za 2 ?_;((refine XL.sliceL (fun s:Bs=>Zi s) encT1 [x] (fun _=>rfl) (fun _=>rfl) rfl rfl rfl rfl rfl rfl (fun _=>by infer_instance) (fun gs=>?_))))|(refine Za 3 ?_;((refine Qo [cells g [.slice a2 (List.length o2) c2] 244,own 5 1 (.slice a2 (List.length o2) c2) (List.length o2) (encY o2)] rfl rfl rfl rfl (fun w F hF hm hw=>ORaw_spec w F g a2 (some ⟨gs,0,none⟩) c2 1 o2 [x] hF (hm.own (a:=some ⟨gs,0,none⟩)) ⟨by simp;omega,by simp⟩) ?_;rintro v B' ⟨a3,c3,o3,rfl,ho3,rfl⟩;refine Qg ?_)))|refine XL.nil ?_)<;>(first|refine N.block ?_|refine Ql ?_|refine Ex.out rfl ?_))<;>(first|refine Ex.then ?_|refine N.next ?_<;>(refine Zx ?_<;>repeat' first|refine Z.p rfl ?_|refine Z.g rfl (by omega) ?_|refine Z.w rfl ?_|refine XL.nil ?_)))))<;>(first|refine Ex.then ?_|((refine Qp ((1,a3,c3,o3)) ?_ ?_ Zb Zd;(focus(exact .inr ⟨rfl,by dsimp only;rw [ho3,ho2];simp [textB]⟩));(focus(first|omega|(dsimp only;omega)))))))<;>(first|refine N.block ?_|refine Ql ?_|refine Ex.out rfl ?_))<;>((repeat(first|refine Rt.then ?_|refine Rt.block ?_|refine Rt.scope ?_));(first|apply N.done (Res.r0 Tryz.results153)|apply N.doneM (Res.r0 Tryz.results153));(focus(exact⟨a1,c1,o,rfl,by rcases hio with h|h;omega;exact h.2,rfl⟩));exact fun w h=>h.takes)
theorem OString_spec(w:World)(g:Nat)(a:Option Addr)(c:Nat)(l:Bs)(hg:w.cell? ⟨g,0,none⟩=some (.slice a l.length c))(hl:Rd w 1 a l.length c (encY l)):Spec Tryz.prog 155 #[.pointer (some ⟨g,0,none⟩)] w (fun _=>False) (fun v A=>v=Zi l∧A=[]):=by
  refine Zn Tryz.func155 Tryz.ntmps155 ?_
  ((refine Zt ?_<;>repeat' first|refine Z.p rfl ?_|refine Qf ?_)<;>refine X.seq ?_<;>((refine Zt ?_<;>repeat' first|refine Z.p rfl ?_|refine Z.eqP rfl rfl rfl ?_|refine Qf ?_)<;>(first|(refine Zu ?_;(refine Zt ?_<;>repeat' first|refine Z.p rfl ?_|refine Qf ?_)<;>(apply X.r1 Tryz.results155 (Qh rfl);(focus(exact⟨rfl,rfl⟩));exact Zd))|refine Zm ?_))<;>(first|refine Ex.then ?_|refine N.next ?_<;>((refine Zt ?_<;>repeat' first|refine Z.p rfl ?_|(refine Za 3 ?_;((apply Qu rfl rfl rfl rfl;exact D.load1 rfl (fun w hw=>hw.cell0 hg (fun h=>h)))))|(refine Za 4 ?_;((apply Qu rfl rfl rfl rfl;exact D.toStr l rfl rfl (fun w hw=>hl.conf0 hw))))|refine Z.fa rfl rfl rfl ?_|refine Qf ?_)<;>(apply X.r1 Tryz.results155 (Qh rfl);(focus(exact⟨rfl,rfl⟩));exact Zd))))
end Go.Lx
namespace Go.Lx
structure Cod {α:Type} (f:Bs→Option (α×Nat)) (enc:α→Bs) (ok:α→Prop):Prop where
  back:∀ {t:Bs} {x:α} {n:Nat},f t=some (x,n)→n≤t.length∧t.take n=enc x∧ok x
  fwd:∀ {x:α} (r:Bs),ok x→f (enc x++r)=some (x,(enc x).length)
theorem Cod.cut{α:Type}{f:Bs→Option (α×Nat)}{enc:α→Bs}{ok:α→Prop}(c:Cod f enc ok){t:Bs}{x:α}{n:Nat}(h:f t=some (x,n)):t=enc x++t.drop n∧ok x:=by
  obtain⟨_,h2,h3⟩:=c.back h
  exact⟨by rw [←h2,List.take_append_drop],h3⟩
theorem Cod.inj{α:Type}{f:Bs→Option (α×Nat)}{enc:α→Bs}{ok:α→Prop}(c:Cod f enc ok){x y:α}{r q:Bs}(hx:ok x)(hy:ok y)(h:enc x++r=enc y++q):x=y∧r=q:=by
  have h1:=c.fwd r hx
  rw [h,c.fwd q hy] at h1
  simp only [Option.some.injEq,Prod.mk.injEq] at h1
  obtain⟨rfl,_⟩:=h1
  exact⟨rfl,List.append_cancel_left h⟩
theorem Cod.rdBack{α:Type}{f:Bs→Option (α×Nat)}{enc:α→Bs}{ok:α→Prop}(c:Cod f enc ok){d:α}{s:Bs}{p:Nat}{e:Int}{x:α}{p':Nat}{e':Int}(h:RdR f d s p e x p' e')(he:e'=0):e=0∧ok x∧s.drop p=enc x++s.drop p'∧p'≤s.length:=by
  obtain⟨h0,⟨h1,n,h2,_,h4⟩|⟨_,_,h3⟩⟩:=h
  · have:=c.cut h2
    rw [h4,←List.drop_drop]
    exact⟨h1,this.2,this.1,by omega⟩
  · exact absurd he h3
theorem Cod.rdFwd{α:Type}{f:Bs→Option (α×Nat)}{enc:α→Bs}{ok:α→Prop}(c:Cod f enc ok){d:α}{s:Bs}{p:Nat}{x x0:α}{p':Nat}{e':Int}{r:Bs}(h:RdR f d s p 0 x p' e')(h0:ok x0)(hs:s.drop p=enc x0++r):x=x0∧e'=0∧s.drop p'=r:=by
  have hf:=c.fwd r h0
  rw [←hs] at hf
  obtain⟨_,⟨_,n,h2,h3,h4⟩|⟨h1|h1,_,_⟩⟩:=h
  · rw [hf] at h2
    simp only [Option.some.injEq,Prod.mk.injEq] at h2
    obtain⟨rfl,rfl⟩:=h2
    refine⟨rfl,h3, ?_⟩
    rw [h4,←List.drop_drop,hs,List.drop_left]
  · exact absurd rfl h1
  · rw [hf] at h1;cases h1
theorem codFew:Cod fewF varB (fun x=>x<18446744073709551616) where
  back h:=by
    obtain⟨h1,h2,_,h4⟩:=fewF_some h
    exact⟨h1,h4,h2⟩
  fwd r h:=by rw [fewF_varB h,varB_len]
theorem codInt(most:Nat)(hm:most<18446744073709551616):Cod (intF most) varB (fun x=>x≤most) where
  back {t x n} h:=by
    unfold intF at h
    split at h
    · rename_i y m hy
      split at h
      · rename_i hle
        cases h
        obtain⟨h1,h2,_⟩:=codFew.back hy
        exact⟨h1,h2,hle⟩
      · cases h
    · cases h
  fwd {x} r h:=by
    unfold intF
    rw [codFew.fwd r (Nat.lt_of_le_of_lt h hm)]
    simp only
    rw [if_pos h]
theorem codFix(n:Nat):Cod (fixF n) (fun x=>fixB x n) (fun x=>x<256^n) where
  back {t x m} h:=by
    unfold fixF at h
    split at h
    · cases h
    · rename_i hn
      cases h
      have hl:(t.take n).length=n:=by rw [List.length_take];omega
      refine⟨by omega, ?_, ?_⟩
      · have:=fixB_num (t.take n)
        rw [hl] at this
        exact this.symm
      · have:=num_lt (t.take n)
        rw [hl] at this
        exact this
  fwd {x} r h:=by
    unfold fixF
    have hl:=fixB_len x n
    rw [if_neg (by rw [List.length_append,hl];omega),List.take_left' hl,num_fixB,Nat.mod_eq_of_lt h,hl]
theorem codText(most:Nat)(hm:most<18446744073709551616):Cod (textF most) textB (fun s=>s.length≤most) where
  back {t x n} h:=by
    unfold textF at h
    split at h
    · rename_i y m hy
      split at h
      · rename_i hle
        simp only [Option.some.injEq,Prod.mk.injEq] at h
        obtain⟨rfl,rfl⟩:=h
        obtain⟨h1,h2,h3⟩:=(codInt most hm).back hy
        have hlen:((t.drop m).take y).length=y:=by rw [List.length_take,List.length_drop];omega
        refine⟨hle, ?_,by rw [hlen];exact h3⟩
        unfold textB
        rw [hlen,←h2,List.take_add]
      · cases h
    · cases h
  fwd {x} r h:=by
    unfold textF textB
    rw [List.append_assoc,(codInt most hm).fwd _ h]
    simp only
    rw [if_pos (by simp),List.drop_left,List.take_left]
    simp
theorem encs_inj{α:Type}{enc:α→Bs}{ok:α→Prop}(c:∀ {x y:α} {r q:Bs},ok x→ok y→enc x++r=enc y++q→x=y∧r=q):∀ {l m:List α} {r q:Bs},(∀ x∈l,ok x)→(∀ x∈m,ok x)→l.length=m.length→l.flatMap enc++r=m.flatMap enc++q→l=m∧r=q
  |[],[],r,q,_,_,_,h=>⟨rfl,by simpa using h⟩
  |x::l,y::m,r,q,hl,hm,hlen,h=>by
    simp only [List.flatMap_cons,List.append_assoc] at h
    obtain⟨rfl,h2⟩:=c (hl x (by simp)) (hm y (by simp)) h
    obtain⟨rfl,h3⟩:=encs_inj c (fun z hz=>hl z (List.mem_cons_of_mem _ hz)) (fun z hz=>hm z (List.mem_cons_of_mem _ hz)) (by simpa using hlen) h2
    exact⟨rfl,h3⟩
  |[],y::m,_,_,_,_,h,_=>by simp at h
  |x::l,[],_,_,_,_,h,_=>by simp at h
theorem textB_len(s:Bs):(textB s).length≤s.length+9:=by
  have:=varB_len s.length
  have:=vsz_bd s.length
  simp only [textB,List.length_append]
  omega
theorem varB_le(x:Nat):(varB x).length≤9:=by
  have:=varB_len x
  have:=vsz_bd x
  omega
theorem D.convI{C:Cx}{W:World→Prop}{env:Env}{ty t t2:TypeId}{pos:String}{af:Array Edge}{gd:Option (Nat×Bool)}{ds:Option Tmp}{x:Operand}{v:Int} [h1:IntT C.P t .i64] [h2:IntT C.P t2 .u64](hx:ev env x=some (.int .i64 v))(h0:0≤v∧v<9223372036854775808):
    Det C W env ⟨ds,.convert t t2 x,ty,pos,af,gd⟩ (.int .u64 ((v.toNat:Nat):Int)):=by
  have:=D.convN (C:=C) (W:=W) (ds:=ds) (ty:=ty) (pos:=pos) (af:=af) (gd:=gd) (t:=t) (t2:=t2) (k:= .u64) (k':= .i64) (a:=v.toNat) rfl (by rw [hx,Int.toNat_of_nonneg h0.1])
  rwa [Nat.mod_eq_of_lt (show v.toNat<2^IntKind.u64.bits from Nat.lt_of_lt_of_le (show v.toNat<9223372036854775808 by omega) (by decide))] at this
end Go.Lx
