import Derived.Test.YtakoppmiegjjlaaGreatDoorF4
import Derived.Test.YtakoppmiegjjlaaGreatDoorF31
import Derived.Test.YtakoppmiegjjlaaGreatDoorF24
import Derived.Test.YtakoppmiegjjlaaGreatDoorF27
import Derived.Test.YtakoppmiegjjlaaGreatDoorF6
set_option linter.unusedVariables false
set_option linter.unusedSimpArgs false
set_option maxRecDepth 20000
set_option maxHeartbeats 8000000
namespace Go.Lx
open Go.Proofs
end Go.Lx
namespace Go.Lx
open Go.Proofs
theorem whole_spec(w:World):Spec Tryz.prog 216 #[] w (fun _=>False) (fun v A=>v= .agg #[Zj 0,Zj 65536]∧A=[]):=by
  refine Zn Tryz.func216 Tryz.ntmps216 ?_
  ((refine Zt ?_<;>repeat' first|refine XL.alloc rfl rfl rfl (k:=fun g=>?_)|refine Qf ?_)<;>(refine Zt ?_<;>repeat' first|refine Z.bd rfl rfl ?_|refine Qj rfl rfl rfl rfl rfl ?_|refine Qk rfl rfl rfl rfl rfl rfl ?_|refine XL.storeP rfl rfl rfl rfl rfl rfl ?_|refine Qf ?_)<;>(apply X.r1 Tryz.results216 (RV.of rfl);(focus(exact⟨rfl,rfl⟩));exact Zd))
theorem apart_spec(w:World)(ga gb:Nat)(a b:Option Addr)(c d:Nat)(la lb:List Ext)(σ τ:Sig)(ha:w.cell? ⟨ga,0,none⟩=some (.slice a la.length c))(hla:Rd w 4 a la.length c (encE la))(hMa:IsMap la σ)(hb:w.cell? ⟨gb,0,none⟩=some (.slice b lb.length d))(hlb:Rd w 4 b lb.length d (encE lb))(hMb:IsMap lb τ):
    Spec Tryz.prog 147 #[.pointer (some ⟨ga,0,none⟩),.pointer (some ⟨gb,0,none⟩)] w (fun _=>False) (fun v A=>∃ a' c' q,v= .slice a' (List.length q) c'∧IsFind (difS σ τ) (0,65536) q∧A=[own 105 4 (.slice a' (List.length q) c') (List.length q) (encE q)]):=by
  have hn1:=rise_len la 0 hMa.rise (by omega)
  have hn2:=rise_len lb 0 hMb.rise (by omega)
  refine Zn Tryz.func147 Tryz.ntmps147 ?_
  ((refine Zt ?_<;>repeat' first|refine Z.p rfl ?_|refine Qf ?_)<;>(refine Zt ?_<;>repeat' first|refine Z.p rfl ?_|(refine Za 1 ?_;((refine XL.call rfl rfl rfl rfl (fun w hw=>Copy_spec w ga a c la (hw.cell0 ha (fun h=>h)) (hla.conf0 hw) (by omega)) ?_;rintro v B' ⟨gc,ac,cc,rfl,rfl⟩;refine Qg ?_)))|refine Qf ?_)<;>refine X.seq ?_<;>((refine Zt ?_<;>repeat' first|refine Z.p rfl ?_|(refine Za 1 ?_;((refine XL.call rfl rfl rfl rfl (fun w hw=>All_spec w gb b d lb (hw.cell0 hb (fun h=>h)) (hlb.conf0 hw) (by omega)) ?_;rintro v B' ⟨al,cl,rfl,rfl⟩;refine Qg ?_)))|refine Z.ln rfl rfl ?_|refine Z.lnL rfl rfl ?_|refine Z.lnS rfl rfl ?_|refine Qf ?_)<;>refine X.block ?_<;>((refine Qs (ι:=Nat×Option Addr×Nat×List Ext) (fun y=>[(5,.pointer (some ⟨gc,0,none⟩)),(17,.slice al lb.length cl),(18,Zj lb.length),(19,Zj ((y.1:Nat):Int))]) (fun y=>[cells gc [.slice y.2.1 (List.length y.2.2.2) y.2.2.1] 226,own 105 4 (.slice y.2.1 (List.length y.2.2.2) y.2.2.1) (List.length y.2.2.2) (encE y.2.2.2),own 105 4 (.slice al (List.length lb) cl) (List.length lb) (encE lb)]) (fun y=>y.1≤lb.length∧IsMap y.2.2.2 (dS (covT (lb.take y.1)) σ τ)) (fun y=>lb.length-y.1) ((0,ac,cc,la)) ?_ Zb Zd ?_;(focus(exact⟨Nat.zero_le _,by dsimp only;rw [dS_zero];exact hMa⟩));rintro⟨i,a5,c5,l5⟩ ⟨hi,hM5⟩;(dsimp only at *))<;>((refine Zt ?_<;>repeat' first|(refine Za 0 ?_;(refine Qn rfl rfl rfl rfl (D.int rfl rfl rfl) (fun h1=>?_) (fun h1=>?_)))|refine Qf ?_)<;>refine X.seq ?_<;>((first|refine Zp ?_|refine Zq ?_))<;>(first|refine Ex.then ?_|refine N.next ?_<;>(refine X.seq ?_<;>(refine X.block ?_<;>((refine Zt ?_<;>repeat' first|(refine Za 0 ?_;(have hil:i<lb.length:=(by omega);(obtain⟨x,hx⟩:=Qt hil);have hxm:=List.mem_of_getElem? hx;have hxi:=(hMb.rise.mem hxm).1;unfold inE at hxi;have hxs:mayS (x.a,x.n):=(by unfold mayS;dsimp only;omega);have hτ:∀ t,x.a≤t→t<x.a+x.n→τ t=some (x.q,x.p+(t-x.a)):=(fun t t1 t2=>(hMb.at_ t _).1 ⟨x,hxm,t1,t2,rfl⟩);refine XL.fact (fun w h=>(h.rd (a:=al)).sm (by omega)) (fun hsome=>?_);(apply Qm rfl rfl rfl rfl;exact D.indexAddr i rfl rfl rfl hil hsome)))|(refine Za 1 ?_;((apply Qu rfl rfl rfl rfl;exact D.loadN rfl rfl (fun w hw j u hu=>Rd.ext (hw.rd (a:=al)) hx j u hu))))|(refine Za 2 ?_;(refine XL.alloc rfl rfl rfl (k:=fun g7=>?_)))|refine Qj rfl rfl rfl rfl rfl ?_|refine Qk rfl rfl rfl rfl rfl rfl ?_|refine XL.storeP rfl rfl rfl rfl rfl rfl ?_|refine Qf ?_)<;>(refine Zt ?_<;>repeat' first|refine Z.p rfl ?_|(refine Za 3 ?_;((refine XL.call rfl rfl rfl rfl (fun w hw=>Find_spec w gc a5 c5 l5 (x.a,x.n) (hw.cellAt (Loc.at_) rfl) (hw.rd (a:=a5)) hM5.rise) ?_;rintro v B' ⟨pi,ci,I,e,rfl,hF,rfl⟩;refine Qg ?_);(obtain⟨rfl,_,⟨A5,K5,hAro⟩,hIl⟩:=hF.resolve_right (fun h=>h.2.1 hxs));have hI:=hM5.find hAro;have hn5:=rise_len l5 0 hM5.rise (by omega)))|refine Z.fa rfl rfl rfl ?_|refine Z.l1 rfl rfl rfl ?_|refine Z.lN rfl rfl rfl ?_|refine Z.lP rfl rfl rfl ?_|refine Qf ?_)<;>(refine Zt ?_<;>repeat' first|refine Z.p rfl ?_|refine Z.ln rfl rfl ?_|refine Z.lnL rfl rfl ?_|refine Z.lnS rfl rfl ?_|refine Qf ?_)<;>refine X.block ?_<;>((refine Qs (ι:=Nat×Option Addr×Nat×List Ext) (fun y=>[(5,.pointer (some ⟨gc,0,none⟩)),(7,.pointer (some ⟨g7,0,none⟩)),(17,.slice al lb.length cl),(18,Zj lb.length),(19,Zj ((i:Nat):Int)),(30,.slice pi I.length ci),(31,Zj I.length),(32,Zj ((y.1:Nat):Int))]) (fun y=>[cells gc [.slice y.2.1 (List.length y.2.2.2) y.2.2.1] 226,own 105 4 (.slice y.2.1 (List.length y.2.2.2) y.2.2.1) (List.length y.2.2.2) (encE y.2.2.2),own 105 4 (.slice pi (List.length I) ci) (List.length I) (encE I),cells g7 [Zj x.a,Zj x.n,Zj x.q,Zj x.p] 105,own 105 4 (.slice al (List.length lb) cl) (List.length lb) (encE lb)]) (fun y=>y.1≤I.length∧IsMap y.2.2.2 (dS (fun t=>covT (lb.take i) t∨covT (I.take y.1) t) σ τ)) (fun y=>I.length-y.1) ((0,a5,c5,l5)) ?_ Zb Zd ?_;(focus(exact⟨Nat.zero_le _,by dsimp only;rw [dS_in];exact hM5⟩));rintro⟨k,a6,c6,l6⟩ ⟨hki,hM6⟩;(dsimp only at *))<;>((refine Zt ?_<;>repeat' first|(refine Za 0 ?_;(refine Qn rfl rfl rfl rfl (D.int rfl rfl rfl) (fun h2=>?_) (fun h2=>?_)))|refine Qf ?_)<;>refine X.seq ?_<;>((first|refine Zp ?_|refine Zq ?_))<;>(first|refine Ex.then ?_|refine N.next ?_<;>(refine X.seq ?_<;>(refine X.block ?_<;>((refine Zt ?_<;>repeat' first|(refine Za 0 ?_;(have hkl:k<I.length:=(by omega);(obtain⟨y,hy⟩:=Qt hkl);have hym:=List.mem_of_getElem? hy;have hyi:=(hI.rise.mem hym).1;unfold inE at hyi;have hys:=find_may hI hym;have hst:=dS_step hI hy hτ;refine XL.fact (fun w h=>(h.rd (a:=pi)).sm (by omega)) (fun hsome=>?_);(apply Qm rfl rfl rfl rfl;exact D.indexAddr k rfl rfl rfl hkl hsome)))|(refine Za 1 ?_;((apply Qu rfl rfl rfl rfl;exact D.loadN rfl rfl (fun w hw j u hu=>Rd.ext (hw.rd (a:=pi)) hy j u hu))))|(refine Za 2 ?_;(refine XL.alloc rfl rfl rfl (k:=fun g11=>?_)))|refine Qj rfl rfl rfl rfl rfl ?_|refine Qk rfl rfl rfl rfl rfl rfl ?_|refine XL.storeP rfl rfl rfl rfl rfl rfl ?_|refine Qf ?_)<;>(refine Zt ?_<;>repeat' first|refine Z.p rfl ?_|(refine Za 6 ?_;(refine Qn rfl rfl rfl rfl (D.int rfl rfl rfl) (fun h3=>?_) (fun h3=>?_)))|(refine Za 22 ?_;(first|refine XL.skipF rfl rfl rfl rfl ?_|refine Qn rfl rfl rfl rfl (D.int rfl rfl rfl) (fun h4=>?_) (fun h4=>?_)))|refine Z.fa rfl rfl rfl ?_|refine Z.l1 rfl rfl rfl ?_|refine Z.lN rfl rfl rfl ?_|refine Z.lP rfl rfl rfl ?_|refine Z.g rfl (by omega) ?_|refine Z.w rfl ?_|refine Z.pk rfl rfl rfl rfl ?_|refine Qf ?_)<;>(first|(refine Zu ?_;refine Zx ?_<;>repeat' first|refine Z.p rfl ?_|(refine Za 3 ?_;((refine XL.sliceL (fun s:Sp=> .agg #[Zj s.1,Zj s.2]) encS1 [(y.a,y.n)] (fun _=>rfl) (fun _=>rfl) rfl rfl rfl rfl rfl rfl (fun _=>by infer_instance) (fun gs=>?_))))|(refine Za 4 ?_;((refine Qo [cells gc [.slice a6 (List.length l6) c6] 226,own 105 4 (.slice a6 (List.length l6) c6) (List.length l6) (encE l6)] rfl rfl rfl rfl (fun w F hF hm hw=>CutM_spec w F gc a6 (some ⟨gs,0,none⟩) c6 1 l6 [(y.a,y.n)] _ hF (hm.own (a:=some ⟨gs,0,none⟩)) hM6 (by simp)) ?_;rintro v B' ⟨po,co,L,e,a7,c7,l7,rfl,he,rfl⟩;refine Qg ?_);(obtain⟨rfl,_,_,hM7,_⟩:=he.resolve_right (fun h=>h.2.1 (fun z hz=>by rw [List.mem_singleton] at hz;subst hz;exact hys)));have hM7':=hM7;rw [show([(y.a,y.n)]:List Sp).foldl cutE (dS (fun t=>covT (lb.take i) t∨covT (I.take k) t) σ τ)=cutE (dS (fun t=>covT (lb.take i) t∨covT (I.take k) t) σ τ) (y.a,y.n) from rfl,hst.1 ⟨h3,h4⟩] at hM7'))|refine Z.fa rfl rfl rfl ?_|refine Z.l1 rfl rfl rfl ?_|refine Z.lN rfl rfl rfl ?_|refine Z.lP rfl rfl rfl ?_|refine XL.nil ?_)|refine Zm ?_))<;>(first|refine N.block ?_|refine Ql ?_|refine Ex.out rfl ?_))<;>(first|refine Ex.then ?_|refine N.next ?_<;>(refine Zx ?_<;>repeat' first|refine Z.p rfl ?_|refine Z.g rfl (by omega) ?_|refine Z.w rfl ?_|refine XL.nil ?_)))))<;>(first|refine Ex.then ?_|(first|(refine Qp ((k+1,a7,c7,l7)) ?_ ?_ Zb Zd;(focus(exact⟨hkl,hM7'⟩));(focus(first|omega|(dsimp only;omega))))|(refine Qp ((k+1,a6,c6,l6)) ?_ ?_ Zb Zd;(focus(first|exact⟨hkl,by dsimp only;rw [←hst.2 (fun g=>h3 g.1)];exact hM6⟩|exact⟨hkl,by dsimp only;rw [←hst.2 (fun g=>h4 g.2)];exact hM6⟩));(focus(first|omega|(dsimp only;omega)))))))<;>(first|refine N.block ?_|refine Ql ?_|refine Ex.out rfl ?_))<;>(first|refine N.block ?_|refine Ql ?_|refine Ex.out rfl ?_))<;>(first|refine Ex.then ?_|refine N.next ?_<;>(refine Zx ?_<;>repeat' first|refine Z.p rfl ?_|(refine Za 0 ?_;(have hke:k=I.length:=(by omega);rw [hke,List.take_length,dS_span hI (fun t=>Iff.rfl) hx] at hM6;(apply Qm rfl rfl rfl rfl;exact D.add64 rfl rfl (by omega))))|refine XL.nil ?_)))))<;>(first|refine Ex.then ?_|((refine Qp ((i+1,a6,c6,l6)) ?_ ?_ Zb Zd;(focus(exact⟨hil,hM6⟩));(focus(first|omega|(dsimp only;omega)))))))<;>(first|refine N.block ?_|refine Ql ?_|refine Ex.out rfl ?_))<;>(first|refine Ex.then ?_|refine N.next ?_<;>((refine Zt ?_<;>repeat' first|refine Z.p rfl ?_|(refine Za 1 ?_;(have hie:i=lb.length:=(by omega);rw [hie,List.take_length,dS_all hMb] at hM5;(refine XL.call rfl rfl rfl rfl (fun w hw=>whole_spec w) (Zs ?_))))|(refine Za 2 ?_;((refine XL.call rfl rfl rfl rfl (fun w hw=>Find_spec w gc a5 c5 l5 (0,65536) (hw.cellAt (Loc.at_) rfl) (hw.rd (a:=a5)) hM5.rise) ?_;rintro v B' ⟨pi,ci,I,e,rfl,hF,rfl⟩;refine Qg ?_);(obtain⟨rfl,_,⟨A5,K5,hAro⟩,hIl⟩:=hF.resolve_right (fun h=>h.2.1 (by unfold mayS;decide)))))|refine Qf ?_)<;>(refine Zt ?_<;>repeat' first|refine Z.p rfl ?_|refine Qf ?_)<;>(apply X.r1 Tryz.results147 (Qh rfl);(focus(exact⟨pi,ci,I,rfl,hM5.find hAro,rfl⟩));exact Zd))))
theorem part_mayE{o:Dob}{i:Nat}{x:Ext}(h1:NumsD o)(h2:LaidP o)(hx:o.ps[i]?=some x):mayE ⟨x.a,x.n,o.sq,secs (o.ps.take i)⟩∧plS o.sq (secs (o.ps.take i))∧(¬PutE x→mayE ⟨x.a,x.n,x.q,x.p⟩):=by
  obtain⟨_,⟨a1,a2⟩,_⟩:=h1
  have hil:=Qv hx
  have hs:=h2.2.2.1.secs i (by omega)
  obtain⟨⟨c1,c2⟩,_⟩:=h2.2.2.1 i x hil hx
  have hp:plS o.sq (secs (o.ps.take i)):=by unfold plS;omega
  refine⟨⟨c1,hp⟩,hp,fun hn=>⟨c1, ?_⟩⟩
  have:=c2.resolve_left hn
  unfold plS
  dsimp only
  omega
theorem Apply_spec(w:World)(H:Nat→Prop)(gm:Nat)(am:Option Addr)(cm:Nat)(l:List Ext)(σ:Sig)(o:Dob)(a b:Option Addr)(c d:Nat)(hown:Sep [cells gm [.slice am (List.length l) cm] 226,own 105 4 (.slice am (List.length l) cm) (List.length l) (encE l)] w H)(hM:IsMap l σ)(hl:RdX w H 4 a o.ps.length c (encE o.ps))(hcs:RdX w H 2 b o.cs.length d (encS o.cs))(hk:o.k<18446744073709551616)(hd:o.d.length≤1000000):
    Spec Tryz.prog 70 #[.pointer (some ⟨gm,0,none⟩),.agg #[.int .u64 ((o.k:Nat):Int),Zj o.ep,Zj o.sq,Zj o.up,.slice a o.ps.length c,.slice b o.cs.length d,Zi o.d]] w H (fun v B=>∃ (a1 a2 am':Option Addr) (c1 c2 cm':Nat) (q1 q2 l':List Ext),v= .tuple #[.slice a1 (List.length q1) c1,.slice a2 (List.length q2) c2,Zj (chkD o)]∧((chkD o≠0∧l'=l∧q1=[]∧q2=[])∨(chkD o=0∧IsMap l' (applyS σ o)∧IsFind (difS (applyS σ o) σ) (0,65536) q1∧IsFind (difS σ (applyS σ o)) (0,65536) q2))∧B=[cells gm [.slice am' (List.length l') cm'] 226,own 105 4 (.slice am' (List.length l') cm') (List.length l') (encE l'),own 105 4 (.slice a1 (List.length q1) c1) (List.length q1) (encE q1),own 105 4 (.slice a2 (List.length q2) c2) (List.length q2) (encE q2)]):=by
  have hn1:=rise_len l 0 hM.rise (by omega)
  refine Spec.enter Tryz.func70 rfl Tryz.ntmps70 rfl hown ?_
  refine X.mem (B:=[own 105 4 (.slice none (List.length (([]:List Ext))) 0) (List.length (([]:List Ext))) (encE (([]:List Ext))),own 105 4 (.slice none (List.length (([]:List Ext))) 0) (List.length (([]:List Ext))) (encE (([]:List Ext))),cells gm [.slice am (List.length l) cm] 226,own 105 4 (.slice am (List.length l) cm) (List.length l) (encE l)]) (fun w h=>(h.nilOwn 105 4).nilOwn 105 4) ?_
  ((refine Zt ?_<;>repeat' first|refine Z.p rfl ?_|(refine Za 0 ?_;(refine Qr rfl rfl rfl rfl (k:=fun g3=>?_)))|refine Qf ?_)<;>refine X.seq ?_<;>((refine Zt ?_<;>repeat' first|refine Z.p rfl ?_|refine Z.eqP rfl rfl rfl ?_|refine Qf ?_)<;>(first|(refine Zu ?_;(refine Zt ?_<;>repeat' first|refine Z.p rfl ?_|refine Qf ?_)<;>(apply X.r3 Tryz.results70 (Qh rfl) (Qh rfl) (Qh rfl);(focus(first|exact⟨none,none,am,0,0,cm,[],[],l,rfl,.inl ⟨h1,rfl,rfl,rfl⟩,rfl⟩|exact⟨a1,a2,a6,c1,c2,c6,q1,q2,l6,by rw [hck],.inr ⟨hck,hM8,hq1,hq2⟩,rfl⟩));exact Zd))|refine Zm ?_))<;>(first|refine Ex.then ?_|refine N.next ?_<;>(refine X.seq ?_<;>((refine Zt ?_<;>repeat' first|refine Z.p rfl ?_|(refine Za 1 ?_;((refine XL.call rfl rfl rfl rfl (fun w hw=>dChk_spec w o a b c d (hl.now hw) (hcs.now hw) hk hd) (Zs ?_))))|refine Z.l1 rfl rfl rfl ?_|refine Z.lN rfl rfl rfl ?_|refine Z.lP rfl rfl rfl ?_|refine Qf ?_)<;>(refine Zt ?_<;>repeat' first|refine Z.p rfl ?_|(refine Za 1 ?_;(refine Qn rfl rfl rfl rfl (D.int rfl rfl rfl) (fun h1=>?_) (fun h1=>?_)))|refine Qf ?_)<;>(first|(refine Zu ?_;(refine Zt ?_<;>repeat' first|refine Z.p rfl ?_|refine Qf ?_)<;>(apply X.r3 Tryz.results70 (Qh rfl) (Qh rfl) (Qh rfl);(focus(first|exact⟨none,none,am,0,0,cm,[],[],l,rfl,.inl ⟨h1,rfl,rfl,rfl⟩,rfl⟩|exact⟨a1,a2,a6,c1,c2,c6,q1,q2,l6,by rw [hck],.inr ⟨hck,hM8,hq1,hq2⟩,rfl⟩));exact Zd))|refine Zm ?_))<;>(first|refine Ex.then ?_|refine N.next ?_<;>((refine Zt ?_<;>repeat' first|refine Z.p rfl ?_|(refine Za 1 ?_;(have hck:chkD o=0:=(nN h1);(obtain⟨hN,hL,_,_⟩:=chkD_ok hck);have hn2:=hL.1;have hn3:=hL.2.1;have hmc:∀ y∈o.cs,mayS y:=(fun y hy=>hL.2.2.2.1.mem rfl hy);(refine XL.call rfl rfl rfl rfl (fun w hw=>Copy_spec w gm am cm l (hw.cellAt (Loc.at_) rfl) (hw.rd (a:=am)) (by omega)) ?_;rintro v B' ⟨gw,aw,cw,rfl,rfl⟩;refine Qg ?_)))|refine Qf ?_)<;>(refine Zt ?_<;>repeat' first|refine Z.p rfl ?_|(refine Za 3 ?_;((refine Qo [cells gm [.slice am (List.length l) cm] 226,own 105 4 (.slice am (List.length l) cm) (List.length l) (encE l)] rfl rfl rfl rfl (fun w F hF hm hw=>CutM_spec w F gm am b cm d l o.cs σ hF (hcs.call hw hm) hM (by omega)) ?_;rintro v B' ⟨po,co,L,e,a5,c5,l5,rfl,he,rfl⟩;refine Qg ?_);(obtain⟨rfl,_,_,hM5,_⟩:=he.resolve_right (fun h=>h.2.1 hmc))))|refine Z.fa rfl rfl rfl ?_|refine Z.l1 rfl rfl rfl ?_|refine Z.lN rfl rfl rfl ?_|refine Z.lP rfl rfl rfl ?_|refine Qf ?_)<;>refine X.seq ?_<;>((refine Zt ?_<;>repeat' first|refine Z.p rfl ?_|(refine Za 1 ?_;((refine XL.call rfl rfl rfl rfl (fun w hw=>Extents_spec w o a b c d (hl.now hw) hL.2.2.1 (by omega)) ?_;rintro v B' ⟨ae,ce,E,rfl,hE,rfl⟩;refine Qg ?_);have hEl:E.length=o.ps.length:=(by rw [hE,extsF_len])))|refine Z.l1 rfl rfl rfl ?_|refine Z.lN rfl rfl rfl ?_|refine Z.lP rfl rfl rfl ?_|refine Z.ln rfl rfl ?_|refine Z.lnL rfl rfl ?_|refine Z.lnS rfl rfl ?_|refine Qf ?_)<;>refine X.block ?_<;>((refine Qs (ι:=Nat×Option Addr×Nat×List Ext) (fun y=>[(0,.pointer (some ⟨gm,0,none⟩)),(3,.pointer (some ⟨g3,0,none⟩)),(8,.pointer (some ⟨gw,0,none⟩)),(26,.slice ae E.length ce),(27,Zj E.length),(28,Zj ((y.1:Nat):Int))]) (fun y=>[cells gm [.slice y.2.1 (List.length y.2.2.2) y.2.2.1] 226,own 105 4 (.slice y.2.1 (List.length y.2.2.2) y.2.2.1) (List.length y.2.2.2) (encE y.2.2.2),own 105 4 (.slice ae (List.length E) ce) (List.length E) (encE E),cells gw [.slice aw (List.length l) cw] 226,own 105 4 (.slice aw (List.length l) cw) (List.length l) (encE l),cells g3 [.int .u64 ((o.k:Nat):Int),Zj o.ep,Zj o.sq,Zj o.up,.slice a o.ps.length c,.slice b o.cs.length d,Zi o.d] 41]) (fun y=>y.1≤E.length∧IsMap y.2.2.2 (partsN (o.cs.foldl cutE σ) o.sq o.ps y.1)) (fun y=>E.length-y.1) ((0,a5,c5,l5)) ?_ Zb Zd ?_;(focus(exact⟨Nat.zero_le _,hM5⟩));rintro⟨i,a6,c6,l6⟩ ⟨hi,hM6⟩;(dsimp only at *))<;>((refine Zt ?_<;>repeat' first|(refine Za 0 ?_;(refine Qn rfl rfl rfl rfl (D.int rfl rfl rfl) (fun h2=>?_) (fun h2=>?_)))|refine Qf ?_)<;>refine X.seq ?_<;>((first|refine Zp ?_|refine Zq ?_))<;>(first|refine Ex.then ?_|refine N.next ?_<;>(refine X.seq ?_<;>(refine X.block ?_<;>((refine Zt ?_<;>repeat' first|refine Z.p rfl ?_|(refine Za 1 ?_;(have hil:i<o.ps.length:=(by omega);(obtain⟨x,hx⟩:=Qt hil);have hy:E[i]?=some ⟨x.a,x.n,o.sq,secs (o.ps.take i)⟩:=(by rw [hE,extsF_get o.sq o.ps 0 i x hx,Int.zero_add]);(obtain⟨hy1,hy2,hy3⟩:=part_mayE hN hL hx);have hst:=partsN_succ (σ:=o.cs.foldl cutE σ) (sq:=o.sq) hx;refine XL.fact (fun w h=>(h.rd (a:=ae)).sm (by omega)) (fun hsome=>?_);(apply Qm rfl rfl rfl rfl;exact D.indexAddr i rfl rfl rfl (by omega) hsome)))|(refine Za 2 ?_;((apply Qu rfl rfl rfl rfl;exact D.loadN rfl rfl (fun w hw j u hu=>Rd.ext (hw.rd (a:=ae)) hy j u hu))))|(refine Za 3 ?_;(refine XL.alloc rfl rfl rfl (k:=fun g10=>?_)))|refine Qj rfl rfl rfl rfl rfl ?_|refine Qk rfl rfl rfl rfl rfl rfl ?_|refine XL.storeP rfl rfl rfl rfl rfl rfl ?_|refine Qf ?_)<;>(refine Zt ?_<;>repeat' first|refine Z.p rfl ?_|(refine Za 3 ?_;((apply Qm rfl rfl rfl rfl;exact D.indexAddr i rfl rfl rfl hil (hl.rd.sm (by omega)))))|(refine Za 4 ?_;((apply Qu rfl rfl rfl rfl;exact D.loadN rfl rfl (fun w hw j u hu=>Rd.ext (hl.now hw) hx j u hu))))|(refine Za 5 ?_;(refine XL.alloc rfl rfl rfl (k:=fun g11=>?_)))|refine Z.fa rfl rfl rfl ?_|refine Z.l1 rfl rfl rfl ?_|refine Z.lN rfl rfl rfl ?_|refine Z.lP rfl rfl rfl ?_|refine Qj rfl rfl rfl rfl rfl ?_|refine Qk rfl rfl rfl rfl rfl rfl ?_|refine XL.storeP rfl rfl rfl rfl rfl rfl ?_|refine Qf ?_)<;>(refine Zt ?_<;>repeat' first|(refine Za 1 ?_;((refine XL.call rfl rfl rfl rfl (fun w hw=>dPut_spec x w) (Zs ?_));(by_cases hp:PutE x<;>first|rw [decide_eq_true hp]|rw [decide_eq_false hp])))|refine Z.l1 rfl rfl rfl ?_|refine Z.lN rfl rfl rfl ?_|refine Z.lP rfl rfl rfl ?_|refine Qf ?_)<;>(first|(refine Zu ?_;refine Zx ?_<;>repeat' first|refine Z.p rfl ?_|(refine Za 2 ?_;((refine XL.sliceL vE4 encE1 [⟨x.a,x.n,o.sq,secs (o.ps.take i)⟩] (fun _=>rfl) (fun _=>rfl) rfl rfl rfl rfl rfl rfl (fun _=>by infer_instance) (fun gl=>?_))))|(refine Za 3 ?_;((refine Qo [cells gm [.slice a6 (List.length l6) c6] 226,own 105 4 (.slice a6 (List.length l6) c6) (List.length l6) (encE l6)] rfl rfl rfl rfl (fun w F hF hm hw=>Put_spec w F gm a6 (some ⟨gl,0,none⟩) c6 1 l6 [⟨x.a,x.n,o.sq,secs (o.ps.take i)⟩] _ hF (hm.own (a:=some ⟨gl,0,none⟩)) hM6 (by simp)) ?_;rintro v B' ⟨po,co,L,e,a7,c7,l7,rfl,he,rfl⟩;refine Qg ?_);(obtain⟨rfl,_,_,hM7,_⟩:=he.resolve_right (fun h=>h.2.1 (fun z hz=>by rw [List.mem_singleton] at hz;subst hz;exact hy1)))))|refine Z.l1 rfl rfl rfl ?_|refine Z.lN rfl rfl rfl ?_|refine Z.lP rfl rfl rfl ?_|refine XL.nil ?_)|(refine Zf ?_;refine Zx ?_<;>repeat' first|refine Z.p rfl ?_|(refine Za 8 ?_;((refine Qo [cells gm [.slice a6 (List.length l6) c6] 226,own 105 4 (.slice a6 (List.length l6) c6) (List.length l6) (encE l6)] rfl rfl rfl rfl (fun w F hF hm hw=>Move_spec w F gm a6 c6 l6 _ ⟨x.a,x.n,x.q,x.p⟩ o.sq (secs (o.ps.take i)) hF hM6) ?_;rintro v B' ⟨nn,e,a7,c7,l7,rfl,he,rfl⟩;refine Qg ?_);(obtain⟨rfl,_,_,hM7,_⟩:=he.resolve_right (fun h=>h.2.1 ⟨hy3 hp,hy2⟩))))|refine Z.fa rfl rfl rfl ?_|refine Z.l1 rfl rfl rfl ?_|refine Z.lN rfl rfl rfl ?_|refine Z.lP rfl rfl rfl ?_|refine Z.bd rfl rfl ?_|refine XL.nil ?_)))<;>(first|refine N.block ?_|refine Ql ?_|refine Ex.out rfl ?_))<;>(first|refine Ex.then ?_|refine N.next ?_<;>(refine Zx ?_<;>repeat' first|refine Z.p rfl ?_|refine Z.g rfl (by omega) ?_|refine Z.w rfl ?_|refine XL.nil ?_)))))<;>(first|refine Ex.then ?_|((refine Qp ((i+1,a7,c7,l7)) ?_ ?_ Zb Zd;(focus(first|exact⟨by dsimp only;omega,by dsimp only;rw [hst,stepS,if_pos hp];exact hM7⟩|exact⟨by dsimp only;omega,by dsimp only;rw [hst,stepS,if_neg hp];exact hM7⟩));(focus(first|omega|(dsimp only;omega)))))))<;>(first|refine N.block ?_|refine Ql ?_|refine Ex.out rfl ?_))<;>(first|refine Ex.then ?_|refine N.next ?_<;>((refine Zt ?_<;>repeat' first|refine Z.p rfl ?_|(refine Za 2 ?_;(have hM8:IsMap l6 (applyS σ o):=(by unfold applyS;rw [←hEl,←show i=E.length from(by omega)];exact hM6);have hn6:=rise_len l6 0 hM6.rise (by omega);(refine XL.call rfl rfl rfl rfl (fun w hw=>apart_spec w gm gw a6 aw c6 cw l6 l (applyS σ o) σ (hw.cellAt (Loc.at_) rfl) (hw.rd (a:=a6)) hM8 (hw.cellAt (Loc.at_) rfl) (hw.rd (a:=aw)) hM) ?_;rintro v B' ⟨a1,c1,q1,rfl,hq1,rfl⟩;refine Qg ?_)))|(refine Za 5 ?_;((refine XL.call rfl rfl rfl rfl (fun w hw=>apart_spec w gw gm aw a6 cw c6 l l6 σ (applyS σ o) (hw.cellAt (Loc.at_) rfl) (hw.rd (a:=aw)) hM (hw.cellAt (Loc.at_) rfl) (hw.rd (a:=a6)) hM8) ?_;rintro v B' ⟨a2,c2,q2,rfl,hq2,rfl⟩;refine Qg ?_)))|refine Qf ?_)<;>(apply X.r3 Tryz.results70 (Qh rfl) (Qh rfl) (Qh rfl);(focus(first|exact⟨none,none,am,0,0,cm,[],[],l,rfl,.inl ⟨h1,rfl,rfl,rfl⟩,rfl⟩|exact⟨a1,a2,a6,c1,c2,c6,q1,q2,l6,by rw [hck],.inr ⟨hck,hM8,hq1,hq2⟩,rfl⟩));exact Zd))))))))
end Go.Lx
namespace Go.Lx
open Go.Proofs
abbrev Kr:=Int×Int×Int
def encK1 (x:Kr):List Value:=[.int .i64 x.1,.int .i64 x.2.1,.int .i64 x.2.2]
def encK (xs:List Kr):List Value:=xs.flatMap encK1
theorem Rd.kr{w:World}{a:Option Addr}{n c m:Nat}{xs:List Kr}{x:Kr}(h:Rd w 3 a n c (encK xs))(hx:xs[m]?=some x):∀ j u,[Value.int .i64 x.1,.int .i64 x.2.1,.int .i64 x.2.2][j]?=some u→w.cell? ((el a (m*3)).add j)=some u:=Rd.elem (f:=encK1) h (fun _=>rfl) hx
theorem encK_snoc(xs:List Kr)(x:Kr):encK xs++[.int .i64 x.1,.int .i64 x.2.1,.int .i64 x.2.2]=encK (xs++[x]):=by simp [encK,encK1]
theorem encK_len(xs:List Kr):(encK xs).length=xs.length*3:=flat_len encK1 3 (fun _=>rfl) xs
theorem encK_one(l:List Kr):∀ u∈encK l,u.oneCell'=true:=fun u hu=>by
  obtain⟨x,_,hx⟩:=List.mem_flatMap.1 hu
  simp only [encK1,List.mem_cons,List.not_mem_nil,or_false] at hx
  rcases hx with rfl|rfl|rfl<;>rfl
structure Ck where
  k:Nat
  ep:Int
  sq:Int
  up:Int
  sz:Int
  m:List Ext
  r:List Kr
  nt:Bs
def zK:Ck:=⟨0,0,0,0,0,[],[],[]⟩
def liveN:List Ext→Int→Int
  |[],_=>0
  |x::l,q=>(if x.q=q then x.n else 0)+liveN l q
theorem liveN_append(q:Int):∀ l m:List Ext,liveN (l++m) q=liveN l q+liveN m q
  |[],m=>by simp [liveN]
  |x::l,m=>by simp only [List.cons_append,liveN,liveN_append q l m];omega
theorem liveN_take{l:List Ext}{i:Nat}{x:Ext}(h:l[i]?=some x)(q:Int):liveN (l.take (i+1)) q=liveN (l.take i) q+(if x.q=q then x.n else 0):=by
  rw [Qw h,liveN_append];simp [liveN]
theorem liveN_bd(q:Int):∀ {l:List Ext} {lo:Int},Rise lo l→0≤liveN l q∧lo+liveN l q≤endE lo l
  |[],lo,_=>by simp [liveN,endE]
  |x::l,lo,h=>by
    obtain⟨h1,h2,h3⟩:=h
    have ih:=liveN_bd q h3
    unfold inE at h2
    simp only [liveN,endE]
    split<;>omega
theorem liveN_top{l:List Ext}(h:Rise 0 l)(q:Int):0≤liveN l q∧liveN l q≤65536:=by
  have h1:=liveN_bd q h
  have h2:=h.endTop (by omega)
  omega
def prevK (l:List Kr):Nat→Int
  |0=>0
  |i+1=>match l[i]? with
    |some x=>x.1
    |none=>0
theorem prevK_succ{l:List Kr}{i:Nat}{x:Kr}(h:l[i]?=some x):prevK l (i+1)=x.1:=by simp [prevK,h]
def RowP (c:Ck) (p:Int) (x:Kr):Prop:=p<x.1∧x.1≤c.sq∧0≤x.2.1∧x.2.1≤65536∧x.2.2=liveN c.m x.1∧x.2.2≤x.2.1
def rowsN (c:Ck) (n:Nat):Prop:=∀ i x,i<n→c.r[i]?=some x→RowP c (prevK c.r i) x
def inK (l:List Kr) (q:Int):Prop:=∃ x∈l,x.1=q
def hasK (c:Ck):Prop:=∀ x∈c.m,inK c.r x.q
def rowedP (c:Ck):Prop:=rowsN c c.r.length∧hasK c
def mappedP (c:Ck):Prop:=ExtOK c.m c.m.length∧NF c.m∧∀ x∈c.m,x.a+x.n≤c.sz
def numsK (c:Ck):Prop:=(1≤c.ep∧c.ep<1099511627776)∧(0≤c.sq∧c.sq<1099511627776)∧(0≤c.up∧c.up<1099511627776)∧1≤c.sz∧c.sz≤65536
theorem rowsN.step{c:Ck}{i:Nat}{x:Kr}(h:rowsN c i)(hx:c.r[i]?=some x)(hp:RowP c (prevK c.r i) x):rowsN c (i+1):=fun j y hj hy=>by
  rcases Nat.lt_or_ge j i with g|g
  · exact h j y g hy
  · obtain rfl:j=i:=by omega
    rw [hx] at hy;cases hy;exact hp
theorem rowsN.prev{c:Ck}:∀ {i:Nat},rowsN c i→i≤c.r.length→0≤prevK c.r i∧∀ q,inK (c.r.take i) q→1≤q∧q≤prevK c.r i
  |0,_,_=>⟨Int.le_refl _,fun q ⟨x,hx,_⟩=>by simp at hx⟩
  |i+1,h,hi=>by
    obtain⟨x,hx⟩:=Qt (l:=c.r) (k:=i) hi
    obtain⟨h1,h2⟩:=rowsN.prev (i:=i) (fun j y hj hy=>h j y (by omega) hy) (by omega)
    have hp:=h i x (by omega) hx
    unfold RowP at hp
    rw [prevK_succ hx]
    refine⟨by omega,fun q ⟨y,hy,hyq⟩=>?_⟩
    rw [Qw hx] at hy
    rcases List.mem_append.1 hy with g|g
    · have:=h2 q ⟨y,g,hyq⟩;omega
    · obtain rfl:y=x:=by simpa using g
      omega
theorem rowsN.fresh{c:Ck}{i:Nat}{q:Int}(h:rowsN c i)(hi:i≤c.r.length)(hq:prevK c.r i<q): ¬inK (c.r.take i) q:=fun g=>by
  have:=(h.prev hi).2 q g
  omega
def kdK:Bs:=[67,75,80,49]
def krB (x:Kr):Bs:=(varB x.1.toNat++varB x.2.1.toNat)++varB x.2.2.toNat
def OkR (x:Kr):Prop:=((0≤x.1∧x.1≤1099511627776)∧(0≤x.2.1∧x.2.1≤1099511627776))∧(0≤x.2.2∧x.2.2≤1099511627776)
abbrev Zk:=((((((Nat×Nat)×Nat)×Nat)×Nat)×List Ext)×List Kr)×Bs
def hkE (z:Zk):Bs:=((((((fixB z.1.1.1.1.1.1.1 8++varB z.1.1.1.1.1.1.2)++varB z.1.1.1.1.1.2)++varB z.1.1.1.1.2)++varB z.1.1.1.2)++cntB ptB z.1.1.2)++cntB krB z.1.2)++textB z.2
def zCk (c:Ck):Zk:=(((((((c.k,c.ep.toNat),c.sq.toNat),c.up.toNat),c.sz.toNat),c.m),c.r),c.nt)
def ckZ (z:Zk):Ck:=⟨z.1.1.1.1.1.1.1,z.1.1.1.1.1.1.2,z.1.1.1.1.1.2,z.1.1.1.1.2,z.1.1.1.2,z.1.1.2,z.1.2,z.2⟩
def bodK (c:Ck):Bs:=kdK++hkE (zCk c)
def stK (c:Ck):Bs:=sealS (bodK c)
theorem krB_len(x:Kr):(krB x).length≤27:=by
  have h1:=varB_le x.1.toNat
  have h2:=varB_le x.2.1.toNat
  have h3:=varB_le x.2.2.toNat
  simp only [krB,List.length_append]
  omega
open Classical in
noncomputable def chkK (c:Ck):Int:=if numsK c then if mappedP c∧rowedP c∧c.nt.length≤16384 then if(stK c).length≤65536 then 0 else 31 else 1 else 1
theorem chkK_ok{c:Ck}(h:chkK c=0):numsK c∧mappedP c∧rowedP c∧c.nt.length≤16384∧(stK c).length≤65536:=by
  unfold chkK at h
  split at h
  · rename_i h1
    split at h
    · rename_i h2
      split at h
      · rename_i h3;exact⟨h1,h2.1,h2.2.1,h2.2.2,h3⟩
      · cases h
    · cases h
  · cases h
theorem chkK_of{c:Ck}(h1:numsK c)(h2:mappedP c)(h3:rowedP c)(h4:c.nt.length≤16384)(h5:(stK c).length≤65536):chkK c=0:=by
  unfold chkK
  rw [if_pos h1,if_pos ⟨h2,h3,h4⟩,if_pos h5]
theorem bodK_len(c:Ck):(bodK c).length≤100+36*c.m.length+27*c.r.length+c.nt.length:=by
  have h1:=varB_le c.ep.toNat
  have h2:=varB_le c.sq.toNat
  have h3:=varB_le c.up.toNat
  have h4:=varB_le c.sz.toNat
  have h5:=varB_le c.m.length
  have h6:=varB_le c.r.length
  have h7:=flatMap_len ptB 36 c.m ptB_len
  have h8:=flatMap_len krB 27 c.r krB_len
  have h9:=textB_len c.nt
  have h0:=fixB_len c.k 8
  simp only [bodK,hkE,zCk,cntB,List.length_append]
  have:kdK.length=4:=rfl
  omega
theorem stK_len(c:Ck):(stK c).length=(bodK c).length+4:=by unfold stK;rw [sealS_len]
theorem mappedP.rise{c:Ck}(h:mappedP c):Rise 0 c.m:=h.1.rise0
theorem okP_of{x:Ext}(h:mayE x):OkP x:=by
  obtain⟨h1,h2⟩:=h
  unfold mayS at h1
  unfold plS at h2
  unfold OkP
  dsimp only at h1
  omega
def PosE (x:Ext):Prop:=(0≤x.a∧x.a≤1099511693312)∧(0≤x.n∧x.n≤1099511693312)∧(0≤x.q∧x.q≤1099511693312)∧0≤x.p∧x.p≤1099511693312
theorem posE_in{x:Ext}(h:inE x):PosE x:=by
  unfold inE at h
  unfold PosE
  omega
theorem Rise.pos{l:List Ext}{lo:Int}(h:Rise lo l):∀ x∈l,PosE x:=fun x hx=>posE_in (h.mem hx).1
theorem okR_of{c:Ck}(h:rowsN c c.r.length)(hn:numsK c)(hr:Rise 0 c.m):∀ x∈c.r,OkR x:=fun x hx=>by
  obtain⟨i,hi⟩:=List.mem_iff_getElem?.1 hx
  have hil:=Qv hi
  have h1:=h i x hil hi
  have h2:=(rowsN.prev (c:=c) (i:=i) (fun j y hj hy=>h j y (by omega) hy) (by omega)).1
  have h3:=liveN_top hr x.1
  unfold RowP at h1
  unfold numsK at hn
  unfold OkR
  omega
theorem few_self{l o:List Ext}(h:(ExtOK l l.length∧JnI 0 l l.length o)∨(¬ExtOK l l.length∧o=[])):o=l↔ExtOK l l.length∧NF l:=by
  rcases h with⟨h1,hJ⟩|⟨h1,rfl⟩
  · have hr:=h1.rise0
    constructor
    · rintro rfl;exact⟨h1,hJ.nf⟩
    · rintro⟨_,hn⟩
      exact ext_unique o l hJ.rise hr hJ.nf hn (fun t s=>by rw [hJ.at_,List.take_length])
  · constructor
    · rintro rfl;exact absurd (fun k x hk=>by simp at hk) h1
    · rintro⟨h,_⟩;exact absurd h h1
end Go.Lx
