import Derived.Test.YtakoppmiegjjlaaGreatDoorF9
import Derived.Test.YtakoppmiegjjlaaGreatDoorProg
import Derived.Test.YtakoppmiegjjlaaGreatDoorF4
import Derived.Test.YtakoppmiegjjlaaGreatDoorF7
import Derived.Test.YtakoppmiegjjlaaGreatDoorF1
import Derived.Test.YtakoppmiegjjlaaGreatDoorF3
import Derived.Test.YtakoppmiegjjlaaGreatDoorF6
set_option linter.unusedVariables false
set_option linter.unusedSimpArgs false
set_option maxRecDepth 20000
set_option maxHeartbeats 4000000
namespace Go.Proofs
open Go.Shelf
def Tryz.trimS_ren:Go.Shelf.Ren:=⟨fun|160=>238|232=>288|231=>287|227=>289|234=>291|233=>290|236=>293|235=>292|228=>321|271=>324|151=>323|197=>322|120=>331|152=>267|260=>330|137=>225|119=>307|224=>308|225=>309|217=>266|266=>306|n=>n,fun|9=>9|4=>4|3=>3|5=>5|117=>363|116=>362|0=>0|124=>366|21=>21|105=>385|46=>284|119=>400|139=>403|138=>402|n=>n,fun|3=>4|4=>5|n=>n⟩
theorem Tryz.trimS:Go.Proofs.Lays.n160 Tryz.prog Tryz.trimS_ren:={
  mixed:=by kernel_rfl
  f119:=Tryz.func307.trans (congrArg some (by kernel_rfl))
  f120:=Tryz.func331.trans (congrArg some (by kernel_rfl))
  f137:=Tryz.func225.trans (congrArg some (by kernel_rfl))
  f151:=Tryz.func323.trans (congrArg some (by kernel_rfl))
  f152:=Tryz.func267.trans (congrArg some (by kernel_rfl))
  f160:=Tryz.func238.trans (congrArg some (by kernel_rfl))
  f197:=Tryz.func322.trans (congrArg some (by kernel_rfl))
  f217:=Tryz.func266.trans (congrArg some (by kernel_rfl))
  f224:=Tryz.func308.trans (congrArg some (by kernel_rfl))
  f225:=Tryz.func309.trans (congrArg some (by kernel_rfl))
  f227:=Tryz.func289.trans (congrArg some (by kernel_rfl))
  f228:=Tryz.func321.trans (congrArg some (by kernel_rfl))
  f231:=Tryz.func287.trans (congrArg some (by kernel_rfl))
  f232:=Tryz.func288.trans (congrArg some (by kernel_rfl))
  f233:=Tryz.func290.trans (congrArg some (by kernel_rfl))
  f234:=Tryz.func291.trans (congrArg some (by kernel_rfl))
  f235:=Tryz.func292.trans (congrArg some (by kernel_rfl))
  f236:=Tryz.func293.trans (congrArg some (by kernel_rfl))
  f260:=Tryz.func330.trans (congrArg some (by kernel_rfl))
  f266:=Tryz.func306.trans (congrArg some (by kernel_rfl))
  f271:=Tryz.func324.trans (congrArg some (by kernel_rfl))
  t0:=Tryz.underlying0
  a0:=Tryz.isAgg0
  z0:=Tryz.sizeOf0
  v0:=Tryz.zeroValue0
  t3:=Tryz.underlying3
  a3:=Tryz.isAgg3
  z3:=Tryz.sizeOf3
  v3:=Tryz.zeroValue3
  t4:=Tryz.underlying4
  a4:=Tryz.isAgg4
  z4:=Tryz.sizeOf4
  v4:=Tryz.zeroValue4
  t5:=Tryz.underlying5
  a5:=Tryz.isAgg5
  z5:=Tryz.sizeOf5
  v5:=Tryz.zeroValue5
  t9:=Tryz.underlying9
  a9:=Tryz.isAgg9
  z9:=Tryz.sizeOf9
  v9:=Tryz.zeroValue9
  t21:=Tryz.underlying21
  a21:=Tryz.isAgg21
  z21:=Tryz.sizeOf21
  v21:=Tryz.zeroValue21
  t46:=Tryz.underlying284
  a46:=Tryz.isAgg284
  z46:=Tryz.sizeOf284
  v46:=Tryz.zeroValue284
  t105:=Tryz.underlying385
  a105:=Tryz.isAgg385
  z105:=Tryz.sizeOf385
  v105:=Tryz.zeroValue385
  t116:=Tryz.underlying362
  a116:=Tryz.isAgg362
  z116:=Tryz.sizeOf362
  t117:=Tryz.underlying363
  a117:=Tryz.isAgg363
  z117:=Tryz.sizeOf363
  v117:=Tryz.zeroValue363
  t119:=Tryz.underlying400
  a119:=Tryz.isAgg400
  z119:=Tryz.sizeOf400
  t124:=Tryz.underlying366
  a124:=Tryz.isAgg366
  z124:=Tryz.sizeOf366
  v124:=Tryz.zeroValue366
  t138:=Tryz.underlying402
  a138:=Tryz.isAgg402
  z138:=Tryz.sizeOf402
  v138:=Tryz.zeroValue402
  t139:=Tryz.underlying403
  a139:=Tryz.isAgg403
  z139:=Tryz.sizeOf403
  v139:=Tryz.zeroValue403
  g3:=by kernel_rfl
  g4:=by kernel_rfl}
def Tryz.repS_ren:Go.Shelf.Ren:=⟨fun|105=>182|212=>233|99=>164|165=>234|166=>235|170=>236|169=>237|263=>283|264=>284|206=>224|240=>285|241=>286|276=>319|277=>320|n=>n,fun|9=>9|3=>3|4=>4|20=>20|0=>0|46=>284|109=>312|5=>5|72=>316|76=>320|51=>186|146=>355|53=>27|148=>357|70=>314|37=>242|75=>319|127=>359|164=>381|80=>165|n=>n,fun|n=>n⟩
theorem Tryz.repS:Go.Proofs.Lays.n105 Tryz.prog Tryz.repS_ren:={
  mixed:=by kernel_rfl
  f99:=Tryz.func164.trans (congrArg some (by kernel_rfl))
  f105:=Tryz.func182.trans (congrArg some (by kernel_rfl))
  f165:=Tryz.func234.trans (congrArg some (by kernel_rfl))
  f166:=Tryz.func235.trans (congrArg some (by kernel_rfl))
  f169:=Tryz.func237.trans (congrArg some (by kernel_rfl))
  f170:=Tryz.func236.trans (congrArg some (by kernel_rfl))
  f206:=Tryz.func224.trans (congrArg some (by kernel_rfl))
  f212:=Tryz.func233.trans (congrArg some (by kernel_rfl))
  f240:=Tryz.func285.trans (congrArg some (by kernel_rfl))
  f241:=Tryz.func286.trans (congrArg some (by kernel_rfl))
  f263:=Tryz.func283.trans (congrArg some (by kernel_rfl))
  f264:=Tryz.func284.trans (congrArg some (by kernel_rfl))
  f276:=Tryz.func319.trans (congrArg some (by kernel_rfl))
  f277:=Tryz.func320.trans (congrArg some (by kernel_rfl))
  t0:=Tryz.underlying0
  a0:=Tryz.isAgg0
  z0:=Tryz.sizeOf0
  v0:=Tryz.zeroValue0
  t3:=Tryz.underlying3
  a3:=Tryz.isAgg3
  z3:=Tryz.sizeOf3
  v3:=Tryz.zeroValue3
  t4:=Tryz.underlying4
  a4:=Tryz.isAgg4
  z4:=Tryz.sizeOf4
  v4:=Tryz.zeroValue4
  t5:=Tryz.underlying5
  a5:=Tryz.isAgg5
  z5:=Tryz.sizeOf5
  v5:=Tryz.zeroValue5
  t9:=Tryz.underlying9
  a9:=Tryz.isAgg9
  z9:=Tryz.sizeOf9
  v9:=Tryz.zeroValue9
  t20:=Tryz.underlying20
  a20:=Tryz.isAgg20
  z20:=Tryz.sizeOf20
  v20:=Tryz.zeroValue20
  t37:=Tryz.underlying242
  a37:=Tryz.isAgg242
  z37:=Tryz.sizeOf242
  v37:=Tryz.zeroValue242
  t46:=Tryz.underlying284
  a46:=Tryz.isAgg284
  z46:=Tryz.sizeOf284
  v46:=Tryz.zeroValue284
  t51:=Tryz.underlying186
  a51:=Tryz.isAgg186
  z51:=Tryz.sizeOf186
  v51:=Tryz.zeroValue186
  t53:=Tryz.underlying27
  a53:=Tryz.isAgg27
  z53:=Tryz.sizeOf27
  v53:=Tryz.zeroValue27
  t70:=Tryz.underlying314
  a70:=Tryz.isAgg314
  z70:=Tryz.sizeOf314
  v70:=Tryz.zeroValue314
  t72:=Tryz.underlying316
  a72:=Tryz.isAgg316
  z72:=Tryz.sizeOf316
  v72:=Tryz.zeroValue316
  t75:=Tryz.underlying319
  a75:=Tryz.isAgg319
  z75:=Tryz.sizeOf319
  v75:=Tryz.zeroValue319
  t76:=Tryz.underlying320
  a76:=Tryz.isAgg320
  z76:=Tryz.sizeOf320
  v76:=Tryz.zeroValue320
  t109:=Tryz.underlying312
  a109:=Tryz.isAgg312
  z109:=Tryz.sizeOf312
  v109:=Tryz.zeroValue312
  t127:=Tryz.underlying359
  a127:=Tryz.isAgg359
  z127:=Tryz.sizeOf359
  v127:=Tryz.zeroValue359
  t146:=Tryz.underlying355
  a146:=Tryz.isAgg355
  z146:=Tryz.sizeOf355
  v146:=Tryz.zeroValue355
  t148:=Tryz.underlying357
  a148:=Tryz.isAgg357
  z148:=Tryz.sizeOf357
  v148:=Tryz.zeroValue357
  t164:=Tryz.underlying381
  a164:=Tryz.isAgg381
  z164:=Tryz.sizeOf381
  v164:=Tryz.zeroValue381}
def Tryz.irS_ren:Go.Shelf.Ren:=⟨fun|152=>267|137=>225|119=>307|224=>308|225=>309|217=>266|266=>306|n=>n,fun|9=>9|21=>21|3=>3|4=>4|5=>5|0=>0|46=>284|n=>n,fun|n=>n⟩
theorem Tryz.irS:Go.Proofs.Lays.n152 Tryz.prog Tryz.irS_ren:={
  mixed:=by kernel_rfl
  f119:=Tryz.func307.trans (congrArg some (by kernel_rfl))
  f137:=Tryz.func225.trans (congrArg some (by kernel_rfl))
  f152:=Tryz.func267.trans (congrArg some (by kernel_rfl))
  f217:=Tryz.func266.trans (congrArg some (by kernel_rfl))
  f224:=Tryz.func308.trans (congrArg some (by kernel_rfl))
  f225:=Tryz.func309.trans (congrArg some (by kernel_rfl))
  f266:=Tryz.func306.trans (congrArg some (by kernel_rfl))
  t0:=Tryz.underlying0
  a0:=Tryz.isAgg0
  z0:=Tryz.sizeOf0
  v0:=Tryz.zeroValue0
  t3:=Tryz.underlying3
  a3:=Tryz.isAgg3
  z3:=Tryz.sizeOf3
  v3:=Tryz.zeroValue3
  t4:=Tryz.underlying4
  a4:=Tryz.isAgg4
  z4:=Tryz.sizeOf4
  v4:=Tryz.zeroValue4
  t5:=Tryz.underlying5
  a5:=Tryz.isAgg5
  z5:=Tryz.sizeOf5
  v5:=Tryz.zeroValue5
  t9:=Tryz.underlying9
  a9:=Tryz.isAgg9
  z9:=Tryz.sizeOf9
  v9:=Tryz.zeroValue9
  t21:=Tryz.underlying21
  a21:=Tryz.isAgg21
  z21:=Tryz.sizeOf21
  v21:=Tryz.zeroValue21
  t46:=Tryz.underlying284
  a46:=Tryz.isAgg284
  z46:=Tryz.sizeOf284
  v46:=Tryz.zeroValue284}
def Tryz.ibS_ren:Go.Shelf.Ren:=⟨fun|137=>225|217=>266|266=>306|n=>n,fun|9=>9|5=>5|3=>3|n=>n,fun|n=>n⟩
theorem Tryz.ibS:Go.Proofs.Lays.n137 Tryz.prog Tryz.ibS_ren:={
  mixed:=by kernel_rfl
  f137:=Tryz.func225.trans (congrArg some (by kernel_rfl))
  f217:=Tryz.func266.trans (congrArg some (by kernel_rfl))
  f266:=Tryz.func306.trans (congrArg some (by kernel_rfl))
  t3:=Tryz.underlying3
  a3:=Tryz.isAgg3
  z3:=Tryz.sizeOf3
  v3:=Tryz.zeroValue3
  t5:=Tryz.underlying5
  a5:=Tryz.isAgg5
  z5:=Tryz.sizeOf5
  v5:=Tryz.zeroValue5
  t9:=Tryz.underlying9
  a9:=Tryz.isAgg9
  z9:=Tryz.sizeOf9
  v9:=Tryz.zeroValue9}
end Go.Proofs
namespace Go.Lx
open Go.Proofs Go.Shelf Go.RowKit
theorem Spec.ofBelow{P:Program}{f:FuncId}{args:Array Value}{w:World}{H:Nat→Prop}{v:Value}(h:Calls P f args w fun e w'=>e= .returned v∧Below w.heap.size w w'):Spec P f args w H (fun u A=>u=v∧A=[]):=
  Calls.mono h (by
    rintro e w' ⟨rfl,hB⟩
    exact⟨v,[],rfl,⟨rfl,rfl⟩,hB.os,hB.tape,hB.output,hB.size,trivial,fun b hb _=>hB.block b hb,fun _=>False,fun _ h=>h,fun _ h=>h.elim⟩)
theorem Spec.ofSame{P:Program}{f:FuncId}{args:Array Value}{w:World}{H:Nat→Prop}{v:Value}(h:Calls P f args w fun e w'=>e= .returned v∧w'=w):Spec P f args w H (fun u A=>u=v∧A=[]):=
  Spec.ofBelow (Calls.mono h (fun e w' ⟨he,hw⟩=>⟨he,hw▸Below.refl _ _⟩))
theorem hasPre0_spec(w:World)(s p:Bs)(hs:s.length≤1000000):Spec Tryz.prog 224 #[Zi s,Zi p] w (fun _=>False) (fun v A=>v= .bool (decide (s.take p.length=p))∧A=[]):=by
  refine Zn Tryz.func224 Tryz.ntmps224 ?_
  ((refine Zt ?_<;>repeat' first|refine Z.p rfl ?_|refine Qf ?_)<;>(refine Zt ?_<;>repeat' first|refine Z.p rfl ?_|(refine Za 4 ?_;(refine Z.cs rfl (fun h1=>?_) (fun h1=>?_)))|(refine Za 9 ?_;(have h2:p.length≤s.length:=(by omega);refine XL.dt rfl (fun _ _ _ _=>D.cutH (l:=s) (h:=p.length) rfl rfl h2) ?_))|(refine Za 11 ?_;(refine Z.seq rfl rfl rfl (fun h3=>?_) (fun h3=>?_)))|refine Z.ln rfl rfl ?_|refine Z.lnL rfl rfl ?_|refine Z.lnS rfl rfl ?_|refine Z.pk rfl rfl rfl rfl ?_|refine Qf ?_)<;>(apply X.r1 Tryz.results224 (Qh rfl);(focus(first|exact⟨by rw [decide_eq_true h3],rfl⟩|exact⟨by rw [decide_eq_false h3],rfl⟩|exact⟨by rw [decide_eq_false (fun h=>by have:=congrArg List.length h;rw [List.length_take] at this;omega)],rfl⟩));exact Zd))
theorem hasPre_spec(w:World)(s p:Bs)(hs:s.length≤1000000):Spec Tryz.prog 164 #[Zi s,Zi p] w (fun _=>False) (fun v A=>v= .bool (decide (s.take p.length=p))∧A=[]):=by
  refine Zn Tryz.func164 Tryz.ntmps164 ?_
  ((refine Zt ?_<;>repeat' first|refine Z.p rfl ?_|refine Qf ?_)<;>(refine Zt ?_<;>repeat' first|refine Z.p rfl ?_|(refine Za 2 ?_;((refine XL.call rfl rfl rfl rfl (fun w hw=>hasPre0_spec w s p hs) (Zs ?_))))|refine Qf ?_)<;>(apply X.r1 Tryz.results164 (Qh rfl);(focus(exact⟨rfl,rfl⟩));exact Zd))
theorem fmtInt0_spec(w:World)(q:Int)(hq:seqOK q)(hT:Tab w (fun _=>False)):Spec Tryz.prog 232 #[Zj q,Zj 16] w (fun _=>False) (fun v A=>∃ k,1≤k∧k≤10∧q.toNat<16^k∧v= .string ⟨List.toArray (hexN k q.toNat)⟩∧A=[]):=by
  have hq1:=hq.1
  have hq2:=hq.2
  obtain⟨n,rfl⟩:∃ n:Nat,q=(n:Int):=⟨q.toNat,(Int.toNat_of_nonneg hq1).symm⟩
  rw [Int.toNat_natCast]
  refine Zn Tryz.func232 Tryz.ntmps232 ?_
  ((refine Zt ?_<;>repeat' first|refine Z.p rfl ?_|refine Qf ?_)<;>refine X.seq ?_<;>((refine Zt ?_<;>repeat' first|refine Z.p rfl ?_|(refine Za 1 ?_;(refine Z.cf rfl (by decide) ?_))|refine Qf ?_)<;>(first|(refine Zu ?_;refine X.seq ?_<;>((refine Zt ?_<;>repeat' first|refine Z.p rfl ?_|refine Z.ct rfl (by omega) ?_|refine Z.cf rfl (by omega) ?_|refine Z.cs rfl (fun _=>?_) (fun _=>?_)|refine Z.pk rfl rfl rfl rfl ?_|refine Qf ?_)<;>(first|(refine Zu ?_;(refine Zt ?_<;>repeat' first|refine Z.p rfl ?_|fail "op call"|refine Qf ?_)<;>(apply X.r1 Tryz.results232 (Qh rfl);(focus(exact⟨k,h1,h2,h3,rfl,rfl⟩));exact Zd))|refine Zm ?_))<;>(first|refine Ex.then ?_|refine N.next ?_<;>((refine Zt ?_<;>repeat' first|refine XL.alloc rfl rfl rfl (k:=fun g=>?_)|refine Qf ?_)<;>(refine Zt ?_<;>repeat' first|refine Z.p rfl ?_|refine Z.cv rfl rfl ?_|refine Qf ?_)<;>refine X.seq ?_<;>((refine Zt ?_<;>repeat' first|refine Z.p rfl ?_|refine Z.ct rfl (by omega) ?_|refine Z.cf rfl (by omega) ?_|refine Z.cs rfl (fun _=>?_) (fun _=>?_)|refine Qf ?_)<;>(first|(refine Zu ?_;refine Zx ?_<;>repeat' first|refine Z.p rfl ?_|refine XL.nil ?_)|refine Zm ?_))<;>(first|refine Ex.then ?_|refine N.next ?_<;>((refine Zt ?_<;>repeat' first|refine Z.p rfl ?_|fail "op call"|refine Qf ?_)<;>(refine Zt ?_<;>repeat' first|refine Z.p rfl ?_|refine Z.g rfl (by omega) ?_|refine Z.w rfl ?_|fail "op slice"|fail "op call"|refine Qf ?_)<;>refine X.seq ?_<;>((refine Zt ?_<;>repeat' first|refine Z.p rfl ?_|refine Z.ct rfl (by omega) ?_|refine Z.cf rfl (by omega) ?_|refine Z.cs rfl (fun _=>?_) (fun _=>?_)|refine Qf ?_)<;>(first|(refine Zu ?_;(refine Zt ?_<;>repeat' first|fail "op indexAddr"|refine Qj rfl rfl rfl rfl rfl ?_|refine Qk rfl rfl rfl rfl rfl rfl ?_|refine XL.storeP rfl rfl rfl rfl rfl rfl ?_|refine Qf ?_)<;>(refine Zt ?_<;>repeat' first|refine Z.p rfl ?_|refine Z.g rfl (by omega) ?_|refine Z.w rfl ?_|fail "op slice"|refine Z.cv rfl rfl ?_|refine Qf ?_)<;>(apply X.r1 Tryz.results232 (Qh rfl);(focus(exact⟨k,h1,h2,h3,rfl,rfl⟩));exact Zd))|refine Zm ?_))<;>(first|refine Ex.then ?_|refine N.next ?_<;>((refine Zt ?_<;>repeat' first|refine Z.p rfl ?_|refine Z.g rfl (by omega) ?_|refine Z.w rfl ?_|fail "op slice"|refine Z.cv rfl rfl ?_|refine Qf ?_)<;>(apply X.r1 Tryz.results232 (Qh rfl);(focus(exact⟨k,h1,h2,h3,rfl,rfl⟩));exact Zd))))))))|refine Zm ?_))<;>(first|refine Ex.then ?_|refine N.next ?_<;>((refine Zt ?_<;>repeat' first|refine Z.p rfl ?_|(refine Za 1 ?_;(refine XL.dt rfl (fun _ _ _ _=>D.convN (a:=n) rfl rfl) ?_;rw [show n%2^IntKind.u64.bits=n from Nat.mod_eq_of_lt (show n<18446744073709551616 by omega)]))|(refine Za 4 ?_;(refine Z.cf rfl (by omega) ?_))|(refine Za 5 ?_;((refine XL.call rfl rfl rfl rfl (fun w hw=>fmtBits_spec w n (by omega) (hT.now hw)) ?_;rintro v B' ⟨k,h1,h2,h3,rfl,rfl⟩;refine Qg ?_)))|refine Qf ?_)<;>(refine Zt ?_<;>repeat' first|refine Z.p rfl ?_|refine Qf ?_)<;>(apply X.r1 Tryz.results232 (Qh rfl);(focus(exact⟨k,h1,h2,h3,rfl,rfl⟩));exact Zd))))
theorem fmtInt_spec(w:World)(q:Int)(hq:seqOK q)(hT:Tab w (fun _=>False)):Spec Tryz.prog 181 #[Zj q,Zj 16] w (fun _=>False) (fun v A=>∃ k,1≤k∧k≤10∧q.toNat<16^k∧v= .string ⟨List.toArray (hexN k q.toNat)⟩∧A=[]):=by
  refine Zn Tryz.func181 Tryz.ntmps181 ?_
  ((refine Zt ?_<;>repeat' first|refine Z.p rfl ?_|refine Qf ?_)<;>(refine Zt ?_<;>repeat' first|refine Z.p rfl ?_|(refine Za 2 ?_;((refine XL.call rfl rfl rfl rfl (fun w hw=>fmtInt0_spec w q hq (hT.now hw)) ?_;rintro v B' ⟨k,h1,h2,h3,rfl,rfl⟩;refine Qg ?_)))|refine Qf ?_)<;>(apply X.r1 Tryz.results181 (Qh rfl);(focus(exact⟨k,h1,h2,h3,rfl,rfl⟩));exact Zd))
theorem repX:Builder.Extra Tryz.prog Tryz.repS_ren where
  sizeBuilder:=by kernel_rfl
  liesBuilder:=by kernel_rfl
  t5:=Tryz.repS.t5
  a5:=Tryz.repS.a5
  z5:=Tryz.repS.z5
  v5:=Tryz.repS.v5
  infoByte:=by kernel_rfl
  cellsByte:=by kernel_rfl
  sizeByte:=by kernel_rfl
  neB5:=by decide
theorem rep48:∀ c,Lib.repeatL [48] c=List.replicate c 48
  |0=>rfl
  |c+1=>by
    have ih:=rep48 c
    rw [List.replicate_succ,←ih];rfl
theorem rep_spec(w:World)(c:Nat)(hc:c≤1000):Spec Tryz.prog 182 #[.string ⟨List.toArray ([48])⟩,.int .i64 ((c:Nat):Int)] w (fun _=>False) (fun v A=>v= .string ⟨List.toArray (List.replicate c 48)⟩∧A=[]):=by
  have h:=Any.strings_Repeat Tryz.repS repX ⟨#[48]⟩ c w (by omega) (by show 1*c≤_;omega)
  rw [show Lib.repeatL (ByteArray.mk #[48]).data.toList c=List.replicate c 48 from rep48 c] at h
  exact Spec.ofBelow h
theorem trim_all{s cs:Bs}(h:∀ b∈s,b∈cs):Lib.trimS s cs=[]:=by
  have hall:∀ l:Bs,(∀ b∈l,b∈cs)→l.dropWhile (cs.contains ·)=[]:=fun l hl=>by
    induction l with
    |nil=>rfl
    |cons b l ih=>
      have:cs.contains b=true:=by simpa using hl b List.mem_cons_self
      rw [List.dropWhile_cons,if_pos this]
      exact ih (fun x hx=>hl x (List.mem_cons_of_mem _ hx))
  unfold Lib.trimS Lib.trimLeftS Lib.trimRightS
  rw [hall s.reverse (fun b hb=>h b (List.mem_reverse.1 hb))]
  rfl
theorem trim_spec(w:World)(s:Bs)(hs:s.length≤1000000)(h:∀ b∈s,b∈letB):Spec Tryz.prog 238 #[.string ⟨List.toArray s⟩,.string ⟨List.toArray ([97,98,99,100,101,102,103,104,105,106,107,108,109,110,111,112,113,114,115,116,117,118,119,120,121,122,48,49,50,51,52,53,54,55,56,57,46,45,95,47])⟩] w (fun _=>False) (fun v A=>v= .string ⟨List.toArray ([])⟩∧A=[]):=by
  have hc:=Any.strings_Trim_laid Tryz.trimS (by kernel_rfl) ⟨s.toArray⟩ ⟨letB.toArray⟩ w (by rw [str_size];omega) (by decide) (ascii_of_all (by decide))
  rw [show Lib.trimS (ByteArray.mk s.toArray).data.toList (ByteArray.mk letB.toArray).data.toList=[] from trim_all (fun b hb=>by simpa using h b (by simpa using hb))] at hc
  exact Spec.ofBelow hc
theorem named_spec(w:World)(s:Bs)(hs:s=[]∨(1≤s.length∧s.length≤64∧∀ b∈s,b∈letB)):Spec Tryz.prog 185 #[Zi s] w (fun _=>False) (fun v A=>v= .bool (decide (s≠[]))∧A=[]):=by
  refine Zn Tryz.func185 Tryz.ntmps185 ?_
  ((refine Zt ?_<;>repeat' first|refine Z.p rfl ?_|refine Qf ?_)<;>(refine Zt ?_<;>repeat' first|refine Z.p rfl ?_|(refine Za 1 ?_;((rcases hs with rfl|⟨h1,h2,h3⟩<;>first|refine Z.sne (l:=[]) (m:=[]) rfl rfl rfl (fun _=>?_) (fun h=>absurd rfl h)|(refine Z.sne (m:=[]) rfl rfl rfl (fun h=>absurd h (by rintro rfl;simp at h1)) (fun h0=>?_)))))|(refine Za 5 ?_;(first|refine Z.p rfl ?_|refine Z.ct rfl (by omega) ?_))|(refine Za 9 ?_;(first|refine Z.p rfl ?_|(refine XL.call rfl rfl rfl rfl (fun w hw=>trim_spec w s (by omega) h3) (Zs ?_))))|(refine Za 10 ?_;(first|refine Z.p rfl ?_|refine Z.seq (l:=[]) (m:=[]) rfl rfl rfl (fun _=>?_) (fun h=>absurd rfl h)))|refine Z.ln rfl rfl ?_|refine Z.lnL rfl rfl ?_|refine Z.lnS rfl rfl ?_|refine Z.pk rfl rfl rfl rfl ?_|refine Qf ?_)<;>(apply X.r1 Tryz.results185 (Qh rfl);(focus(first|exact⟨by rw [decide_eq_true h0],rfl⟩|exact⟨rfl,rfl⟩));exact Zd))
def prtE (v:Bs) (k q:Int):Int:=if VolOK v then if 1≤k∧k≤4 then if seqOK q then 0 else 31 else 14 else 1
noncomputable def prtT (v:Bs) (k q:Int):Bs:=if prtE v k q=0 then nmT v k q else []
theorem prtE_ok{v:Bs}{k q:Int}(h:prtE v k q=0):VolOK v∧(1≤k∧k≤4)∧seqOK q:=by
  unfold prtE at h
  split at h
  · rename_i h1
    split at h
    · rename_i h2
      split at h
      · rename_i h3;exact⟨h1,h2,h3⟩
      · omega
    · omega
  · omega
theorem prtT_ok(v:Bs)(k q:Int):prtT v k q=[]∨(1≤(prtT v k q).length∧(prtT v k q).length≤64∧∀ b∈prtT v k q,b∈letB):=by
  unfold prtT
  split
  · rename_i h
    obtain⟨h1,h2,h3⟩:=prtE_ok h
    have h4:=h1.2.2
    have h5:=nmT_len v k q
    exact .inr ⟨by omega,by omega,nmT_let h1 k q⟩
  · exact .inl rfl
theorem PrefixK_spec(w:World)(s:Bs)(k:Int)(hs:VolOK s)(hk: ¬(1≤k∧k≤4)):Spec Tryz.prog 90 #[Zi s,Zj k] w (fun _=>False) (fun v A=>v= .tuple #[.string ⟨List.toArray ([])⟩,Zj 14]∧A=[]):=by
  refine Zn Tryz.func90 Tryz.ntmps90 ?_
  ((refine Zt ?_<;>repeat' first|refine Z.p rfl ?_|refine Qf ?_)<;>refine X.seq ?_<;>(refine X.block ?_<;>((refine Zt ?_<;>repeat' first|refine Z.p rfl ?_|(refine Za 1 ?_;((refine XL.call rfl rfl rfl rfl (fun w hw=>Volume_spec s w) (Zs ?_));rw [if_pos hs]))|(refine Za 2 ?_;(refine Z.cf rfl (by decide) ?_))|refine Qf ?_)<;>(first|(refine Zu ?_;(refine Zt ?_<;>repeat' first|refine Z.p rfl ?_|refine Qf ?_)<;>(apply X.r2 Tryz.results90 (Qh rfl) (Qh rfl);(focus(exact⟨rfl,rfl⟩));exact Zd))|(refine Zf ?_;(refine Zt ?_<;>repeat' first|refine Z.p rfl ?_|(refine Za 1 ?_;(refine Z.cs rfl (fun h1=>?_) (fun h1=>?_)))|(refine Za 4 ?_;(first|refine Z.p rfl ?_|refine Z.ct rfl (by omega) ?_))|refine Z.pk rfl rfl rfl rfl ?_|refine Qf ?_)<;>(first|(refine Zu ?_;(refine Zt ?_<;>repeat' first|refine Z.p rfl ?_|refine Qf ?_)<;>(apply X.r2 Tryz.results90 (Qh rfl) (Qh rfl);(focus(exact⟨rfl,rfl⟩));exact Zd))|refine Zm ?_))))<;>(first|refine N.block ?_|refine Ql ?_|refine Ex.out rfl ?_))<;>(first|refine Ex.then ?_|refine N.next ?_<;>((refine Zt ?_<;>repeat' first|refine Z.p rfl ?_|refine Z.g rfl (by omega) ?_|refine Z.w rfl ?_|fail "op slice"|refine Qf ?_)<;>(apply X.r2 Tryz.results90 (Qh rfl) (Qh rfl);(focus(exact⟨rfl,rfl⟩));exact Zd))))
theorem PrefixV_spec(w:World)(s:Bs)(k:Int)(hs: ¬VolOK s):Spec Tryz.prog 90 #[Zi s,Zj k] w (fun _=>False) (fun v A=>v= .tuple #[.string ⟨List.toArray ([])⟩,Zj 1]∧A=[]):=by
  refine Zn Tryz.func90 Tryz.ntmps90 ?_
  ((refine Zt ?_<;>repeat' first|refine Z.p rfl ?_|refine Qf ?_)<;>refine X.seq ?_<;>(refine X.block ?_<;>((refine Zt ?_<;>repeat' first|refine Z.p rfl ?_|(refine Za 1 ?_;((refine XL.call rfl rfl rfl rfl (fun w hw=>Volume_spec s w) (Zs ?_));rw [if_neg hs]))|(refine Za 2 ?_;(refine Z.ct rfl (by decide) ?_))|refine Qf ?_)<;>(first|(refine Zu ?_;(refine Zt ?_<;>repeat' first|refine Z.p rfl ?_|refine Qf ?_)<;>(apply X.r2 Tryz.results90 (Qh rfl) (Qh rfl);(focus(exact⟨rfl,rfl⟩));exact Zd))|(refine Zf ?_;(refine Zt ?_<;>repeat' first|refine Z.p rfl ?_|refine Z.ct rfl (by omega) ?_|refine Z.cf rfl (by omega) ?_|refine Z.cs rfl (fun _=>?_) (fun _=>?_)|refine Z.pk rfl rfl rfl rfl ?_|refine Qf ?_)<;>(first|(refine Zu ?_;(refine Zt ?_<;>repeat' first|refine Z.p rfl ?_|refine Qf ?_)<;>(apply X.r2 Tryz.results90 (Qh rfl) (Qh rfl);(focus(exact⟨rfl,rfl⟩));exact Zd))|refine Zm ?_))))<;>(first|refine N.block ?_|refine Ql ?_|refine Ex.out rfl ?_))<;>(first|refine Ex.then ?_|refine N.next ?_<;>((refine Zt ?_<;>repeat' first|refine Z.p rfl ?_|refine Z.g rfl (by omega) ?_|refine Z.w rfl ?_|fail "op slice"|refine Qf ?_)<;>(apply X.r2 Tryz.results90 (Qh rfl) (Qh rfl);(focus(exact⟨rfl,rfl⟩));exact Zd))))
def pfxOK (s:Bs) (k:Int):Prop:=VolOK s∧1≤k∧k≤4
instance decPreOK (s:Bs) (k:Int):Decidable (pfxOK s k):=by unfold pfxOK;infer_instance
def pfxE (s:Bs) (k:Int):Int:=if VolOK s then if 1≤k∧k≤4 then 0 else 14 else 1
def pfxT (s:Bs) (k:Int):Bs:=if pfxOK s k then preB s k else []
theorem pfxE_ok{s:Bs}{k:Int}(h:pfxOK s k):pfxE s k=0:=by unfold pfxE;rw [if_pos h.1,if_pos h.2]
theorem pfxE_no{s:Bs}{k:Int}(h: ¬pfxOK s k):pfxE s k≠0:=by
  unfold pfxE
  split
  · rename_i h1
    rw [if_neg (fun h2=>h ⟨h1,h2⟩)];decide
  · decide
theorem PrefixB_spec(w:World)(s:Bs)(k:Int):Spec Tryz.prog 90 #[.string ⟨List.toArray s⟩,.int .i64 k] w (fun _=>False) (fun v A=>v= .tuple #[.string ⟨List.toArray (pfxT s k)⟩,.int .i64 (pfxE s k)]∧A=[]):=by
  unfold pfxE pfxT
  by_cases hs:VolOK s
  · by_cases hk:1≤k∧k≤4
    · rw [if_pos (show pfxOK s k from⟨hs,hk⟩),if_pos hs,if_pos hk]
      exact Prefix_spec w s k hs hk
    · rw [if_neg (fun h:pfxOK s k=>hk h.2),if_pos hs,if_neg hk]
      exact PrefixK_spec w s k hs hk
  · rw [if_neg (fun h:pfxOK s k=>hs h.1),if_neg hs]
    exact PrefixV_spec w s k hs
theorem prtE_pfx{s:Bs}{k q:Int}(h: ¬pfxOK s k):prtE s k q=pfxE s k∧prtT s k q=[]:=by
  have e:prtE s k q=pfxE s k:=by
    unfold prtE pfxE
    split
    · rename_i h1
      rw [if_neg (fun h2=>h ⟨h1,h2⟩),if_neg (fun h2=>h ⟨h1,h2⟩)]
    · rfl
  refine⟨e, ?_⟩
  unfold prtT
  rw [if_neg (by rw [e];exact pfxE_no h)]
theorem prtE_seq{s:Bs}{k q:Int}(h:pfxOK s k)(hq: ¬seqOK q):prtE s k q=31∧prtT s k q=[]:=by
  have e:prtE s k q=31:=by unfold prtE;rw [if_pos h.1,if_pos h.2,if_neg hq]
  refine⟨e, ?_⟩
  unfold prtT
  rw [if_neg (by rw [e];decide)]
theorem prtE_all{s:Bs}{k q:Int}(h:pfxOK s k)(hq:seqOK q):prtE s k q=0∧prtT s k q=nmT s k q:=by
  have e:prtE s k q=0:=by unfold prtE;rw [if_pos h.1,if_pos h.2,if_pos hq]
  refine⟨e, ?_⟩
  unfold prtT
  rw [if_pos e]
theorem PrintA_spec(w:World)(s:Bs)(k q:Int)(hp:pfxOK s k)(hq:seqOK q)(hT:Tab w (fun _=>False)):Spec Tryz.prog 102 #[.agg #[Zi s,Zj k,Zj q]] w (fun _=>False) (fun v A=>v= .tuple #[.string ⟨List.toArray (nmT s k q)⟩,Zj 0]∧A=[]):=by
  have hlen:=hp.1.2.2
  have hpl:=pre_len s k
  have hq1:=hq.1
  have hq2:=hq.2
  refine Zn Tryz.func102 Tryz.ntmps102 ?_
  ((refine Zt ?_<;>repeat' first|refine Z.p rfl ?_|(refine Za 0 ?_;(refine Qr rfl rfl rfl rfl (k:=fun g1=>?_)))|refine Qf ?_)<;>(refine Zt ?_<;>repeat' first|refine Z.p rfl ?_|(refine Za 4 ?_;((refine XL.call rfl rfl rfl rfl (fun w hw=>PrefixB_spec w s k) (Zs ?_));rw [pfxE_ok hp,show pfxT s k=preB s k from if_pos hp]))|refine Z.fa rfl rfl rfl ?_|refine Z.l1 rfl rfl rfl ?_|refine Z.lN rfl rfl rfl ?_|refine Z.lP rfl rfl rfl ?_|refine Qf ?_)<;>refine X.seq ?_<;>(refine X.block ?_<;>((refine Zt ?_<;>repeat' first|refine Z.p rfl ?_|(refine Za 1 ?_;(refine Z.cf rfl (by decide) ?_))|refine Qf ?_)<;>(first|(refine Zu ?_;(refine Zt ?_<;>repeat' first|refine Z.p rfl ?_|refine Qf ?_)<;>(apply X.r2 Tryz.results102 (Qh rfl) (Qh rfl);(focus(exact⟨by rw [List.append_assoc,←hexN_pad j q.toNat h3 (10-j),show 10-j+j=10 from(by omega)];rfl,rfl⟩));exact Zd))|(refine Zf ?_;(refine Zt ?_<;>repeat' first|refine Z.p rfl ?_|(refine Za 2 ?_;(refine Z.cf rfl (by omega) ?_))|(refine Za 6 ?_;(refine Z.cf rfl (by omega) ?_))|refine Z.fa rfl rfl rfl ?_|refine Z.l1 rfl rfl rfl ?_|refine Z.lN rfl rfl rfl ?_|refine Z.lP rfl rfl rfl ?_|refine Z.pk rfl rfl rfl rfl ?_|refine Qf ?_)<;>(first|(refine Zu ?_;(refine Zt ?_<;>repeat' first|refine Z.p rfl ?_|refine Qf ?_)<;>(apply X.r2 Tryz.results102 (Qh rfl) (Qh rfl);(focus(exact⟨by rw [List.append_assoc,←hexN_pad j q.toNat h3 (10-j),show 10-j+j=10 from(by omega)];rfl,rfl⟩));exact Zd))|refine Zm ?_))))<;>(first|refine N.block ?_|refine Ql ?_|refine Ex.out rfl ?_))<;>(first|refine Ex.then ?_|refine N.next ?_<;>((refine Zt ?_<;>repeat' first|refine Z.p rfl ?_|(refine Za 2 ?_;((refine XL.call rfl rfl rfl rfl (fun w hw=>fmtInt_spec w q hq (hT.now hw)) ?_;rintro v B' ⟨j,h1,h2,h3,rfl,rfl⟩;refine Qg ?_)))|refine Z.fa rfl rfl rfl ?_|refine Z.l1 rfl rfl rfl ?_|refine Z.lN rfl rfl rfl ?_|refine Z.lP rfl rfl rfl ?_|refine Qf ?_)<;>(refine Zt ?_<;>repeat' first|refine Z.p rfl ?_|(refine Za 2 ?_;(refine Z.lnL rfl rfl ?_;rw [hexN_len]))|(refine Za 3 ?_;(refine Z.g rfl (by omega) ?_;rw [show(10:Int)-((j:Nat):Int)=((10-j:Nat):Int) from(by omega)]))|(refine Za 4 ?_;((refine XL.call rfl rfl rfl rfl (fun w hw=>rep_spec w (10-j) (by omega)) (Zs ?_))))|(refine Za 5 ?_;((refine XL.dt rfl (fun _ _ _ _=>D.cat rfl rfl (by simp;omega)) ?_)))|(refine Za 7 ?_;((refine XL.dt rfl (fun _ _ _ _=>D.cat rfl rfl (by simp [hexN_len];omega)) ?_)))|refine Qf ?_)<;>(apply X.r2 Tryz.results102 (Qh rfl) (Qh rfl);(focus(exact⟨by rw [List.append_assoc,←hexN_pad j q.toNat h3 (10-j),show 10-j+j=10 from(by omega)];rfl,rfl⟩));exact Zd))))
theorem PrintR_spec(w:World)(s:Bs)(k q:Int)(hp:pfxOK s k)(hq: ¬seqOK q):Spec Tryz.prog 102 #[.agg #[Zi s,Zj k,Zj q]] w (fun _=>False) (fun v A=>v= .tuple #[.string ⟨List.toArray ([])⟩,Zj 31]∧A=[]):=by
  have hq0: ¬(0≤q∧q<1099511627776):=hq
  refine Zn Tryz.func102 Tryz.ntmps102 ?_
  ((refine Zt ?_<;>repeat' first|refine Z.p rfl ?_|(refine Za 0 ?_;(refine Qr rfl rfl rfl rfl (k:=fun g1=>?_)))|refine Qf ?_)<;>(refine Zt ?_<;>repeat' first|refine Z.p rfl ?_|(refine Za 4 ?_;((refine XL.call rfl rfl rfl rfl (fun w hw=>PrefixB_spec w s k) (Zs ?_));rw [pfxE_ok hp,show pfxT s k=preB s k from if_pos hp]))|refine Z.fa rfl rfl rfl ?_|refine Z.l1 rfl rfl rfl ?_|refine Z.lN rfl rfl rfl ?_|refine Z.lP rfl rfl rfl ?_|refine Qf ?_)<;>refine X.seq ?_<;>(refine X.block ?_<;>((refine Zt ?_<;>repeat' first|refine Z.p rfl ?_|(refine Za 1 ?_;(refine Z.cf rfl (by decide) ?_))|refine Qf ?_)<;>(first|(refine Zu ?_;(refine Zt ?_<;>repeat' first|refine Z.p rfl ?_|refine Qf ?_)<;>(apply X.r2 Tryz.results102 (Qh rfl) (Qh rfl);(focus(exact⟨rfl,rfl⟩));exact Zd))|(refine Zf ?_;(refine Zt ?_<;>repeat' first|refine Z.p rfl ?_|(refine Za 2 ?_;(refine Z.cs rfl (fun h1=>?_) (fun h1=>?_)))|(refine Za 6 ?_;(first|refine Z.p rfl ?_|refine Z.ct rfl (by omega) ?_))|refine Z.fa rfl rfl rfl ?_|refine Z.l1 rfl rfl rfl ?_|refine Z.lN rfl rfl rfl ?_|refine Z.lP rfl rfl rfl ?_|refine Z.pk rfl rfl rfl rfl ?_|refine Qf ?_)<;>(first|(refine Zu ?_;(refine Zt ?_<;>repeat' first|refine Z.p rfl ?_|refine Qf ?_)<;>(apply X.r2 Tryz.results102 (Qh rfl) (Qh rfl);(focus(exact⟨rfl,rfl⟩));exact Zd))|refine Zm ?_))))<;>(first|refine N.block ?_|refine Ql ?_|refine Ex.out rfl ?_))<;>(first|refine Ex.then ?_|refine N.next ?_<;>((refine Zt ?_<;>repeat' first|refine Z.p rfl ?_|refine Z.fa rfl rfl rfl ?_|refine Z.l1 rfl rfl rfl ?_|refine Z.lN rfl rfl rfl ?_|refine Z.lP rfl rfl rfl ?_|fail "op call"|refine Qf ?_)<;>(refine Zt ?_<;>repeat' first|refine Z.p rfl ?_|refine Z.ln rfl rfl ?_|refine Z.lnL rfl rfl ?_|refine Z.lnS rfl rfl ?_|refine Z.g rfl (by omega) ?_|refine Z.w rfl ?_|fail "op call"|refine Qf ?_)<;>(apply X.r2 Tryz.results102 (Qh rfl) (Qh rfl);(focus(exact⟨rfl,rfl⟩));exact Zd))))
theorem PrintN_spec(w:World)(s:Bs)(k q:Int)(hp: ¬pfxOK s k):Spec Tryz.prog 102 #[.agg #[Zi s,Zj k,Zj q]] w (fun _=>False) (fun v A=>v= .tuple #[.string ⟨List.toArray ([])⟩,Zj (pfxE s k)]∧A=[]):=by
  have hne:=pfxE_no hp
  refine Zn Tryz.func102 Tryz.ntmps102 ?_
  ((refine Zt ?_<;>repeat' first|refine Z.p rfl ?_|(refine Za 0 ?_;(refine Qr rfl rfl rfl rfl (k:=fun g1=>?_)))|refine Qf ?_)<;>(refine Zt ?_<;>repeat' first|refine Z.p rfl ?_|(refine Za 4 ?_;((refine XL.call rfl rfl rfl rfl (fun w hw=>PrefixB_spec w s k) (Zs ?_))))|refine Z.fa rfl rfl rfl ?_|refine Z.l1 rfl rfl rfl ?_|refine Z.lN rfl rfl rfl ?_|refine Z.lP rfl rfl rfl ?_|refine Qf ?_)<;>refine X.seq ?_<;>(refine X.block ?_<;>((refine Zt ?_<;>repeat' first|refine Z.p rfl ?_|(refine Za 1 ?_;(refine Z.ct rfl hne ?_))|refine Qf ?_)<;>(first|(refine Zu ?_;(refine Zt ?_<;>repeat' first|refine Z.p rfl ?_|refine Qf ?_)<;>(apply X.r2 Tryz.results102 (Qh rfl) (Qh rfl);(focus(exact⟨rfl,rfl⟩));exact Zd))|(refine Zf ?_;(refine Zt ?_<;>repeat' first|refine Z.p rfl ?_|refine Z.fa rfl rfl rfl ?_|refine Z.l1 rfl rfl rfl ?_|refine Z.lN rfl rfl rfl ?_|refine Z.lP rfl rfl rfl ?_|refine Z.ct rfl (by omega) ?_|refine Z.cf rfl (by omega) ?_|refine Z.cs rfl (fun _=>?_) (fun _=>?_)|refine Z.pk rfl rfl rfl rfl ?_|refine Qf ?_)<;>(first|(refine Zu ?_;(refine Zt ?_<;>repeat' first|refine Z.p rfl ?_|refine Qf ?_)<;>(apply X.r2 Tryz.results102 (Qh rfl) (Qh rfl);(focus(exact⟨rfl,rfl⟩));exact Zd))|refine Zm ?_))))<;>(first|refine N.block ?_|refine Ql ?_|refine Ex.out rfl ?_))<;>(first|refine Ex.then ?_|refine N.next ?_<;>((refine Zt ?_<;>repeat' first|refine Z.p rfl ?_|refine Z.fa rfl rfl rfl ?_|refine Z.l1 rfl rfl rfl ?_|refine Z.lN rfl rfl rfl ?_|refine Z.lP rfl rfl rfl ?_|fail "op call"|refine Qf ?_)<;>(refine Zt ?_<;>repeat' first|refine Z.p rfl ?_|refine Z.ln rfl rfl ?_|refine Z.lnL rfl rfl ?_|refine Z.lnS rfl rfl ?_|refine Z.g rfl (by omega) ?_|refine Z.w rfl ?_|fail "op call"|refine Qf ?_)<;>(apply X.r2 Tryz.results102 (Qh rfl) (Qh rfl);(focus(exact⟨rfl,rfl⟩));exact Zd))))
theorem Print_spec(w:World)(s:Bs)(k q:Int)(hT:Tab w (fun _=>False)):Spec Tryz.prog 102 #[.agg #[.string ⟨List.toArray s⟩,.int .i64 k,.int .i64 q]] w (fun _=>False) (fun v A=>v= .tuple #[.string ⟨List.toArray (prtT s k q)⟩,.int .i64 (prtE s k q)]∧A=[]):=by
  by_cases hp:pfxOK s k
  · by_cases hq:seqOK q
    · rw [(prtE_all hp hq).1,(prtE_all hp hq).2];exact PrintA_spec w s k q hp hq hT
    · rw [(prtE_seq hp hq).1,(prtE_seq hp hq).2];exact PrintR_spec w s k q hp hq
  · rw [(prtE_pfx (q:=q) hp).1,(prtE_pfx (q:=q) hp).2];exact PrintN_spec w s k q hp
end Go.Lx
namespace Go.Lx
open Go.Proofs Go.Shelf Go.Sort
structure NumRow (w:World) (H:Nat→Prop) (g n c T:Nat) (zs:List Int):Prop where
  len:zs.length=n
  holds:Holds (Value.int .i64) w g 0 zs.toArray
  lt:g<w.heap.size
  le:n≤c
  mx:c≤maxLen
  only:∀ b,H b↔b=g
  row:∃ cur:Array Value,w.heap[g]?=some (.cells cur T (0,0))∧cur.size=c*1
theorem num_row{w:World}{H:Nat→Prop}{g n c T:Nat}{zs:List Int}(hown:Sep [own T 1 (.slice (some ⟨g,0,none⟩) n c) n (encN zs)] w H):NumRow w H g n c T zs:=by
  obtain⟨F1,F2,⟨⟨hlen,ho⟩,hF1⟩,h2,_,hF⟩:=hown
  rcases ho with⟨he,_⟩|⟨g',cap,cur,he,_,hg,hnc,hcm,hcs,htake⟩
  · cases he
  cases he
  rw [encN_len,Nat.mul_one] at hlen
  refine⟨hlen, ?_,(Array.getElem?_eq_some_iff.1 hg).1,hnc,hcm,fun b=>?_,cur,hg,hcs⟩
  · intro j hj
    have hj':j<zs.length:=by simpa using hj
    have e:cur.toList[j]?=some (.int .i64 zs[j]):=by
      have h3:(cur.toList.take (n*1))[j]?=(encN zs)[j]?:=by rw [htake]
      rw [List.getElem?_take,if_pos (by omega),encN_get,List.getElem?_eq_getElem hj'] at h3
      exact h3
    constructor
    · simp only [World.cell?,hg,Nat.zero_add]
      simp [hj'] at e ⊢
      exact e
    · simp [World.frozen?,hg]
  · rw [hF b,hF1 b]
    have:=h2 b
    simp [this,Value.ownBlock,eq_comm]
theorem num_put{P:Program}{w:World}{H:Nat→Prop}{g n c T k:Nat}{zs ds:List Int}(h:NumRow w H g n c T zs)(hd:ds.length=n)(hk:k≤n)(m:Nat)(os:Array Obj):
    Conf ⟨P,0,w,H⟩ [own T 1 (.slice (some ⟨g,0,none⟩) k c) k (encN (ds.take k))] (Sort.grow (putRow (Value.int .i64) (Sort.ahead w m) g 0 ds.toArray) os):=by
  obtain⟨cur,hg,hcs⟩:=h.row
  have hgw:=h.lt
  have hle:=h.le
  have hcell:(Sort.grow (putRow (Value.int .i64) (Sort.ahead w m) g 0 ds.toArray) os).heap[g]?=some (.cells (putCells (Value.int .i64) 0 ds.toArray cur) T (0,0)):=by
    have hm:(putRow (Value.int .i64) (Sort.ahead w m) g 0 ds.toArray).heap[g]?=some (.cells (putCells (Value.int .i64) 0 ds.toArray cur) T (0,0)):=by
      simp only [putRow,mapBlock,Sort.ahead,Array.getElem?_modify,if_true,hg,Option.map_some,onCells]
    show((putRow (Value.int .i64) (Sort.ahead w m) g 0 ds.toArray).heap++os)[g]?=_
    rw [Array.getElem?_append_left (by simp only [putRow,mapBlock,Sort.ahead,Array.size_modify];exact hgw)]
    exact hm
  refine⟨rfl,rfl,rfl, ?_, ?_, ?_,⟨fun b=>b=g,⟨fun b=>b=g,fun _=>False,⟨⟨?_,.inr ⟨g,c,_,rfl,Nat.zero_le _,hcell,by omega,h.mx, ?_, ?_⟩⟩, ?_⟩,fun _ h=>h,fun _ _ h=>h,fun b=>by simp⟩,fun b hb=> .inl ((h.only b).2 hb)⟩⟩
  · show w.heap.size≤((putRow (Value.int .i64) (Sort.ahead w m) g 0 ds.toArray).heap++os).size
    simp only [Array.size_append,putRow,mapBlock,Sort.ahead,Array.size_modify]
    omega
  · exact trivial
  · intro b hb hHb
    have hbg:b≠g:=fun e=>hHb ((h.only b).2 e)
    show((putRow (Value.int .i64) (Sort.ahead w m) g 0 ds.toArray).heap++os)[b]?=_
    rw [Array.getElem?_append_left (by simp only [putRow,mapBlock,Sort.ahead,Array.size_modify];exact hb)]
    simp only [putRow,mapBlock,Sort.ahead,Array.getElem?_modify,if_neg (Ne.symm hbg)]
  · rw [encN_len,List.length_take];omega
  · simpa [putCells] using hcs
  · apply List.ext_getElem?
    intro t
    rw [List.getElem?_take,encN_get,List.getElem?_take]
    by_cases ht:t<k
    · have hq:t<cur.size:=by omega
      have hq2:t<ds.length:=by omega
      rw [if_pos (by omega),if_pos ht]
      simp only [Array.getElem?_toList,putCells,Array.getElem?_mapIdx,Nat.zero_le,Nat.zero_add,true_and,Nat.sub_zero]
      rw [Array.getElem?_eq_getElem hq,List.getElem?_eq_getElem hq2]
      simp [hq2]
    · rw [if_neg (by omega),if_neg ht];rfl
  · intro b
    simp [Value.ownBlock,eq_comm]
theorem sortIM_row{P:Program}{ρ:Ren}(L:SlLaysM.n5 P ρ)(w:World)(H:Nat→Prop)(a:Option Addr)(n c T:Nat)(zs:List Int)(hown:Sep [own T 1 (.slice a n c) n (encN zs)] w H)(hlt:n<4611686018427387904):
    Spec P (ρ.f 5) #[.slice a n c] w H (fun v A=>∃ ds:List Int,v= .tuple #[]∧ds.Perm zs∧ds.Pairwise (· ≤ ·)∧A=[own T 1 (.slice a n c) n (encN ds)]):=by
  have hown':=hown
  obtain⟨F1,F2,⟨⟨hlen,ho⟩,hF1⟩,h2,_,hF⟩:=hown
  rcases ho with⟨he,hn0⟩|⟨g,cap,cur,he,_⟩
  · cases he
    have hzs:zs=[]:=by
      have:(encN zs).length=0:=by simpa using hlen
      rw [encN_len] at this
      exact List.length_eq_zero_iff.1 this
    subst hzs
    have hH:H=fun _=>False:=by
      funext b
      have:=h2 b
      have:=hF b
      simp [hF1 b,Value.ownBlock] at this
      simp_all
    subst hH
    refine Calls.mono (AnyM.slices_Sort_int_none L none 0 w) ?_
    rintro e w' ⟨rfl,rfl⟩
    exact⟨_,_,rfl,⟨[],rfl,List.Perm.refl _,List.Pairwise.nil,rfl⟩,(Conf.start (n:=0) (A:=[]) (w:=w') (fun _ h=>h)).nilOwn T 1⟩
  · cases he
    have hr:=num_row hown'
    have hl:=hr.len
    subst hl
    refine Calls.mono (AnyM.slices_Sort_int L g 0 c zs w hr.holds hr.lt hlt) ?_
    rintro e w' ⟨rfl,m,os,rfl⟩
    have hp:=List.mergeSort_perm zs (fun x y=>decide (x≤y))
    have hput:=num_put (P:=P) hr (ds:=zs.mergeSort fun x y=>decide (x≤y)) hp.length_eq (Nat.le_refl _) m os
    rw [List.take_of_length_le (by rw [hp.length_eq];exact Nat.le_refl _)] at hput
    refine⟨_,_,rfl,⟨_,rfl,hp, ?_,rfl⟩,hput⟩
    have:=List.pairwise_mergeSort (le:=fun x y:Int=>decide (x≤y)) (by intro a b c h1 h2;simp at h1 h2 ⊢;omega) (by intro a b;simp;omega) zs
    exact this.imp (fun h=>by simpa using h)
end Go.Lx
