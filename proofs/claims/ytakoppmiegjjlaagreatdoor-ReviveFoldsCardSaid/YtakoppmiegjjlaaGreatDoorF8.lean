import Derived.Test.YtakoppmiegjjlaaGreatDoorF6
import Derived.Test.YtakoppmiegjjlaaGreatDoorF7
import Derived.Test.YtakoppmiegjjlaaGreatDoorF4
set_option linter.unusedVariables false
set_option linter.unusedSimpArgs false
set_option maxRecDepth 20000
set_option maxHeartbeats 4000000
namespace Go.Lx
open Go.Proofs
def NoMap (w:World) (g:Nat):Prop:=∃ (es:Array MapEntry) (clock:Nat),w.heap[g]?=some (.map es clock)∧es.toList=[]
theorem NoMap.conf0{P:Program}{m:Kd}{w0 w:World}{A:List Assn}{g:Nat}(h:NoMap w0 g)(hw:Conf ⟨P,m,w0,fun _=>False⟩ A w):NoMap w g:=by
  obtain⟨es,clock,h1,h2⟩:=h
  exact⟨es,clock,(hw.keep g (Array.getElem?_eq_some_iff.1 h1).1 (fun h=>h)).trans h1,h2⟩
theorem Conf.noMap{C:Cx}{A:List Assn}{w:World}{g i:Nat}{f:Bs→Value} [h:MapTAt A g Bs f [] i](hc:Conf C A w):NoMap w g:=by
  obtain⟨es,clock,h1,h2,_⟩:=hc.mapTAt (g:=g)
  exact⟨es,clock,h1,by simpa using h2⟩
def kindB (k:Int):Bs:=if k=1 then [100] else if k=2 then [99] else if k=3 then [109] else [101]
def preB (v:Bs) (k:Int):Bs:=((v++[47])++kindB k)++[47]
theorem kind_len(k:Int):(kindB k).length=1:=by
  unfold kindB
  split
  · rfl
  · split
    · rfl
    · split<;>rfl
theorem kind_cut{k:Int}(h:1≤k∧k≤4):(([45,100,99,109,101]:Bs).drop k.toNat).take (k.toNat+1-k.toNat)=kindB k:=by
  rcases(by omega:k=1∨k=2∨k=3∨k=4) with rfl|rfl|rfl|rfl<;>rfl
theorem bkNew_spec(w:World)(q:Int)(h:0≤q):Spec Tryz.prog 8 #[Zj q] w (fun _=>False) (fun v A=>∃ g gm,v= .tuple #[.pointer (some ⟨g,0,none⟩),Zj 0]∧A=[cells g [.map (some gm),Zj q,Zj 0,Zl,Zl] 110,mapT tk gm []]):=by
  refine Zn Tryz.func8 Tryz.ntmps8 ?_
  ((refine Zt ?_<;>repeat' first|refine Z.p rfl ?_|refine Qf ?_)<;>refine X.seq ?_<;>((refine Zt ?_<;>repeat' first|refine Z.p rfl ?_|(refine Za 1 ?_;(refine Z.cf rfl (by omega) ?_))|refine Qf ?_)<;>(first|(refine Zu ?_;(refine Zt ?_<;>repeat' first|refine Z.p rfl ?_|refine Qf ?_)<;>(apply X.r2 Tryz.results8 (Qh rfl) (Qh rfl);(focus(exact⟨g,gm,rfl,rfl⟩));exact Zd))|refine Zm ?_))<;>(first|refine Ex.then ?_|refine N.next ?_<;>((refine Zt ?_<;>repeat' first|refine Z.p rfl ?_|(refine Za 0 ?_;(refine XL.makeMapT tk rfl rfl rfl (fun _=>by infer_instance) (fun gm=>?_)))|(refine Za 3 ?_;(refine Qr rfl rfl rfl rfl (k:=fun g=>?_)))|refine Z.bd rfl rfl ?_|refine Qf ?_)<;>(apply X.r2 Tryz.results8 (Qh rfl) (Qh rfl);(focus(exact⟨g,gm,rfl,rfl⟩));exact Zd))))
theorem bkNext0_spec(w:World)(g:Nat)(h3:w.cell? ⟨g,3,none⟩=some (Zl)):Spec Tryz.prog 186 #[.pointer (some ⟨g,0,none⟩)] w (fun _=>False) (fun v A=>v=Zj 0∧A=[]):=by
  refine Zn Tryz.func186 Tryz.ntmps186 ?_
  ((refine Zt ?_<;>repeat' first|refine Z.p rfl ?_|refine Qf ?_)<;>refine X.seq ?_<;>((refine Zt ?_<;>repeat' first|refine Z.p rfl ?_|(refine Za 3 ?_;(refine Z.la rfl rfl (fun w hw=>hw.cell0 h3 (fun h=>h)) ?_))|(refine Za 5 ?_;(refine Z.ct rfl (by decide) ?_))|refine Z.fa rfl rfl rfl ?_|refine Z.ln rfl rfl ?_|refine Z.lnL rfl rfl ?_|refine Z.lnS rfl rfl ?_|refine Qf ?_)<;>(first|(refine Zu ?_;(refine Zt ?_<;>repeat' first|refine Z.p rfl ?_|refine Qf ?_)<;>(apply X.r1 Tryz.results186 (Qh rfl);(focus(exact⟨rfl,rfl⟩));exact Zd))|refine Zm ?_))<;>(first|refine Ex.then ?_|refine N.next ?_<;>((refine Zt ?_<;>repeat' first|refine Z.p rfl ?_|refine Z.fa rfl rfl rfl ?_|refine Z.l1 rfl rfl rfl ?_|refine Z.lN rfl rfl rfl ?_|refine Z.lP rfl rfl rfl ?_|fail "op indexAddr"|refine Qf ?_)<;>(refine Zt ?_<;>repeat' first|refine Z.p rfl ?_|refine Z.fa rfl rfl rfl ?_|refine Z.l1 rfl rfl rfl ?_|refine Z.lN rfl rfl rfl ?_|refine Z.lP rfl rfl rfl ?_|fail "op slice"|refine Qj rfl rfl rfl rfl rfl ?_|refine Qk rfl rfl rfl rfl rfl rfl ?_|refine XL.storeP rfl rfl rfl rfl rfl rfl ?_|refine Qf ?_)<;>(refine Zt ?_<;>repeat' first|refine Z.p rfl ?_|refine Z.rem rfl rfl rfl (by omega) ?_|refine Z.g rfl (by omega) ?_|refine Z.w rfl ?_|refine Qf ?_)<;>(apply X.r1 Tryz.results186 (Qh rfl);(focus(exact⟨rfl,rfl⟩));exact Zd))))
theorem bkFails0_spec(w:World)(g:Nat)(h3:w.cell? ⟨g,3,none⟩=some (Zl)):Spec Tryz.prog 163 #[.pointer (some ⟨g,0,none⟩)] w (fun _=>False) (fun v A=>v= .bool false∧A=[]):=by
  refine Zn Tryz.func163 Tryz.ntmps163 ?_
  ((refine Zt ?_<;>repeat' first|refine Z.p rfl ?_|refine Qf ?_)<;>(refine Zt ?_<;>repeat' first|refine Z.p rfl ?_|(refine Za 1 ?_;((refine XL.call rfl rfl rfl rfl (fun w hw=>bkNext0_spec w g (hw.cell0 h3 (fun h=>h))) (Zs ?_))))|(refine Za 2 ?_;(refine Z.cf rfl (by decide) ?_))|refine Qf ?_)<;>(apply X.r1 Tryz.results163 (Qh rfl);(focus(exact⟨rfl,rfl⟩));exact Zd))
theorem KeysT_spec(w:World)(gm:Nat):Spec Tryz.prog 63 #[.map (some gm)] w (fun _=>False) (fun v A=>∃ gk,v= .func (.func 126) #[] #[.pointer (some ⟨gk,0,none⟩)]∧A=[cells gk [.map (some gm)] 107]):=by
  refine Zn Tryz.func63 Tryz.ntmps63 ?_
  ((refine Zt ?_<;>repeat' first|refine Z.p rfl ?_|(refine Za 0 ?_;(refine XL.box1 rfl rfl rfl rfl rfl (k:=fun gk=>?_)))|refine Qf ?_)<;>(refine Zt ?_<;>repeat' first|refine Z.p rfl ?_|refine Z.mf rfl rfl rfl ?_|refine Qf ?_)<;>(apply X.r1 Tryz.results63 (Qh rfl);(focus(exact⟨gk,rfl,rfl⟩));exact Zd))
theorem SortedT0_spec(w:World)(H:Nat→Prop)(g gm:Nat)(hc:w.cell? ⟨g,0,none⟩=some (.map (some gm)))(hm:NoMap w gm):Spec Tryz.prog 62 #[.func (.func 126) #[] #[.pointer (some ⟨g,0,none⟩)]] w H (fun v A=>v= .slice none 0 0∧A=[]):=by
  obtain⟨es,clock,hb,hes⟩:=hm
  exact sortedNone_row (ρ1:=Tryz.keysT_ren) (ρ2:=Tryz.sortedT_ren) (ρ3:=Tryz.sortT_ren) {Tryz.keysT with} Tryz.sortedT Tryz.sortT rfl (fun args w=>(Enters.run (P:=Tryz.prog) (f:=125) args w)) w H g gm hc hb hes
theorem bkNames0_spec(w:World)(g gm:Nat)(h0:w.cell? ⟨g,0,none⟩=some (.map (some gm)))(hm:NoMap w gm):Spec Tryz.prog 25 #[.pointer (some ⟨g,0,none⟩)] w (fun _=>False) (fun v A=>v=Zl∧A=[]):=by
  refine Zn Tryz.func25 Tryz.ntmps25 ?_
  ((refine Zt ?_<;>repeat' first|refine Z.p rfl ?_|refine Qf ?_)<;>refine X.seq ?_<;>((refine Zt ?_<;>repeat' first|refine Z.p rfl ?_|(refine Za 1 ?_;(refine Z.eqP rfl rfl rfl ?_))|refine Qf ?_)<;>(first|(refine Zu ?_;(refine Zt ?_<;>repeat' first|refine Z.p rfl ?_|refine Qf ?_)<;>(apply X.r1 Tryz.results25 (Qh rfl);(focus(exact⟨rfl,rfl⟩));exact Zd))|refine Zm ?_))<;>(first|refine Ex.then ?_|refine N.next ?_<;>((refine Zt ?_<;>repeat' first|refine Z.p rfl ?_|(refine Za 3 ?_;(refine Z.la rfl rfl (fun w hw=>hw.cell0 h0 (fun h=>h)) ?_))|(refine Za 4 ?_;((refine XL.call rfl rfl rfl rfl (fun w hw=>KeysT_spec w gm) ?_;rintro v B' ⟨gk,rfl,rfl⟩;refine Qg ?_)))|(refine Za 5 ?_;((refine XL.call rfl rfl rfl rfl (fun w hw=>SortedT0_spec w _ gk gm (hw.cellAt (g:=gk) (o:=0) Loc.at_ rfl) (hm.conf0 hw)) ?_;rintro v B' ⟨rfl,rfl⟩;refine Qg ?_)))|refine Z.fa rfl rfl rfl ?_|refine Qf ?_)<;>(apply X.r1 Tryz.results25 (Qh rfl);(focus(exact⟨rfl,rfl⟩));exact Zd))))
theorem bkList0_spec(w:World)(g gm:Nat)(s:Bs)(h0:w.cell? ⟨g,0,none⟩=some (.map (some gm)))(h3:w.cell? ⟨g,3,none⟩=some (Zl))(hm:NoMap w gm):Spec Tryz.prog 91 #[.pointer (some ⟨g,0,none⟩),Zi s] w (fun _=>False) (fun v A=>v= .tuple #[Zl,Zj 0]∧A=[]):=by
  refine Zn Tryz.func91 Tryz.ntmps91 ?_
  ((refine Zt ?_<;>repeat' first|refine Z.p rfl ?_|refine Qf ?_)<;>refine X.seq ?_<;>(refine X.block ?_<;>((refine Zt ?_<;>repeat' first|refine Z.p rfl ?_|(refine Za 1 ?_;(refine Z.eqP rfl rfl rfl ?_))|refine Qf ?_)<;>(first|(refine Zu ?_;(refine Zt ?_<;>repeat' first|refine Z.p rfl ?_|refine Qf ?_)<;>(apply X.r2 Tryz.results91 (Qh rfl) (Qh rfl);(focus(exact⟨rfl,rfl⟩));exact Zd))|(refine Zf ?_;(refine Zt ?_<;>repeat' first|refine Z.p rfl ?_|(refine Za 1 ?_;((refine XL.call rfl rfl rfl rfl (fun w hw=>bkFails0_spec w g (hw.cell0 h3 (fun h=>h))) (Zs ?_))))|refine Qf ?_)<;>(first|(refine Zu ?_;(refine Zt ?_<;>repeat' first|refine Z.p rfl ?_|refine Qf ?_)<;>(apply X.r2 Tryz.results91 (Qh rfl) (Qh rfl);(focus(exact⟨rfl,rfl⟩));exact Zd))|refine Zm ?_))))<;>(first|refine N.block ?_|refine Ql ?_|refine Ex.out rfl ?_))<;>(first|refine Ex.then ?_|refine N.next ?_<;>((refine Zt ?_<;>repeat' first|refine Z.p rfl ?_|refine Qf ?_)<;>refine X.seq ?_<;>((refine Zt ?_<;>repeat' first|refine Z.p rfl ?_|(refine Za 1 ?_;((refine XL.call rfl rfl rfl rfl (fun w hw=>bkNames0_spec w g gm (hw.cell0 h0 (fun h=>h)) (hm.conf0 hw)) (Zs ?_))))|refine Z.ln rfl rfl ?_|refine Z.lnL rfl rfl ?_|refine Z.lnS rfl rfl ?_|refine Qf ?_)<;>refine X.block ?_<;>((refine Qs (ι:=Nat) (fun i=>[(6,Zl),(17,Zj 0),(18,Zj 0)]) (fun _=>[]) (fun i=>True) (fun i=>0) (0) ?_ Zb Zd ?_;(focus(trivial));rintro i hi)<;>((refine Zt ?_<;>repeat' first|(refine Za 0 ?_;(refine Z.cf rfl (by decide) ?_))|refine Qf ?_)<;>refine X.seq ?_<;>((first|refine Zp ?_|refine Zq ?_))<;>(first|refine Ex.then ?_|refine N.next ?_<;>(refine X.seq ?_<;>(refine X.block ?_<;>((refine Zt ?_<;>repeat' first|refine Z.p rfl ?_|fail "op indexAddr"|refine Z.l1 rfl rfl rfl ?_|refine Z.lN rfl rfl rfl ?_|refine Z.lP rfl rfl rfl ?_|refine Qf ?_)<;>(refine Zt ?_<;>repeat' first|refine Z.p rfl ?_|fail "op call"|refine Qf ?_)<;>(first|(refine Zu ?_;refine Zx ?_<;>repeat' first|refine Z.p rfl ?_|refine XL.slice1 rfl rfl rfl rfl rfl rfl (by intro g;infer_instance) (fun g_=>?_)|(refine XL.append rfl rfl rfl rfl rfl rfl ?_ ?_ (fun a' c'=>?_);(focus(unfold maxLen;omega));(focus(intro _ _;infer_instance)))|refine XL.nil ?_)|refine Zm ?_))<;>(first|refine N.block ?_|refine Ql ?_|refine Ex.out rfl ?_))<;>(first|refine Ex.then ?_|refine N.next ?_<;>(refine Zx ?_<;>repeat' first|refine Z.p rfl ?_|refine Z.g rfl (by omega) ?_|refine Z.w rfl ?_|refine XL.nil ?_)))))<;>(first|refine Ex.then ?_|((refine Qp (0) ?_ ?_ Zb Zd;(focus(trivial));(focus(first|omega|(dsimp only;omega)))))))<;>(first|refine N.block ?_|refine Ql ?_|refine Ex.out rfl ?_))<;>(first|refine Ex.then ?_|refine N.next ?_<;>((refine Zt ?_<;>repeat' first|refine Z.p rfl ?_|refine Qf ?_)<;>(apply X.r2 Tryz.results91 (Qh rfl) (Qh rfl);(focus(exact⟨rfl,rfl⟩));exact Zd))))))
theorem Prefix_spec(w:World)(s:Bs)(k:Int)(hs:VolOK s)(hk:1≤k∧k≤4):Spec Tryz.prog 90 #[Zi s,Zj k] w (fun _=>False) (fun v A=>v= .tuple #[.string ⟨List.toArray (preB s k)⟩,Zj 0]∧A=[]):=by
  have hl:=hs.2.2
  refine Zn Tryz.func90 Tryz.ntmps90 ?_
  ((refine Zt ?_<;>repeat' first|refine Z.p rfl ?_|refine Qf ?_)<;>refine X.seq ?_<;>(refine X.block ?_<;>((refine Zt ?_<;>repeat' first|refine Z.p rfl ?_|(refine Za 1 ?_;((refine XL.call rfl rfl rfl rfl (fun w hw=>Volume_spec s w) (Zs ?_));rw [if_pos hs]))|(refine Za 2 ?_;(refine Z.cf rfl (by decide) ?_))|refine Qf ?_)<;>(first|(refine Zu ?_;(refine Zt ?_<;>repeat' first|refine Z.p rfl ?_|refine Qf ?_)<;>(apply X.r2 Tryz.results90 (Qh rfl) (Qh rfl);(focus(exact⟨rfl,rfl⟩));exact Zd))|(refine Zf ?_;(refine Zt ?_<;>repeat' first|refine Z.p rfl ?_|(refine Za 1 ?_;(refine Z.cf rfl (by omega) ?_))|(refine Za 4 ?_;(refine Z.cf rfl (by omega) ?_))|refine Z.pk rfl rfl rfl rfl ?_|refine Qf ?_)<;>(first|(refine Zu ?_;(refine Zt ?_<;>repeat' first|refine Z.p rfl ?_|refine Qf ?_)<;>(apply X.r2 Tryz.results90 (Qh rfl) (Qh rfl);(focus(exact⟨rfl,rfl⟩));exact Zd))|refine Zm ?_))))<;>(first|refine N.block ?_|refine Ql ?_|refine Ex.out rfl ?_))<;>(first|refine Ex.then ?_|refine N.next ?_<;>((refine Zt ?_<;>repeat' first|refine Z.p rfl ?_|(refine Za 1 ?_;((refine XL.dt rfl (fun ty pos af gd=>D.cat (m:=[47]) rfl rfl (by simp;omega)) ?_)))|(refine Za 4 ?_;(refine Z.g rfl (by omega) ?_))|(refine Za 5 ?_;((refine XL.dt rfl (fun ty pos af gd=>D.cutLH (l:=[45,100,99,109,101]) (a:=k.toNat) (h:=k.toNat+1) rfl rfl rfl (by omega) (by omega) (by simp;omega)) ?_);rw [kind_cut hk]))|(refine Za 6 ?_;((refine XL.dt rfl (fun ty pos af gd=>D.cat rfl rfl (by have:=kind_len k;simp;omega)) ?_)))|(refine Za 7 ?_;((refine XL.dt rfl (fun ty pos af gd=>D.cat (m:=[47]) rfl rfl (by have:=kind_len k;simp;omega)) ?_)))|refine Qf ?_)<;>(apply X.r2 Tryz.results90 (Qh rfl) (Qh rfl);(focus(exact⟨rfl,rfl⟩));exact Zd))))
end Go.Lx
namespace Go.Lx
def hexD (d:Nat):UInt8:=if d≤9 then UInt8.ofNat (48+d) else UInt8.ofNat (87+d)
def hexN:Nat→Nat→List UInt8
  |0,_=>[]
  |k+1,n=>hexN k (n/16)++[hexD (n%16)]
theorem hexN_len:∀ (k n:Nat),(hexN k n).length=k
  |0,_=>rfl
  |k+1,n=>by simp [hexN,hexN_len k]
theorem hexN_front:∀ (k n:Nat),hexN (k+1) n=hexD (n/16^k%16)::hexN k n
  |0,n=>by simp [hexN]
  |k+1,n=>by
    rw [hexN,hexN_front k (n/16),hexN,Nat.div_div_eq_div_mul,Nat.pow_succ,Nat.mul_comm 16]
    rfl
theorem hexN_zero:∀ k:Nat,hexN k 0=List.replicate k 48
  |0=>rfl
  |k+1=>by rw [hexN_front,hexN_zero k];simp [hexD,List.replicate_succ]
theorem hexN_pad(k:Nat)(n:Nat)(h:n<16^k):∀ j,hexN (j+k) n=List.replicate j 48++hexN k n
  |0=>by simp
  |j+1=>by
    have h1:n<16^(j+k):=Nat.lt_of_lt_of_le h (Nat.pow_le_pow_right (by decide) (by omega))
    rw [show j+1+k=(j+k)+1 from by omega,hexN_front,hexN_pad k n h j,Nat.div_eq_of_lt h1,List.replicate_succ]
    rfl
theorem hexD_nat{d:Nat}(h:d<16):(hexD d).toNat=if d≤9 then 48+d else 87+d:=by
  unfold hexD
  split
  · rw [UInt8.toNat_ofNat'];omega
  · rw [UInt8.toNat_ofNat'];omega
theorem hexD_inj{a b:Nat}(ha:a<16)(hb:b<16)(h:hexD a=hexD b):a=b:=by
  have:=congrArg UInt8.toNat h
  rw [hexD_nat ha,hexD_nat hb] at this
  split at this<;>split at this<;>omega
theorem hexD_lt{a b:Nat}(hb:b<16)(h:a<b):hexD a<hexD b:=by
  rw [UInt8.lt_iff_toNat_lt,hexD_nat (by omega),hexD_nat hb]
  split<;>split<;>omega
theorem hexN_inj:∀ (k:Nat) {n m:Nat},n<16^k→m<16^k→hexN k n=hexN k m→n=m
  |0,n,m,hn,hm,_=>by simp at hn hm;omega
  |k+1,n,m,hn,hm,h=>by
    simp only [hexN] at h
    have h1:=List.append_inj' h rfl
    rw [Nat.pow_succ] at hn hm
    have h2:=hexN_inj k (n:=n/16) (m:=m/16) (Nat.div_lt_of_lt_mul (by omega)) (Nat.div_lt_of_lt_mul (by omega)) h1.1
    have h3:=hexD_inj (Nat.mod_lt _ (by decide)) (Nat.mod_lt _ (by decide)) (by simpa using h1.2)
    omega
theorem hexN_lt:∀ (k:Nat) {n m:Nat},m<16^k→n<m→hexN k n<hexN k m
  |0,n,m,hm,h=>by simp at hm;omega
  |k+1,n,m,hm,h=>by
    rw [hexN_front,hexN_front]
    have hp:0<16^k:=Nat.pow_pos (by decide)
    rw [Nat.pow_succ] at hm
    have hm1:m/16^k<16:=Nat.div_lt_of_lt_mul hm
    have hle:n/16^k≤m/16^k:=Nat.div_le_div_right (by omega)
    rw [Nat.mod_eq_of_lt hm1,Nat.mod_eq_of_lt (by omega:n/16^k<16)]
    rcases Nat.lt_or_eq_of_le hle with h1|h1
    · exact List.Lex.rel (hexD_lt hm1 h1)
    · rw [h1]
      refine List.Lex.cons ?_
      have e1:=Nat.div_add_mod n (16^k)
      have e2:=Nat.div_add_mod m (16^k)
      rw [h1] at e1
      have h3:n%16^k<m%16^k:=by omega
      have h4:=hexN_lt k (Nat.mod_lt m hp) h3
      have hmod:∀ (j a:Nat),hexN j (a%16^j)=hexN j a:=fun j=>by
        induction j with
        |zero=>intro a;rfl
        |succ j ih=>
          intro a
          have:=ih (a/16)
          simp only [hexN]
          rw [←this,Nat.pow_succ]
          have e3:a%(16^j*16)/16=a/16%16^j:=by rw [Nat.mul_comm,Nat.mod_mul_right_div_self]
          have e4:a%(16^j*16)%16=a%16:=by rw [Nat.mul_comm,Nat.mod_mul_right_mod]
          rw [e3,e4]
      rw [hmod,hmod] at h4
      exact h4
def unD (b:UInt8):Option Nat:=if 48≤b.toNat∧b.toNat≤57 then some (b.toNat-48) else if 97≤b.toNat∧b.toNat≤102 then some (b.toNat-87) else none
theorem unD_hexD{d:Nat}(h:d<16):unD (hexD d)=some d:=by
  unfold unD
  rw [hexD_nat h]
  by_cases h9:d≤9
  · rw [if_pos h9,if_pos (by omega)];congr 1;omega
  · rw [if_neg h9,if_neg (by omega),if_pos (by omega)];congr 1;omega
theorem hexN_at(k n i:Nat)(hi:i<k):(hexN k n)[i]?=some (hexD (n/16^(k-1-i)%16)):=by
  induction k generalizing n i with
  |zero=>omega
  |succ k ih=>
    rw [hexN_front]
    cases i with
    |zero=>simp
    |succ i=>rw [List.getElem?_cons_succ,ih n i (by omega),show k+1-1-(i+1)=k-1-i from by omega]
end Go.Lx
namespace Go.Lx
def placeL {β:Type}:List (Bs×β)→Bs→Nat
  |[],_=>0
  |p::l,k=>if p.1<k then placeL l k+1 else 0
def insL {β:Type} (l:List (Bs×β)) (k:Bs) (v:β):List (Bs×β):=l.take (placeL l k)++(k,v)::l.drop (placeL l k)
def RiseT {β:Type} (l:List (Bs×β)):Prop:=l.Pairwise (·.1< ·.1)
theorem insL_cons{β:Type}(p:Bs×β)(l:List (Bs×β))(k:Bs)(v:β):insL (p::l) k v=if p.1<k then p::insL l k v else(k,v)::p::l:=by
  unfold insL
  simp only [placeL]
  split
  · simp
  · simp
theorem placeL_le{β:Type}:∀ (l:List (Bs×β)) (k:Bs),placeL l k≤l.length
  |[],_=>Nat.le_refl _
  |p::l,k=>by
    have:=placeL_le l k
    simp only [placeL,List.length_cons]
    split<;>omega
theorem get_insL{β:Type}(k:Bs)(v:β):∀ (l:List (Bs×β)),(∀ p∈l,p.1≠k)→∀ j,getT (insL l k v) j=if j=k then some v else getT l j
  |[],_,j=>by
    simp only [insL,placeL,List.take_nil,List.drop_nil,List.nil_append,getT]
    by_cases h:j=k
    · rw [if_pos h,if_pos h.symm]
    · rw [if_neg h,if_neg (Ne.symm h)]
  |p::l,hn,j=>by
    have ih:=get_insL k v l (fun q hq=>hn q (List.mem_cons_of_mem _ hq)) j
    rw [insL_cons]
    split
    · simp only [getT,ih]
      by_cases hj:p.1=j
      · rw [if_pos hj,if_pos hj,if_neg (fun e=>hn p List.mem_cons_self (hj.trans e))]
      · rw [if_neg hj,if_neg hj]
    · simp only [getT]
      by_cases h:j=k
      · rw [if_pos h,if_pos h.symm]
      · rw [if_neg h,if_neg (Ne.symm h)]
theorem mem_insL{β:Type}{k:Bs}{v:β}:∀ {l:List (Bs×β)} {p:Bs×β},p∈insL l k v↔p=(k,v)∨p∈l
  |[],p=>by simp [insL,placeL]
  |q::l,p=>by
    have ih:=mem_insL (k:=k) (v:=v) (l:=l) (p:=p)
    rw [insL_cons]
    split
    · simp only [List.mem_cons,ih]
      constructor
      · rintro(h|h|h)<;>simp [h]
      · rintro(h|h|h)<;>simp [h]
    · simp [List.mem_cons]
theorem lt_of_not{a b:Bs}(h: ¬a<b)(hne:a≠b):b<a:=Classical.byContradiction fun c=>hne (List.le_antisymm (List.not_lt.1 c) (List.not_lt.1 h))
theorem rise_insL{β:Type}(k:Bs)(v:β):∀ (l:List (Bs×β)),RiseT l→(∀ p∈l,p.1≠k)→RiseT (insL l k v)
  |[],_,_=>by simp [insL,placeL,RiseT]
  |p::l,h,hn=>by
    unfold RiseT at h
    rw [List.pairwise_cons] at h
    have ih:=rise_insL k v l h.2 (fun q hq=>hn q (List.mem_cons_of_mem _ hq))
    rw [insL_cons]
    split
    · rename_i hp
      refine List.pairwise_cons.2 ⟨fun q hq=>?_,ih⟩
      rcases mem_insL.1 hq with rfl|hq
      · exact hp
      · exact h.1 q hq
    · rename_i hp
      have hk:=lt_of_not hp (hn p List.mem_cons_self)
      refine List.pairwise_cons.2 ⟨fun q hq=>?_,List.pairwise_cons.2 h⟩
      rcases List.mem_cons.1 hq with rfl|hq
      · exact hk
      · exact List.lt_trans hk (h.1 q hq)
structure Agree {β:Type} (es l:List (Bs×β)):Prop where
  get:∀ k,getT es k=getT l k
  nodup:(keyT es).Nodup
  rise:RiseT l
theorem Agree.nil{β:Type}:Agree ([]:List (Bs×β)) []:=⟨fun k=>rfl,List.nodup_nil,List.Pairwise.nil⟩
theorem getT_none'{β:Type}{l:List (Bs×β)}{k:Bs}(h:getT l k=none):∀ p∈l,p.1≠k:=fun p hp he=>(getT_none l k).1 h (he▸List.mem_map.2 ⟨p,hp,rfl⟩)
theorem Agree.put{β:Type}{es l:List (Bs×β)}{k:Bs}(h:Agree es l)(v:β)(hn:getT l k=none):Agree (setT es k v) (insL l k v):=
  ⟨fun j=>by rw [getT_set,get_insL k v l (getT_none' hn),h.get],nodup_setT k v es h.nodup,rise_insL k v l h.rise (getT_none' hn)⟩
theorem Agree.mem{β:Type}{es l:List (Bs×β)}(h:Agree es l)(k:Bs):k∈keyT es↔k∈keyT l:=by
  have h1:=getT_none es k
  have h2:=getT_none l k
  rw [h.get] at h1
  constructor
  · intro g;exact Classical.byContradiction fun c=>(h1.1 (h2.2 c)) g
  · intro g;exact Classical.byContradiction fun c=>(h2.1 (h1.2 c)) g
theorem rise_nodup{l:List Bs}(h:l.Pairwise (· < ·)):l.Nodup:=List.Pairwise.imp (R:=fun a b:Bs=>a<b) (S:=fun a b:Bs=>a≠b) (fun {a b} (h:a<b) (e:a=b)=>by subst e;exact List.lt_irrefl a h) h
theorem Agree.perm{β:Type}{es l:List (Bs×β)}(h:Agree es l):(keyT es).Perm (keyT l):=by
  have h2:(keyT l).Pairwise (· < ·):=List.pairwise_map.2 h.rise
  exact(List.perm_ext_iff_of_nodup h.nodup (rise_nodup h2)).2 h.mem
theorem Agree.sorted{β:Type}{es l:List (Bs×β)}(h:Agree es l){ss:List Bs}(hp:ss.Perm (keyT es))(hs:ss.Pairwise (· ≤ ·)):ss=keyT l:=by
  have h2:(keyT l).Pairwise (· < ·):=List.pairwise_map.2 h.rise
  refine(hp.trans h.perm).eq_of_pairwise (fun a b _ _ h1 h3=>List.le_antisymm h1 h3) hs (h2.imp (fun h=>List.le_of_lt h))
theorem Agree.len{β:Type}{es l:List (Bs×β)}(h:Agree es l):es.length=l.length:=by
  have:=h.perm.length_eq
  simpa [keyT] using this
def usedL:List (Bs×Bs)→Nat
  |[]=>0
  |p::l=>p.2.length+usedL l
theorem usedL_append:∀ (l m:List (Bs×Bs)),usedL (l++m)=usedL l+usedL m
  |[],m=>by simp [usedL]
  |p::l,m=>by simp only [List.cons_append,usedL,usedL_append l m];omega
theorem usedL_ins(l:List (Bs×Bs))(k v:Bs):usedL (insL l k v)=usedL l+v.length:=by
  unfold insL
  rw [usedL_append]
  simp only [usedL]
  have:=usedL_append (l.take (placeL l k)) (l.drop (placeL l k))
  rw [List.take_append_drop] at this
  omega
theorem insL_len{β:Type}(l:List (Bs×β))(k:Bs)(v:β):(insL l k v).length=l.length+1:=by
  have:=placeL_le l k
  unfold insL
  simp;omega
end Go.Lx
