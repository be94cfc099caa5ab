import Derived.Test.YtakoppmiegjjlaaGreatDoorF15
import Derived.Test.YtakoppmiegjjlaaGreatDoorF16
import Derived.Test.YtakoppmiegjjlaaGreatDoorF4
set_option linter.unusedVariables false
set_option linter.unusedSimpArgs false
namespace Go.Lx
structure Stp {α:Type} (enc:α→Bs) (ok:α→Prop) (s:Bs) (o:Prop) (x:α) (s':Bs) (o':Prop):Prop where
  back:o'→o∧ok x∧s=enc x++s'
  fwd:∀ y q,o→ok y→s=enc y++q→x=y∧o'∧s'=q
theorem Cod.stp{α:Type}{f:Bs→Option (α×Nat)}{enc:α→Bs}{ok:α→Prop}(c:Cod f enc ok){d:α}{s:Bs}{p:Nat}{e:Int}{x:α}{p':Nat}{e':Int}(h:RdR f d s p e x p' e'):Stp enc ok (s.drop p) (e=0) x (s.drop p') (e'=0):=
  ⟨fun he=>let⟨a,b,c,_⟩:=c.rdBack h he;⟨a,b,c⟩,fun y q he hy hq=>by subst he;exact c.rdFwd h hy hq⟩
section
variable {α β:Type} {eA:α→Bs} {kA:α→Prop} {eB:β→Bs} {kB:β→Prop} {s s1 s2:Bs} {o o1 o2:Prop}
theorem Stp.seq{x:α}{y:β}(h:Stp eA kA s o x s1 o1)(k:Stp eB kB s1 o1 y s2 o2):Stp (fun z:α×β=>eA z.1++eB z.2) (fun z=>kA z.1∧kB z.2) s o (x,y) s2 o2:=by
  refine⟨fun he=>?_,fun z q ho hz hq=>?_⟩
  · obtain⟨a1,a2,a3⟩:=k.back he
    obtain⟨b1,b2,b3⟩:=h.back a1
    exact⟨b1,⟨b2,a2⟩,by rw [b3,a3,List.append_assoc]⟩
  · rw [List.append_assoc] at hq
    obtain⟨a1,a2,a3⟩:=h.fwd z.1 _ ho hz.1 hq
    obtain⟨b1,b2,b3⟩:=k.fwd z.2 _ a2 hz.2 a3
    exact⟨by rw [a1,b1],b2,b3⟩
theorem Stp.map{x:α}(h:Stp eA kA s o x s1 o1)(f:α→β)(g:β→α)(h1:∀ a,kA a→kB (f a)∧eB (f a)=eA a)(h2:∀ b,kB b→kA (g b)∧eA (g b)=eB b∧f (g b)=b):Stp eB kB s o (f x) s1 o1:=by
  refine⟨fun he=>?_,fun z q ho hz hq=>?_⟩
  · obtain⟨a1,a2,a3⟩:=h.back he
    obtain⟨b1,b2⟩:=h1 _ a2
    exact⟨a1,b1,by rw [b2];exact a3⟩
  · obtain⟨b1,b2,b3⟩:=h2 _ hz
    rw [←b2] at hq
    obtain⟨a1,a2,a3⟩:=h.fwd _ _ ho b1 hq
    exact⟨by rw [a1,b3],a2,a3⟩
structure Rws (eA:α→Bs) (kA:α→Prop) (s:Bs) (o:Prop) (l:List α) (s':Bs) (o':Prop):Prop where
  back:o'→o∧(∀ x∈l,kA x)∧s=l.flatMap eA++s'
  fwd:∀ (L:List α) (q:Bs),o→(∀ x∈L,kA x)→s=L.flatMap eA++q→l.length≤L.length→o'∧l=L.take l.length∧s'=(L.drop l.length).flatMap eA++q
theorem Rws.nil:Rws eA kA s o [] s o:=⟨fun h=>⟨h,fun _ h=>(by cases h),by simp⟩,fun L q ho _ hq _=>⟨ho,by simp,by simpa using hq⟩⟩
theorem Rws.snoc{l:List α}{x:α}(h:Rws eA kA s o l s1 o1)(k:Stp eA kA s1 o1 x s2 o2):Rws eA kA s o (l++[x]) s2 o2:=by
  refine⟨fun he=>?_,fun L q hE hL hq hlen=>?_⟩
  · obtain⟨a1,a2,a3⟩:=k.back he
    obtain⟨b1,b2,b3⟩:=h.back a1
    refine⟨b1,fun y hy=>?_, ?_⟩
    · rcases List.mem_append.1 hy with q|q
      · exact b2 y q
      · obtain rfl:y=x:=by simpa using q
        exact a2
    · rw [b3,a3]
      simp
  · rw [List.length_append,List.length_singleton] at hlen
    obtain⟨a1,a2,a3⟩:=h.fwd L q hE hL hq (by omega)
    have hi:l.length<L.length:=by omega
    have hd:L.drop l.length=L[l.length]::L.drop (l.length+1):=List.drop_eq_getElem_cons hi
    rw [hd,List.flatMap_cons,List.append_assoc] at a3
    obtain⟨b1,b2,b3⟩:=k.fwd _ _ a1 (hL _ (List.getElem_mem hi)) a3
    refine⟨b2, ?_,by rw [List.length_append,List.length_singleton];exact b3⟩
    rw [List.length_append,List.length_singleton,List.take_succ_eq_append_getElem hi,←a2,b1]
def cntB (eA:α→Bs) (l:List α):Bs:=varB l.length++l.flatMap eA
theorem Rws.cnt{m n:Nat}{l:List α}(hc:Stp varB (fun x=>x≤m) s o n s1 o1)(h:Rws eA kA s1 o1 l s2 o2)(hle:l.length≤n)(hex:o2→l.length=n):Stp (cntB eA) (fun l=>l.length≤m∧∀ x∈l,kA x) s o l s2 o2:=by
  refine⟨fun he=>?_,fun L q ho hz hq=>?_⟩
  · obtain⟨a1,a2,a3⟩:=h.back he
    obtain⟨b1,b2,b3⟩:=hc.back a1
    have:=hex he
    exact⟨b1,⟨by omega,a2⟩,by rw [b3,a3,cntB,this,List.append_assoc]⟩
  · unfold cntB at hq
    rw [List.append_assoc] at hq
    obtain⟨a1,a2,a3⟩:=hc.fwd _ _ ho hz.1 hq
    obtain⟨b1,b2,b3⟩:=h.fwd L q a2 hz.2 a3 (by omega)
    have hl:l.length=L.length:=by rw [hex b1,a1]
    rw [hl,List.take_length] at b2
    rw [hl,List.drop_length] at b3
    exact⟨b2,b1,by simpa using b3⟩
structure Inj (eA:α→Bs) (kA:α→Prop):Prop where
  inj:∀ {x y:α} {r q:Bs},kA x→kA y→eA x++r=eA y++q→x=y∧r=q
theorem Inj.seq(h:Inj eA kA)(k:Inj eB kB):Inj (fun z:α×β=>eA z.1++eB z.2) (fun z=>kA z.1∧kB z.2):=⟨fun {x y r q} hx hy hq=>by
  rw [List.append_assoc,List.append_assoc] at hq
  obtain⟨a1,a2⟩:=h.inj hx.1 hy.1 hq
  obtain⟨b1,b2⟩:=k.inj hx.2 hy.2 a2
  exact⟨by cases x;cases y;simp only at a1 b1;rw [a1,b1],b2⟩⟩
theorem Inj.cnt{m:Nat}(hm:m<18446744073709551616)(h:Inj eA kA):Inj (cntB eA) (fun l=>l.length≤m∧∀ x∈l,kA x):=⟨fun {x y r q} hx hy hq=>by
  unfold cntB at hq
  rw [List.append_assoc,List.append_assoc] at hq
  obtain⟨a1,a2⟩:=(codInt m hm).inj hx.1 hy.1 hq
  exact encs_inj (fun a b c=>h.inj a b c) hx.2 hy.2 a1 a2⟩
theorem Inj.map(h:Inj eA kA)(f:α→β)(g:β→α)(h2:∀ b,kB b→kA (g b)∧eA (g b)=eB b∧f (g b)=b):Inj eB kB:=⟨fun {x y r q} hx hy hq=>by
  obtain⟨a1,a2,a3⟩:=h2 x hx
  obtain⟨b1,b2,b3⟩:=h2 y hy
  rw [←a2,←b2] at hq
  obtain⟨c1,c2⟩:=h.inj a1 b1 hq
  exact⟨by rw [←a3,←b3,c1],c2⟩⟩
end
theorem flatMap_len{α:Type}(f:α→Bs)(b:Nat)(l:List α)(h:∀ x,(f x).length≤b):(l.flatMap f).length≤b*l.length:=by
  induction l with
  |nil=>simp
  |cons x l ih=>
    have:=h x
    rw [List.flatMap_cons,List.length_append,List.length_cons,Nat.mul_add,Nat.mul_one]
    omega
structure Dob where
  k:Nat
  ep:Int
  sq:Int
  up:Int
  ps:List Ext
  cs:List Sp
  d:Bs
def zD:Dob:=⟨0,0,0,0,[],[],[]⟩
def PutE (x:Ext):Prop:=x.q=0∧x.p=0
instance (x:Ext):Decidable (PutE x):=by unfold PutE;infer_instance
def MayP (sq:Int) (x:Ext):Prop:=mayS (x.a,x.n)∧(PutE x∨1≤x.q∧x.q<sq∧0≤x.p∧x.p<65536)
instance (sq:Int) (x:Ext):Decidable (MayP sq x):=by unfold MayP;infer_instance
def OrdP (sq:Int) (l:List Ext) (n:Nat):Prop:=∀ i x,i<n→l[i]?=some x→MayP sq x∧∀ y,0<i→l[i-1]?=some y→y.a+y.n≤x.a
theorem OrdP.step{sq:Int}{l:List Ext}{k:Nat}{x:Ext}(h:OrdP sq l k)(hx:l[k]?=some x)(hm:MayP sq x)(hy:∀ y,0<k→l[k-1]?=some y→y.a+y.n≤x.a):OrdP sq l (k+1):=by
  intro j z hj hz
  by_cases e:j=k
  · subst e;rw [hx] at hz;cases hz;exact⟨hm,hy⟩
  · exact h j z (by omega) hz
def endP (l:List Ext):Nat→Int
  |0=>0
  |i+1=>match l[i]? with
    |some x=>x.a+x.n
    |none=>0
theorem endP_at{l:List Ext}{i:Nat}{y:Ext}(hi:0<i)(hy:l[i-1]?=some y):endP l i=y.a+y.n:=by
  obtain⟨j,rfl⟩:∃ j,i=j+1:=⟨i-1,by omega⟩
  rw [Nat.add_sub_cancel] at hy
  simp only [endP,hy]
theorem endP_succ{l:List Ext}{i:Nat}{y:Ext}(hy:l[i]?=some y):endP l (i+1)=y.a+y.n:=endP_at (Nat.succ_pos i) hy
theorem OrdP.stepE{sq:Int}{l:List Ext}{k:Nat}{x:Ext}(h:OrdP sq l k)(hx:l[k]?=some x)(hm:MayP sq x)(he:endP l k≤x.a):OrdP sq l (k+1):=
  h.step hx hm fun y h0 hy=>by rw [endP_at h0 hy] at he;exact he
theorem OrdP.endE{sq:Int}{l:List Ext}{n k:Nat}{x:Ext}(h:OrdP sq l n)(hk:k<n)(hx:l[k]?=some x):endP l k≤x.a:=by
  obtain⟨h1,h2⟩:=h k x hk hx
  rcases Nat.eq_zero_or_pos k with h0|h0
  · subst h0
    have:=h1.1.1
    simpa [endP] using this
  · obtain⟨y,hy⟩:=Qt (l:=l) (k:=k-1) (by have:=Qv hx;omega)
    rw [endP_at h0 hy]
    exact h2 y h0 hy
def spansOf (l:List Ext):List Sp:=l.map fun x=>(x.a,x.n)
def NumsD (o:Dob):Prop:=(1≤o.ep∧o.ep<1099511627776)∧(1≤o.sq∧o.sq<1099511627776)∧0≤o.up∧o.up<1099511627776
def LaidP (o:Dob):Prop:=o.ps.length≤1024∧o.cs.length≤1024∧OrdP o.sq o.ps o.ps.length∧SetOK o.cs o.cs.length∧∀ t,inS (spansOf o.ps) t→ ¬inS o.cs t
def secs (l:List Ext):Int:=(l.map (·.n)).sum
theorem secs_nil:secs []=0:=rfl
theorem secs_snoc(l:List Ext)(x:Ext):secs (l++[x])=secs l+x.n:=by simp [secs]
theorem Qw{α:Type}{l:List α}{k:Nat}{x:α}(hx:l[k]?=some x):l.take (k+1)=l.take k++[x]:=by
  rw [List.take_add_one,hx];rfl
theorem OrdP.secs{sq:Int}{l:List Ext}(h:OrdP sq l l.length):∀ i,i≤l.length→0≤secs (l.take i)∧secs (l.take i)≤endP l i∧endP l i≤65536
  |0,_=>by simp [secs_nil,endP]
  |i+1,hi=>by
    obtain⟨x,hx⟩:=Qt (l:=l) (k:=i) (by omega)
    obtain⟨h1,h2,h3⟩:=OrdP.secs h i (by omega)
    have h4:=(h i x (by omega) hx).1.1
    have h5:=h.endE (by omega) hx
    unfold mayS at h4
    rw [Qw hx,secs_snoc,endP_succ hx]
    simp only at h4
    omega
def kdD:Bs:=[68,79,66,49]
theorem dM:Cod (intF 1099511627776) varB (fun x=>x≤1099511627776):=codInt 1099511627776 (by decide)
theorem dC:Cod (intF 1024) varB (fun x=>x≤1024):=codInt 1024 (by decide)
def ptB (x:Ext):Bs:=((varB x.a.toNat++varB x.n.toNat)++varB x.q.toNat)++varB x.p.toNat
def csB (x:Sp):Bs:=varB x.1.toNat++varB x.2.toNat
def OkP (x:Ext):Prop:=(0≤x.a∧x.a≤1099511627776)∧(0≤x.n∧x.n≤1099511627776)∧(0≤x.q∧x.q≤1099511627776)∧0≤x.p∧x.p≤1099511627776
def OkC (x:Sp):Prop:=(0≤x.1∧x.1≤1099511627776)∧0≤x.2∧x.2≤1099511627776
def ptOf (z:((Nat×Nat)×Nat)×Nat):Ext:=⟨z.1.1.1,z.1.1.2,z.1.2,z.2⟩
def ofPt (x:Ext):((Nat×Nat)×Nat)×Nat:=(((x.a.toNat,x.n.toNat),x.q.toNat),x.p.toNat)
def csOf (z:Nat×Nat):Sp:=((z.1:Int),(z.2:Int))
def ofCs (x:Sp):Nat×Nat:=(x.1.toNat,x.2.toNat)
theorem Ext.eq'{x y:Ext}(h1:x.a=y.a)(h2:x.n=y.n)(h3:x.q=y.q)(h4:x.p=y.p):x=y:=by
  cases x;cases y;simp only at *;subst h1 h2 h3 h4;rfl
theorem of_ptOf(b:Ext)(h:OkP b):(((((ofPt b).1.1.1≤1099511627776∧(ofPt b).1.1.2≤1099511627776)∧(ofPt b).1.2≤1099511627776)∧(ofPt b).2≤1099511627776))∧(((varB (ofPt b).1.1.1++varB (ofPt b).1.1.2)++varB (ofPt b).1.2)++varB (ofPt b).2)=ptB b∧ptOf (ofPt b)=b:=by
  obtain⟨h1,h2,h3,h4⟩:=h
  refine⟨?_,rfl, ?_⟩
  · unfold ofPt;simp only;omega
  · unfold ofPt ptOf;exact Ext.eq' (by simp only;omega) (by simp only;omega) (by simp only;omega) (by simp only;omega)
theorem of_csOf(b:Sp)(h:OkC b):((ofCs b).1≤1099511627776∧(ofCs b).2≤1099511627776)∧(varB (ofCs b).1++varB (ofCs b).2)=csB b∧csOf (ofCs b)=b:=by
  obtain⟨h1,h2⟩:=h
  refine⟨?_,rfl, ?_⟩
  · unfold ofCs;simp only;omega
  · unfold ofCs csOf;exact Prod.ext (by simp only;omega) (by simp only;omega)
theorem stpPt{s s1 s2 s3 s4:Bs}{o o1 o2 o3 o4:Prop}{a n q p:Nat}(h1:Stp varB (fun x=>x≤1099511627776) s o a s1 o1)(h2:Stp varB (fun x=>x≤1099511627776) s1 o1 n s2 o2)(h3:Stp varB (fun x=>x≤1099511627776) s2 o2 q s3 o3)(h4:Stp varB (fun x=>x≤1099511627776) s3 o3 p s4 o4):Stp ptB OkP s o ⟨a,n,q,p⟩ s4 o4:=
  (((h1.seq h2).seq h3).seq h4).map (eB:=ptB) (kB:=OkP) ptOf ofPt (fun z h=>by
    obtain⟨⟨⟨a1,a2⟩,a3⟩,a4⟩:=h
    refine⟨?_, ?_⟩
    · unfold OkP ptOf;simp only;omega
    · simp only [ptB,ptOf,Int.toNat_natCast]) of_ptOf
theorem stpCs{s s1 s2:Bs}{o o1 o2:Prop}{a n:Nat}(h1:Stp varB (fun x=>x≤1099511627776) s o a s1 o1)(h2:Stp varB (fun x=>x≤1099511627776) s1 o1 n s2 o2):Stp csB OkC s o ((a:Int),(n:Int)) s2 o2:=
  (h1.seq h2).map (eB:=csB) (kB:=OkC) csOf ofCs (fun z h=>by
    obtain⟨a1,a2⟩:=h
    refine⟨?_, ?_⟩
    · unfold OkC csOf;simp only;omega
    · simp only [csB,csOf,Int.toNat_natCast]) of_csOf
abbrev Zh:=((((((Nat×Nat)×Nat)×Nat)×List Ext)×List Sp)×Nat)
def hdE (z:Zh):Bs:=(((((fixB z.1.1.1.1.1.1 8++varB z.1.1.1.1.1.2)++varB z.1.1.1.1.2)++varB z.1.1.1.2)++cntB ptB z.1.1.2)++cntB csB z.1.2)++fixB z.2 4
def okZ (z:Zh):Prop:=(((((z.1.1.1.1.1.1<256^8∧z.1.1.1.1.1.2≤1099511627776)∧z.1.1.1.1.2≤1099511627776)∧z.1.1.1.2≤1099511627776)∧(z.1.1.2.length≤1024∧∀ x∈z.1.1.2,OkP x))∧(z.1.2.length≤1024∧∀ x∈z.1.2,OkC x))∧z.2<256^4
theorem injM:Inj varB (fun x=>x≤1099511627776):=⟨fun a b c=>dM.inj a b c⟩
theorem injPt:Inj ptB OkP:=(((injM.seq injM).seq injM).seq injM).map ptOf ofPt of_ptOf
theorem injCs:Inj csB OkC:=(injM.seq injM).map csOf ofCs of_csOf
theorem injZ:Inj hdE okZ:=
  have h8:Inj (fun x=>fixB x 8) (fun x=>x<256^8):=⟨fun a b c=>(codFix 8).inj a b c⟩
  have h4:Inj (fun x=>fixB x 4) (fun x=>x<256^4):=⟨fun a b c=>(codFix 4).inj a b c⟩
  ⟨fun {x y r q} hx hy hq=>((((((h8.seq injM).seq injM).seq injM).seq (injPt.cnt (m:=1024) (by decide))).seq (injCs.cnt (m:=1024) (by decide))).seq h4).inj hx hy hq⟩
def zO (o:Dob):Zh:=((((((o.k,o.ep.toNat),o.sq.toNat),o.up.toNat),o.ps),o.cs),crc o.d)
def obO (z:Zh) (d:Bs):Dob:=⟨z.1.1.1.1.1.1,z.1.1.1.1.1.2,z.1.1.1.1.2,z.1.1.1.2,z.1.1.2,z.1.2,d⟩
def headD (o:Dob):Bs:=kdD++hdE (zO o)
def dobB (o:Dob):Bs:=o.d++(sealS (headD o)++fixB (sealS (headD o)).length 4)
open Classical in
noncomputable def chkD (o:Dob):Int:=if NumsD o∧LaidP o then if(o.d.length:Int)=64*secs o.ps then if(dobB o).length≤65536 then 0 else 31 else 30 else 1
theorem chkD_ok{o:Dob}(h:chkD o=0):NumsD o∧LaidP o∧(o.d.length:Int)=64*secs o.ps∧(dobB o).length≤65536:=by
  unfold chkD at h
  split at h
  · rename_i h1
    split at h
    · rename_i h2
      split at h
      · rename_i h3;exact⟨h1.1,h1.2,h2,h3⟩
      · cases h
    · cases h
  · cases h
theorem ptB_len(x:Ext):(ptB x).length≤36:=by
  have h1:=varB_le x.a.toNat
  have h2:=varB_le x.n.toNat
  have h3:=varB_le x.q.toNat
  have h4:=varB_le x.p.toNat
  simp only [ptB,List.length_append]
  omega
theorem csB_len(x:Sp):(csB x).length≤18:=by
  have h1:=varB_le x.1.toNat
  have h2:=varB_le x.2.toNat
  simp only [csB,List.length_append]
  omega
theorem headD_len(o:Dob):(headD o).length≤70+36*o.ps.length+18*o.cs.length:=by
  have h1:=varB_le o.ep.toNat
  have h2:=varB_le o.sq.toNat
  have h3:=varB_le o.up.toNat
  have h4:=varB_le o.ps.length
  have h5:=varB_le o.cs.length
  have h6:=flatMap_len ptB 36 o.ps ptB_len
  have h7:=flatMap_len csB 18 o.cs csB_len
  have h8:=fixB_len o.k 8
  have h9:=fixB_len (crc o.d) 4
  have h0:kdD.length=4:=rfl
  simp only [headD,hdE,zO,cntB,List.length_append]
  omega
theorem okZ_of{o:Dob}(h1:NumsD o)(h2:LaidP o)(hk:o.k<18446744073709551616):okZ (zO o):=by
  obtain⟨⟨a1,a2⟩,⟨a3,a4⟩,a5,a6⟩:=h1
  obtain⟨b1,b2,b3,b4,b5⟩:=h2
  refine⟨⟨⟨⟨⟨⟨hk, ?_⟩, ?_⟩, ?_⟩,b1,fun x hx=>?_⟩,b2,fun x hx=>?_⟩,crc_lt o.d⟩
  · simp only [zO];omega
  · simp only [zO];omega
  · simp only [zO];omega
  · obtain⟨i,hi⟩:=List.mem_iff_getElem?.1 hx
    obtain⟨⟨c1,c2⟩,_⟩:=b3 i x (Qv hi) hi
    unfold mayS at c1
    unfold PutE at c2
    simp only at c1
    unfold OkP
    omega
  · have:=b4.mem rfl hx
    unfold mayS at this
    unfold OkC
    omega
theorem obO_zO{o:Dob}(h1:NumsD o):obO (zO o) o.d=o:=by
  obtain⟨⟨a1,a2⟩,⟨a3,a4⟩,a5,a6⟩:=h1
  cases o
  simp only [obO,zO] at *
  rw [Int.toNat_of_nonneg (by omega),Int.toNat_of_nonneg (by omega),Int.toNat_of_nonneg (by omega)]
theorem headD_obO{z:Zh}{d:Bs}(h:z.2=crc d):headD (obO z d)=kdD++hdE z:=by
  unfold headD
  congr 2
  simp only [zO,obO,Int.toNat_natCast,←h]
def DecH (d:Bs) (h:Bs×Int) (o:Dob) (e:Int):Prop:=
  (h.2≠0∧e=h.2∧o=zD)∨(h.2=0∧(∀ r,h.1≠kdD++r)∧e=14∧o=zD)∨
  (∃ r,h.2=0∧h.1=kdD++r∧(((∀ z,okZ z→chkD (obO z d)=0→r≠hdE z)∧e=12∧o=zD)∨∃ z,okZ z∧chkD (obO z d)=0∧r=hdE z∧((z.2≠crc d∧e=13∧o=zD)∨(z.2=crc d∧e=0∧o=obO z d))))
def DecD (s:Bs) (o:Dob) (e:Int):Prop:=
  (s.length<4∧e=10∧o=zD)∨(4≤s.length∧s.length-4<num (s.drop (s.length-4))∧e=10∧o=zD)∨
  (∃ from_,4≤s.length∧from_+num (s.drop (s.length-4))=s.length-4∧DecH (s.take from_) (openS ((s.drop from_).take (s.length-4-from_))) o e)
theorem DecH.unique{d:Bs}{h:Bs×Int}{o p:Dob}{e f:Int}(a:DecH d h o e)(b:DecH d h p f):o=p∧e=f:=by
  rcases a with⟨a1,a2,a3⟩|⟨a1,a2,a3,a4⟩|⟨r,a1,a2,a3⟩<;>rcases b with⟨b1,b2,b3⟩|⟨b1,b2,b3,b4⟩|⟨q,b1,b2,b3⟩
  · exact⟨a3.trans b3.symm,a2.trans b2.symm⟩
  · exact absurd b1 a1
  · exact absurd b1 a1
  · exact absurd a1 b1
  · exact⟨a4.trans b4.symm,a3.trans b3.symm⟩
  · exact absurd b2 (a2 q)
  · exact absurd a1 b1
  · exact absurd a2 (b2 r)
  · obtain rfl:r=q:=List.append_cancel_left (a2.symm.trans b2)
    rcases a3 with⟨c1,c2,c3⟩|⟨z,c1,c2,c3,c4⟩<;>rcases b3 with⟨d1,d2,d3⟩|⟨y,d1,d2,d3,d4⟩
    · exact⟨c3.trans d3.symm,c2.trans d2.symm⟩
    · exact absurd d3 (c1 y d1 d2)
    · exact absurd c3 (d1 z c1 c2)
    · obtain⟨rfl,_⟩:=injZ.inj (r:=[]) (q:=[]) c1 d1 (by rw [←c3,←d3])
      rcases c4 with⟨e1,e2,e3⟩|⟨e1,e2,e3⟩<;>rcases d4 with⟨f1,f2,f3⟩|⟨f1,f2,f3⟩
      · exact⟨e3.trans f3.symm,e2.trans f2.symm⟩
      · exact absurd f1 e1
      · exact absurd e1 f1
      · exact⟨e3.trans f3.symm,e2.trans f2.symm⟩
theorem DecD.unique{s:Bs}{o p:Dob}{e f:Int}(a:DecD s o e)(b:DecD s p f):o=p∧e=f:=by
  rcases a with⟨a1,a2,a3⟩|⟨a1,a2,a3,a4⟩|⟨r,a1,a2,a3⟩<;>rcases b with⟨b1,b2,b3⟩|⟨b1,b2,b3,b4⟩|⟨q,b1,b2,b3⟩<;>first|(exfalso;omega)|skip
  · exact⟨a3.trans b3.symm,a2.trans b2.symm⟩
  · exact⟨a4.trans b4.symm,a3.trans b3.symm⟩
  · obtain rfl:r=q:=by omega
    exact a3.unique b3
theorem num_back{l:Bs}(h:l.length=4):l=fixB (num l) 4:=by
  have:=fixB_num l
  rw [h] at this
  exact this.symm
theorem num_fwd{x:Nat}(h:x<4294967296):num (fixB x 4)=x:=by
  rw [num_fixB,Nat.mod_eq_of_lt h]
theorem parts_of{s:Bs}{i n:Nat}(h:i≤n):s=s.take i++((s.drop i).take (n-i)++s.drop n):=by
  have h1:s.drop n=(s.drop i).drop (n-i):=by rw [List.drop_drop];congr 1;omega
  rw [h1,List.take_append_drop,List.take_append_drop]
theorem DecD.good{s:Bs}{o:Dob}(h:DecD s o 0):chkD o=0∧s=dobB o∧o.k<18446744073709551616:=by
  rcases h with⟨_,h,_⟩|⟨_,_,h,_⟩|⟨fr,h1,h2,h3⟩
  · cases h
  · cases h
  · rcases h3 with⟨a,b,_⟩|⟨_,_,b,_⟩|⟨r,a1,a2,⟨_,b,_⟩|⟨z,b1,b2,b3,⟨_,b,_⟩|⟨c1,_,c2⟩⟩⟩
    · exact absurd b.symm a
    · cases b
    · cases b
    · cases b
    · subst c2
      refine⟨b2, ?_,b1.1.1.1.1.1.1⟩
      have hm:(s.drop fr).take (s.length-4-fr)=sealS (headD (obO z (s.take fr))):=by
        refine openS_ok ?_
        rw [headD_obO c1,←b3,←a2,←a1]
      have hml:(sealS (headD (obO z (s.take fr)))).length=num (s.drop (s.length-4)):=by
        rw [←hm,List.length_take,List.length_drop]
        omega
      have h4:(s.drop (s.length-4)).length=4:=by rw [List.length_drop];omega
      show s=s.take fr++(sealS (headD (obO z (s.take fr)))++fixB (sealS (headD (obO z (s.take fr)))).length 4)
      rw [hml,←num_back h4,←hm]
      exact parts_of (by omega)
theorem dobB_drop(o:Dob):(dobB o).length=o.d.length+(sealS (headD o)).length+4∧(dobB o).drop ((dobB o).length-4)=fixB (sealS (headD o)).length 4∧(dobB o).take o.d.length=o.d∧((dobB o).drop o.d.length).take (sealS (headD o)).length=sealS (headD o):=by
  have hl:(dobB o).length=o.d.length+(sealS (headD o)).length+4:=by
    unfold dobB
    rw [List.length_append,List.length_append,fixB_len];omega
  refine⟨hl, ?_, ?_, ?_⟩
  · rw [hl]
    unfold dobB
    rw [←List.append_assoc,List.drop_left' (by rw [List.length_append];omega)]
  · unfold dobB;rw [List.take_left]
  · unfold dobB;rw [List.drop_left,List.take_left]
theorem head_small{o:Dob}(h:LaidP o):(sealS (headD o)).length<4294967296:=by
  have:=headD_len o
  have h1:=h.1
  have h2:=h.2.1
  rw [sealS_len]
  omega
theorem DecD.of_data{o:Dob}(h:chkD o=0)(hk:o.k<18446744073709551616){d:Bs}(hd:d.length=o.d.length){p:Dob}{e:Int}(hpe:(crc o.d≠crc d∧e=13∧p=zD)∨(crc o.d=crc d∧e=0∧p=obO (zO o) d))(hchk:chkD (obO (zO o) d)=0):
    DecD (d++(sealS (headD o)++fixB (sealS (headD o)).length 4)) p e:=by
  obtain⟨h1,h2,h3,h4⟩:=chkD_ok h
  have hs:=head_small h2
  obtain⟨l1,l2,l3,l4⟩:=dobB_drop {o with d:=o.d}
  have hl:(d++(sealS (headD o)++fixB (sealS (headD o)).length 4)).length=o.d.length+(sealS (headD o)).length+4:=by
    rw [List.length_append,List.length_append,fixB_len,hd];omega
  have hdr:(d++(sealS (headD o)++fixB (sealS (headD o)).length 4)).drop (o.d.length+(sealS (headD o)).length)=fixB (sealS (headD o)).length 4:=by
    rw [←List.append_assoc,List.drop_left' (by rw [List.length_append,hd])]
  refine .inr (.inr ⟨o.d.length, ?_, ?_, ?_⟩)
  · rw [hl];omega
  · rw [hl,show o.d.length+(sealS (headD o)).length+4-4=o.d.length+(sealS (headD o)).length by omega,hdr,num_fwd hs]
  · rw [hl,show o.d.length+(sealS (headD o)).length+4-4-o.d.length=(sealS (headD o)).length by omega,←hd,List.take_left,List.drop_left,List.take_left,openS_seal]
    exact .inr (.inr ⟨hdE (zO o),rfl,rfl,.inr ⟨zO o,okZ_of h1 h2 hk,hchk,rfl,hpe⟩⟩)
theorem DecD.of_good{o:Dob}(h:chkD o=0)(hk:o.k<18446744073709551616):DecD (dobB o) o 0:=
  have hb:=obO_zO (chkD_ok h).1
  DecD.of_data h hk (d:=o.d) rfl (.inr ⟨rfl,rfl,hb.symm⟩) (by rw [hb];exact h)
end Go.Lx
namespace Go.Lx
open Go.Proofs
def encS1 (x:Sp):List Value:=[.int .i64 x.1,.int .i64 x.2]
def encS (xs:List Sp):List Value:=xs.flatMap encS1
theorem Rd.sp{w:World}{a:Option Addr}{n c m:Nat}{xs:List Sp}{x:Sp}(h:Rd w 2 a n c (encS xs))(hx:xs[m]?=some x):∀ j u,[Value.int .i64 x.1,.int .i64 x.2][j]?=some u→w.cell? ((el a (m*2)).add j)=some u:=Rd.elem (f:=encS1) h (fun _=>rfl) hx
theorem Rd.spLen{w:World}{a:Option Addr}{n c:Nat}{xs:List Sp}(h:Rd w 2 a n c (encS xs)):xs.length=n:=by
  have:=h.len
  rw [encS,flat_len encS1 2 (fun _=>rfl)] at this
  omega
theorem Rd.bd{w:World}{sz:Nat}{a:Option Addr}{n c:Nat}{cs:List Value}(h:Rd w sz a n c cs):n≤9223372036854775807:=by
  have h1:=h.le
  have h2:=h.mx
  unfold maxLen at h2
  omega
theorem End_spec(a n:Int)(w:World):Spec Tryz.prog 140 #[.agg #[Zj a,Zj n]] w (fun _=>False) (fun v A=>v=Zj (IntKind.i64.wrap (a+n))∧A=[]):=by
  refine Zn Tryz.func140 Tryz.ntmps140 ?_
  ((refine Zt ?_<;>repeat' first|refine Z.p rfl ?_|refine Qr rfl rfl rfl rfl (k:=fun g=>?_)|refine XL.box1 rfl rfl rfl rfl rfl (k:=fun g=>?_)|refine Qf ?_)<;>(refine Zt ?_<;>repeat' first|refine Z.p rfl ?_|refine Z.fa rfl rfl rfl ?_|refine Z.l1 rfl rfl rfl ?_|refine Z.lN rfl rfl rfl ?_|refine Z.lP rfl rfl rfl ?_|refine Z.g rfl (by omega) ?_|refine Z.w rfl ?_|refine Qf ?_)<;>(apply X.r1 Tryz.results140 (Qh rfl);(focus(exact⟨rfl,rfl⟩));exact Zd))
theorem between_spec(a n:Int)(w:World):Spec Tryz.prog 305 #[Zj a,Zj n] w (fun _=>False) (fun v A=>v= .agg #[Zj a,Zj (IntKind.i64.wrap (n-a))]∧A=[]):=by
  refine Zn Tryz.func305 Tryz.ntmps305 ?_
  ((refine Zt ?_<;>repeat' first|refine XL.alloc rfl rfl rfl (k:=fun g=>?_)|refine Qf ?_)<;>(refine Zt ?_<;>repeat' first|refine Z.p rfl ?_|refine Z.g rfl (by omega) ?_|refine Z.w rfl ?_|refine Z.bd rfl rfl ?_|refine Qj rfl rfl rfl rfl rfl ?_|refine Qk rfl rfl rfl rfl rfl rfl ?_|refine XL.storeP rfl rfl rfl rfl rfl rfl ?_|refine Qf ?_)<;>(apply X.r1 Tryz.results305 (RV.of rfl);(focus(exact⟨rfl,rfl⟩));exact Zd))
theorem May_spec(a n:Int)(w:World):Spec Tryz.prog 206 #[.agg #[Zj a,Zj n]] w (fun _=>False) (fun v A=>v=Zj (if mayS (a,n) then 0 else 1)∧A=[]):=by
  refine Zn Tryz.func206 Tryz.ntmps206 ?_
  ((refine Zt ?_<;>repeat' first|refine Z.p rfl ?_|refine Qr rfl rfl rfl rfl (k:=fun g=>?_)|refine XL.box1 rfl rfl rfl rfl rfl (k:=fun g=>?_)|refine Qf ?_)<;>refine X.seq ?_<;>((refine Zt ?_<;>repeat' first|refine Z.p rfl ?_|refine Z.fa rfl rfl rfl ?_|refine Z.l1 rfl rfl rfl ?_|refine Z.lN rfl rfl rfl ?_|refine Z.lP rfl rfl rfl ?_|refine Z.ct rfl (by omega) ?_|refine Z.cf rfl (by omega) ?_|refine Z.cs rfl (fun _=>?_) (fun _=>?_)|refine Z.pk rfl rfl rfl rfl ?_|refine Z.g rfl (by omega) ?_|refine Z.w rfl ?_|refine Qf ?_)<;>(first|(refine Zu ?_;(refine Zt ?_<;>repeat' first|refine Z.p rfl ?_|refine Qf ?_)<;>(apply X.r1 Tryz.results206 (Qh rfl);(focus(refine⟨?_,rfl⟩;first|(rw [if_pos (by dsimp only [mayS];omega)])|(rw [if_neg (by dsimp only [mayS];omega)])));exact Zd))|refine Zm ?_))<;>(first|refine Ex.then ?_|refine N.next ?_<;>((refine Zt ?_<;>repeat' first|refine Z.p rfl ?_|refine Qf ?_)<;>(apply X.r1 Tryz.results206 (Qh rfl);(focus(refine⟨?_,rfl⟩;first|(rw [if_pos (by dsimp only [mayS];omega)])|(rw [if_neg (by dsimp only [mayS];omega)])));exact Zd))))
theorem may_end{x:Sp}(h:mayS x):IntKind.i64.wrap (x.1+x.2)=x.1+x.2:=D.wrap64_fit (by unfold mayS at h;omega)
theorem Check_spec(w:World)(a:Option Addr)(n c:Nat)(l:List Sp)(hl:Rd w 2 a n c (encS l)):Spec Tryz.prog 264 #[.slice a n c] w (fun _=>False) (fun v A=>∃ e:Int,v=Zj e∧(e=0∧SetOK l n∨e=1∧ ¬SetOK l n)∧A=[]):=by
  refine Zn Tryz.func264 Tryz.ntmps264 ?_
  have hlen:=hl.spLen;have hbd:=hl.bd
  ((refine Zt ?_<;>repeat' first|refine Z.p rfl ?_|refine Qf ?_)<;>refine X.seq ?_<;>((refine Zt ?_<;>repeat' first|refine Z.p rfl ?_|refine Z.ln rfl rfl ?_|refine Z.lnL rfl rfl ?_|refine Z.lnS rfl rfl ?_|refine Qf ?_)<;>refine X.block ?_<;>((refine Qs (ι:=Nat) (fun k=>[(0,.slice a n c),(5,.slice a n c),(6,Zj n),(7,Zj k)]) (fun _=>[]) (fun k=>k≤n∧SetOK l k) (fun k=>n-k) (0) ?_ Zb Zd ?_;(focus(exact⟨Nat.zero_le _,fun k x hk=>by omega⟩));rintro k ⟨hk,hok⟩)<;>((refine Zt ?_<;>repeat' first|(refine Za 0 ?_;(first|refine Qn rfl rfl rfl rfl (D.int rfl rfl rfl) (fun h0=>?_) (fun h0=>?_)))|refine Qf ?_)<;>refine X.seq ?_<;>((first|refine Zp ?_|refine Zq ?_))<;>(first|refine Ex.then ?_|refine N.next ?_<;>(refine X.seq ?_<;>(refine X.block ?_<;>((refine Zt ?_<;>repeat' first|refine Z.p rfl ?_|(refine Za 1 ?_;(have hkn:k<n:=(by omega);obtain⟨x,hx⟩:=Qt (l:=l) (k:=k) (by omega);(apply Qu rfl rfl rfl rfl;exact D.indexAddr k rfl rfl rfl hkn (hl.sm (by omega)))))|(refine Za 2 ?_;((apply Qu rfl rfl rfl rfl;exact D.loadN rfl rfl (fun w hw j u hu=>Rd.sp (Rd.conf0 hl hw) hx j u hu))))|refine XL.alloc rfl rfl rfl (k:=fun g=>?_)|refine Qj rfl rfl rfl rfl rfl ?_|refine Qk rfl rfl rfl rfl rfl rfl ?_|refine XL.storeP rfl rfl rfl rfl rfl rfl ?_|refine Qf ?_)<;>(refine X.sd (.b 0 (.c 1 (.a 2 (.a 3 (.a 4 (.a 5 (.a 6 (.a 7 (.a 8 (.a 9 (.a 10 (.b 11 (.a 13 (.b 14 (.c 12 (.a 15 (.a 16 (.a 17 .n)))))))))))))))))) mixed (by kernel_rfl) ?_<;>repeat' first|refine XL.skipC rfl rfl rfl rfl ?_|refine Z.p rfl ?_|(refine Za 1 ?_;((refine XL.call rfl rfl rfl rfl (fun w hw=>May_spec _ _ w) ?_;rintro v B' ⟨rfl,rfl⟩;refine Qg ?_);(by_cases hm:mayS x<;>first|rw [if_pos hm]|rw [if_neg hm])))|(refine Za 10 ?_;(obtain⟨y,hy⟩:=Qt (l:=l) (k:=k-1) (by omega);(apply XL.det0 rfl rfl rfl rfl;exact D.indexAddr (k-1) rfl rfl (by omega) (by omega) (hl.sm (by omega)))))|(refine Za 11 ?_;((apply XL.det1 rfl rfl rfl rfl;exact D.loadN rfl rfl (fun w hw j u hu=>Rd.sp (Rd.conf0 hl hw) hy j u hu))))|(refine Za 12 ?_;((refine XL.call rfl rfl rfl rfl (fun w hw=>End_spec _ _ w) ?_;rintro v B' ⟨rfl,rfl⟩;refine Qg ?_);rw [may_end (hok.may (by omega) hy)]))|refine Z.l1 rfl rfl rfl ?_|refine Z.lN rfl rfl rfl ?_|refine Z.lP rfl rfl rfl ?_|refine Z.ct rfl (by omega) ?_|refine Z.cf rfl (by omega) ?_|refine Z.cs rfl (fun _=>?_) (fun _=>?_)|refine Z.g rfl (by omega) ?_|refine Z.w rfl ?_|refine Z.fa rfl rfl rfl ?_|refine Z.pk rfl rfl rfl rfl ?_|refine Qf ?_)<;>(first|(refine Zu ?_;(refine Zt ?_<;>repeat' first|refine Z.p rfl ?_|refine Qf ?_)<;>(apply X.r1 Tryz.results264 (Qh rfl);(focus(first|(refine⟨0,rfl,.inl ⟨rfl, ?_⟩,rfl⟩;(obtain rfl:k=n:=by omega);exact hok)|(refine⟨1,rfl,.inr ⟨rfl,fun hs=>?_⟩,rfl⟩;first|exact hm (hs.may hkn hx)|(have:=(hs k x hkn hx).2 y (by omega) hy;omega))));exact Zd))|refine Zm ?_))<;>(first|refine N.block ?_|refine Ql ?_|refine Ex.out rfl ?_))<;>(first|refine Ex.then ?_|refine N.next ?_<;>(refine Zx ?_<;>repeat' first|refine Z.p rfl ?_|refine Z.g rfl (by omega) ?_|refine Z.w rfl ?_|refine XL.nil ?_)))))<;>(first|refine Ex.then ?_|((refine Qp (k+1) ?_ ?_ Zb Zd;(focus(exact⟨by omega,hok.step hx hm (by intro y' h0 h';first|omega|(rw [hy] at h';cases h';omega))⟩));(focus(first|omega|(dsimp only;omega)))))))<;>(first|refine N.block ?_|refine Ql ?_|refine Ex.out rfl ?_))<;>(first|refine Ex.then ?_|refine N.next ?_<;>((refine Zt ?_<;>repeat' first|refine Z.p rfl ?_|refine Qf ?_)<;>(apply X.r1 Tryz.results264 (Qh rfl);(focus(first|(refine⟨0,rfl,.inl ⟨rfl, ?_⟩,rfl⟩;(obtain rfl:k=n:=by omega);exact hok)|(refine⟨1,rfl,.inr ⟨rfl,fun hs=>?_⟩,rfl⟩;first|exact hm (hs.may hkn hx)|(have:=(hs k x hkn hx).2 y (by omega) hy;omega))));exact Zd))))
end Go.Lx
namespace Go.Lx
open Go.Proofs
def Pred (P:Program) (w:World) (k:FuncId) (cps:List Value) (l:List Sp) (p:Sp→Bool):Prop:=
  ∀ x,x∈l→∀ w',Conf ⟨P,0,w,fun _=>False⟩ [] w'→Spec P k (.agg #[.int .i64 x.1,.int .i64 x.2]::cps).toArray w' (fun _=>False) (fun v A=>v= .bool (p x)∧A=[])
theorem Conf.bare{C:Cx}{A:List Assn}{w:World}(h:Conf C A w)(hH:C.H=fun _=>False):Conf ⟨C.P,0,C.w0,fun _=>False⟩ [] w:=by
  have:=(h.sub (List.nil_sublist A)).any (n:=0)
  rw [hH] at this
  exact this
theorem IndexFunc_spec(w:World)(a:Option Addr)(n c:Nat)(l:List Sp)(hl:Rd w 2 a n c (encS l))(k:FuncId)(cps:List Value) [Enters Tryz.prog k](p:Sp→Bool)(hp:Pred Tryz.prog w k cps l p):
    Spec Tryz.prog 212 #[.slice a n c,.func (.func k) #[] cps.toArray] w (fun _=>False) (fun v A=>∃ r:Int,v=Zj r∧(r= -1∧(∀ x∈l,p x=false)∨∃ i x,r=(i:Nat)∧l[i]?=some x∧p x=true∧∀ j y,j<i→l[j]?=some y→p y=false)∧A=[]):=by
  refine Zn Tryz.func212 Tryz.ntmps212 ?_
  have hlen:=hl.spLen;have hbd:=hl.bd
  ((refine Zt ?_<;>repeat' first|refine Z.p rfl ?_|refine Qf ?_)<;>refine X.seq ?_<;>((refine Zt ?_<;>repeat' first|refine Z.p rfl ?_|refine Z.ln rfl rfl ?_|refine Z.lnL rfl rfl ?_|refine Z.lnS rfl rfl ?_|refine Qf ?_)<;>refine X.block ?_<;>((refine Qs (ι:=Nat) (fun i=>[(0,.slice a n c),(1,.func (.func k) #[] cps.toArray),(6,.slice a n c),(7,Zj n),(8,Zj i)]) (fun _=>[]) (fun i=>i≤n∧∀ j y,j<i→l[j]?=some y→p y=false) (fun i=>n-i) (0) ?_ Zb Zd ?_;(focus(exact⟨Nat.zero_le _,fun j y hj=>by omega⟩));rintro i ⟨hi,hok⟩)<;>((refine Zt ?_<;>repeat' first|(refine Za 0 ?_;(first|refine Qn rfl rfl rfl rfl (D.int rfl rfl rfl) (fun h0=>?_) (fun h0=>?_)))|refine Qf ?_)<;>refine X.seq ?_<;>((first|refine Zp ?_|refine Zq ?_))<;>(first|refine Ex.then ?_|refine N.next ?_<;>(refine X.seq ?_<;>(refine X.block ?_<;>((refine Zt ?_<;>repeat' first|refine Z.p rfl ?_|refine Qf ?_)<;>(refine Zt ?_<;>repeat' first|refine Z.p rfl ?_|(refine Za 3 ?_;(have hin:i<n:=(by omega);obtain⟨x,hx⟩:=Qt (l:=l) (k:=i) (by omega);(apply Qu rfl rfl rfl rfl;exact D.indexAddr i rfl rfl rfl hin (hl.sm (by omega)))))|(refine Za 4 ?_;((apply Qu rfl rfl rfl rfl;exact D.loadN rfl rfl (fun w hw j u hu=>Rd.sp (Rd.conf0 hl hw) hx j u hu))))|(refine Za 5 ?_;((refine XL.callV (fs:=[]) (cps:=cps) rfl rfl rfl rfl rfl (fun w' hw=>hp x (List.mem_of_getElem? hx) w' (hw.bare rfl)) (Zs ?_));(cases hpx:p x)))|refine Qf ?_)<;>(first|(refine Zu ?_;(refine Zt ?_<;>repeat' first|refine Z.p rfl ?_|refine Qf ?_)<;>(apply X.r1 Tryz.results212 (Qh rfl);(focus(first|(refine⟨_,rfl,.inr ⟨i,x,rfl,hx,hpx,hok⟩,rfl⟩)|(refine⟨_,rfl,.inl ⟨rfl,fun y hy=>?_⟩,rfl⟩;obtain⟨j,hj⟩:=List.mem_iff_getElem?.1 hy;exact hok j y (by have:=(List.getElem?_eq_some_iff.1 hj).1;omega) hj)));exact Zd))|refine Zm ?_))<;>(first|refine N.block ?_|refine Ql ?_|refine Ex.out rfl ?_))<;>(first|refine Ex.then ?_|refine N.next ?_<;>(refine Zx ?_<;>repeat' first|refine Z.p rfl ?_|refine Z.g rfl (by omega) ?_|refine Z.w rfl ?_|refine XL.nil ?_)))))<;>(first|refine Ex.then ?_|((refine Qp (i+1) ?_ ?_ Zb Zd;(focus(exact⟨by omega,fun j y hj hy=>by rcases Nat.lt_or_ge j i with h|h;exact hok j y h hy;(obtain rfl:j=i:=by omega);rw [hx] at hy;cases hy;exact hpx⟩));(focus(first|omega|(dsimp only;omega)))))))<;>(first|refine N.block ?_|refine Ql ?_|refine Ex.out rfl ?_))<;>(first|refine Ex.then ?_|refine N.next ?_<;>((refine Zt ?_<;>repeat' first|refine Z.p rfl ?_|refine Qf ?_)<;>(apply X.r1 Tryz.results212 (Qh rfl);(focus(first|(refine⟨_,rfl,.inr ⟨i,x,rfl,hx,hpx,hok⟩,rfl⟩)|(refine⟨_,rfl,.inl ⟨rfl,fun y hy=>?_⟩,rfl⟩;obtain⟨j,hj⟩:=List.mem_iff_getElem?.1 hy;exact hok j y (by have:=(List.getElem?_eq_some_iff.1 hj).1;omega) hj)));exact Zd))))
theorem ContainsFunc_spec(w:World)(a:Option Addr)(n c:Nat)(l:List Sp)(hl:Rd w 2 a n c (encS l))(k:FuncId)(cps:List Value) [Enters Tryz.prog k](p:Sp→Bool)(hp:Pred Tryz.prog w k cps l p):
    Spec Tryz.prog 141 #[.slice a n c,.func (.func k) #[] cps.toArray] w (fun _=>False) (fun v A=>v= .bool (l.any p)∧A=[]):=by
  refine Zn Tryz.func141 Tryz.ntmps141 ?_
  ((refine Zt ?_<;>repeat' first|refine Z.p rfl ?_|refine Qf ?_)<;>(refine Zt ?_<;>repeat' first|refine Z.p rfl ?_|(refine Za 2 ?_;((refine XL.call rfl rfl rfl rfl (fun w hw=>IndexFunc_spec w a n c l (hl.conf0 hw) k cps p (fun x hx w' hw'=>hp x hx w' (hw'.over hw))) ?_;rintro v B' ⟨r,rfl,hr,rfl⟩;refine Qg ?_)))|(refine Za 3 ?_;((apply Qm rfl rfl rfl rfl;exact D.int rfl rfl rfl)))|refine Qf ?_)<;>(apply X.r1 Tryz.results141 (Qh rfl);(focus(refine⟨congrArg Value.bool ?_,rfl⟩;rcases hr with⟨rfl,h⟩|⟨i,x,rfl,hx,hpx,_⟩;(rw [show l.any p=false from List.any_eq_false.2 (fun x hx=>by simp [h x hx])];rfl);(rw [show l.any p=true from List.any_eq_true.2 ⟨x,List.mem_of_getElem? hx,hpx⟩];simp)));exact Zd))
theorem wrong1_spec(w:World)(x:Sp):Spec Tryz.prog 300 #[.agg #[Zj x.1,Zj x.2]] w (fun _=>False) (fun v A=>v= .bool (decide (¬mayS x))∧A=[]):=by
  refine Zn Tryz.func300 Tryz.ntmps300 ?_
  ((refine Zt ?_<;>repeat' first|refine Z.p rfl ?_|refine Qr rfl rfl rfl rfl (k:=fun g=>?_)|refine XL.box1 rfl rfl rfl rfl rfl (k:=fun g=>?_)|refine Qf ?_)<;>(refine Zt ?_<;>repeat' first|refine Z.p rfl ?_|(refine Za 1 ?_;((refine XL.call rfl rfl rfl rfl (fun w hw=>May_spec _ _ w) ?_;rintro v B' ⟨rfl,rfl⟩;refine Qg ?_);(by_cases hm:mayS x<;>first|rw [if_pos hm]|rw [if_neg hm])))|refine Z.l1 rfl rfl rfl ?_|refine Z.lN rfl rfl rfl ?_|refine Z.lP rfl rfl rfl ?_|refine Z.ct rfl (by omega) ?_|refine Z.cf rfl (by omega) ?_|refine Z.cs rfl (fun _=>?_) (fun _=>?_)|refine Qf ?_)<;>(apply X.r1 Tryz.results300 (Qh rfl);(focus(refine⟨congrArg Value.bool ?_,rfl⟩;simp [hm]));exact Zd))
theorem wrong_spec(w:World)(a:Option Addr)(n c:Nat)(l:List Sp)(hl:Rd w 2 a n c (encS l)):Spec Tryz.prog 262 #[.slice a n c] w (fun _=>False) (fun v A=>v= .bool (l.any fun x=>decide (¬mayS x))∧A=[]):=by
  refine Zn Tryz.func262 Tryz.ntmps262 ?_
  ((refine Zt ?_<;>repeat' first|refine Z.p rfl ?_|refine Qf ?_)<;>(refine Zt ?_<;>repeat' first|refine Z.p rfl ?_|(refine Za 1 ?_;((refine XL.call rfl rfl rfl rfl (fun w hw=>ContainsFunc_spec w a n c l (hl.conf0 hw) 300 [] _ (fun x hx w' hw'=>wrong1_spec w' x)) ?_;rintro v B' ⟨rfl,rfl⟩;refine Qg ?_)))|refine Qf ?_)<;>(apply X.r1 Tryz.results262 (Qh rfl);(focus(exact⟨rfl,rfl⟩));exact Zd))
end Go.Lx
