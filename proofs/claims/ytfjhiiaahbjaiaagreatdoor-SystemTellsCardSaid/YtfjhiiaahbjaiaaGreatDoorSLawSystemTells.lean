/- Words and walks, shortened by a program: what this claim's functions answer, and that other memory stays. -/
import Derived.Test.YtfjhiiaahbjaiaaGreatDoorRows
import Derived.Test.YtfjhiiaahbjaiaaGreatDoorSSystemTellsx28
import Derived.Test.YtfjhiiaahbjaiaaGreatDoorSPureSystemTells
import Derived.WalkKit
import Derived.ProofKit
import Derived.OpenShut
import Derived.ShutString
import Derived.ChangeOld
import Derived.Below
import Derived.SizedLaws
import Derived.LaidMore
import Derived.Lib.LaidTab
import Derived.MakeChecks
import Derived.Stop.Joined
import Derived.SevenTiedAt
import Derived.Test.YtfjhiiaahbjaiaaGreatDoorTie
import Derived.Test.YtfjhiiaahbjaiaaGreatDoorCards
import Derived.Carry
import Derived.ChangeArms
import Derived.DataReads
import Derived.Deep.Slices
namespace Go.Proofs.YtfjhiiaahbjaiaaGreatDoor.systemTells
open Go.ChangeShapes Go.WideShapes Go.ChangeAt Go.RowKit Go.Proofs.YtfjhiiaahbjaiaaGreatDoor.HSystemTells Go.Proofs.YtfjhiiaahbjaiaaGreatDoorW.PrintWords Go.Proofs.YtfjhiiaahbjaiaaGreatDoorW.PrintWords.Kd
set_option linter.unusedVariables false
set_option maxRecDepth 100000
theorem own:ownKnob Tryz.prog.godebug=none:=by kernel_rfl
theorem laidOut:laidOutB Tryz.prog=true:=by kernel_rfl
section
variable {H:Type} {enc:TypeId×Value→H} {W:World} {base b0:Nat} {sp:Nat→Bool} {held:Bool} {r:Reach}
def wfD(y:S35):Prop:=(Lit.int .i64 y.f0).wf=true∧(Lit.int .i64 y.f1).wf=true
def wfN(y:S32):Prop:=(Lit.int .i64 y.f0).wf=true∧(∀x∈y.f1,(Lit.int .i64 x).wf=true)∧(∀x∈y.f2,(Lit.int .i64 x).wf=true)∧∀x∈y.f3,wfD x
theorem one_int{cs:List Value}{x:DataW H×List MemPlace}{n:Nat}(h:DataW.trod enc Tryz.prog W base sp held n 3 cs=some x):∃y:Int,cs=[.int .i64 y]∧(Lit.int .i64 y).wf=true:=by obtain⟨y,g,_,wf⟩:=DataW.trod_int Tryz.underlying3 h;exact⟨y,by simpa using g,wf⟩
theorem one_dec{cs:List Value}{x:DataW H×List MemPlace}{n:Nat}(h:DataW.trod enc Tryz.prog W base sp held n 35 cs=some x):∃y:S35,cs=[.int .i64 y.f0,.int .i64 y.f1]∧wfD y:=by
 have h3:Tryz.prog.cellsOf 3=1:=by kernel_rfl
 have hT:Tryz.prog.cellsOf 35=2:=by kernel_rfl
 obtain⟨xs,m,_,hx,hl4,hlen,hg⟩:=DataW.trod_struct Tryz.underlying35 h
 match cs,hl4.trans hT with
 |[c0,c1],_=>
  have e0:DataW.trod enc Tryz.prog W base sp held m 3 [c0]=xs[0]?:=by have:=hg 0 _ rfl;simpa[h3]using this
  have e1:DataW.trod enc Tryz.prog W base sp held m 3 [c1]=xs[1]?:=by have:=hg 1 _ rfl;simpa[h3]using this
  obtain⟨a0,g0,_,wf0⟩:=DataW.trod_int Tryz.underlying3 (e0.trans (List.getElem?_eq_getElem (show 0<xs.length by rw[hlen];decide)));obtain rfl:c0= .int .i64 a0:=by simpa using g0
  obtain⟨a1,g1,_,wf1⟩:=DataW.trod_int Tryz.underlying3 (e1.trans (List.getElem?_eq_getElem (show 1<xs.length by rw[hlen];decide)));obtain rfl:c1= .int .i64 a1:=by simpa using g1
  exact⟨⟨a0,a1⟩,rfl,wf0,wf1⟩
theorem in_ints{c0:Value}{x:DataW H×List MemPlace}{n:Nat}(h:DataW.trod enc Tryz.prog W base sp held n 29 [c0]=some x):
  ∃(A:Option Addr)(c:Nat)(l:List Int),c0= .slice A l.length c∧l.length≤c∧Kd.C (Kd.int .i64) W A l.length l∧∀y∈l,(Lit.int .i64 y).wf=true:=by
 have hce:Tryz.prog.cellsOf 3=1:=by kernel_rfl
 rcases DataW.trod_slice Tryz.underlying29 h with⟨hcs,_⟩|⟨ad,len,cap,elems,rest,n,_,hcs,_,_,hl,hm,hel,hget,_⟩
 ·simp at hcs;subst hcs;exact⟨none,0,[],rfl,Nat.le_refl _,mD _ _,by simp⟩
 ·simp at hcs;subst hcs;have key:∀i,i<len→∃y:Int,((Lit.int .i64 y).wf=true)∧∀j u,([Value.int .i64 y])[j]?=some u→W.cell? (ad.add (i*1+j))=some u:=by
   intro i hi;have h1:=hget i hi;rw[hce]at h1;obtain⟨cs,hc,ht⟩:=Option.bind_eq_some_iff.mp (h1.trans (List.getElem?_eq_getElem (show i<elems.length by omega)));obtain⟨y,rfl,hP⟩:=one_int ht;obtain⟨_,_,hat⟩:=World.cells?_some hc;refine⟨y,hP,fun j u hj=>?_⟩;have hjz:j<1:=by have:=(List.getElem?_eq_some_iff.1 hj).1;simpa using this
   rw[←Go.Deep.add_add,hat j hjz,hj]
  obtain⟨f,hf1,hf2⟩:∃f:Nat→Int,(∀i,i<len→(fun y=>(Lit.int .i64 y).wf=true) (f i))∧∀i,i<len→∀j u,((fun y:Int=>[Value.int .i64 y]) (f i))[j]?=some u→W.cell? (ad.add (i*1+j))=some u:=
   ⟨fun i=>if h:i<len then Classical.choose (key i h)else 0,fun i hi=>by simp only[dif_pos hi];exact(Classical.choose_spec (key i hi)).1,fun i hi=>by simp only[dif_pos hi];exact(Classical.choose_spec (key i hi)).2⟩
  refine⟨some ad,cap,(List.range len).map f,by simp,by simpa using hl,?_,?_⟩
  ·refine⟨rfl,by simp;simp only[maxLen]at hm;omega,fun _=>⟨ad,rfl,fun j q hq=>?_⟩⟩;have hj:j<len:=by have:=(List.getElem?_eq_some_iff.1 hq).1;simpa using this
   obtain rfl:f j=q:=by rw[List.getElem?_map,List.getElem?_range hj]at hq;simpa using hq
   exact⟨(fun y:Int=>[Value.int .i64 y]) (f j),rfl,rfl,fun i u hu=>hf2 j hj i u hu⟩
  ·intro y hy;obtain⟨i,hi,rfl⟩:=List.mem_map.1 hy;exact hf1 i (List.mem_range.1 hi)
theorem in_decs{c0:Value}{x:DataW H×List MemPlace}{n:Nat}(h:DataW.trod enc Tryz.prog W base sp held n 30 [c0]=some x):
  ∃(A:Option Addr)(c:Nat)(l:List S35),c0= .slice A l.length c∧l.length≤c∧Kd.C k35 W A l.length l∧∀y∈l,wfD y:=by
 have hce:Tryz.prog.cellsOf 35=2:=by kernel_rfl
 rcases DataW.trod_slice Tryz.underlying30 h with⟨hcs,_⟩|⟨ad,len,cap,elems,rest,n,_,hcs,_,_,hl,hm,hel,hget,_⟩
 ·simp at hcs;subst hcs;exact⟨none,0,[],rfl,Nat.le_refl _,mD _ _,by simp⟩
 ·simp at hcs;subst hcs;have key:∀i,i<len→∃y:S35,(wfD y)∧∀j u,([Value.int .i64 y.f0,Value.int .i64 y.f1])[j]?=some u→W.cell? (ad.add (i*2+j))=some u:=by
   intro i hi;have h1:=hget i hi;rw[hce]at h1;obtain⟨cs,hc,ht⟩:=Option.bind_eq_some_iff.mp (h1.trans (List.getElem?_eq_getElem (show i<elems.length by omega)));obtain⟨y,rfl,hP⟩:=one_dec ht;obtain⟨_,_,hat⟩:=World.cells?_some hc;refine⟨y,hP,fun j u hj=>?_⟩;have hjz:j<2:=by have:=(List.getElem?_eq_some_iff.1 hj).1;simpa using this
   rw[←Go.Deep.add_add,hat j hjz,hj]
  obtain⟨f,hf1,hf2⟩:∃f:Nat→S35,(∀i,i<len→(fun y=>wfD y) (f i))∧∀i,i<len→∀j u,((fun y:S35=>[Value.int .i64 y.f0,Value.int .i64 y.f1]) (f i))[j]?=some u→W.cell? (ad.add (i*2+j))=some u:=
   ⟨fun i=>if h:i<len then Classical.choose (key i h)else z35,fun i hi=>by simp only[dif_pos hi];exact(Classical.choose_spec (key i hi)).1,fun i hi=>by simp only[dif_pos hi];exact(Classical.choose_spec (key i hi)).2⟩
  refine⟨some ad,cap,(List.range len).map f,by simp,by simpa using hl,?_,?_⟩
  ·refine⟨rfl,by simp;simp only[maxLen]at hm;omega,fun _=>⟨ad,rfl,fun j q hq=>?_⟩⟩;have hj:j<len:=by have:=(List.getElem?_eq_some_iff.1 hq).1;simpa using this
   obtain rfl:f j=q:=by rw[List.getElem?_map,List.getElem?_range hj]at hq;simpa using hq
   exact⟨(fun y:S35=>[Value.int .i64 y.f0,Value.int .i64 y.f1]) (f j),rfl,k35_mk W (f j),fun i u hu=>hf2 j hj i u hu⟩
  ·intro y hy;obtain⟨i,hi,rfl⟩:=List.mem_map.1 hy;exact hf1 i (List.mem_range.1 hi)
theorem one_node{cs:List Value}{x:DataW H×List MemPlace}{n:Nat}(h:DataW.trod enc Tryz.prog W base sp held n 32 cs=some x):∃y:S32,cs.length=4∧k32.K W y cs∧wfN y:=by
 have h3:Tryz.prog.cellsOf 3=1:=by kernel_rfl
 have h29:Tryz.prog.cellsOf 29=1:=by kernel_rfl
 have h30:Tryz.prog.cellsOf 30=1:=by kernel_rfl
 have hT:Tryz.prog.cellsOf 32=4:=by kernel_rfl
 obtain⟨xs,m,_,hx,hl4,hlen,hg⟩:=DataW.trod_struct Tryz.underlying32 h
 match cs,hl4.trans hT with
 |[c0,c1,c2,c3],_=>
  have e0:DataW.trod enc Tryz.prog W base sp held m 3 [c0]=xs[0]?:=by have:=hg 0 _ rfl;simpa[h3]using this
  have e1:DataW.trod enc Tryz.prog W base sp held m 29 [c1]=xs[1]?:=by have:=hg 1 _ rfl;simpa[h29]using this
  have e2:DataW.trod enc Tryz.prog W base sp held m 29 [c2]=xs[2]?:=by have:=hg 2 _ rfl;simpa[h29]using this
  have e3:DataW.trod enc Tryz.prog W base sp held m 30 [c3]=xs[3]?:=by have:=hg 3 _ rfl;simpa[h30]using this
  obtain⟨a0,g0,w0⟩:=one_int (e0.trans (List.getElem?_eq_getElem (show 0<xs.length by rw[hlen];decide)));obtain rfl:c0= .int .i64 a0:=by simpa using g0
  obtain⟨A1,d1,l1,rfl,hl1,hC1,w1⟩:=in_ints (e1.trans (List.getElem?_eq_getElem (show 1<xs.length by rw[hlen];decide)));obtain⟨A2,d2,l2,rfl,hl2,hC2,w2⟩:=in_ints (e2.trans (List.getElem?_eq_getElem (show 2<xs.length by rw[hlen];decide)));obtain⟨A3,d3,l3,rfl,hl3,hC3,w3⟩:=in_decs (e3.trans (List.getElem?_eq_getElem (show 3<xs.length by rw[hlen];decide)));exact⟨⟨a0,l1,l2,l3⟩,rfl,k32_mk W ⟨a0,l1,l2,l3⟩ hl1 hC1 hl2 hC2 hl3 hC3,w0,w1,w2,w3⟩
theorem open_nodes{v:Value}{d:DataW H}{p:List MemPlace}(hv:Value.okWide Tryz.prog W r b0 22 v)(h:DataW.Trod enc Tryz.prog W base sp held 22 v d p):
  ∃(A:Option Addr)(c:Nat)(l:List S32),v= .slice A l.length c∧l.length≤c∧Kd.C k32 W A l.length l∧∀y∈l,wfN y:=by
 have hce:Tryz.prog.cellsOf 32=4:=by kernel_rfl
 obtain⟨a,len,cap,rfl⟩:=okWide_slice Tryz.underlying22 hv;obtain⟨fuel,hf⟩:=h;rcases DataW.trod_slice Tryz.underlying22 hf with⟨hcs,_⟩|⟨ad,l,c,elems,rest,n,_,hcs,_,_,hl,hm,hel,hget,_⟩
 ·simp[Value.cells]at hcs;obtain⟨rfl,rfl,rfl⟩:=hcs;exact⟨none,0,[],rfl,Nat.le_refl _,mD _ _,by simp⟩
 ·simp[Value.cells]at hcs;obtain⟨rfl,rfl,rfl⟩:=hcs;have key:∀i,i<len→∃y:S32×List Value,(wfN y.1∧y.2.length=4∧k32.K W y.1 y.2)∧∀j u,y.2[j]?=some u→W.cell? (ad.add (i*4+j))=some u:=by
   intro i hi;have h1:=hget i hi;rw[hce]at h1;obtain⟨cs,hc,ht⟩:=Option.bind_eq_some_iff.mp (h1.trans (List.getElem?_eq_getElem (show i<elems.length by omega)));obtain⟨y,hn,hK,hP⟩:=one_node ht;obtain⟨_,_,hat⟩:=World.cells?_some hc;refine⟨(y,cs),⟨hP,hn,hK⟩,fun j u hj=>?_⟩;have hjz:j<4:=by have h9:j<cs.length:=(List.getElem?_eq_some_iff.1 hj).1;omega
   rw[←Go.Deep.add_add,hat j hjz,hj]
  obtain⟨f,hf1,hf2⟩:∃f:Nat→S32×List Value,(∀i,i<len→(wfN (f i).1∧(f i).2.length=4∧k32.K W (f i).1 (f i).2))∧∀i,i<len→∀j u,(f i).2[j]?=some u→W.cell? (ad.add (i*4+j))=some u:=
   ⟨fun i=>if h:i<len then Classical.choose (key i h)else(z32,[]),fun i hi=>by simp only[dif_pos hi];exact(Classical.choose_spec (key i hi)).1,fun i hi=>by simp only[dif_pos hi];exact(Classical.choose_spec (key i hi)).2⟩
  refine⟨some ad,cap,(List.range len).map fun i=>(f i).1,by simp,by simpa using hl,?_,?_⟩
  ·refine⟨rfl,by simp;simp only[maxLen]at hm;omega,fun _=>⟨ad,rfl,fun j q hq=>?_⟩⟩;have hj:j<len:=by have:=(List.getElem?_eq_some_iff.1 hq).1;simpa using this
   obtain rfl:(f j).1=q:=by rw[List.getElem?_map,List.getElem?_range hj]at hq;simpa using hq
   exact⟨(f j).2,(hf1 j hj).2.1,(hf1 j hj).2.2,fun i u hu=>hf2 j hj i u hu⟩
  ·intro y hy;obtain⟨i,hi,rfl⟩:=List.mem_map.1 hy;exact(hf1 i (List.mem_range.1 hi)).1
end
theorem tab_of_laid{W:World}(h0:laidMetH Tryz.prog Rows.systemTellsRow.laid W):HSystemTells.HTab W:=by
 have h:laidMet Tryz.prog Rows.systemTellsRow.laid W:=by rw[Go.MakeChecks.laidMetH_plain _ _ _ (by kernel_rfl)]at h0;exact h0
 have e:Rows.systemTellsRow.laid=[Rows.systemTellsRow.laid[0]'(by decide),Rows.systemTellsRow.laid[1]'(by decide),((Rows.systemTellsRow.laid[2]'(by decide)).1,Go.Lib.tabData .u64 Go.Lib.pow10Tab)]:=by kernel_rfl
 rw[e]at h;obtain⟨ps,⟨_,_,_,_,_,_,_,_,_,_,h1,_⟩,_⟩:=h;obtain⟨_,_,_,_,_,_,_,_,_,_,h2,_⟩:=h1;obtain⟨g',t',cs,fuel,p,q,hg',ht',hvar,hd,_,_⟩:=h2;have hg:Tryz.prog.globalNamed (Rows.systemTellsRow.laid[2]'(by decide)).1=some 1:=by kernel_rfl
 obtain rfl:=Option.some.inj (hg.symm.trans hg');have hty:(Tryz.prog.globals[1]?).map (·.type)=some (102):=by kernel_rfl
 obtain rfl:=Option.some.inj (hty.symm.trans ht');unfold HSystemTells.HTab Go.Lib.TabIs;rw[hvar,←Go.Lib.cells_of_tab (show Tryz.prog.underlying (102)=some (.array 20 82) by kernel_rfl) (show Tryz.prog.underlying 82=some (.int .u64) by kernel_rfl) (by kernel_rfl) (by kernel_rfl) hd]
theorem door_met(os:Os)(args:Array Value):laidMetH Tryz.prog Rows.systemTellsRow.laid ((World.doorLaid Tryz.prog 400 os).forCall (fun _ _=>0) ⟨#[],args,[]⟩).memory:=
 laidMetH_of_parts3 (fuel:=8) (laidMet_of_run' 8 (by kernel_rfl) (by kernel_rfl)) (by kernel_rfl) (by kernel_rfl)
set_option maxRecDepth 100000 in
theorem lifted(os:Os)(started:os.Started)(H:Type)(enc:TypeId×Value→H):
  ReturnsInHanded {} Tryz.checked os 3 .any (fun w args=>(Rows.systemTellsSpec.pre enc Tryz.prog Tryz.f3 [] false w args∧laidMetH Tryz.prog Rows.systemTellsRow.laid w)∧sizedMet enc Tryz.prog Tryz.f3 (OpenSpec.ofChange Rows.systemTellsSpec) false w args) (Rows.systemTellsSpec.post enc Tryz.prog Tryz.f3 false true false false):=by
 refine returnsInHanded_of_change_and (C:=Tryz.checked) (X:=fun w _=>laidMetH Tryz.prog Rows.systemTellsRow.laid w) (fun _ _ _ hh h=>h.of_heap hh) own started (by kernel_rfl) Tryz.func3
  (ChangeSpec.witness_shaped (enc:=enc) (C:=Tryz.checked) (os:=os) (X:=fun w _=>laidMetH Tryz.prog Rows.systemTellsRow.laid w) false (World.doorLaid Tryz.prog 400 os) #[.string ⟨#[]⟩,.slice none 0 0] 8 rfl (World.shaped_of_RefB (by kernel_rfl) (by kernel_rfl)) (by kernel_rfl) (by kernel_rfl) (by kernel_rfl) (door_met os _)) ?_
 intro W base args ds gs before hval0 hW hcnd hsz0 hL _;have hval:∀(j:Nat) t v,Tryz.f3.params[j]?=some t→args[j]?=some v→Value.okWide Tryz.prog W .any base t v:=hval0;have hW':=hW;obtain⟨p,q,hA0,hV,rfl,hfz,hnd⟩:=hW;have hA:DataW.TrodAll enc Tryz.prog W 0 (fun _=>true) true Tryz.f3.params.toList args.toList ds p:=hA0;rw[Tryz.params3]at hA hval;obtain⟨v0,vs0,d0,ds0,p0,q0,hargs,rfl,rfl,h0,r0⟩:=trodAll_cons hA;obtain⟨v1,vs1,d1,ds1,p1,q1,rfl,rfl,rfl,h1,r1⟩:=trodAll_cons r0;obtain⟨rfl,rfl,rfl⟩:=trodAll_nil r1;obtain rfl:args=#[v0,v1]:=by cases args;simp_all
 obtain⟨rfl,rfl⟩:=trodVars_none hV;have k0:=h0;have lt0:∀x∈p0,x.block<W.heap.size:=by obtain⟨m,hm⟩:=k0;exact DataW.trod_lt m _ _ _ hm
 have k1:=h1;have lt1:∀x∈p1,x.block<W.heap.size:=by obtain⟨m,hm⟩:=k1;exact DataW.trod_lt m _ _ _ hm
 obtain⟨s0,rfl,_,_,_⟩:=Go.ChangeMaps.open_string Tryz.underlying9 (hval 0 9 v0 rfl rfl) h0;obtain⟨A1,c1,l1,rfl,hc1,hC1,hP1⟩:=open_nodes (hval 1 22 v1 rfl rfl) h1;clear hA0 hval0 hsz0;obtain⟨K_,hK_⟩:=Pure.SystemTells s0 l1 hP1;refine(Xat.calls K_ s0 A1 c1 l1 true W hC1 hc1 (tab_of_laid hL) hK_).mono fun e W' ⟨he,bel⟩=>?_;subst he;exact⟨_,rfl,_,_,_,[],_,[],hW',trodAll_mk1 (shut_bool Tryz.underlying4 _),(trodAll_cons_mk (Below.trod laidOut (by kernel_rfl) (of_decide_eq_true (by kernel_rfl)) k0 bel lt0) (trodAll_cons_mk (Below.trod laidOut (by kernel_rfl) (of_decide_eq_true (by kernel_rfl)) k1 bel lt1) trodAll_mk0)),rfl,bel.frame _,fun h=>by cases h⟩
theorem over:Rows.systemTellsRow.holds Tryz.pinned (OpenSpec.ofChange Rows.systemTellsSpec):=
 OpenClaim.holds_of_wide 3 Tryz.f3 rfl rfl rfl rfl rfl rfl rfl ⟨rfl,rfl,rfl,rfl,rfl⟩ rfl rfl rfl rfl rfl (by kernel_rfl) Tryz.func3 (by kernel_rfl)
  (of_decide_eq_true (by kernel_rfl)) (by unfold Func.isWrapper;first|(rw[if_pos (by decide+kernel)];kernel_rfl)|(rw[if_neg (by decide+kernel)];exact⟨rfl,rfl⟩))
  (fun os started H enc _=>lifted os started H enc)
theorem proved:Rows.SystemTellsSaid:=over
theorem card:Rows.SystemTellsCardSaid:=
 Claim7.holds_tied_plain_at .later [] [.data,.data,.data] true (true,"cab9f60d10ece7855aa47376232454e00045f43fd80b6bdceec46308d0e2cd29") false
  proved (fun _ h=>by cases h) (by kernel_rfl) (fun _ h=>by cases h) systemTells_row_tie rfl ⟨rfl,rfl⟩ (by kernel_rfl) rfl
  (fun f fn hf hfn=>by
   obtain rfl:f=3:=Option.some.inj ((show Tryz.prog.funcNamed Rows.systemTellsRow.func=some 3 by kernel_rfl).symm.trans hf) |>.symm;obtain rfl:fn=Tryz.f3:=(Option.some.inj (Tryz.func3.symm.trans hfn)).symm;exact⟨by kernel_rfl,fun j t ht=>by
    rw[Tryz.params3]at ht;have hm:t∈[9,22]:=by simpa using Array.mem_of_getElem? ht
    have hall:([9,22].all fun u=> !Tryz.prog.wantsStandIn u)=true:=by kernel_rfl
    exact(show Tryz.prog.wantsStandIn t=false by simpa using List.all_eq_true.1 hall t hm)⟩)
  (by kernel_rfl)
#print axioms card
end Go.Proofs.YtfjhiiaahbjaiaaGreatDoor.systemTells
namespace Go.Proofs.YtfjhiiaahbjaiaaGreatDoor
theorem systemTells_holds:Rows.SystemTellsCardSaid:=systemTells.card
end Go.Proofs.YtfjhiiaahbjaiaaGreatDoor
